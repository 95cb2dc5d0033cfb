/- Own work, in part by program, for plainReplays.proved. -/
import Derived.Test.YtmbnebafdhpgpaaGreatDoorCVReplaysP0
import Derived.Laws.StructEq
import Derived.Shelf.SlIterI.Nil
import Derived.Shelf.SortM.Plain
import Derived.Shelf.SortM.SortNone
import Derived.Ground.GgzProg
import Derived.Ground.SlgmProg
import Derived.Shelf.Slices.CompactI
import Derived.Ground.Names2Prog
import Derived.Test.YtmbnebafdhpgpaaGreatDoorProg
import Derived.Sort.OwnSortedInts
import Derived.Sort.OwnSorted
import Derived.Laws.IdiomRangeMap
import Derived.Defers
import Derived.Lib.OthersKept
import Derived.Lib.Bytealg
import Derived.Laws.Externs
import Derived.Shelf.SlIter.Nil
import Derived.Shelf.SlMaps.Clone
import Derived.Ground.SlmcProg
set_option maxRecDepth 100000
namespace Go.Proofs.YtmbnebafdhpgpaaGreatDoor
open Go List Go.Proofs.Tryz 
def QO (P : Program) (d : Nat) (xs ys : Array Value) (f : Field) (r : Bool) : Prop :=
 f.name ≠ "_" ∧ ∀ w, ∃ a b, (part f.type xs f.offset).run P w = .ok a w ∧ (part f.type ys f.offset).run P w = .ok b w ∧ (Op.equalIn d f.type a b).run P w = .ok r w
inductive Wg (P : Program) (d : Nat) (xs ys : Array Value) : List Field → List Bool → Prop
 | nil : Wg P d xs ys [] []
 | cons {f fs r rs} : QO P d xs ys f r → Wg P d xs ys fs rs → Wg P d xs ys (f :: fs) (r :: rs)
theorem O7 {P : Program} {d : Nat} {xs ys : Array Value} {fs : List Field} {rs : List Bool} (h : Wg P d xs ys fs rs) (w : World) : (Op.eqFields d xs ys fs).run P w = .ok (rs.all id) w := by
 induction h with
 | nil => rfl
 | @cons f fs r rs h1 _ ih =>
  obtain ⟨hn, hr⟩ := h1
  obtain ⟨a, b, q1, q2, q3⟩ := hr w
  unfold Op.eqFields
  rw [if_pos hn, run_bind q1, run_bind q2, run_bind q3]
  cases r
  ·rfl
  ·simpa using ih
def Fz (P : Program) (d : Nat) (t : TypeId) (x y : Value) (r : Bool) : Prop := ∀ w, (Op.equalIn d t x y).run P w = .ok r w
theorem Fz.int {P : Program} {d : Nat} {t : TypeId} {k : IntKind} (ht : P.underlying t = some (.int k)) (a b : Int) : Fz P (d + 1) t (.int k a) (.int k b) (decide (a = b)) := by
 intro w
 rw [run_equalIn_int w d t k k a b ht, L6]
theorem Fz.str {P : Program} {d : Nat} {t : TypeId} (ht : P.underlying t = some .string) (a b : List UInt8) : Fz P (d + 1) t (AE a) (AE b) (decide (a = b)) := by
 intro w
 unfold Op.equalIn
 rw [run_bind (AN ht)]
 show Result.ok (bs a == bs b) w = _
 rw [PA]
theorem Fz.struct {P : Program} {d : Nat} {t : TypeId} {fs : Array Field} (ht : P.underlying t = some (.struct fs)) (hp : P.stoodInHeld t = false) {xs ys : List Value} {rs : List Bool} (h : Wg P d xs.toArray ys.toArray fs.toList rs) : Fz P (d + 1) t (.agg xs.toArray) (.agg ys.toArray) (rs.all id) := by
 intro w
 have hf : P.fieldsOf t = fs := by unfold Program.fieldsOf; rw [ht]
 rw [run_equalIn_struct w d t _ _ (by rw [hf]; exact ht) hp, hf]
 exact O7 h w
section parts
variable {P : Program} {w : World}
theorem GZ {t : TypeId} {xs : List Value} {off : Nat} {v : Value} (h : BA P t = some none) (hc : xs[off]? = some v) : (part t xs.toArray off).run P w = .ok v w := by
 unfold part
 rw [run_bind (Ks h)]
 simp only [Option.isSome_none, Bool.false_eq_true, if_false]
 rw [show xs.toArray[off]? = some v by simpa using hc]
 rfl
end parts
theorem QO.cell {P : Program} {d : Nat} {xs ys : List Value} {f : Field} {a b : Value} {r : Bool} (hn : f.name ≠ "_") (hag : BA P f.type = some none) (hx : xs[f.offset]? = some a) (hy : ys[f.offset]? = some b) (he : Fz P d f.type a b r) : QO P d xs.toArray ys.toArray f r :=
 ⟨hn, fun w => ⟨a, b, GZ hag (by simpa using hx), GZ hag (by simpa using hy), he w⟩⟩
section
variable {P : Program} {E : Bx} {L R : List HP} {ty : TypeId} {w : World}
theorem AK.structEq {t t' : TypeId} {x y : Operand} {xs ys : List Value} {r : Bool} (hx : ev E x = some (.agg xs.toArray)) (hy : ev E y = some (.agg ys.toArray)) (hg : P.eqGuardType P.depth t = false) (he : Fz P 10000 t (.agg xs.toArray) (.agg ys.toArray) r) :
  AK P ⟨none, .binOp .eql t x y t', ty, "", #[], none⟩ E L (.bool r) := by
 intro ρ w ha _
 show (do pure (Next.value (← (do eqGuard .eql t x y (ρ x) (ρ y); binOp .eql t (ρ x) (ρ y)))) : Sem Next).run P w = _
 rw [ha x _ hx, ha y _ hy]
 refine Bq ?_
 rw [run_bind (run_eqGuard_agg w .eql t x y _ _ hg), run_eql_struct, he w]; rfl
theorem AK.structNe {t t' : TypeId} {x y : Operand} {xs ys : List Value} {r : Bool} (hx : ev E x = some (.agg xs.toArray)) (hy : ev E y = some (.agg ys.toArray)) (hg : P.eqGuardType P.depth t = false) (he : Fz P 10000 t (.agg xs.toArray) (.agg ys.toArray) r) :
  AK P ⟨none, .binOp .neq t x y t', ty, "", #[], none⟩ E L (.bool (!r)) := by
 intro ρ w ha _
 show (do pure (Next.value (← (do eqGuard .neq t x y (ρ x) (ρ y); binOp .neq t (ρ x) (ρ y)))) : Sem Next).run P w = _
 rw [ha x _ hx, ha y _ hy]
 refine Bq ?_
 rw [run_bind (run_eqGuard_agg w .neq t x y _ _ hg), run_neq_struct, he w]; rfl
end
/-! ### Structs of bigger parts -/
def Ta (P : Program) (fs : Array Field) : Option (List (Nat × Nat)) := fs.toList.mapM fun f => (P.info? f.type).map fun i => (f.offset, i.size)
theorem PI {P : Program} {fs : Array Field} {pl : List (Nat × Nat)} (h : Ta P fs = some pl) (w : World) : (fs.mapM (m := Sem) fun f => do pure (f.offset, ← sizeOf f.type)).run P w = .ok pl.toArray w := by
 have key : ∀ (l : List Field) (pl : List (Nat × Nat)), (l.mapM fun f => (P.info? f.type).map fun i => (f.offset, i.size)) = some pl → (l.mapM (m := Sem) fun f => do pure (f.offset, ← sizeOf f.type)).run P w = .ok pl w := by
  intro l
  induction l with
  | nil => intro pl h; simp at h; subst h; rfl
  | cons f l ih =>
   intro pl h
   rw [mapM_cons] at h
   simp only [bind, Option.bind_eq_some_iff, pure, Option.some.injEq, Option.map_eq_some_iff] at h
   obtain ⟨a, ⟨i, hi, rfl⟩, bs, hb, rfl⟩ := h
   rw [mapM_cons]
   have h2 : Aj P f.type = some i.size := by unfold Aj; rw [hi]; rfl
   rw [run_bind (a := (f.offset, i.size)) (w' := w) (by rw [run_bind (Bk h2)]; rfl), run_bind (ih bs hb)]
   rfl
 have hm : (fs.mapM (m := Sem) fun f => do pure (f.offset, ← sizeOf f.type)) = (Functor.map List.toArray (fs.toList.mapM (m := Sem) fun f => do pure (f.offset, ← sizeOf f.type))) := by
  rw [Array.mapM_eq_mapM_toList]
 rw [hm]
 rw [show (Functor.map List.toArray (fs.toList.mapM (m := Sem) fun f => do pure (f.offset, ← sizeOf f.type)) : Sem _) = ((fs.toList.mapM (m := Sem) fun f => do pure (f.offset, ← sizeOf f.type)) >>= fun l => pure l.toArray) from rfl]
 rw [run_bind (key _ _ h)]
 rfl
theorem AK.buildN {P : Program} {E : Bx} {L : List HP} {ty : TypeId} {t : TypeId} {parts : Array (Nat × Operand)} {fs : Array Field} {pl : List (Nat × Nat)} {zl cells : List Value} {us : List (Nat × Value)} (hus : P.underlying t = some (.struct fs)) (hpl : Ta P fs = some pl) (hz : Au P t = some (.agg zl.toArray))
  (hu : parts.toList.map (fun p => (p.1, ev E p.2)) = us.map (fun p => (p.1, some p.2))) (hfill : Instr.fill (fun i => pl.toArray[i]?) zl.toArray us = some cells.toArray) : AK P ⟨none, .build t parts, ty, "", #[], none⟩ E L (.agg cells.toArray) := by
 intro ρ w ha _
 refine Bq ?_
 show (Instr.build t (parts.map fun p => (p.1, ρ p.2))).run P w = _
 unfold Instr.build
 rw [run_bind (Ef hz)]
 dsimp only
 rw [run_bind (AN hus)]
 dsimp only
 rw [run_bind (PI hpl w)]
 have hparts : (parts.map fun p => (p.1, ρ p.2)).toList = us := by
  rw [Array.toList_map]; exact H4 ha _ _ hu
 rw [hparts]
 rw [show Value.cells (.agg zl.toArray) = zl.toArray from rfl, hfill]
 rfl
/-! ### Keys -/
theorem RN {P : Program} {kt : TypeId} {K : Type} [DecidableEq K] {kv : K → Value} (he : ∀ a b, Fz P 10000 kt (kv a) (kv b) (decide (a = b))) (k : K) : ∀ (es : List MapEntry) (ks : List K) (i : Nat) (w : World), es.map (·.key) = ks.map kv →
    (Instr.findAsking kt (kv k) es i).run P w = .ok ((Dh k ks).bind fun j => (es[j]?).map fun e => (i + j, e.val)) w := by
  intro es
  induction es with
  | nil => intro ks i w h; cases ks with
    | nil => rfl
    | cons a l => simp at h
  | cons e es ih =>
    intro ks i w h
    cases ks with
    | nil => simp at h
    | cons a l =>
      simp only [map_cons, List.cons.injEq] at h
      unfold Instr.findAsking
      have hq : (Op.equal kt (kv k) e.key).run P w = .ok (decide (k = a)) w := by
        unfold Op.equal; rw [h.1]; exact he k a w
      rw [run_bind hq]
      by_cases hk : k = a
      · subst hk
        simp [Dh, run_pure]
      · rw [decide_eq_false hk, Dh, if_neg hk]
        simp only [Bool.false_eq_true, if_false]
        rw [ih l (i + 1) w h.2]
        cases Dh k l with
        | none => rfl
        | some j => simp only [Option.map_some, Option.bind_some, List.getElem?_cons_succ, show i + 1 + j = i + (j + 1) by omega]
theorem AK.lookupV {P : Program} {E : Bx} {L R : List HP} {ty : TypeId} {K β : Type} [DecidableEq K] {kv : K → Value} {enc : β → Value} {kt et : TypeId} (hl : AV P kt kv) {t : TypeId} {x y : Operand} {m : List (K × β)} {r : Nat} {k : K} {z v : Value} {ents : List (Value × Value)} (h1 : ∀ b, AD m k = some b → enc b = v) (h0 : AD m k = none → z = v) (hx : ev E x = some (.map (some r))) (hy : ev E y = some (kv k)) (ht : P.underlying t = some (.map kt et)) (hz : Au P et = some z)
  (hL : BJ (mapR r ents) L R) (he : ents = m.map fun x => (kv x.1, enc x.2)) : AK P ⟨none, .lookup t x y false, ty, "", #[], none⟩ E L v := by
 rcases h : AD m k with _ | b
 ·rw [← h0 h]; exact AK.lookupN hl h hx hy ht hz hL he
 ·rw [← h1 b h]; exact AK.lookupY hl h hx hy ht hz hL he
def FCk (P : Program) (e : Bool) (d : Nat) (xs : Array Value) (f : Field) : Prop :=
 f.name ≠ "_" ∧ ∀ w, ∃ a, (part f.type xs f.offset).run P w = .ok a w ∧ (Instr.checkKey e d f.type a).run P w = .ok () w
theorem PH {P : Program} {e : Bool} {d : Nat} {t : TypeId} {fs : Array Field} (ht : P.underlying t = some (.struct fs)) {xs : Array Value} (h : ∀ f ∈ fs.toList, FCk P e d xs f) (w : World) : (Instr.checkKey e (d + 1) t (.agg xs)).run P w = .ok () w := by
 simp only [Instr.checkKey, Sem.run_bind, AN ht, Result.andThen_ok]
 rw [← Array.forIn_toList]
 generalize fs.toList = l at h
 clear ht
 induction l with
 | nil => simp
 | cons f l ih =>
  obtain ⟨hn, hr⟩ := h f mem_cons_self
  obtain ⟨a, q1, q2⟩ := hr w
  have ih' := ih (fun g hg => h g (mem_cons_of_mem _ hg))
  simp only [forIn_cons, Sem.run_bind, Sem.run_ite, if_pos hn, q1, q2, Result.andThen_ok, Sem.run_pure]
  exact ih'
theorem Rz {P : Program} {e : Bool} {d : Nat} {t : TypeId} {v : Value} {k : TypeDesc} (ht : P.underlying t = some k) (hk : k = .string ∨ (∃ q, k = .int q) ∨ k = .bool) (w : World) : (Instr.checkKey e (d + 1) t v).run P w = .ok () w := by
 unfold Instr.checkKey
 rw [run_bind (AN ht)]
 rcases hk with rfl | ⟨q, rfl⟩ | rfl <;> rfl
theorem FCk.cell {P : Program} {e : Bool} {d : Nat} {xs : List Value} {f : Field} {a : Value} {k : TypeDesc} (hn : f.name ≠ "_") (hag : BA P f.type = some none) (hx : xs[f.offset]? = some a) (ht : P.underlying f.type = some k) (hk : k = .string ∨ (∃ q, k = .int q) ∨ k = .bool) : FCk P e (d + 1) xs.toArray f :=
 ⟨hn, fun w => ⟨a, GZ hag hx, Rz ht hk w⟩⟩
theorem AV.struct {P : Program} {kt : TypeId} {fs : Array Field} {K : Type} [DecidableEq K] {kv : K → Value} (hu : P.underlying kt = some (.struct fs)) (he : ∀ a b, Fz P 10000 kt (kv a) (kv b) (decide (a = b)))
  (hc : ∀ a e w, (Instr.checkKey e 10000 kt (kv a)).run P w = .ok () w) (hb : ∀ a, Instr.sameBits 10000 (kv a) (kv a) = true) : AV P kt kv where
 find := fun k es ks w h => by
  unfold Instr.findKey
  rw [run_bind (AN hu)]
  cases es with
  | nil =>
   cases ks with
   | nil => rfl
   | cons a l => simp at h
  | cons e es =>
   have e1 : Instr.findNow (.struct fs) (kv k) (e :: es) 0 = none := by unfold Instr.findNow; rfl
   rw [e1]
   dsimp only
   have := RN he k (e :: es) ks 0 w h
   simp only [Nat.zero_add] at this
   exact this
 check := hc
 same := hb
abbrev Ac := Int × Bs
def CO (a : Ac) : List Value := [AA a.1, AE a.2]
structure Pt where
 kind : Int
 path : Bs
 data : Bs
 aclV : Value
 acl : List Ac
 own : Int
 num : Int
 err : Int
 subsV : Value
def A1 (x : Pt) : List Value := [AA x.kind, AE x.path, AE x.data, x.aclV, AA x.own, AA x.num, AA x.err, x.subsV]
structure En where
 zx : Int
 ses : Int
 xid : Int
 x : Pt
 subs : List Pt
def DE (e : En) : List Value := [AA e.zx, AA e.ses, AA e.xid] ++ A1 e.x
abbrev Ev := Int × (Bs × Int)
def BV (e : Ev) : List Value := [AA e.1, AE e.2.1, AA e.2.2]
structure LF where
 cz : Int
 mz : Int
 pz : Int
 ver : Int
 cver : Int
 av : Int
 own : Int
 len : Int
 kids : Int
theorem LF.ext' {a b : LF} (h : [a.cz, a.mz, a.pz, a.ver, a.cver, a.av, a.own, a.len, a.kids] = [b.cz, b.mz, b.pz, b.ver, b.cver, b.av, b.own, b.len, b.kids]) : a = b := by
 cases a; cases b; simp at h; simp [h]
instance : DecidableEq LF := fun a b => decidable_of_iff ([a.cz, a.mz, a.pz, a.ver, a.cver, a.av, a.own, a.len, a.kids] = [b.cz, b.mz, b.pz, b.ver, b.cver, b.av, b.own, b.len, b.kids]) ⟨LF.ext', fun h => by rw [h]⟩
def st0 : LF := ⟨0, 0, 0, 0, 0, 0, 0, 0, 0⟩
def B6 (s : LF) : List Value := [AA s.cz, AA s.mz, AA s.pz, AA s.ver, AA s.cver, AA s.av, AA s.own, AA s.len, AA s.kids]
/-! ### Structs compared -/
theorem AB5 (d : Nat) (a b : Ev) : Fz prog (d + 2) 50 (.agg (BV a).toArray) (.agg (BV b).toArray) (decide (a = b)) := by
 have h := Fz.struct (d := d + 1) (xs := BV a) (ys := BV b) underlying50 kQ
  (.cons (QO.cell dQ AR rfl rfl (Fz.int underlying3 a.1 b.1)) (.cons (QO.cell dQ Ak rfl rfl (Fz.str underlying9 a.2.1 b.2.1)) (.cons (QO.cell dQ AR rfl rfl (Fz.int underlying3 a.2.2 b.2.2)) .nil)))
 have e : ([decide (a.1 = b.1), decide (a.2.1 = b.2.1), decide (a.2.2 = b.2.2)].all id) = decide (a = b) := by
  obtain ⟨a1, a2, a3⟩ := a; obtain ⟨b1, b2, b3⟩ := b
  simp [Bool.decide_and]
 rw [← e]; exact h
theorem AAV (d : Nat) (a b : LF) : Fz prog (d + 2) 37 (.agg (B6 a).toArray) (.agg (B6 b).toArray) (decide (a = b)) := by
 have q := fun x y : Int => Fz.int (d := d) underlying3 x y
 have h := Fz.struct (d := d + 1) (xs := B6 a) (ys := B6 b) underlying37 kQ
  (.cons (QO.cell dQ AR rfl rfl (q a.cz b.cz)) (.cons (QO.cell dQ AR rfl rfl (q a.mz b.mz)) (.cons (QO.cell dQ AR rfl rfl (q a.pz b.pz)) (.cons (QO.cell dQ AR rfl rfl (q a.ver b.ver)) (.cons (QO.cell dQ AR rfl rfl (q a.cver b.cver))
   (.cons (QO.cell dQ AR rfl rfl (q a.av b.av)) (.cons (QO.cell dQ AR rfl rfl (q a.own b.own)) (.cons (QO.cell dQ AR rfl rfl (q a.len b.len)) (.cons (QO.cell dQ AR rfl rfl (q a.kids b.kids)) .nil)))))))))
 have e : ([decide (a.cz = b.cz), decide (a.mz = b.mz), decide (a.pz = b.pz), decide (a.ver = b.ver), decide (a.cver = b.cver), decide (a.av = b.av), decide (a.own = b.own), decide (a.len = b.len), decide (a.kids = b.kids)].all id) = decide (a = b) := by
  cases a; cases b
  simp [Bool.decide_and]
 rw [← e]; exact h
theorem Ec {α : Type} {f : α → List Value} {sz k : Nat} {l : List α} {i : Nat} (hf : ∀ x ∈ l, (f x).length = sz) (hi : i < l.length) (hk : k < sz) : (l.flatMap f)[i * sz + k]? = (f l[i])[k]? := by
 have h := A5 hf hi
 have h2 : (((l.flatMap f).drop (i * sz)).take sz)[k]? = (f l[i])[k]? := by rw [h]
 rw [List.getElem?_take, if_pos hk, List.getElem?_drop] at h2
 exact h2
theorem Vt {T : TypeId} {b m sz : Nat} {l : List Value} {h : Hp} (hl : l.length = m * sz) (hp : Ad b l T h) : Af T sz (.slice (some ⟨b, 0, none⟩) m m) m l h :=
 .inr ⟨b, m, [], (0, 0), rfl, by rw [append_nil]; exact hp, hl, by simp; omega, Nat.le_refl _, Bb _ _⟩
def rdO (sz : Nat) (v : Value) (n : Nat) (ys : List Value) : HP := fun h => Cx sz h v n ys
section
variable {W : World} {n : Nat} {ds : List Deferred} {E : Bx} {L R : List HP} {X : Act → World → Prop}
theorem G.slMakeN (sz m : Nat) {T : TypeId} {b : Nat} {l xs : List Value} (hL : BJ (Ad b l T) L R) (hx : l = xs) (hl : xs.length = m * sz) (h : G W n ds E (Af T sz (.slice (some ⟨b, 0, none⟩) m m) m xs :: R) X) : G W n ds E L X := by
 subst hx
 exact fun a w he hk hs => h a w he hk (Br (fun _ hp => Vt hl hp) (hs.pick hL))
theorem G.toRd {T : TypeId} {sz m : Nat} {v : Value} {xs : List Value} (hL : BJ (Af T sz v m xs) L R) (h : G W n ds E (rdO sz v m xs :: R) X) : G W n ds E L X :=
 fun a w he hk hs => h a w he hk (Br (fun _ hp => Aa hp) (hs.pick hL))
end
theorem G.rdNil {W : World} {n : Nat} {ds : List Deferred} {E : Bx} {L R : List HP} {X : Act → World → Prop} {p : HP} {sz m c : Nat} {ys : List Value} (hr : ∀ h : Hp, p h → Cx sz h (.slice none m c) m ys) (hL : BJ p L R) (h : m = 0 → G W n ds E L X) : G W n ds E L X := by
 intro a w he hk hs
 obtain ⟨h1, -, hp⟩ := Ao (hs.pick hL)
 rcases hr _ hp with ⟨h0, -⟩ | ⟨b, off, cap, l, T, fr, hv, -⟩
 ·exact h h0 a w he hk hs
 ·simp at hv
theorem AP.mapInsert {P : Program} {E : Bx} {ty : TypeId} {K β : Type} [DecidableEq K] {kv : K → Value} {enc : β → Value} {kt et : TypeId} (hl : AV P kt kv) {t : TypeId} {x y z : Operand} {m : List (K × β)} {r : Nat} {k : K} {v : β} {ents : List (Value × Value)} (hx : ev E x = some (.map (some r))) (hy : ev E y = some (kv k)) (hz : ev E z = some (enc v)) (ht : P.underlying t = some (.map kt et))
  (he : ents = m.map fun x => (kv x.1, enc x.2)) : AP P ⟨none, .insert t x y z, ty, "", #[], none⟩ E [mapR r ents] fun _ L' => L' = [mapR r ((BQ m k v).map fun x => (kv x.1, enc x.2))] :=
 fun ρ w F ha hs => AP.mapSet (ty := ty) hl hx hy hz ht he ρ w F ha hs
theorem Vm {α : Type} [DecidableEq α] : ∀ {l m : List α}, l.Nodup → (∀ x ∈ l, x ∈ m) → l.length ≤ m.length := by
 intro l
 induction l with
 | nil => intro m _ _; simp
 | cons a l ih =>
  intro m hn hs
  obtain ⟨h1, h2⟩ := nodup_cons.1 hn
  have ha := hs a mem_cons_self
  have := ih (m := m.erase a) h2 fun x hx => (mem_erase_of_ne (fun (e : x = a) => h1 (e ▸ hx))).2 (hs x (mem_cons_of_mem _ hx))
  rw [length_erase_of_mem ha] at this
  have hp := length_pos_of_mem ha
  rw [length_cons]; omega
/-! ### Texts in their order -/
structure Lin (K : Type) [LT K] : Prop where
 irr : ∀ a : K, ¬ a < a
 tr : ∀ a b c : K, a < b → b < c → a < c
 tri : ∀ a b : K, a < b ∨ a = b ∨ b < a
theorem EC : Lin Bs where
 irr := fun a => List.lt_irrefl a
 tr := fun _ _ _ h1 h2 => List.lt_trans h1 h2
 tri := fun a b => by
  rcases Decidable.em (a < b) with h | h
  ·exact .inl h
  ·rcases Decidable.em (b < a) with h2 | h2
   ·exact .inr (.inr h2)
   ·exact .inr (.inl (List.le_antisymm (List.not_lt.1 h2) (List.not_lt.1 h)))
theorem Vf : Lin Int where
 irr := fun a => Int.lt_irrefl a
 tr := fun _ _ _ h1 h2 => Int.lt_trans h1 h2
 tri := fun a b => Int.lt_trichotomy a b
/-! ### BZ tables -/
def sset {K β : Type} [LT K] [DecidableEq K] [DecidableLT K] : List (K × β) → K → β → List (K × β)
 | [], k, v => [(k, v)]
 | x :: l, k, v => if x.1 = k then (k, v) :: l else if k < x.1 then (k, v) :: x :: l else x :: sset l k v
def BZ {K β : Type} [LT K] (l : List (K × β)) : Prop := (l.map (·.1)).Pairwise (· < ·)
theorem BZ.nodup {K β : Type} [LT K] (ho : Lin K) {l : List (K × β)} (h : BZ l) : (l.map (·.1)).Nodup := List.Pairwise.imp (S := fun a b : K => a ≠ b) (fun {a b} hab e => ho.irr b (by rw [e] at hab; exact hab)) h
theorem BZ.filter {K β : Type} [LT K] {l : List (K × β)} (h : BZ l) (f : K × β → Bool) : BZ (l.filter f) := List.Pairwise.sublist (List.Sublist.map _ filter_sublist) h
theorem Ut {K β : Type} [LT K] [DecidableEq K] [DecidableLT K] (l : List (K × β)) (k x : K) (v : β) : x ∈ (sset l k v).map (·.1) ↔ x = k ∨ x ∈ l.map (·.1) := by
 induction l with
 | nil => simp [sset]
 | cons y l ih =>
  unfold sset
  split
  ·rename_i h; simp [h]
  ·split
   ·simp
   ·rw [map_cons, mem_cons, ih, map_cons, mem_cons]
    constructor
    ·rintro (h | h | h)
     ·exact .inr (.inl h)
     ·exact .inl h
     ·exact .inr (.inr h)
    ·rintro (h | h | h)
     ·exact .inr (.inl h)
     ·exact .inl h
     ·exact .inr (.inr h)
theorem BZ.sset {K β : Type} [LT K] [DecidableEq K] [DecidableLT K] (ho : Lin K) {l : List (K × β)} (h : BZ l) (k : K) (v : β) : BZ (sset l k v) := by
 induction l with
 | nil => simp [BZ, Go.Proofs.YtmbnebafdhpgpaaGreatDoor.sset]
 | cons y l ih =>
  obtain ⟨h1, h2⟩ := pairwise_cons.1 h
  unfold Go.Proofs.YtmbnebafdhpgpaaGreatDoor.sset
  split
  ·rename_i e; subst e; exact pairwise_cons.2 ⟨h1, h2⟩
  ·rename_i e
   split
   ·rename_i hl
    refine pairwise_cons.2 ⟨fun a ha => ?_, h⟩
    rcases mem_cons.1 ha with rfl | ha
    ·exact hl
    ·exact ho.tr _ _ _ hl (h1 a ha)
   ·rename_i hl
    refine pairwise_cons.2 ⟨fun a ha => ?_, ih h2⟩
    rcases (Ut l k a v).1 ha with rfl | ha
    ·rcases ho.tri y.1 a with g | g | g
     ·exact g
     ·exact absurd g e
     ·exact absurd g hl
    ·exact h1 a ha
theorem GF {K β : Type} [LT K] [DecidableEq K] [DecidableLT K] (l : List (K × β)) (k x : K) (v : β) : AD (sset l k v) x = if x = k then some v else AD l x := by
 induction l with
 | nil => simp [sset, AD]
 | cons y l ih =>
  obtain ⟨a, b⟩ := y
  unfold sset
  dsimp only
  split
  ·rename_i e; subst e
   by_cases hx : x = a <;> simp [AD, hx]
  ·rename_i e
   split
   ·by_cases hx : x = k <;> simp [AD, hx]
   ·by_cases hx : x = a
    ·subst hx; simp [AD, e]
    ·simp [AD, hx, ih]
theorem G5 {K β : Type} [DecidableEq K] {l : List (K × β)} (f : K → Bool) (x : K) : AD (l.filter fun y => f y.1) x = if f x = true then AD l x else none := by
 induction l with
 | nil => simp [AD]
 | cons y l ih =>
  obtain ⟨a, b⟩ := y
  by_cases hf : f a = true
  ·rw [filter_cons_of_pos (by simpa using hf)]
   by_cases hx : x = a
   ·subst hx; simp [AD, hf]
   ·simp only [AD, hx, if_false]; exact ih
  ·rw [filter_cons_of_neg (by simpa using hf), ih]
   by_cases hx : x = a
   ·subst hx; simp [hf]
   ·simp only [AD, hx, if_false]
theorem NC {K β : Type} [LT K] [DecidableEq K] [DecidableLT K] (l : List (K × β)) (k : K) (v : β) : (sset l k v).length ≤ l.length + 1 ∧ l.length ≤ (sset l k v).length := by
 induction l with
 | nil => simp [sset]
 | cons y l ih =>
  unfold sset
  split
  ·simp
  ·split
   ·simp
   ·simp; omega
theorem K7 {K β : Type} [LT K] [DecidableEq K] (ho : Lin K) : ∀ {l m : List (K × β)}, BZ l → BZ m → (∀ k, AD l k = AD m k) → l = m
 | [], [], _, _, _ => rfl
 | [], y :: m, _, _, h => by have := h y.1; simp [AD] at this
 | x :: l, [], _, _, h => by have := h x.1; simp [AD] at this
 | x :: l, y :: m, hl, hm, h => by
  obtain ⟨h1, h2⟩ := pairwise_cons.1 hl
  obtain ⟨g1, g2⟩ := pairwise_cons.1 hm
  obtain ⟨a, b⟩ := x; obtain ⟨c, d⟩ := y
  dsimp only at h1 g1
  have hx := h a
  have hy := h c
  have key : a = c := by
   simp only [AD, if_true] at hx hy
   by_cases e : a = c
   ·exact e
   ·rw [if_neg e] at hx
    rw [if_neg (fun g => e g.symm)] at hy
    have m1 : a ∈ m.map (·.1) := Cq.1 (by rw [← hx]; rfl)
    have m2 : c ∈ l.map (·.1) := Cq.1 (by rw [hy]; rfl)
    exact absurd (ho.tr _ _ _ (g1 a m1) (h1 c m2)) (ho.irr _)
  subst key
  have hb : b = d := by simpa [AD] using hx
  subst hb
  congr 1
  refine K7 ho h2 g2 fun k => ?_
  have hk := h k
  by_cases e : k = a
  ·subst e
   have n1 : AD l k = none := El.2 fun g => ho.irr _ (h1 k g)
   have n2 : AD m k = none := El.2 fun g => ho.irr _ (g1 k g)
   rw [n1, n2]
  ·simpa [AD, e] using hk
def amod {K β : Type} [DecidableEq K] (l : List (K × β)) (k : K) (f : β → β) : List (K × β) := l.map fun x => if x.1 = k then (x.1, f x.2) else x
theorem Up {K β : Type} [DecidableEq K] (l : List (K × β)) (k : K) (f : β → β) : (amod l k f).map (·.1) = l.map (·.1) := by
 unfold amod
 rw [map_map]
 refine map_congr_left fun x _ => ?_
 dsimp only [Function.comp]
 split <;> rfl
theorem Ic {K β : Type} [DecidableEq K] (l : List (K × β)) (k : K) (f : β → β) (x : K) : AD (amod l k f) x = if x = k then (AD l x).map f else AD l x := by
 induction l with
 | nil => simp [amod, AD]
 | cons y l ih =>
  obtain ⟨a, b⟩ := y
  unfold amod at ih ⊢
  rw [map_cons]
  dsimp only
  by_cases ha : a = k
  ·subst ha
   rw [if_pos rfl]
   by_cases hx : x = a
   ·subst hx; simp [AD]
   ·simp only [AD, hx, if_false] at ih ⊢; exact ih
  ·rw [if_neg ha]
   by_cases hx : x = a
   ·subst hx; simp [AD, ha]
   ·simp only [AD, hx, if_false] at ih ⊢; exact ih
theorem Hv {K β : Type} [DecidableEq K] (l : List (K × β)) (k : K) (f : β → β) : (amod l k f).length = l.length := by unfold amod; simp
theorem BZ.amod {K β : Type} [LT K] [DecidableEq K] {l : List (K × β)} (h : BZ l) (k : K) (f : β → β) : BZ (amod l k f) := by
 unfold BZ; rw [Up]; exact h
def CI (p : Bs) : Nat → Int
 | 0 => -1
 | n + 1 => if p.getD n 0 = 47 then (n : Int) else CI p n
def B8 (p : Bs) : Int := CI p p.length
def dnL (n : Nat) : Nat → Int
 | 0 => (n : Int) - 1
 | k + 1 => dnL n k - 1
theorem V2 (n k : Nat) : dnL n k = (n : Int) - 1 - k := by
 induction k with
 | zero => unfold dnL; omega
 | succ k ih => unfold dnL; omega
theorem PX (p : Bs) (n : Nat) : -1 ≤ CI p n ∧ CI p n < n := by
 induction n with
 | zero => simp [CI]
 | succ n ih =>
  unfold CI
  split <;> omega
theorem EG (p : Bs) : -1 ≤ B8 p ∧ B8 p < p.length := PX p _
def AL (p : Bs) : Bs := if B8 p < 0 ∨ p = [47] then [] else if B8 p = 0 then [47] else p.take (B8 p).toNat
def C8 (p : Bs) : Bs := p.drop (B8 p + 1).toNat
def sfx (q s : Bs) : Prop := q.length ≤ s.length ∧ s.drop (s.length - q.length) = q
instance (q s : Bs) : Decidable (sfx q s) := inferInstanceAs (Decidable (_ ∧ _))
def HW (s q : Bs) : Bs := if sfx q s then s.take (s.length - q.length) else s
def Fe (p name : Bs) : Bs := (if p = [47] then [47] else p ++ [47]) ++ name
def pfx (q s : Bs) : Prop := s.take q.length = q
instance (q s : Bs) : Decidable (pfx q s) := inferInstanceAs (Decidable (_ = _))
def JC (p q : Bs) : Prop := pfx (Fe q []) p ∧ p ≠ Fe q []
instance (p q : Bs) : Decidable (JC p q) := inferInstanceAs (Decidable (_ ∧ _))
theorem Yq (s : Bs) : HW s [] = s := by
 unfold HW sfx
 simp
theorem Xc (s q : Bs) : (HW s q).length ≤ s.length := by
 unfold HW
 split
 ·rw [length_take]; omega
 ·exact Nat.le_refl _
theorem Lm {c d : UInt8} (h : (c.toNat : Int) = (d.toNat : Int)) : c = d := UInt8.toNat_inj.1 om
theorem VP : HW [47] [47] = [] := by decide
theorem XN (p name : Bs) : HW p (if p = [47] then [47] else []) ++ [47] ++ name = Fe p name := by
 unfold Fe
 by_cases h : p = [47]
 ·subst h; rw [if_pos rfl, if_pos rfl, VP]; rfl
 ·rw [if_neg h, if_neg h, Yq]
theorem HN (p : Bs) : (AL p).length ≤ max p.length 1 := by
 unfold AL
 split
 ·simp
 ·split
  ·simp; omega
  ·rw [length_take]; omega
theorem Yz (p name : Bs) : (Fe p name).length ≤ p.length + 1 + name.length := by
 unfold Fe
 split
 ·simp; omega
 ·simp; omega
theorem WG {p : Bs} (h : 0 ≤ B8 p) : p = p.take (B8 p).toNat ++ 47 :: p.drop ((B8 p).toNat + 1) ∧ (47 : UInt8) ∉ p.drop ((B8 p).toNat + 1) := by
 have key : ∀ n, n ≤ p.length → 0 ≤ CI p n → p.getD (CI p n).toNat 0 = 47 ∧ ∀ i, (CI p n).toNat < i → i < n → p.getD i 0 ≠ 47 := by
  intro n
  induction n with
  | zero => intro _ h; simp [CI] at h
  | succ n ih =>
   intro hn h
   unfold CI at h ⊢
   split
   ·rename_i e
    refine ⟨by simpa using e, fun i h1 h2 => ?_⟩
    simp at h1; omega
   ·rename_i e
    rw [if_neg e] at h
    obtain ⟨g1, g2⟩ := ih om h
    refine ⟨g1, fun i h1 h2 => ?_⟩
    by_cases hi : i = n
    ·subst hi; exact e
    ·exact g2 i h1 om
 obtain ⟨g1, g2⟩ := key p.length (Nat.le_refl _) h
 have hr := EG p
 have hlt : (B8 p).toNat < p.length := by omega
 refine ⟨?_, fun hm => ?_⟩
 ·have e : p[(B8 p).toNat] = 47 := by
   have : p.getD (B8 p).toNat 0 = 47 := g1
   rw [getD_eq_getElem?_getD, List.getElem?_eq_getElem hlt, Option.getD_some] at this
   exact this
  have h2 := take_append_drop (B8 p).toNat p
  rw [drop_eq_getElem_cons hlt, e] at h2
  exact h2.symm
 ·obtain ⟨i, hi, e⟩ := mem_iff_getElem.1 hm
  rw [length_drop] at hi
  rw [getElem_drop] at e
  refine g2 ((B8 p).toNat + 1 + i) (by show (B8 p).toNat < _; omega) om ?_
  rw [getD_eq_getElem?_getD, List.getElem?_eq_getElem om, Option.getD_some]
  exact e
end Go.Proofs.YtmbnebafdhpgpaaGreatDoor
/-
 DERIVED: THE SHELF's CONTRACTS AT THIS DUMP, IN PLAIN WORDS (tools/lay-plain.mjs out of 'YtmbnebafdhpgpaaGreatDoorLay.lean', which tools/lay-shelf.mjs wrote): THE SAME DECLARATIONS UNDER THE SAME NAMES: 'import', 'namespace', 'open', 'def', 'theorem' AND NOTHING ELSE: no command of the shelf's: FOR A HAND-IN. Each laying: the table of numbers ('.._ren') and one theorem, a field a fact of the dump's own or the kernel's comparison; each Fy: ONE APPLICATION.
-/
namespace Go.Proofs
open Go List Go.Proofs.Tryz Go.Shelf
def Tryz.sortA_ren : Go.Shelf.Ren := ⟨fun | 5 => 70 | 8 => 131 | 7 => 130 | 19 => 206 | 20 => 207 | 10 => 197 | 11 => 198 | 12 => 199 | 13 => 200 | 14 => 201 | 15 => 202 | 16 => 203 | 17 => 204 | 18 => 205 | 30 => 238 | 31 => 239 | 32 => 240 | 33 => 241 | 34 => 242 | 35 => 243 | 40 => 263 | n => n, fun | 23 => 86 | 25 => 3 | 3 => 3 | 32 => 160 | 22 => 86 | 0 => 0 | 44 => 219 | 46 => 180 | 4 => 4 | 36 => 259 | 35 => 258 | 41 => 264 | 5 => 5 | 9 => 9 | 53 => 293 | 57 => 204 | 63 => 311 | 64 => 312 | n => n, fun | n => n⟩
theorem Tryz.sortA : Go.Proofs.SlLaysM.n5 prog Tryz.sortA_ren := {
 mixed := by kernel_rfl
 f5 := ⟨f70.name, by decide, func70.trans (congrArg some (by kernel_rfl))⟩
 f7 := ⟨f130.name, by decide, func130.trans (congrArg some (by kernel_rfl))⟩
 f8 := func131.trans (congrArg some (by kernel_rfl))
 f10 := ⟨f197.name, by decide, func197.trans (congrArg some (by kernel_rfl))⟩
 f11 := ⟨f198.name, by decide, func198.trans (congrArg some (by kernel_rfl))⟩
 f12 := ⟨f199.name, by decide, func199.trans (congrArg some (by kernel_rfl))⟩
 f13 := ⟨f200.name, by decide, func200.trans (congrArg some (by kernel_rfl))⟩
 f14 := ⟨f201.name, by decide, func201.trans (congrArg some (by kernel_rfl))⟩
 f15 := ⟨f202.name, by decide, func202.trans (congrArg some (by kernel_rfl))⟩
 f16 := ⟨f203.name, by decide, func203.trans (congrArg some (by kernel_rfl))⟩
 f17 := ⟨f204.name, by decide, func204.trans (congrArg some (by kernel_rfl))⟩
 f18 := ⟨f205.name, by decide, func205.trans (congrArg some (by kernel_rfl))⟩
 f19 := func206.trans (congrArg some (by kernel_rfl))
 f20 := func207.trans (congrArg some (by kernel_rfl))
 f30 := ⟨f238.name, by decide, func238.trans (congrArg some (by kernel_rfl))⟩
 f31 := func239.trans (congrArg some (by kernel_rfl))
 f32 := func240.trans (congrArg some (by kernel_rfl))
 f33 := ⟨f241.name, by decide, func241.trans (congrArg some (by kernel_rfl))⟩
 f34 := ⟨f242.name, by decide, func242.trans (congrArg some (by kernel_rfl))⟩
 f35 := ⟨f243.name, by decide, func243.trans (congrArg some (by kernel_rfl))⟩
 f40 := ⟨f263.name, by decide, func263.trans (congrArg some (by kernel_rfl))⟩
 t0 := underlying0
 a0 := Tryz.isAgg0
 z0 := Tryz.sizeOf0
 v0 := Tryz.zeroValue0
 t3 := underlying3
 a3 := Tryz.isAgg3
 z3 := Tryz.sizeOf3
 v3 := Tryz.zeroValue3
 t4 := underlying4
 a4 := Tryz.isAgg4
 z4 := Tryz.sizeOf4
 v4 := Tryz.zeroValue4
 t5 := underlying5
 a5 := Tryz.isAgg5
 z5 := Tryz.sizeOf5
 v5 := Tryz.zeroValue5
 t9 := underlying9
 a9 := Tryz.isAgg9
 z9 := Tryz.sizeOf9
 v9 := Tryz.zeroValue9
 t22 := underlying86
 a22 := Tryz.isAgg86
 z22 := Tryz.sizeOf86
 v22 := Tryz.zeroValue86
 t23 := underlying86
 a23 := Tryz.isAgg86
 z23 := Tryz.sizeOf86
 v23 := Tryz.zeroValue86
 t25 := underlying3
 a25 := Tryz.isAgg3
 z25 := Tryz.sizeOf3
 v25 := Tryz.zeroValue3
 t32 := underlying160
 a32 := Tryz.isAgg160
 z32 := Tryz.sizeOf160
 v32 := Tryz.zeroValue160
 t35 := underlying258
 a35 := Tryz.isAgg258
 z35 := Tryz.sizeOf258
 v35 := Tryz.zeroValue258
 t36 := underlying259
 a36 := Tryz.isAgg259
 z36 := Tryz.sizeOf259
 v36 := Tryz.zeroValue259
 t41 := underlying264
 a41 := Tryz.isAgg264
 z41 := Tryz.sizeOf264
 v41 := Tryz.zeroValue264
 t44 := underlying219
 a44 := Tryz.isAgg219
 z44 := Tryz.sizeOf219
 v44 := Tryz.zeroValue219
 t46 := underlying180
 a46 := Tryz.isAgg180
 z46 := Tryz.sizeOf180
 v46 := Tryz.zeroValue180
 t53 := underlying293
 a53 := Tryz.isAgg293
 z53 := Tryz.sizeOf293
 v53 := Tryz.zeroValue293
 t57 := underlying204
 a57 := Tryz.isAgg204
 z57 := Tryz.sizeOf204
 v57 := Tryz.zeroValue204
 t63 := underlying311
 a63 := Tryz.isAgg311
 z63 := Tryz.sizeOf311
 v63 := Tryz.zeroValue311
 t64 := underlying312
 a64 := Tryz.isAgg312
 z64 := Tryz.sizeOf312
 v64 := Tryz.zeroValue312 }
def Tryz.keysA_ren : Go.Shelf.Ren := ⟨fun | 7 => 41 | 10 => 71 | n => n, fun | 23 => 111 | 26 => 3 | 3 => 123 | 28 => 120 | 0 => 0 | 27 => 119 | 33 => 89 | 4 => 4 | n => n, fun | n => n⟩
theorem Tryz.keysA : Go.Proofs.SlLaysZI.n7 prog Tryz.keysA_ren := {
 mixed := by kernel_rfl
 f7 := ⟨f41.name, by decide, func41.trans (congrArg some (by kernel_rfl))⟩
 f10 := ⟨f71.name, by decide, func71.trans (congrArg some (by kernel_rfl))⟩
 t0 := underlying0
 a0 := Tryz.isAgg0
 z0 := Tryz.sizeOf0
 v0 := Tryz.zeroValue0
 t4 := underlying4
 a4 := Tryz.isAgg4
 z4 := Tryz.sizeOf4
 v4 := Tryz.zeroValue4
 t23 := underlying111
 a23 := Tryz.isAgg111
 z23 := Tryz.sizeOf111
 v23 := Tryz.zeroValue111
 t26 := underlying3
 a26 := Tryz.isAgg3
 z26 := Tryz.sizeOf3
 v26 := Tryz.zeroValue3
 t27 := underlying119
 a27 := Tryz.isAgg119
 z27 := Tryz.sizeOf119
 v27 := Tryz.zeroValue119
 t28 := underlying120
 a28 := Tryz.isAgg120
 z28 := Tryz.sizeOf120
 v28 := Tryz.zeroValue120
 t33 := underlying89
 a33 := Tryz.isAgg89
 z33 := Tryz.sizeOf89
 v33 := Tryz.zeroValue89 }
def Tryz.sortedA_ren : Go.Shelf.Ren := ⟨fun | 6 => 40 | 8 => 69 | 9 => 70 | 11 => 129 | 13 => 131 | 12 => 130 | 23 => 206 | 24 => 207 | 14 => 197 | 15 => 198 | 16 => 199 | 17 => 200 | 18 => 201 | 19 => 202 | 20 => 203 | 21 => 204 | 22 => 205 | 25 => 238 | 26 => 239 | 27 => 240 | 28 => 241 | 29 => 242 | 30 => 243 | 31 => 263 | n => n, fun | 26 => 3 | 28 => 120 | 24 => 86 | 0 => 0 | 3 => 3 | 37 => 160 | 48 => 219 | 50 => 180 | 4 => 4 | 40 => 259 | 39 => 258 | 45 => 264 | 5 => 5 | 9 => 9 | 51 => 293 | 55 => 204 | 57 => 311 | 58 => 312 | 33 => 89 | n => n, fun | n => n⟩
theorem Tryz.sortedA : Go.Proofs.SlLaysZI.n6 prog Tryz.sortedA_ren := {
 mixed := by kernel_rfl
 f6 := ⟨f40.name, by decide, func40.trans (congrArg some (by kernel_rfl))⟩
 f8 := ⟨f69.name, by decide, func69.trans (congrArg some (by kernel_rfl))⟩
 f11 := ⟨f129.name, by decide, func129.trans (congrArg some (by kernel_rfl))⟩
 t0 := underlying0
 a0 := Tryz.isAgg0
 z0 := Tryz.sizeOf0
 v0 := Tryz.zeroValue0
 t24 := underlying86
 a24 := Tryz.isAgg86
 z24 := Tryz.sizeOf86
 v24 := Tryz.zeroValue86
 t26 := underlying3
 a26 := Tryz.isAgg3
 z26 := Tryz.sizeOf3
 v26 := Tryz.zeroValue3
 t28 := underlying120
 a28 := Tryz.isAgg120
 z28 := Tryz.sizeOf120
 v28 := Tryz.zeroValue120
 i26 := by kernel_rfl }
def Tryz.compactA_ren : Go.Shelf.Ren := ⟨fun | 20 => 75 | n => n, fun | 22 => 86 | 3 => 3 | 4 => 4 | 0 => 0 | n => n, fun | n => n⟩
theorem Tryz.compactA : Go.Proofs.Lays2.n20 prog Tryz.compactA_ren := {
 mixed := by kernel_rfl
 f20 := func75.trans (congrArg some (by kernel_rfl))
 t0 := underlying0
 a0 := Tryz.isAgg0
 z0 := Tryz.sizeOf0
 v0 := Tryz.zeroValue0
 t3 := underlying3
 a3 := Tryz.isAgg3
 z3 := Tryz.sizeOf3
 v3 := Tryz.zeroValue3
 t4 := underlying4
 a4 := Tryz.isAgg4
 z4 := Tryz.sizeOf4
 v4 := Tryz.zeroValue4
 t22 := underlying86
 a22 := Tryz.isAgg86
 z22 := Tryz.sizeOf86
 v22 := Tryz.zeroValue86
 i3 := by kernel_rfl }
end Go.Proofs
namespace Go.Proofs.YtmbnebafdhpgpaaGreatDoor
open Go List Go.Proofs.Tryz Go.RowKit Go.Maps Go.Sort Go.Shelf
theorem W6 {b : Nat} {o : Obj} {L : List HP} {h h' : Hp} (hs : CD L h) (hnb : h b = none) (hb : h' b = some o) (hle : ∀ c o, h c = some o → h' c = some o) : CD (pt b o :: L) h' := by
 refine ⟨fun c => if c = b then some o else none, h, fun c => ?_, fun c o' e => ?_, hle, if_pos rfl, hs⟩
 ·by_cases e : c = b
  ·exact .inr (e ▸ hnb)
  ·exact .inl (if_neg e)
 ·by_cases hc : c = b
  ·subst hc; simp at e; rw [← e]; exact hb
  ·simp [hc] at e
theorem Q8 {w w' : World} (hb : Below w.heap.size w w') (c : Nat) (o : Obj) (h : w.heap[c]? = some o) : w'.heap[c]? = some o := by
 have hlt : c < w.heap.size := by
  rcases Nat.lt_or_ge c w.heap.size with h' | h'
  ·exact h'
  ·rw [Array.getElem?_eq_none h'] at h; cases h
 rw [hb.block c hlt]; exact h
theorem St.below {L : List HP} {w w' : World} (hs : St L w) (hb : Below w.heap.size w w') : St L w' := EZ hs (Q8 hb)
theorem At.below {w w' : World} (hb : Below w.heap.size w w') : At w w' := ⟨hb.os, hb.tape, hb.output, hb.size⟩
theorem St.own {L : List HP} {w w' : World} {e : TypeId} {sz n : Nat} {v : Value} {xs : List Value} (hs : St L w) (hb : Below w.heap.size w w') (ho : w'.ownsRow w.heap.size e sz v n xs) : St (Af e sz v n xs :: L) w' := by
 obtain ⟨h1, h2⟩ := ho
 rcases h2 with ⟨rfl, rfl⟩ | ⟨g, cap, cur, rfl, hg, hcur, h3, h4, h5, h6⟩
 ·have : xs = [] := by simpa using h1
  subst this
  exact ⟨fun _ => none, _, fun _ => .inl rfl, fun _ _ e => (by cases e), fun _ _ e => e, AO _ _ _, hs.below hb⟩
 ·have hnone : w.heap[g]? = none := Array.getElem?_eq_none hg
  refine Br (fun h hp => ?_) (W6 (o := .cells cur e (0, 0)) hs hnone hcur (Q8 hb))
  refine .inr ⟨g, cap, cur.toList.drop (n * sz), (0, 0), rfl, ?_, h1, ?_, h3, Bb _ _⟩
  ·have : (xs ++ cur.toList.drop (n * sz)).toArray = cur := by rw [← h6, take_append_drop]
   rw [this]; exact hp
  ·rw [← h6]; simp; rw [← h5]; omega
theorem ABP {x : Int} (h : -9223372036854775808 ≤ x ∧ x ≤ 9223372036854775807) : (Lit.int .i64 x).wf = true := by
 simp only [Lit.wf, Bool.and_eq_true, decide_eq_true_eq]
 have e1 : IntKind.i64.min = -9223372036854775808 := by decide
 have e2 : IntKind.i64.max = 9223372036854775807 := by decide
 rw [e1, e2]; exact h
def C6 (l : List Int) : List Int := l.mergeSort (fun x y => decide (x ≤ y))
theorem ZS {P : Program} {ρ : Ren} (L : SlLaysZI.n7 P ρ) (mb : Option Nat) : Fn P (ρ.f 7) #[.map mb] [] fun v Lp => ∃ b, v = .func (.func (ρ.f 10)) #[] #[AI b] ∧ Lp = [Ad b [.map mb] (ρ.t 23)] := by
 intro F w hs
 refine (callsIn_wide.1 (AnyZI.keys_in L Fence.wide 1 trivial rfl mb w)).mono ?_
 rintro e w' ⟨rfl, rfl⟩
 exact ⟨_, _, ⟨_, rfl, rfl⟩, rfl, St.new (L := F) hs _, At.new _ _⟩
theorem VX {P : Program} {ρ ρs ρm : Ren} (L : SlLaysZI.n7 P ρ) (LS : SlLaysZI.n6 P ρs) (LM : SlLaysM.n5 P ρm) (hm : ρm.f 5 = ρs.f 9) (e9 : ∀ args w, (callFunc (ρs.f 9) args).run P w = .ok (.enter (ρs.f 9) args) w) (e10 : ∀ args w, (callFunc (ρ.f 10) args).run P w = .ok (.enter (ρ.f 10) args) w)
    (hk : P.underlying (ρ.t 26) = some (.int .i64)) {b r : Nat} {T : TypeId} {β : Type} {enc : β → Value} (m : List (Int × β)) (hnd : (m.map (·.1)).Nodup) (hbd : ∀ x ∈ m, -9223372036854775808 ≤ x.1 ∧ x.1 ≤ 9223372036854775807) (hlen : m.length ≤ 1099511627776) :
    Fn P (ρs.f 6) #[.func (.func (ρ.f 10)) #[] #[AI b]] [Ad b [.map (some r)] T, mapR r (m.map fun x => (AA x.1, enc x.2))] fun v Lp => (∃ a c, v = .slice a m.length c) ∧
      Lp = [Af (ρs.t 26) 1 v m.length ((C6 (m.map (·.1))).map AA), mapR r (m.map fun x => (AA x.1, enc x.2))] := by
  intro F w hs
  have hcell : w.cell? ⟨b, 0, none⟩ = some (.map (some r)) := Ll (l := [Value.map (some r)]) (St.pt (L := _) hs) rfl
  obtain ⟨hr1, ar, es, clock, hes, hents, hborn, hnb⟩ := Ao (Fs hs)
  have hes' := ar _ _ hes
  have hlen' : es.length = m.length := by have := congrArg List.length hents; simpa using this
  have hkeys : es.map (fun e => e.key) = m.map (fun x => AA x.1) := by
    have := congrArg (List.map Prod.fst) hents; rw [map_map, map_map] at this; exact this
  let R : Value → Option (DataW Unit × List MemPlace) := fun _ => some (.lit (.bool true), [])
  have hkey : ∀ x ∈ es, ∃ k : Int, x.key = AA k ∧ -9223372036854775808 ≤ k ∧ k ≤ 9223372036854775807 := by
    intro x hx
    have : x.key ∈ es.map (fun e => e.key) := mem_map_of_mem hx
    rw [hkeys] at this
    obtain ⟨y, hy, he⟩ := mem_map.1 this
    exact ⟨y.1, he.symm, hbd y hy⟩
  have hrd : ∀ x ∈ es, ∀ k, x.key = AA k → Go.WideElems.rd P (ρ.t 26) R x = some (.int .i64 k, .lit (.bool true)) := by
    intro x hx k hxk
    obtain ⟨k', h1, h2⟩ := hkey x hx
    have : k' = k := by rw [h1] at hxk; simpa using hxk
    subst this
    have hko : keyOf P (ρ.t 26) x.key = some (.int .i64 k') := by
      rw [hxk]; simp [keyOf, hk, mapKey, ABP h2]
    unfold Go.WideElems.rd; rw [hko]; rfl
  have hown : w.ownsMap P (ρ.t 26) R r m.length (.map ((es.map (Go.WideElems.rg P (ρ.t 26) R)).foldr DataW.insert [])) := by
    refine ⟨es.toArray, clock, hes', ⟨?_, ⟨by simpa using hborn, by simpa using hnb, ?_⟩, ?_⟩, by simpa using Nat.le_of_eq hlen', by simp⟩
    · simp only [size_toArray, maxLen]; omega
    · have e1 : es.toArray.toList.map (·.key) = m.map (fun x => AA x.1) := by simpa using hkeys
      rw [e1]
      have e2 : m.map (fun x => AA x.1) = (m.map (·.1)).map AA := by simp
      rw [e2]
      exact pairwise_map.2 (List.Pairwise.imp (fun hne he => hne (by simpa using he)) hnd)
    · intro x hx
      have hx' : x ∈ es := by simpa using hx
      obtain ⟨k, h1, -⟩ := hkey x hx'
      exact ⟨_, hrd x hx' k h1⟩
  have hD : (intKeys (DataW.map ((es.map (Go.WideElems.rg P (ρ.t 26) R)).foldr DataW.insert []))).Perm (m.map (·.1)) := by
    show (((es.map (Go.WideElems.rg P (ρ.t 26) R)).foldr DataW.insert []).map fun p => Go.intOf p.1).Perm _
    refine (List.Perm.map _ (Go.WideShapes.sorted_perm _)).trans ?_
    have : (es.map (Go.WideElems.rg P (ρ.t 26) R)).map (fun p => Go.intOf p.1) = m.map (·.1) := by
      have h1 : (es.map (Go.WideElems.rg P (ρ.t 26) R)).map (fun p => Go.intOf p.1) = (es.map (fun e => e.key)).map (fun v => match v with | .int _ k => k | _ => 0) := by
        rw [map_map, map_map]
        refine map_congr_left fun x hx => ?_
        obtain ⟨k, h1, -⟩ := hkey x hx
        simp only [Function.comp, Go.WideElems.rg, hrd x hx k h1, Option.getD_some, Go.intOf, h1]
      rw [h1, hkeys, map_map]; rfl
    rw [this]
  have hsize : Maps.size (DataW.map ((es.map (Go.WideElems.rg P (ρ.t 26) R)).foldr DataW.insert [])) = m.length := by
    simp [Maps.size, length_sorted, hlen']
  have hblt : b < w.heap.size := by
    rcases Nat.lt_or_ge b w.heap.size with h | h
    · exact h
    · simp [World.cell?, Array.getElem?_eq_none h] at hcell
  have hseq := AnyZI.keys_gives (ρ := ρ) { L with } Fence.wide 2 trivial rfl om b r m.length _ w hblt hcell hown
  have hsorts : ∀ k, AnyZI.SortsIn P ρs Fence.wide k := fun k =>
    ⟨fun blk off cap ss W hH hblk hsz => by
        rw [← hm]; exact callsIn_wide.2 (AnyM.slices_Sort_int LM blk off cap ss W hH hblk hsz),
     fun p cap W => by rw [← hm]; exact callsIn_wide.2 (AnyM.slices_Sort_int_none LM p cap W)⟩
  have hS := AnyZI.sorted_in LS Fence.wide 5 trivial trivial trivial trivial rfl om (hsorts _) e9 (ρ.f 10) #[AI b] trivial e10 _ _ (by rw [hsize, maxLen]; omega) (by rw [hsize]; omega) w hseq
  refine (callsIn_wide.1 hS).mono ?_
  rintro e w' ⟨v, ss, rfl, hp, hrow, -, hb⟩
  have hperm : ss.Perm (m.map (·.1)) := hp.trans hD
  have hss : (ss.mergeSort fun x y => decide (x ≤ y)) = C6 (m.map (·.1)) := mergeSort_of_perm_i hperm
  have hl : ss.length = m.length := by rw [hperm.length_eq]; simp
  rw [hss, hl] at hrow
  have hshape : ∃ a c, v = .slice a m.length c := by
    rcases hrow.2 with ⟨rfl, h0⟩ | ⟨g, cap, cur, rfl, -⟩
    · exact ⟨_, _, by rw [h0]⟩
    · exact ⟨_, _, rfl⟩
  refine ⟨v, _, ⟨hshape, rfl⟩, rfl, ?_, At.below hb⟩
  exact St.own (Fs hs) hb hrow
open Go Go.Sort
theorem Iw (l : List Int) : (C6 l).Perm l := mergeSort_perm _ _
theorem O3 (l : List Int) : (C6 l).length = l.length := (Iw l).length_eq
theorem Zy {P : Program} {ρ : Go.Shelf.Ren} (LM : SlLaysM.n5 P ρ) (e : TypeId) (v : Value) (n : Nat) (xs : List Int) (hn : n < 4611686018427387904) :
  Fn P (ρ.f 5) #[v] [Af e 1 v n (xs.map AA)] fun u L => u = .tuple #[] ∧ L = [Af e 1 v n ((C6 xs).map AA)] := by
 intro F w hs
 have hs' : St ((fun h => ∃ y : List Value × (Nat × Nat) × (Option (Nat × Nat)), (y.2.2 = none ∧ v = .slice none 0 0 ∧ n = 0 ∧ xs = []) ∨ (∃ b cap, y.2.2 = some (b, cap) ∧ v = .slice (some ⟨b, 0, none⟩) n cap ∧ h b = some (.cells (List.toArray (xs.map AA ++ y.1)) e y.2.1) ∧ xs.length = n ∧ cap ≤ xs.length + y.1.length ∧ n ≤ cap ∧ S7 y.2.1 0 cap)) :: F) w := by
  refine Br (fun h hp => ?_) hs
  rcases hp with ⟨h1, h2, h3⟩ | ⟨b, cap, rest, fr, h1, h2, h3, h4, h5, h6⟩
  ·exact ⟨([], (0, 0), none), .inl ⟨rfl, h1, h2, by simpa using h3⟩⟩
  ·exact ⟨(rest, fr, some (b, cap)), .inr ⟨b, cap, rfl, h1, h2, by simpa using h3, by simpa using h4, h5, by simpa using h6⟩⟩
 obtain ⟨⟨rest, fr, o⟩, h1, h2, hd, a1, a2, hp, hF⟩ := Kg hs'
 rcases hp with ⟨-, rfl, rfl, rfl⟩ | ⟨b, cap, -, rfl, p1, p2, p3, p4, p5⟩
 ·refine (AnyM.slices_Sort_int_none LM none 0 w).mono ?_
  rintro e w' ⟨rfl, rfl⟩
  refine ⟨_, _, ⟨rfl, rfl⟩, rfl, ?_, .refl _⟩
  have e : C6 [] = [] := eq_nil_of_length_eq_zero (mergeSort_perm _ _).length_eq
  rw [e]; exact hs
 ·subst p2
  have hb := a1 _ _ p1
  have hlt : b < w.heap.size := by
   rcases Nat.lt_or_ge b w.heap.size with h | h
   ·exact h
   ·simp [Array.getElem?_eq_none h] at hb
  have hH : Holds (Value.int .i64) w b 0 xs.toArray := by
   intro j hj
   have hj' : j < xs.length := by simpa using hj
   have hb' : w.heap[b]? = some (.cells (xs.map AA ++ rest).toArray e fr) := hb
   refine ⟨?_, ?_⟩
   ·simp only [World.cell?, hb', Nat.zero_add, Option.isSome_none, Bool.false_eq_true, if_false]
    rw [List.getElem?_toArray, List.getElem?_append_left (by simpa using hj')]
    simp [hj']
   ·have := p5 j om (by dsimp only at p3 p4 ⊢; omega)
    simp only [World.frozen?, hb', Nat.zero_add]
    simpa using this
  refine (AnyM.slices_Sort_int LM b 0 cap xs w hH hlt hn).mono ?_
  rintro en w' ⟨rfl, k, os, rfl⟩
  refine ⟨_, _, ⟨rfl, rfl⟩, rfl, ?_, ?_⟩
  ·have h2b : h2 b = none := (hd b).resolve_left (by rw [p1]; simp)
   have hsz : (C6 xs).length = xs.length := by rw [show (C6 xs).length = xs.length from (mergeSort_perm _ _).length_eq]
   have hnew : (grow (putRow (Value.int .i64) (Sort.ahead w k) b 0 (C6 xs).toArray) os).heap[b]? = some (.cells (putCells (Value.int .i64) 0 (C6 xs).toArray (xs.map AA ++ rest).toArray) e fr) := heap_sortedI _ hb
   have hrow : (putCells (Value.int .i64) 0 (C6 xs).toArray (xs.map AA ++ rest).toArray) = ((C6 xs).map AA ++ rest).toArray := by
    apply Array.ext_getElem?
    intro j
    simp only [putCells, Array.getElem?_mapIdx, List.getElem?_toArray, Nat.zero_le, true_and, Nat.zero_add, Nat.sub_zero, size_toArray]
    by_cases hj : j < xs.length
    ·rw [List.getElem?_append_left (by simpa using hj), List.getElem?_append_left (by simpa [hsz] using hj)]
     simp [hj, hsz]
    ·rw [List.getElem?_append_right (by simp; omega), List.getElem?_append_right (by simp [hsz]; omega)]
     simp [hj, hsz]
   refine ⟨fun c => if c = b then some (.cells ((C6 xs).map AA ++ rest).toArray e fr) else none, h2, fun c => ?_, fun c o e => ?_, fun c o hc => ?_, ?_, hF⟩
   ·by_cases e : c = b
    ·exact .inr (e ▸ h2b)
    ·exact .inl (if_neg e)
   ·by_cases hc : c = b
    ·subst hc; simp at e; subst e; rw [← hrow]; exact hnew
    ·simp [hc] at e
   ·have hcb : c ≠ b := by rintro rfl; rw [h2b] at hc; cases hc
    have hold := a2 _ _ hc
    have hclt : c < w.heap.size := by
     rcases Nat.lt_or_ge c w.heap.size with h | h
     ·exact h
     ·simp [Array.getElem?_eq_none h] at hold
    have := (grownBy_sortedI (w := w) (g := b) (n := k) (os := os) (C6 xs).toArray).block c hclt (fun e => hcb (by simpa using e))
    show (grow (putRow (Value.int .i64) (Sort.ahead w k) b 0 (C6 xs).toArray) os).heap[c]? = _
    rw [this]; exact hold
   ·exact .inr ⟨b, cap, rest, fr, rfl, if_pos rfl, by simp [hsz], by simpa [hsz] using p3, p4, by simpa using p5⟩
  ·refine ⟨rfl, rfl, rfl, ?_⟩
   show w.heap.size ≤ ((putRow (Value.int .i64) (Sort.ahead w k) b 0 _).heap ++ os).size
   simp [putRow, mapBlock, Sort.ahead]
open Go Go.RowKit Go.Maps Go.Sort Go.Shelf
abbrev leS : Bs → Bs → Bool := fun x y => decide (x ≤ y)
def sortS (l : List Bs) : List Bs := l.mergeSort leS
theorem Xt {P : Program} {ρ : Ren} (L : SlLaysZ.n7 P ρ) (mb : Option Nat) : Fn P (ρ.f 7) #[.map mb] [] fun v Lp => ∃ b, v = .func (.func (ρ.f 10)) #[] #[AI b] ∧ Lp = [Ad b [.map mb] (ρ.t 23)] := by
 intro F w hs
 refine (callsIn_wide.1 (AnyZ.keys_in L Fence.wide 1 trivial rfl mb w)).mono ?_
 rintro e w' ⟨rfl, rfl⟩
 exact ⟨_, _, ⟨_, rfl, rfl⟩, rfl, St.new (L := F) hs _, At.new _ _⟩
theorem SQ {P : Program} {ρ ρs ρm : Ren} (L : SlLaysZ.n7 P ρ) (LS : SlLaysZ.n6 P ρs) (LM : SlLaysM.n6 P ρm) (hm : ρm.f 6 = ρs.f 9) (e9 : ∀ args w, (callFunc (ρs.f 9) args).run P w = .ok (.enter (ρs.f 9) args) w) (e10 : ∀ args w, (callFunc (ρ.f 10) args).run P w = .ok (.enter (ρ.f 10) args) w)
    (hk : P.underlying (ρ.t 26) = some .string) {b r : Nat} {T : TypeId} {β : Type} {enc : β → Value} (m : List (Bs × β)) (hnd : (m.map (·.1)).Nodup) (hbd : ∀ x ∈ m, x.1.length ≤ maxLen) (hlen : m.length ≤ 1099511627776) :
    Fn P (ρs.f 6) #[.func (.func (ρ.f 10)) #[] #[AI b]] [Ad b [.map (some r)] T, mapR r (m.map fun x => (AE x.1, enc x.2))] fun v Lp => (∃ a c, v = .slice a m.length c) ∧
      Lp = [Af (ρs.t 26) 1 v m.length (A6 (sortS (m.map (·.1)))), mapR r (m.map fun x => (AE x.1, enc x.2))] := by
  intro F w hs
  have hcell : w.cell? ⟨b, 0, none⟩ = some (.map (some r)) := Ll (l := [Value.map (some r)]) (St.pt (L := _) hs) rfl
  obtain ⟨hr1, ar, es, clock, hes, hents, hborn, hnb⟩ := Ao (Fs hs)
  have hes' := ar _ _ hes
  have hlen' : es.length = m.length := by have := congrArg List.length hents; simpa using this
  have hkeys : es.map (fun e => e.key) = m.map (fun x => AE x.1) := by
    have := congrArg (List.map Prod.fst) hents; rw [map_map, map_map] at this; exact this
  let R : Value → Option (DataW Unit × List MemPlace) := fun _ => some (.lit (.bool true), [])
  have hkey : ∀ x ∈ es, ∃ k : Bs, x.key = AE k ∧ k.length ≤ maxLen := by
    intro x hx
    have : x.key ∈ es.map (fun e => e.key) := mem_map_of_mem hx
    rw [hkeys] at this
    obtain ⟨y, hy, he⟩ := mem_map.1 this
    exact ⟨y.1, he.symm, hbd y hy⟩
  have hrd : ∀ x ∈ es, ∀ k, x.key = AE k → Go.WideElems.rd P (ρ.t 26) R x = some (.string k, .lit (.bool true)) := by
    intro x hx k hxk
    obtain ⟨k', h1, h2⟩ := hkey x hx
    have : k' = k := by rw [h1] at hxk; simpa using hxk
    subst this
    have hko : keyOf P (ρ.t 26) x.key = some (.string k') := by
      rw [hxk]; simp [keyOf, hk, mapKey, AE, bs]; exact (Ba k').symm ▸ h2
    unfold Go.WideElems.rd; rw [hko]; rfl
  have hown : w.ownsMap P (ρ.t 26) R r m.length (.map ((es.map (Go.WideElems.rg P (ρ.t 26) R)).foldr DataW.insert [])) := by
    refine ⟨es.toArray, clock, hes', ⟨?_, ⟨by simpa using hborn, by simpa using hnb, ?_⟩, ?_⟩, by simpa using Nat.le_of_eq hlen', by simp⟩
    · simp only [size_toArray, maxLen]; omega
    · have e1 : es.toArray.toList.map (·.key) = m.map (fun x => AE x.1) := by simpa using hkeys
      rw [e1]
      have e2 : m.map (fun x => AE x.1) = (m.map (·.1)).map AE := by simp
      rw [e2]
      exact pairwise_map.2 (List.Pairwise.imp (fun hne he => hne (by simpa [AE, bs] using he)) hnd)
    · intro x hx
      have hx' : x ∈ es := by simpa using hx
      obtain ⟨k, h1, -⟩ := hkey x hx'
      exact ⟨_, hrd x hx' k h1⟩
  have hD : (strKeys (DataW.map ((es.map (Go.WideElems.rg P (ρ.t 26) R)).foldr DataW.insert []))).Perm (m.map (·.1)) := by
    show (((es.map (Go.WideElems.rg P (ρ.t 26) R)).foldr DataW.insert []).map fun p => Go.strOf p.1).Perm _
    refine (List.Perm.map _ (Go.WideShapes.sorted_perm _)).trans ?_
    have : (es.map (Go.WideElems.rg P (ρ.t 26) R)).map (fun p => Go.strOf p.1) = m.map (·.1) := by
      have h1 : (es.map (Go.WideElems.rg P (ρ.t 26) R)).map (fun p => Go.strOf p.1) = (es.map (fun e => e.key)).map (fun v => match v with | .string s => s.data.toList | _ => []) := by
        rw [map_map, map_map]
        refine map_congr_left fun x hx => ?_
        obtain ⟨k, h1, -⟩ := hkey x hx
        simp only [Function.comp, Go.WideElems.rg, hrd x hx k h1, Option.getD_some, Go.strOf, h1]
      rw [h1, hkeys, map_map]; rfl
    rw [this]
  have hsize : Maps.size (DataW.map ((es.map (Go.WideElems.rg P (ρ.t 26) R)).foldr DataW.insert [])) = m.length := by
    simp [Maps.size, length_sorted, hlen']
  have hblt : b < w.heap.size := by
    rcases Nat.lt_or_ge b w.heap.size with h | h
    · exact h
    · simp [World.cell?, Array.getElem?_eq_none h] at hcell
  have hseq := AnyZ.keys_gives (ρ := ρ) { L with } Fence.wide 2 trivial rfl om b r m.length _ w hblt hcell hown
  have hsorts : ∀ k, AnyZ.SortsIn P ρs Fence.wide k := fun k =>
    ⟨fun blk off cap ss W hH hblk hsz => by
        rw [← hm]; exact callsIn_wide.2 (AnyM.slices_Sort_string LM blk off cap ss W hH hblk hsz),
     fun p cap W => by rw [← hm]; exact callsIn_wide.2 (AnyM.slices_Sort_string_none LM p cap W)⟩
  have hS := AnyZ.sorted_in LS Fence.wide 5 trivial trivial trivial trivial rfl om (hsorts _) e9 (ρ.f 10) #[AI b] trivial e10 _ _ (by rw [hsize, maxLen]; omega) (by rw [hsize]; omega) w hseq
  refine (callsIn_wide.1 hS).mono ?_
  rintro e w' ⟨v, ss, rfl, hp, hrow, -, hb⟩
  have hperm : ss.Perm (m.map (·.1)) := hp.trans hD
  have hss : (ss.mergeSort fun x y => decide (x ≤ y)) = sortS (m.map (·.1)) := mergeSort_of_perm hperm
  have hl : ss.length = m.length := by rw [hperm.length_eq]; simp
  rw [hss, hl] at hrow
  have hshape : ∃ a c, v = .slice a m.length c := by
    rcases hrow.2 with ⟨rfl, h0⟩ | ⟨g, cap, cur, rfl, -⟩
    · exact ⟨_, _, by rw [h0]⟩
    · exact ⟨_, _, rfl⟩
  refine ⟨v, _, ⟨hshape, rfl⟩, rfl, ?_, At.below hb⟩
  exact St.own (Fs hs) hb hrow
theorem SC (l : List Bs) : (sortS l).Perm l := mergeSort_perm _ _
theorem J7 (l : List Bs) : (sortS l).length = l.length := (SC l).length_eq
theorem XQ {P : Program} {ρ : Go.Shelf.Ren} (LM : SlLaysM.n6 P ρ) (e : TypeId) (v : Value) (n : Nat) (xs : List Bs) (hn : n < 4611686018427387904) :
  Fn P (ρ.f 6) #[v] [Af e 1 v n (A6 xs)] fun u L => u = .tuple #[] ∧ L = [Af e 1 v n (A6 (sortS xs))] := by
 intro F w hs
 have hs' : St ((fun h => ∃ y : List Value × (Nat × Nat) × (Option (Nat × Nat)), (y.2.2 = none ∧ v = .slice none 0 0 ∧ n = 0 ∧ xs = []) ∨ (∃ b cap, y.2.2 = some (b, cap) ∧ v = .slice (some ⟨b, 0, none⟩) n cap ∧ h b = some (.cells (List.toArray (A6 xs ++ y.1)) e y.2.1) ∧ xs.length = n ∧ cap ≤ xs.length + y.1.length ∧ n ≤ cap ∧ S7 y.2.1 0 cap)) :: F) w := by
  refine Br (fun h hp => ?_) hs
  rcases hp with ⟨h1, h2, h3⟩ | ⟨b, cap, rest, fr, h1, h2, h3, h4, h5, h6⟩
  ·exact ⟨([], (0, 0), none), .inl ⟨rfl, h1, h2, by simpa using h3⟩⟩
  ·exact ⟨(rest, fr, some (b, cap)), .inr ⟨b, cap, rfl, h1, h2, by simpa using h3, by simpa using h4, h5, by simpa using h6⟩⟩
 obtain ⟨⟨rest, fr, o⟩, h1, h2, hd, a1, a2, hp, hF⟩ := Kg hs'
 rcases hp with ⟨-, rfl, rfl, rfl⟩ | ⟨b, cap, -, rfl, p1, p2, p3, p4, p5⟩
 ·refine (AnyM.slices_Sort_string_none LM none 0 w).mono ?_
  rintro e w' ⟨rfl, rfl⟩
  refine ⟨_, _, ⟨rfl, rfl⟩, rfl, ?_, .refl _⟩
  have e : sortS [] = [] := eq_nil_of_length_eq_zero (mergeSort_perm _ _).length_eq
  rw [e]; exact hs
 ·subst p2
  have hb := a1 _ _ p1
  have hlt : b < w.heap.size := by
   rcases Nat.lt_or_ge b w.heap.size with h | h
   ·exact h
   ·simp [Array.getElem?_eq_none h] at hb
  have hH : Holds encStr w b 0 xs.toArray := by
   intro j hj
   have hj' : j < xs.length := by simpa using hj
   have hb' : w.heap[b]? = some (.cells (A6 xs ++ rest).toArray e fr) := hb
   refine ⟨?_, ?_⟩
   ·simp only [World.cell?, hb', Nat.zero_add, Option.isSome_none, Bool.false_eq_true, if_false]
    rw [List.getElem?_toArray, List.getElem?_append_left (by simpa using hj')]
    simp [hj']
   ·have := p5 j om (by dsimp only at p3 p4 ⊢; omega)
    simp only [World.frozen?, hb', Nat.zero_add]
    simpa using this
  refine (AnyM.slices_Sort_string LM b 0 cap xs w hH hlt hn).mono ?_
  rintro en w' ⟨rfl, k, os, rfl⟩
  refine ⟨_, _, ⟨rfl, rfl⟩, rfl, ?_, ?_⟩
  ·have h2b : h2 b = none := (hd b).resolve_left (by rw [p1]; simp)
   have hsz : (sortS xs).length = xs.length := by rw [show (sortS xs).length = xs.length from (mergeSort_perm _ _).length_eq]
   have hnew : (grow (putRow encStr (Sort.ahead w k) b 0 (sortS xs).toArray) os).heap[b]? = some (.cells (putCells encStr 0 (sortS xs).toArray (A6 xs ++ rest).toArray) e fr) := heap_sorted _ hb
   have hrow : (putCells encStr 0 (sortS xs).toArray (A6 xs ++ rest).toArray) = (A6 (sortS xs) ++ rest).toArray := by
    apply Array.ext_getElem?
    intro j
    simp only [putCells, Array.getElem?_mapIdx, List.getElem?_toArray, Nat.zero_le, true_and, Nat.zero_add, Nat.sub_zero, size_toArray]
    by_cases hj : j < xs.length
    ·rw [List.getElem?_append_left (by simpa using hj), List.getElem?_append_left (by simpa [hsz] using hj)]
     simp [hj, hsz]
    ·rw [List.getElem?_append_right (by simp; omega), List.getElem?_append_right (by simp [hsz]; omega)]
     simp [hj, hsz]
   refine ⟨fun c => if c = b then some (.cells (A6 (sortS xs) ++ rest).toArray e fr) else none, h2, fun c => ?_, fun c o e => ?_, fun c o hc => ?_, ?_, hF⟩
   ·by_cases e : c = b
    ·exact .inr (e ▸ h2b)
    ·exact .inl (if_neg e)
   ·by_cases hc : c = b
    ·subst hc; simp at e; subst e; rw [← hrow]; exact hnew
    ·simp [hc] at e
   ·have hcb : c ≠ b := by rintro rfl; rw [h2b] at hc; cases hc
    have hold := a2 _ _ hc
    have hclt : c < w.heap.size := by
     rcases Nat.lt_or_ge c w.heap.size with h | h
     ·exact h
     ·simp [Array.getElem?_eq_none h] at hold
    have := (grownBy_sorted (w := w) (g := b) (n := k) (os := os) (sortS xs).toArray).block c hclt (fun e => hcb (by simpa using e))
    show (grow (putRow encStr (Sort.ahead w k) b 0 (sortS xs).toArray) os).heap[c]? = _
    rw [this]; exact hold
   ·exact .inr ⟨b, cap, rest, fr, rfl, if_pos rfl, by simp [hsz], by simpa [hsz] using p3, p4, by simpa using p5⟩
  ·refine ⟨rfl, rfl, rfl, ?_⟩
   show w.heap.size ≤ ((putRow encStr (Sort.ahead w k) b 0 _).heap ++ os).size
   simp [putRow, mapBlock, Sort.ahead]
def Em {α : Type} (f : α → Value × Value) (it r : Nat) (m s : List α) : HP := fun h => ∃ (zs ss rest : List (MapEntry × α)) (clock : Nat),
 h r = some (.map (zs.map (·.1)).toArray clock) ∧ h it = some (.mapIter (some r) clock (ss.map (·.1.born)).toArray clock) ∧ r ≠ it ∧ zs.map (·.2) = m ∧
 (∀ z ∈ zs, z.1.born < clock ∧ (z.1.key, z.1.val) = f z.2) ∧ (zs.map (·.1.born)).Nodup ∧ zs.Perm (ss ++ rest) ∧ ss.map (·.2) = s
theorem SG {α : Type} {f : α → Value × Value} {it r : Nat} {m s : List α} {h : Hp} (hr : Em f it r m s h) : mapR r (m.map f) h := by
 obtain ⟨zs, ss, rest, clock, h1, h2, h3, h4, h5, h6, h7, h8⟩ := hr
 refine ⟨zs.map (·.1), clock, h1, ?_, ?_, by rw [map_map]; exact h6⟩
 ·subst h4
  rw [map_map, map_map]
  exact map_congr_left fun z hz => (h5 z hz).2
 ·intro e he
  obtain ⟨z, hz, rfl⟩ := mem_map.1 he
  exact (h5 z hz).1
theorem JG {α : Type} : ∀ {l : List α} {j : Nat} (hj : j < l.length), l.Perm (l[j] :: l.eraseIdx j) := by
 intro l
 induction l with
 | nil => intro j hj; simp at hj
 | cons a l ih =>
  intro j hj
  cases j with
  | zero => simp
  | succ j =>
   simp only [getElem_cons_succ, eraseIdx_cons_succ]
   exact (List.Perm.cons a (ih (by simpa using hj))).trans (List.Perm.swap _ _ _)
section
variable {P : Program} {E : Bx} {L R : List HP} {ty : TypeId} {w : World}
theorem AP.range {α : Type} {f : α → Value × Value} {m : List α} {t kt et : TypeId} {x : Operand} {r : Nat} {ents : List (Value × Value)} (hx : ev E x = some (.map (some r))) (ht : P.underlying t = some (.map kt et)) (he : ents = m.map f) :
  AP P ⟨none, .range t x, ty, "", #[], none⟩ E [mapR r ents] fun v L' => ∃ it, v = AI it ∧ L' = [Em f it r m []] := by
 intro ρ w F ha hs
 subst he
 obtain ⟨h1, a1, es, c, hb, hes, hbo, hnd⟩ := Ao hs
 have hb' := a1 _ _ hb
 have hlt : r < w.heap.size := by
  rcases Nat.lt_or_ge r w.heap.size with h | h
  ·exact h
  ·simp [Array.getElem?_eq_none h] at hb'
 have hrun : (execOp ρ ⟨none, .range t x, ty, "", #[], none⟩).run P w = .ok (.value (AI w.heap.size)) { w with heap := w.heap.push (.mapIter (some r) c #[] c) } := by
  refine Bq ?_
  show (Instr.range t (ρ x)).run P w = _
  rw [ha x _ hx]; exact Go.run_range_map w t kt et r _ _ ht hb'
 unfold C5; rw [hrun]
 refine ⟨_, ⟨_, rfl, rfl⟩, ?_, At.new _ _⟩
 have hn := St.new hs (.mapIter (some r) c #[] c)
 obtain ⟨g1, g2, gd, b1, b2, gp, k1, k2, kd, c1, c2, kp, kF⟩ := hn
 have kr : k1 r = some (.map es.toArray c) := by
  obtain ⟨es', c', q1, -⟩ := kp
  have q2 := b2 _ _ (c1 _ _ q1)
  have q3 : (w.heap.push (.mapIter (some r) c #[] c))[r]? = some (.map es.toArray c) := by
   rw [Array.getElem?_push_lt hlt]; rw [Array.getElem?_eq_getElem hlt] at hb'; exact hb'
  have q2' : (w.heap.push (.mapIter (some r) c #[] c))[r]? = some (.map es'.toArray c') := q2
  rw [q3] at q2'
  rw [q1, ← q2']
 refine ⟨EA g1 k1, k2, fun b => ?_, fun b o e => ?_, fun b o e => b2 _ _ (c2 _ _ e), ?_, kF⟩
 ·cases e : k2 b with
  | none => exact .inr rfl
  | some o =>
   refine .inl ?_
   have e1 : g1 b = none := (gd b).resolve_right (by rw [c2 _ _ e]; simp)
   have e2 : k1 b = none := (kd b).resolve_right (by rw [e]; simp)
   simp [EA, e1, e2]
 ·rcases GL e with e | e
  ·exact b1 _ _ e
  ·exact b2 _ _ (c1 _ _ e)
 ·have hne : r ≠ w.heap.size := by omega
  have hgr : g1 r = none := (gd r).resolve_right (by rw [c1 _ _ kr]; simp)
  have hl : es.length = m.length := by have := congrArg List.length hes; simpa using this
  refine ⟨es.zip m, [], es.zip m, c, ?_, GO gp, hne, ?_, ?_, ?_, by simp, rfl⟩
  ·rw [map_fst_zip om]
   simp [EA, hgr, kr]
  ·rw [map_snd_zip om]
  ·intro z hz
   refine ⟨hbo _ (of_mem_zip hz).1, ?_⟩
   obtain ⟨i, hi, rfl⟩ := mem_iff_getElem.1 hz
   simp only [length_zip] at hi
   have := congrArg (fun l => l[i]?) hes
   simp [show i < es.length by omega, show i < m.length by omega] at this
   simpa using this
  ·have : (es.zip m).map (fun z => z.1.born) = ((es.zip m).map (·.1)).map (·.born) := by rw [map_map]; rfl
   rw [this, map_fst_zip om]; exact hnd
theorem UV {α : Type} {zs ss rest : List (MapEntry × α)} (hp : zs.Perm (ss ++ rest)) (hn : (zs.map (·.1.born)).Nodup) : (zs.map (·.1)).filter (fun e => !((ss.map (·.1.born)).toArray.contains e.born)) = (zs.filter fun z => !((ss.map (·.1.born)).contains z.1.born)).map (·.1) ∧
  (zs.filter fun z => !((ss.map (·.1.born)).contains z.1.born)).Perm rest := by
 constructor
 ·rw [filter_map]
  congr 1
  refine filter_congr fun z _ => ?_
  simp
 ·refine (hp.filter _).trans ?_
  rw [filter_append]
  have hn' : ((ss ++ rest).map (·.1.born)).Nodup := (hp.map _).nodup_iff.1 hn
  rw [map_append] at hn'
  obtain ⟨n1, n2, n3⟩ := nodup_append.1 hn'
  have e1 : ss.filter (fun z => !((ss.map (·.1.born)).contains z.1.born)) = [] := by
   rw [filter_eq_nil_iff]
   intro z hz
   have : (ss.map (·.1.born)).contains z.1.born = true := by rw [contains_eq_mem]; exact decide_eq_true (mem_map.2 ⟨z, hz, rfl⟩)
   rw [this]; simp
  have e2 : rest.filter (fun z => !((ss.map (·.1.born)).contains z.1.born)) = rest := by
   rw [filter_eq_self]
   intro z hz
   simp only [Bool.not_eq_true', contains_eq_mem, decide_eq_false_iff_not]
   intro hm
   exact n3 _ hm _ (mem_map.2 ⟨z, hz, rfl⟩) rfl
  rw [e1, e2, nil_append]
theorem AP.next {α : Type} {f : α → Value × Value} {m s : List α} {x : Operand} {it r : Nat} (hx : ev E x = some (AI it)) :
  AP P ⟨none, .next x false, ty, "", #[], none⟩ E [Em f it r m s] fun v L' => (v = .tuple #[.bool false] ∧ m.Perm s ∧ L' = [Em f it r m s]) ∨
   ∃ y rest, v = .tuple #[.bool true, (f y).1, (f y).2] ∧ m.Perm (s ++ y :: rest) ∧ L' = [Em f it r m (s ++ [y])] := by
 intro ρ w F ha hs
 obtain ⟨h1, h2, hd, a1, a2, ⟨zs, ss, rest, clock, q1, q2, q3, q4, q5, q6, q7, q8⟩, hF⟩ := hs
 have hr := a1 _ _ q1
 have hi := a1 _ _ q2
 have hgr : ∀ {w' : World}, w'.heap[r]? = some (.map (zs.map (·.1)).toArray clock) → (getObj r).run P w' = .ok (.map (zs.map (·.1)).toArray clock) w' := fun h => EJ h
 have hgi : (getObj it).run P w = .ok (.mapIter (some r) clock (ss.map (·.1.born)).toArray clock) w := by
  simp only [getObj, Sem.run, hi]
 have hold : ∀ e ∈ (zs.map (·.1)).toArray.toList, e.born < clock := by
  intro e he
  simp only [mem_map] at he
  obtain ⟨z, hz, rfl⟩ := he
  exact (q5 z hz).1
 have htest := Go.next_test_false (ss.map (·.1.born)).toArray (zs.map (·.1)).toArray clock clock hold (Nat.le_refl _)
 obtain ⟨p1, p2⟩ := UV q7 q6
 have hleft : (zs.map (·.1)).toArray.filter (fun e => !(ss.map (·.1.born)).toArray.contains e.born) = ((zs.filter fun z => !((ss.map (·.1.born)).contains z.1.born)).map (·.1)).toArray := by
  rw [← p1, filter_toArray]
 generalize (zs.filter fun z => !((ss.map (·.1.born)).contains z.1.born)) = lft at p2 hleft
 have hmem : ∀ z ∈ lft, z ∈ zs := fun z hz => q7.mem_iff.2 (mem_append_right _ (p2.mem_iff.1 hz))
 have e1 : ((lft.map (·.1)).toArray).filter (fun x => decide (x.born < clock)) = (lft.map (·.1)).toArray := by
  apply Array.filter_eq_self.2
  intro e he
  simp only [mem_toArray, mem_map] at he
  obtain ⟨z, hz, rfl⟩ := he
  simpa using (q5 z (hmem z hz)).1
 have e2 : ((lft.map (·.1)).toArray).filter (fun x => decide (x.born ≥ clock)) = #[] := by
  rw [Array.filter_eq_empty_iff]
  intro e he
  simp only [mem_toArray, mem_map] at he
  obtain ⟨z, hz, rfl⟩ := he
  have := (q5 z (hmem z hz)).1
  simp; omega
 have hstart : (execOp ρ ⟨none, .next x false, ty, "", #[], none⟩).run P w = (do pure (Next.value (← Instr.next (AI it) false ty)) : Sem Next).run P w := by
  show (do pure (Next.value (← Instr.next (ρ x) false ty)) : Sem Next).run P w = _
  rw [ha x _ hx]
 by_cases h0 : lft = []
 ·subst h0
  have hrun : (Instr.next (AI it) false ty).run P w = .ok (.tuple #[.bool false]) w := by
   simp only [Instr.next, Sem.run_bind, hgi, Result.andThen, hgr hr, htest, Bool.false_eq_true, if_false, hleft, e1, e2]
   simp [choose, Sem.run, Question.forced]
  unfold C5
  rw [hstart, Bq hrun]
  refine ⟨_, .inl ⟨rfl, ?_, rfl⟩, ⟨h1, h2, hd, a1, a2, ⟨zs, ss, rest, clock, q1, q2, q3, q4, q5, q6, q7, q8⟩, hF⟩, .refl _⟩
  have : rest = [] := p2.nil_eq.symm
  subst this
  rw [← q4, ← q8]
  simpa using q7.map (·.2)
 ·have hne : ((lft.map (·.1)).toArray).isEmpty = false := by
   cases lft with
   | nil => exact absurd rfl h0
   | cons a l => simp
  have hch : ∃ (j : Nat) (k : Nat), j < lft.length ∧ (choose (Question.mapNext lft.length)).run P w = .ok j { w with drawn := w.drawn + k } := by
   have h0' : 0 < lft.length := length_pos_iff.2 h0
   by_cases hf : lft.length ≤ 1
   ·exact ⟨0, 0, by omega, by simp [choose, Sem.run, Question.forced, hf]⟩
   ·exact ⟨_, 1, Nat.mod_lt _ om, by
     simp only [choose, Sem.run, Question.forced, decide_eq_true_eq, hf, if_false, Question.cut]
     rfl⟩
  obtain ⟨j, k, hj, hrunc⟩ := hch
  have hitlt : it < w.heap.size := by
   rcases Nat.lt_or_ge it w.heap.size with h | h
   ·exact h
   ·simp [Array.getElem?_eq_none h] at hi
  have hrun : (Instr.next (AI it) false ty).run P w = .ok (.tuple #[.bool true, lft[j].1.key, lft[j].1.val]) { w with drawn := w.drawn + k, heap := w.heap.setIfInBounds it (.mapIter (some r) clock ((ss.map (·.1.born)).toArray.push lft[j].1.born) clock) } := by
   simp only [Instr.next, Sem.run_bind, hgi, Result.andThen, hgr hr, htest, Bool.false_eq_true, if_false, hleft, e1, e2]
   simp only [Array.append_empty, hne, Bool.false_eq_true, if_false, Array.empty_append, Array.size_map, size_toArray, length_map, hrunc]
   simp only [Array.getElem?_map, List.getElem?_toArray, List.getElem?_map, List.getElem?_eq_getElem hj, Option.map_some]
   simp only [Sem.run_bind, setObj, Sem.run, hi, Result.andThen]
   rfl
  unfold C5
  rw [hstart, Bq hrun]
  have hz : lft[j] ∈ lft := getElem_mem hj
  have hzz := q5 _ (hmem _ hz)
  have hkv : (f lft[j].2) = (lft[j].1.key, lft[j].1.val) := hzz.2.symm
  have hp3 : zs.Perm ((ss ++ [lft[j]]) ++ lft.eraseIdx j) := by
   refine q7.trans ?_
   rw [append_assoc]
   refine List.Perm.append_left _ (p2.symm.trans ?_)
   have : lft.Perm (lft[j] :: lft.eraseIdx j) := JG hj
   exact this
  refine ⟨[Em f it r m (s ++ [lft[j].2])], .inr ⟨lft[j].2, (lft.eraseIdx j).map (·.2), by rw [hkv], ?_, rfl⟩, ?_, ⟨rfl, rfl, rfl, by simp⟩⟩
  ·rw [← q4, ← q8]
   have := hp3.map (·.2)
   simpa using this
  ·have h2it : h2 it = none := (hd it).resolve_left (by rw [q2]; simp)
   refine ⟨fun c => if c = it then some (.mapIter (some r) clock ((ss.map (·.1.born)).toArray.push lft[j].1.born) clock) else h1 c, h2, fun c => ?_, fun c o e => ?_, fun c o e => ?_, ?_, hF⟩
   ·by_cases e : c = it
    ·exact .inr (e ▸ h2it)
    ·simp only [e, if_false]; exact hd c
   ·by_cases hc : c = it
    ·subst hc; simp at e; subst e; simp [hitlt]
    ·simp only [hc, if_false] at e
     simp only [Array.getElem?_setIfInBounds, Ne.symm hc, if_false]
     exact a1 _ _ e
   ·have hc : c ≠ it := by rintro rfl; rw [h2it] at e; cases e
    simp only [Array.getElem?_setIfInBounds, Ne.symm hc, if_false]
    exact a2 _ _ e
   ·refine ⟨zs, ss ++ [lft[j]], lft.eraseIdx j, clock, by simp only [q3, if_false]; exact q1, by simp, q3, q4, q5, q6, hp3, by simp [q8]⟩
theorem AK.entry {α : Type} {f : α → Value × Value} {m s : List α} {x : Operand} {it r : Nat} {y : α} (hx : ev E x = some (AI it)) (hL : BJ (Em f it r m (s ++ [y])) L R) :
  AK P ⟨none, .entry x, ty, "", #[], none⟩ E L (.tuple #[(f y).1, (f y).2]) := by
 intro ρ w ha hs
 obtain ⟨h1, a1, zs, ss, rest, clock, q1, q2, q3, q4, q5, q6, q7, q8⟩ := Ao (hs.pick hL)
 have hr := a1 _ _ q1
 have hi := a1 _ _ q2
 refine Bq ?_
 show (Instr.entry (ρ x)).run P w = _
 rw [ha x _ hx]
 obtain ⟨ss', z, rfl, h8⟩ : ∃ ss' z, ss = ss' ++ [z] ∧ z.2 = y := by
  rcases eq_nil_or_concat ss with rfl | ⟨ss', z, rfl⟩
  ·simp at q8
  ·refine ⟨ss', z, by simp, ?_⟩
   simp at q8
   exact q8.2
 have hz : z ∈ zs := q7.mem_iff.2 (by simp)
 have hkv := (q5 z hz).2
 rw [h8] at hkv
 have hgi : (getObj it).run P w = .ok (.mapIter (some r) clock ((ss' ++ [z]).map (·.1.born)).toArray clock) w := by
  simp only [getObj, Sem.run, hi]
 have hback : ((ss' ++ [z]).map (·.1.born)).toArray.back? = some z.1.born := by simp
 have hf : (zs.map (·.1)).toArray.find? (·.born == z.1.born) = some z.1 := by
  rw [← Array.find?_toList]
  exact Go.find_born z.1 _ (by rw [map_map]; exact q6) (mem_map.2 ⟨z, hz, rfl⟩)
 simp only [Instr.entry, Sem.run_bind, hgi, Result.andThen, hback, EJ hr, bne_self_eq_false, Bool.false_eq_true, if_false, hf, ← hkv]
 rfl
theorem AK.entryE {α : Type} {f : α → Value × Value} {m s : List α} {x : Operand} {it r : Nat} {y : α} {v : Value} (hx : ev E x = some (AI it)) (hL : BJ (Em f it r m (s ++ [y])) L R) (hv : Value.tuple #[(f y).1, (f y).2] = v) :
  AK P ⟨none, .entry x, ty, "", #[], none⟩ E L v := hv ▸ AK.entry hx hL
theorem G.rangeDone {W : World} {n : Nat} {ds : List Deferred} {X : Act → World → Prop} {α : Type} {f : α → Value × Value} {m s : List α} {it r : Nat} (hL : BJ (Em f it r m s) L R) (h : G W n ds E (mapR r (m.map f) :: R) X) : G W n ds E L X :=
 fun a w he hk hs => h a w he hk (Br (fun _ hp => SG hp) (hs.pick hL))
end
structure Nd where
 data : Bs
 acl : List Ac
 st : LF
instance : DecidableEq Nd := fun a b => decidable_of_iff (a.data = b.data ∧ a.acl = b.acl ∧ a.st = b.st) ⟨fun ⟨h1, h2, h3⟩ => by cases a; cases b; cases h1; cases h2; cases h3; rfl, fun h => by rw [h]; exact ⟨rfl, rfl, rfl⟩⟩
structure Tr where
 nodes : List (Bs × Nd)
 sess : List (Int × (Int × Bs))
 zx : Int
theorem Tr.ext' {a b : Tr} (h1 : a.nodes = b.nodes) (h2 : a.sess = b.sess) (h3 : a.zx = b.zx) : a = b := by
 cases a; cases b; cases h1; cases h2; cases h3; rfl
def Cn (p : Bs) : Prop := p ≠ [47] ∧ BG p = 0
instance (p : Bs) : Decidable (Cn p) := inferInstanceAs (Decidable (_ ∧ _))
def AQ (τ : Tr) (p : Bs) : Prop := (AD τ.nodes p).isSome = true
instance (τ : Tr) (p : Bs) : Decidable (AQ τ p) := inferInstanceAs (Decidable (_ = _))
def kidN (num zx : Int) (n : Nd) : Nd := { n with st := { n.st with cver := num, pz := zx } }
def F0 (d : Bs) (num zx : Int) (n : Nd) : Nd := { n with data := d, st := { n.st with ver := num, mz := zx } }
def FT (acl : List Ac) (num : Int) (n : Nd) : Nd := { n with acl := acl, st := { n.st with av := num } }
def DU (x : Pt) (zx : Int) : Nd := ⟨x.data, x.acl, { st0 with cz := zx, mz := zx, pz := zx, own := x.own }⟩
def D1 (τ : Tr) (p : Bs) (num zx : Int) : Tr := { τ with nodes := amod τ.nodes p (kidN num zx) }
def Ab (τ : Tr) (x : Pt) (zx : Int) : Tr × List Ev :=
 if Cn x.path ∧ AQ τ (AL x.path) then
  (D1 { τ with nodes := sset τ.nodes x.path (DU x zx) } (AL x.path) x.num zx, [(if AQ τ x.path then 3 else 1, (x.path, zx)), (4, (AL x.path, zx))])
 else (τ, [])
def Bj (x p : Bs) : Bool := decide (x = p) || decide (JC x p)
def FH (τ : Tr) (p : Bs) : Tr := { τ with nodes := τ.nodes.filter fun y => !Bj y.1 p }
def As (τ : Tr) (x : Pt) (zx : Int) : Tr × List Ev :=
 if Cn x.path then
  (D1 (FH τ x.path) (AL x.path) x.num zx, if AQ τ x.path then (2, (x.path, zx)) :: (if AQ (FH τ x.path) (AL x.path) then [(4, (AL x.path, zx))] else []) else [])
 else (τ, [])
def AJ (τ : Tr) (x : Pt) (zx : Int) : Tr × List Ev :=
 if x.kind = 1 then Ab τ x zx
 else if x.kind = 2 then As τ x zx
 else if x.kind = 3 ∧ AQ τ x.path then ({ τ with nodes := amod τ.nodes x.path (F0 x.data x.num zx) }, [(3, (x.path, zx))])
 else if x.kind = 4 ∧ AQ τ x.path then ({ τ with nodes := amod τ.nodes x.path (FT x.acl x.num) }, [])
 else (τ, [])
def AH (τ : Tr) (zx : Int) (l : List Pt) : Tr × List Ev := l.foldl (fun r x => ((AJ r.1 x zx).1, r.2 ++ (AJ r.1 x zx).2)) (τ, [])
theorem BP (τ : Tr) (zx : Int) (l : List Pt) (x : Pt) : AH τ zx (l ++ [x]) = ((AJ (AH τ zx l).1 x zx).1, (AH τ zx l).2 ++ (AJ (AH τ zx l).1 x zx).2) := by
 unfold AH; rw [foldl_append]; rfl
def Ai (x : Pt) : Bool := decide (x.kind = 2)
def dropS (τ : Tr) (id : Int) : Tr := { τ with sess := τ.sess.filter fun y => !decide (y.1 = id) }
def openS (τ : Tr) (id n : Int) (s : Bs) : Tr := { τ with sess := sset τ.sess id (n, s) }
def zxT (τ : Tr) (zx : Int) : Tr := { τ with zx := zx }
def AC (τ0 : Tr) (zx : Int) (x : Pt) (subs : List Pt) : Tr × (List Ev × Int) :=
 let τ := zxT τ0 zx
 if x.kind = 5 then (if 0 < x.own then openS τ x.own x.num x.data else τ, ([], 0))
 else if x.kind = 6 then (dropS (AH τ zx (subs.filter Ai)).1 x.own, ((AH τ zx (subs.filter Ai)).2, 0))
 else if x.kind = 7 then ((AH τ zx subs).1, ((AH τ zx subs).2, 0))
 else if x.kind = 8 then (τ, ([], x.err))
 else ((AJ τ x zx).1, ((AJ τ x zx).2, 0))
def Bf (τ : Tr) (p : Bs) : List Bs := (τ.nodes.filter fun y => !decide (y.1 = [47]) && decide (AL y.1 = p)).map fun y => C8 y.1
def Ht (τ : Tr) (p : Bs) : Option LF := (AD τ.nodes p).map fun n => { n.st with len := n.data.length, kids := (Bf τ p).length }
def AX (τ : Tr) : List Bs := τ.nodes.map (·.1)
def AG (τ : Tr) (s : Int) : List Bs := (τ.nodes.filter fun y => !decide (s = 0) && decide (y.2.st.own = s)).map (·.1)
def Du : Tr := ⟨[([47], ⟨[], [(31, [119, 111, 114, 108, 100])], st0⟩)], [], 0⟩
/-! ### What is always so -/
structure Tr.Ok (τ : Tr) (N : Nat) : Prop where
 sorted : BZ τ.nodes
 ssorted : BZ τ.sess
 few : τ.nodes.length ≤ N
 able : ∀ x ∈ τ.nodes, x.1 = [47] ∨ Cn x.1
 ids : ∀ x ∈ τ.sess, 1 ≤ x.1
 acls : ∀ x ∈ τ.nodes, x.2.acl.length ≤ 1048576
 sfew : τ.sess.length ≤ N
theorem Ee {p : Bs} (h : p = [47] ∨ Cn p) : p.length ≤ 60 := by
 rcases h with rfl | ⟨h1, h2⟩
 ·decide
 ·unfold BG at h2
  rw [if_neg h1] at h2
  split at h2
  ·cases h2
  ·split at h2
   ·cases h2
   ·omega
theorem Tr.Ok.more {τ : Tr} {N M : Nat} (h : τ.Ok N) (hm : N ≤ M) : τ.Ok M := { h with few := Nat.le_trans h.few hm, sfew := Nat.le_trans h.sfew hm }
theorem Lg : Du.Ok 1 := ⟨by unfold BZ Du; simp, by unfold BZ Du; simp, by simp [Du], by simp [Du], by simp [Du], by simp [Du], by simp [Du]⟩
theorem Tr.Ok.zx {τ : Tr} {N : Nat} (h : τ.Ok N) (z : Int) : (zxT τ z).Ok N := ⟨h.sorted, h.ssorted, h.few, h.able, h.ids, h.acls, h.sfew⟩
theorem KD {K β : Type} [DecidableEq K] {l : List (K × β)} {k : K} {f : β → β} {x : K × β} (h : x ∈ amod l k f) : ∃ y ∈ l, y.1 = x.1 ∧ (x.2 = y.2 ∨ (y.1 = k ∧ x.2 = f y.2)) := by
 obtain ⟨y, hy, rfl⟩ := mem_map.1 h
 refine ⟨y, hy, ?_⟩
 split
 ·rename_i e; exact ⟨rfl, .inr ⟨e, rfl⟩⟩
 ·exact ⟨rfl, .inl rfl⟩
theorem FM {K β : Type} [LT K] [DecidableEq K] [DecidableLT K] {l : List (K × β)} {k : K} {v : β} {x : K × β} (h : x ∈ sset l k v) : x = (k, v) ∨ x ∈ l := by
 induction l with
 | nil => simpa [sset] using h
 | cons y l ih =>
  unfold sset at h
  split at h
  ·rcases mem_cons.1 h with rfl | h
   ·exact .inl rfl
   ·exact .inr (mem_cons_of_mem _ h)
  ·split at h
   ·rcases mem_cons.1 h with rfl | h
    ·exact .inl rfl
    ·exact .inr h
   ·rcases mem_cons.1 h with rfl | h
    ·exact .inr mem_cons_self
    ·exact (ih h).imp id (mem_cons_of_mem _)
theorem Tr.Ok.mod {τ : Tr} {N : Nat} (h : τ.Ok N) (p : Bs) (f : Nd → Nd) (hf : ∀ n, (f n).acl.length ≤ 1048576 ∨ (f n).acl = n.acl) : ({ τ with nodes := amod τ.nodes p f } : Tr).Ok N := by
 refine ⟨h.sorted.amod p f, h.ssorted, by show (amod τ.nodes p f).length ≤ N; rw [Hv]; exact h.few, fun x hx => ?_, h.ids, fun x hx => ?_, h.sfew⟩
 ·obtain ⟨y, hy, e, -⟩ := KD hx
  rw [← e]; exact h.able y hy
 ·obtain ⟨y, hy, -, e | ⟨-, e⟩⟩ := KD hx
  ·rw [e]; exact h.acls y hy
  ·rw [e]
   rcases hf y.2 with g | g
   ·exact g
   ·rw [g]; exact h.acls y hy
theorem Tr.Ok.kid {τ : Tr} {N : Nat} (h : τ.Ok N) (p : Bs) (num zx : Int) : (D1 τ p num zx).Ok N := h.mod p _ fun _ => .inr rfl
theorem Tr.Ok.lay {τ : Tr} {N : Nat} (h : τ.Ok N) {p : Bs} (hp : p = [47] ∨ Cn p) (n : Nd) (hn : n.acl.length ≤ 1048576) : ({ τ with nodes := sset τ.nodes p n } : Tr).Ok (N + 1) := by
 refine ⟨h.sorted.sset EC p n, h.ssorted, ?_, fun x hx => ?_, h.ids, fun x hx => ?_, Nat.le_succ_of_le h.sfew⟩
 ·have := (NC τ.nodes p n).1
  have := h.few
  show (sset τ.nodes p n).length ≤ N + 1
  omega
 ·rcases FM hx with rfl | hx
  ·exact hp
  ·exact h.able x hx
 ·rcases FM hx with rfl | hx
  ·exact hn
  ·exact h.acls x hx
theorem Tr.Ok.cut {τ : Tr} {N : Nat} (h : τ.Ok N) (p : Bs) : (FH τ p).Ok N :=
 ⟨h.sorted.filter _, h.ssorted, Nat.le_trans (length_filter_le _ _) h.few, fun x hx => h.able x (mem_filter.1 hx).1, h.ids, fun x hx => h.acls x (mem_filter.1 hx).1, h.sfew⟩
theorem Tr.Ok.part {τ : Tr} {N : Nat} (h : τ.Ok N) (x : Pt) (zx : Int) (hx : x.acl.length ≤ 1048576) : (AJ τ x zx).1.Ok (N + 1) := by
 unfold AJ
 split
 ·unfold Ab
  split
  ·rename_i g; exact (h.lay (.inr g.1) (DU x zx) hx).kid _ _ _
  ·exact h.more (Nat.le_add_right N 1)
 split
 ·unfold As
  split
  ·exact ((h.cut _).kid _ _ _).more (Nat.le_add_right N 1)
  ·exact h.more (Nat.le_add_right N 1)
 split
 ·exact (h.mod x.path (F0 x.data x.num zx) fun _ => .inr rfl).more (Nat.le_add_right N 1)
 split
 ·exact (h.mod x.path (FT x.acl x.num) fun _ => .inl hx).more (Nat.le_add_right N 1)
 ·exact h.more (Nat.le_add_right N 1)
theorem Tr.Ok.parts {τ : Tr} {N : Nat} (h : τ.Ok N) (zx : Int) (l : List Pt) (hl : ∀ x ∈ l, x.acl.length ≤ 1048576) : (AH τ zx l).1.Ok (N + l.length) := by
 have key : ∀ (l : List Pt) (r : Tr × List Ev) (N : Nat), r.1.Ok N → (∀ x ∈ l, x.acl.length ≤ 1048576) → (l.foldl (fun r x => ((AJ r.1 x zx).1, r.2 ++ (AJ r.1 x zx).2)) r).1.Ok (N + l.length) := by
  intro l
  induction l with
  | nil => intro r N h _; exact h
  | cons x l ih =>
   intro r N h hl
   rw [foldl_cons]
   refine (ih ((AJ r.1 x zx).1, r.2 ++ (AJ r.1 x zx).2) (N + 1) (h.part x zx (hl x (by simp))) (fun y hy => hl y (by simp [hy]))).more ?_
   rw [length_cons]; omega
 exact key l _ N h hl
theorem Tr.Ok.dropS {τ : Tr} {N : Nat} (h : τ.Ok N) (id : Int) : (dropS τ id).Ok N :=
 ⟨h.sorted, h.ssorted.filter _, h.few, h.able, fun x hx => h.ids x (mem_filter.1 hx).1, h.acls, Nat.le_trans (length_filter_le _ _) h.sfew⟩
theorem Tr.Ok.openS {τ : Tr} {N : Nat} (h : τ.Ok N) {id : Int} (hi : 0 < id) (n : Int) (s : Bs) : (openS τ id n s).Ok (N + 1) := by
 refine ⟨h.sorted, h.ssorted.sset Vf _ _, Nat.le_succ_of_le h.few, h.able, fun x hx => ?_, h.acls, Nat.le_trans (NC τ.sess id (n, s)).1 (Nat.succ_le_succ h.sfew)⟩
 rcases FM hx with rfl | hx
 ·dsimp only; omega
 ·exact h.ids x hx
theorem Tr.Ok.apply {τ : Tr} {N : Nat} (h : τ.Ok N) (zx : Int) (x : Pt) (subs : List Pt) (hx : x.acl.length ≤ 1048576) (hs : ∀ y ∈ subs, y.acl.length ≤ 1048576) : (AC τ zx x subs).1.Ok (N + 1 + subs.length) := by
 have h0 := h.zx zx
 unfold AC
 dsimp only
 split
 ·split
  ·rename_i g; exact (h0.openS g _ _).more om
  ·exact h0.more om
 split
 ·refine ((h0.parts zx (subs.filter Ai) fun y hy => hs y (mem_filter.1 hy).1).dropS _).more ?_
  have := length_filter_le Ai subs
  omega
 split
 ·exact (h0.parts zx subs hs).more om
 split
 ·exact h0.more om
 ·exact (h0.part x zx hx).more om
abbrev Nm := Nat × (Value × Nd)
abbrev Gu := List (Bs × Nm)
abbrev Im := List (Int × (Int × Bs))
def Q2 (v : Value) (n : Nd) : List Value := [AE n.data, v, AA n.st.cz, AA n.st.mz, AA n.st.pz, AA n.st.ver, AA n.st.cver, AA n.st.av, AA n.st.own, AA n.st.len, AA n.st.kids]
def G2 (x : Nm) : Value := AI x.1
def ssV (x : Int × Bs) : Value := .agg #[AA x.1, AE x.2]
def V0 (m : Gu) : List (Value × Value) := m.map fun x => (AE x.1, G2 x.2)
def ssE (s : Im) : List (Value × Value) := s.map fun x => (AA x.1, ssV x.2)
def Is (x : Bs × Nm) : HP := fun h => ∃ _ : Unit, CD [Ad x.2.1 (Q2 x.2.2.1 x.2.2.2) 109, rdO 2 x.2.2.1 x.2.2.2.acl.length (x.2.2.2.acl.flatMap CO)] h
structure Et (τ : Tr) (m : Gu) (s : Im) : Prop where
 keys : (m.map (·.1)).Nodup
 look : ∀ p, (AD m p).map (fun x : Nm => x.2.2) = AD τ.nodes p
 skeys : (s.map (·.1)).Nodup
 slook : ∀ i, AD s i = AD τ.sess i
def AZ (t : Nat) (τ : Tr) : HP := fun h => ∃ x : (Nat × Nat) × (Gu × Im), Et τ x.2.1 x.2.2 ∧ CD [Ad t [.map (some x.1.1), .map (some x.1.2), AA τ.zx] 113, mapR x.1.1 (V0 x.2.1), mapR x.1.2 (ssE x.2.2), Ag Is x.2.1] h
section
variable {W : World} {n : Nat} {ds : List Deferred} {E : Bx} {L R : List HP} {X : Act → World → Prop}
theorem G.trOpen {t : Nat} {τ : Tr} (hL : BJ (AZ t τ) L R) (h : ∀ rn rs m s, Et τ m s → G W n ds E (Ad t [.map (some rn), .map (some rs), AA τ.zx] 113 :: mapR rn (V0 m) :: mapR rs (ssE s) :: Ag Is m :: R) X) : G W n ds E L X :=
 G.focus hL (G.open (q := fun x : (Nat × Nat) × (Gu × Im) => [Ad t [.map (some x.1.1), .map (some x.1.2), AA τ.zx] 113, mapR x.1.1 (V0 x.2.1), mapR x.1.2 (ssE x.2.2), Ag Is x.2.1]) (φ := fun x : (Nat × Nat) × (Gu × Im) => Et τ x.2.1 x.2.2) (fun _ hp => hp) fun x hx => h x.1.1 x.1.2 x.2.1 x.2.2 hx)
theorem G.trFold {t rn rs : Nat} {τ : Tr} {m : Gu} {s : Im} {l : List Value} {e1 e2 : List (Value × Value)} (hI : Et τ m s) (hL : BC [Ad t l 113, mapR rn e1, mapR rs e2, Ag Is m] L R) (hl : l = [.map (some rn), .map (some rs), AA τ.zx]) (h1 : e1 = V0 m) (h2 : e2 = ssE s)
  (h : G W n ds E (AZ t τ :: R) X) : G W n ds E L X := by
 subst hl; subst h1; subst h2
 exact G.fold hL (fun _ hp => ⟨((rn, rs), (m, s)), hI, hp⟩) h
theorem G.trCast {t : Nat} {τ τ' : Tr} (hL : BJ (AZ t τ) L R) (hw : τ' = τ) (h : G W n ds E (AZ t τ' :: R) X) : G W n ds E L X := by
 subst hw; exact G.focus hL h
theorem G.ndOpen {x : Bs × Nm} (hL : BJ (Is x) L R) (h : G W n ds E (Ad x.2.1 (Q2 x.2.2.1 x.2.2.2) 109 :: rdO 2 x.2.2.1 x.2.2.2.acl.length (x.2.2.2.acl.flatMap CO) :: R) X) : G W n ds E L X :=
 G.focus hL (G.open (q := fun _ : Unit => [Ad x.2.1 (Q2 x.2.2.1 x.2.2.2) 109, rdO 2 x.2.2.1 x.2.2.2.acl.length (x.2.2.2.acl.flatMap CO)]) (φ := fun _ => True) (fun _ hp => let ⟨u, hs⟩ := hp; ⟨u, trivial, hs⟩) fun _ _ => h)
theorem G.ndFold {x : Bs × Nm} {l : List Value} {k : Nat} {v : Value} {ys : List Value} (hL : BC [Ad x.2.1 l 109, rdO 2 v k ys] L R) (hl : l = Q2 x.2.2.1 x.2.2.2) (hv : v = x.2.2.1) (hk : k = x.2.2.2.acl.length) (hy : ys = x.2.2.2.acl.flatMap CO)
  (h : G W n ds E (Is x :: R) X) : G W n ds E L X := by
 subst hl; subst hv; subst hk; subst hy
 exact G.fold hL (fun _ hp => ⟨(), hp⟩) h
end
/-! ### B4 keeps it -/
theorem Et.at {τ : Tr} {m : Gu} {s : Im} (h : Et τ m s) {p : Bs} {x : Nm} (hx : AD m p = some x) : AD τ.nodes p = some x.2.2 := by rw [← h.look, hx]; rfl
theorem Et.none_iff {τ : Tr} {m : Gu} {s : Im} (h : Et τ m s) {p : Bs} : AD m p = none ↔ ¬ AQ τ p := by
 unfold AQ; rw [← h.look]; cases AD m p <;> simp
theorem Et.some_iff {τ : Tr} {m : Gu} {s : Im} (h : Et τ m s) {p : Bs} {x : Nm} (hx : AD m p = some x) : AQ τ p := by
 unfold AQ; rw [← h.look, hx]; rfl
theorem Et.zx {τ : Tr} {m : Gu} {s : Im} (h : Et τ m s) (z : Int) : Et (zxT τ z) m s := ⟨h.keys, h.look, h.skeys, h.slook⟩
theorem Et.mod {τ : Tr} {m : Gu} {s : Im} (h : Et τ m s) {p : Bs} {x y : Nm} (hx : AD m p = some x) (f : Nd → Nd) (hy : y.2.2 = f x.2.2) : Et { τ with nodes := amod τ.nodes p f } (BQ m p y) s := by
 refine ⟨Bv h.keys _ _, fun q => ?_, h.skeys, h.slook⟩
 show _ = AD (amod τ.nodes p f) q
 rw [DG, Ic, ← h.look q]
 by_cases e : q = p
 ·subst e; rw [if_pos rfl, if_pos rfl, hx]; simp [hy]
 ·rw [if_neg e, if_neg e]
theorem N8 {K β : Type} [DecidableEq K] {l : List (K × β)} {k : K} (h : AD l k = none) (f : β → β) : amod l k f = l := by
 have hk := El.1 h
 unfold amod
 conv => rhs; rw [← map_id l]
 refine map_congr_left fun x hx => ?_
 rw [if_neg (fun e => hk (mem_map.2 ⟨x, hx, e⟩))]; rfl
theorem Et.kidN {τ : Tr} {m : Gu} {s : Im} (h : Et τ m s) {p : Bs} (hx : AD m p = none) (f : Nd → Nd) : ({ τ with nodes := amod τ.nodes p f } : Tr) = τ := by
 have : AD τ.nodes p = none := by rw [← h.look, hx]; rfl
 rw [N8 this]
theorem Et.lay {τ : Tr} {m : Gu} {s : Im} (h : Et τ m s) (p : Bs) (x : Nm) : Et { τ with nodes := sset τ.nodes p x.2.2 } (BQ m p x) s := by
 refine ⟨Bv h.keys _ _, fun q => ?_, h.skeys, h.slook⟩
 show _ = AD (sset τ.nodes p x.2.2) q
 rw [DG, GF, ← h.look q]
 by_cases e : q = p
 ·subst e; rw [if_pos rfl, if_pos rfl]; rfl
 ·rw [if_neg e, if_neg e]
theorem Et.open {τ : Tr} {m : Gu} {s : Im} (h : Et τ m s) (id n : Int) (c : Bs) : Et (openS τ id n c) m (BQ s id (n, c)) := by
 refine ⟨h.keys, h.look, Bv h.skeys _ _, fun i => ?_⟩
 show _ = AD (sset τ.sess id (n, c)) i
 rw [DG, GF, h.slook]
theorem Et.drop {τ : Tr} {m : Gu} {s : Im} (h : Et τ m s) (id : Int) : Et (dropS τ id) m (BX s id) := by
 refine ⟨h.keys, h.look, DF h.skeys _, fun i => ?_⟩
 show _ = AD (τ.sess.filter fun y => !decide (y.1 = id)) i
 rw [GI h.skeys, G5 (fun k => !decide (k = id)), h.slook]
 by_cases e : i = id
 ·subst e; simp
 ·simp [e]
theorem Et.perm {τ : Tr} {m : Gu} {s : Im} (h : Et τ m s) {N : Nat} (ho : τ.Ok N) : (m.map (·.1)).Perm (AX τ) := by
 refine (perm_ext_iff_of_nodup h.keys (ho.sorted.nodup EC)).2 fun p => ?_
 rw [← Cq, ← Cq, ← h.look]; simp
theorem Et.len {τ : Tr} {m : Gu} {s : Im} (h : Et τ m s) {N : Nat} (ho : τ.Ok N) : m.length = τ.nodes.length := by
 have := (h.perm ho).length_eq
 simpa [AX] using this
theorem Et.sperm {τ : Tr} {m : Gu} {s : Im} (h : Et τ m s) {N : Nat} (ho : τ.Ok N) : s.Perm τ.sess :=
 K8 h.skeys (ho.ssorted.nodup Vf) h.slook
theorem Re {l : List Bs} (h : l.Pairwise (· < ·)) : sortS l = l := by
 unfold sortS
 refine mergeSort_of_pairwise (h.imp fun hab => ?_)
 simp only [leS, decide_eq_true_eq]; exact List.le_of_lt hab
theorem GV {l l' : List Bs} (h : l.Perm l') : sortS l = sortS l' := mergeSort_of_perm h
theorem Et.paths {τ : Tr} {m : Gu} {s : Im} (h : Et τ m s) {N : Nat} (ho : τ.Ok N) : sortS (m.map (·.1)) = AX τ := by
 rw [GV (h.perm ho)]; exact Re ho.sorted
theorem Et.plen {τ : Tr} {m : Gu} {s : Im} (h : Et τ m s) {N : Nat} (ho : τ.Ok N) : ∀ x ∈ m, x.1.length ≤ 60 := fun x hx => by
 have h1 : AD τ.nodes x.1 = some x.2.2.2 := h.at (CE h.keys hx)
 exact Ee (ho.able _ (EB h1))
theorem Et.acl {τ : Tr} {m : Gu} {s : Im} (h : Et τ m s) {N : Nat} (ho : τ.Ok N) {p : Bs} {x : Nm} (hx : AD m p = some x) : x.2.2.acl.length ≤ 1048576 := ho.acls _ (EB (h.at hx))
theorem Ow {m : Gu} {p : Bs} {x y : Nm} (h : AD m p = some x) (hp : y.1 = x.1) : V0 (BQ m p y) = V0 m := QN h (by simp [G2, hp])
theorem Zd {τ : Tr} {m : Gu} {s : Im} (h : Et τ m s) {q p : Bs} : Et { τ with nodes := τ.nodes.filter fun y => !decide (y.1 = q) } (BX m q) s ∧ p = p := by
 refine ⟨⟨DF h.keys _, fun r => ?_, h.skeys, h.slook⟩, rfl⟩
 show _ = AD (τ.nodes.filter fun y => !decide (y.1 = q)) r
 rw [GI h.keys, G5 (fun k => !decide (k = q)), ← h.look r]
 by_cases e : r = q
 ·subst e; simp
 ·simp [e]
def cutL (τ : Tr) (p : Bs) (l : List Bs) : Tr := { τ with nodes := τ.nodes.filter fun y => !(decide (y.1 ∈ l) && Bj y.1 p) }
theorem P5 (τ : Tr) (p : Bs) : cutL τ p [] = τ := Tr.ext' (filter_eq_self.2 fun _ _ => by simp) rfl rfl
theorem Qo (τ : Tr) (p : Bs) : cutL τ p (AX τ) = FH τ p := by
 refine Tr.ext' ?_ rfl rfl
 show τ.nodes.filter _ = τ.nodes.filter _
 refine filter_congr fun y hy => ?_
 have : y.1 ∈ AX τ := mem_map_of_mem hy
 simp [this]
theorem Nr (τ : Tr) {p q : Bs} (l : List Bs) (h : Bj q p = false) : cutL τ p (l ++ [q]) = cutL τ p l := by
 refine Tr.ext' ?_ rfl rfl
 show τ.nodes.filter _ = τ.nodes.filter _
 refine filter_congr fun y _ => ?_
 by_cases e : y.1 = q
 ·rw [e, h]; simp
 ·simp [e]
theorem Jw (τ : Tr) {p q : Bs} (l : List Bs) (h : Bj q p = true) : cutL τ p (l ++ [q]) = { cutL τ p l with nodes := (cutL τ p l).nodes.filter fun y => !decide (y.1 = q) } := by
 refine Tr.ext' ?_ rfl rfl
 show τ.nodes.filter _ = (τ.nodes.filter _).filter _
 rw [filter_filter]
 refine filter_congr fun y _ => ?_
 by_cases e : y.1 = q
 ·rw [e, h]; simp
 ·simp [e]
theorem Et.del {τ : Tr} {m : Gu} {s : Im} (h : Et τ m s) (q : Bs) : Et { τ with nodes := τ.nodes.filter fun y => !decide (y.1 = q) } (BX m q) s := (Zd (p := q) h).1
/-! ### Kids -/
theorem Ms : ∀ (c : Bs) {x y : Bs}, c ++ x < c ++ y ↔ x < y
 | [], _, _ => Iff.rfl
 | a :: c, x, y => by
  rw [cons_append, cons_append, cons_lt_cons_iff]
  constructor
  ·rintro (h | ⟨-, h⟩)
   ·exact absurd h (UInt8.lt_irrefl a)
   ·exact (Ms c).1 h
  ·intro h; exact .inr ⟨rfl, (Ms c).2 h⟩
def I5 (p : Bs) : Bs := p.take (B8 p).toNat
theorem F5 (c : UInt8) (r : Bs) : Al (c :: r) = if c = 47 then [] :: Al r else match Al r with
  | h :: t => (c :: h) :: t
  | [] => [[c]] := rfl
theorem Hz {p : Bs} (h : Cn p) : 0 ≤ B8 p ∧ I5 p ≠ [47] ∧ p = I5 p ++ 47 :: C8 p ∧ BN (C8 p) = true := by
 obtain ⟨h1, h2⟩ := h
 unfold BG at h2
 rw [if_neg h1] at h2
 have h3 : ¬ ((Al p).head? ≠ some [] ∨ (Al p).length = 1 ∨ (Al p).tail.all BN = false) := by
  intro g; rw [if_pos g] at h2; cases h2
 have hlen : (Al p).length ≠ 1 := fun e => h3 (.inr (.inl e))
 have hall : (Al p).tail.all BN = true := by
  cases e : (Al p).tail.all BN with
  | true => rfl
  | false => exact absurd (.inr (.inr e)) h3
 have hmem : (47 : UInt8) ∈ p := by
  apply Decidable.byContradiction
  intro g
  exact hlen (by rw [HI g]; rfl)
 have h0 : 0 ≤ B8 p := by
  apply Decidable.byContradiction
  intro g
  obtain ⟨i, hi, e⟩ := mem_iff_getElem.1 hmem
  have key : ∀ n, n ≤ p.length → CI p n < 0 → ∀ j, j < n → p.getD j 0 ≠ 47 := by
   intro n
   induction n with
   | zero => intro _ _ j hj; omega
   | succ n ih =>
    intro hn hl j hj
    unfold CI at hl
    split at hl
    ·omega
    ·rename_i hne
     by_cases hjn : j = n
     ·subst hjn; exact hne
     ·exact ih om hl j om
  refine key p.length (Nat.le_refl _) (by show B8 p < 0; omega) i hi ?_
  rw [getD_eq_getElem?_getD, List.getElem?_eq_getElem hi, Option.getD_some]; exact e
 obtain ⟨c1, c2⟩ := WG h0
 have hb : C8 p = p.drop ((B8 p).toNat + 1) := by unfold C8; rw [show (B8 p + 1).toNat = (B8 p).toNat + 1 by omega]
 have c3 : p = I5 p ++ 47 :: C8 p := by rw [hb]; exact c1
 have hsn : ∀ (a b : Bs), (47 : UInt8) ∉ b → Al (a ++ 47 :: b) = Al a ++ [b] := by
  intro a b hb
  induction a with
  | nil => rw [nil_append, F5, if_pos rfl, HI hb]; rfl
  | cons c a ih =>
   rw [cons_append, F5, F5]
   by_cases hc : c = 47
   ·rw [if_pos hc, if_pos hc, ih]; rfl
   ·rw [if_neg hc, if_neg hc, ih]
    rcases e : Al a with _ | ⟨u, v⟩
    ·exact absurd e (Gs a)
    ·rfl
 have hspl := hsn (I5 p) (C8 p) (by rw [hb]; exact c2)
 rw [← c3] at hspl
 refine ⟨h0, fun e => ?_, c3, ?_⟩
 ·rw [e] at hspl
  rw [hspl] at hall
  have : Al [47] = [[], []] := by decide
  rw [this] at hall
  simp [BN] at hall
 ·rw [hspl] at hall
  rcases e : Al (I5 p) with _ | ⟨u, v⟩
  ·exact absurd e (Gs _)
  ·rw [e] at hall
   simp at hall
   exact hall.2
theorem IB {p : Bs} (h : Cn p) : AL p = if I5 p = [] then [47] else I5 p := by
 obtain ⟨h0, -, h2, -⟩ := Hz h
 unfold AL
 rw [if_neg (by rintro (g | g); omega; exact h.1 g)]
 have hr := EG p
 by_cases hz : B8 p = 0
 ·rw [if_pos hz, if_pos (by unfold I5; rw [hz]; rfl)]
 ·rw [if_neg hz, if_neg]
  ·rfl
  ·intro e
   have := congrArg List.length e
   unfold I5 at this
   rw [length_take] at this
   simp only [length_nil] at this
   omega
theorem AA0 {a b : Bs} (ha : Cn a) (hb : Cn b) (hp : AL a = AL b) : a < b ↔ C8 a < C8 b := by
 obtain ⟨-, a1, a2, -⟩ := Hz ha
 obtain ⟨-, b1, b2, -⟩ := Hz hb
 have e : I5 a = I5 b := by
  rw [IB ha, IB hb] at hp
  by_cases x : I5 a = []
  ·rw [if_pos x] at hp
   by_cases y : I5 b = []
   ·rw [x, y]
   ·rw [if_neg y] at hp; exact absurd hp.symm b1
  ·rw [if_neg x] at hp
   by_cases y : I5 b = []
   ·rw [if_pos y] at hp; exact absurd hp a1
   ·rw [if_neg y] at hp; exact hp
 constructor
 ·intro h
  rw [a2, b2, e, Ms, cons_lt_cons_iff] at h
  rcases h with h | ⟨-, h⟩
  ·exact absurd h (UInt8.lt_irrefl _)
  ·exact h
 ·intro h
  rw [a2, b2, e, Ms, cons_lt_cons_iff]
  exact .inr ⟨rfl, h⟩
theorem Rr {τ : Tr} {N : Nat} (ho : τ.Ok N) (p : Bs) : (Bf τ p).Pairwise (· < ·) := by
 unfold Bf
 rw [pairwise_map]
 have hs : (τ.nodes.filter fun y => !decide (y.1 = [47]) && decide (AL y.1 = p)).Pairwise (fun x y => x.1 < y.1) := pairwise_map.1 (ho.sorted.filter _)
 refine List.Pairwise.imp_of_mem ?_ hs
 intro x y hx hy hlt
 obtain ⟨x1, x2⟩ := mem_filter.1 hx
 obtain ⟨y1, y2⟩ := mem_filter.1 hy
 simp at x2 y2
 exact (AA0 ((ho.able x x1).resolve_left x2.1) ((ho.able y y1).resolve_left y2.1) (by rw [x2.2, y2.2])).1 hlt
def F9 (m : Gu) (p : Bs) : List Bs := (m.filter fun y => !decide (y.1 = [47]) && decide (AL y.1 = p)).map fun y => C8 y.1
theorem Ji {β : Type} (l : List (Bs × β)) (p : Bs) : (l.filter fun y => !decide (y.1 = [47]) && decide (AL y.1 = p)).map (fun y => C8 y.1) = ((l.map (·.1)).filter fun q => !decide (q = [47]) && decide (AL q = p)).map C8 := by
 rw [filter_map, map_map]; rfl
theorem Et.kids {τ : Tr} {m : Gu} {s : Im} (h : Et τ m s) {N : Nat} (ho : τ.Ok N) (p : Bs) : sortS (F9 m p) = Bf τ p := by
 have hp : (F9 m p).Perm (Bf τ p) := by
  unfold F9 Bf
  rw [Ji, Ji]
  exact ((h.perm ho).filter _).map _
 rw [GV hp]; exact Re (Rr ho p)
theorem OQ (m : Gu) (p : Bs) : (F9 m p).length ≤ m.length := by
 unfold F9; rw [length_map]; exact length_filter_le _ _
theorem Tm {K β : Type} [DecidableEq K] {f : K × β → HP} {m : List (K × β)} (k : K) {h : Hp} (hs : Ag f m h) : Ag f (BX m k) h := by
 rcases e : AD m k with _ | b
 ·rw [EM e]; exact hs
 ·obtain ⟨h1, h2, -, -, a2, -, hp⟩ := RV e hs
  obtain ⟨g1, g2, -, b1, -, hq, -⟩ := hp
  exact EZ hq fun c o hc => a2 _ _ (b1 _ _ hc)
theorem G.bigDel {W : World} {n : Nat} {ds : List Deferred} {E : Bx} {L R : List HP} {X : Act → World → Prop} {K β : Type} [DecidableEq K] {f : K × β → HP} {m : List (K × β)} (k : K) (hL : BJ (Ag f m) L R) (h : G W n ds E (Ag f (BX m k) :: R) X) : G W n ds E L X :=
 fun a w he hk hs => h a w he hk (Br (fun _ hp => Tm k hp) (hs.pick hL))
theorem IW {τ : Tr} {p q : Bs} {num zx : Int} : AQ (D1 τ p num zx) q ↔ AQ τ q := by
 unfold AQ D1
 dsimp only
 rw [Ic]
 split
 ·cases AD τ.nodes q <;> simp
 ·exact Iff.rfl
theorem Y5 (τ : Tr) (p : Bs) : (FH τ p).nodes.length ≤ τ.nodes.length := length_filter_le _ _
theorem IS (τ : Tr) (x : Pt) (zx : Int) : (AJ τ x zx).2.length ≤ 2 := by
 unfold AJ Ab As
 repeat' split
 all_goals simp
theorem Gq (τ : Tr) (zx : Int) (l : List Pt) : (AH τ zx l).2.length ≤ 2 * l.length := by
 have key : ∀ (l : List Pt) (r : Tr × List Ev), (l.foldl (fun r x => ((AJ r.1 x zx).1, r.2 ++ (AJ r.1 x zx).2)) r).2.length ≤ r.2.length + 2 * l.length := by
  intro l
  induction l with
  | nil => intro r; simp
  | cons x l ih =>
   intro r
   rw [foldl_cons]
   refine Nat.le_trans (ih _) ?_
   have := IS r.1 x zx
   dsimp only
   rw [length_append, length_cons]
   omega
 have := key l (τ, [])
 simpa [AH] using this
theorem HY {f : Pt → Bool} {l : List Pt} {i : Nat} (hi : i < l.length) (h : f l[i] = true) : (l.take (i + 1)).filter f = (l.take i).filter f ++ [l[i]] := by
 rw [take_succ_eq_append_getElem hi, filter_append]; simp [h]
theorem Hy {f : Pt → Bool} {l : List Pt} {i : Nat} (hi : i < l.length) (h : f l[i] = false) : (l.take (i + 1)).filter f = (l.take i).filter f := by
 rw [take_succ_eq_append_getElem hi, filter_append]; simp [h]
/-! ### Two trees the same -/
instance : DecidableEq Tr := fun a b => decidable_of_iff (a.nodes = b.nodes ∧ a.sess = b.sess ∧ a.zx = b.zx) ⟨fun ⟨h1, h2, h3⟩ => Tr.ext' h1 h2 h3, fun h => by rw [h]; exact ⟨rfl, rfl, rfl⟩⟩
def AS (τ : Tr) (p : Bs) : LF := (Ht τ p).getD st0
def Ha (τ : Tr) (p : Bs) : Bs := ((AD τ.nodes p).map (·.data)).getD []
theorem Et.stat {τ : Tr} {m : Gu} {s : Im} (h : Et τ m s) {p : Bs} {x : Nm} (hx : AD m p = some x) : AS τ p = { x.2.2.st with len := x.2.2.data.length, kids := (Bf τ p).length } := by
 unfold AS Ht; rw [h.at hx]; rfl
theorem Et.stat0 {τ : Tr} {m : Gu} {s : Im} (h : Et τ m s) {p : Bs} (hx : AD m p = none) : AS τ p = st0 := by
 unfold AS Ht; rw [← h.look, hx]; rfl
section
variable {P : Program} {W : World} {n : Nat} {ds : List Deferred} {E : Bx} {L R : List HP} {Q : Exit → Act → World → Prop}
theorem JJ {ρ : Operand → Value} (ha : I6 E ρ) : ∀ (l : List Operand) (us : List Value), l.map (ev E) = us.map some → l.map ρ = us := by
  intro l
  induction l with
  | nil => intro us h; cases us with
    | nil => rfl
    | cons u us => simp at h
  | cons x l ih => intro us h; cases us with
    | nil => simp at h
    | cons u us =>
      simp only [map_cons, List.cons.injEq] at h ⊢
      exact ⟨ha _ _ h.1, ih us h.2⟩
theorem AP.callV {f : FuncId} {fn : Func} {c : Code} {x : Operand} {xs : Array Operand} {ts : Array TypeId} {ty : TypeId} {us vs ws : List Value} {pre : List HP} {post : Value → List HP → Prop}
  (hf : P.funcs[f]? = some fn) (hb : fn.body = some c) (hnm : (fn.name == "runtime.NumGoroutine") = false) (hv : ev E x = some (.func (.func f) us.toArray ws.toArray)) (hx : xs.toList.map (ev E) = vs.map some) (h : Fn P f (us ++ vs ++ ws).toArray pre post) :
  AP P ⟨none, .call { callee := .value x, args := xs, argTypes := ts }, ty, "", #[], none⟩ E pre post := by
 intro ρ w F ha hs
 have hvs : xs.map ρ = vs.toArray := by
  apply Array.ext'
  rw [Array.toList_map]
  exact JJ ha _ _ hx
 have hfn : ρ x = .func (.func f) us.toArray ws.toArray := ha x _ hv
 unfold C5
 have : (execOp ρ ⟨none, .call { callee := .value x, args := xs, argTypes := ts }, ty, "", #[], none⟩).run P w = .ok (.enter f (us ++ vs ++ ws).toArray) w := by
  have hnm' : ¬ fn.name = "runtime.NumGoroutine" := by simpa using hnm
  simp [execOp, resolve, hfn, Deferred.ofValue, invoke, callFunc, program, Bind.bind, Sem.bind, Pure.pure, Sem.run, hf, hb, hnm', hvs]
 rw [this]
 refine (h F w hs).mono ?_
 rintro e w' ⟨v, L, hv', he, hs', hk⟩
 exact ⟨v, he, L, hv', hs', hk⟩
/-! ### Results -/
def HF (tmps : Array Value) : ResultVar → Sem Value
 | .tmp t => pure (tmps.getD t undef)
 | .cell a t => do loadVar t (← asAddr (tmps.getD a undef))
def Js (P : Program) (E : Bx) (L : List HP) (r : ResultVar) (v : Value) : Prop := ∀ (tmps : Array Value) (w : World), (∀ t v, look E t = some v → tmps[t]? = some v) → St L w → (HF tmps r).run P w = .ok v w
theorem UF {tmps : Array Value} {t : Nat} {v : Value} (h : tmps[t]? = some v) : tmps.getD t undef = v := by simp [h]
theorem Js.tmp {t : Nat} {v : Value} (h : look E t = some v) : Js P E L (.tmp t) v := fun tmps w ht _ => by
 show (pure (tmps.getD t undef) : Sem Value).run P w = _
 rw [UF (ht _ _ h)]; rfl
theorem Js.cellA {a t : Nat} {b off k : Nat} {l vs : List Value} {T : TypeId} {fr : Nat × Nat} (h : look E a = some (.pointer (some ⟨b, off, none⟩))) (hp : BA P t = some (some k)) (hL : BJ (pt b (.cells l.toArray T fr)) L R) (hc : off + k ≤ l.length) (hv : (l.drop off).take k = vs) :
  Js P E L (.cell a t) (.agg vs.toArray) := fun tmps w ht hs => by
 show (do loadVar t (← asAddr (tmps.getD a undef)) : Sem Value).run P w = _
 rw [UF (ht _ _ h)]
 show (loadVar t ⟨b, off, none⟩).run P w = _
 rw [← hv]; exact HE hp (hs.pick hL).pt hc
theorem JA (fn : Func) (tmps : Array Value) : results fn tmps = (do let vs ← fn.results.mapM (HF tmps); pure (if h : vs.size = 1 then vs[0] else .tuple vs) : Sem Value) := by
 unfold results
 have e : (fun r : ResultVar => (match r with | .tmp t => pure (tmps.getD t undef) | .cell a t => do loadVar t (← asAddr (tmps.getD a undef)) : Sem Value)) = HF tmps := by
  funext r; cases r <;> rfl
 rw [← e]
 rfl
theorem OA {fn : Func} {r : ResultVar} {tmps : Array Value} {w : World} {v : Value} (hl : fn.results = #[r]) (h : (HF tmps r).run P w = .ok v w) : (results fn tmps).run P w = .ok v w := by
 simp [JA, hl, Sem.run_bind, Result.andThen, h]
theorem VA {fn : Func} {r s : ResultVar} {tmps : Array Value} {w : World} {v u : Value} (hl : fn.results = #[r, s]) (h : (HF tmps r).run P w = .ok v w) (h' : (HF tmps s).run P w = .ok u w) : (results fn tmps).run P w = .ok (.tuple #[v, u]) w := by
 simp [JA, hl, Sem.run_bind, Result.andThen, h, h']
theorem Vq {fn : Func} {r s q : ResultVar} {tmps : Array Value} {w : World} {v u z : Value} (hl : fn.results = #[r, s, q]) (h : (HF tmps r).run P w = .ok v w) (h' : (HF tmps s).run P w = .ok u w) (h'' : (HF tmps q).run P w = .ok z w) : (results fn tmps).run P w = .ok (.tuple #[v, u, z]) w := by
 simp [JA, hl, Sem.run_bind, Result.andThen, h, h', h'']
theorem G.done1 {fn : Func} {post : Value → List HP → Prop} {F : List HP} {L' : List HP} {r : ResultVar} {v : Value} (hl : fn.results = #[r]) (hr : Js P E L r v) (hp : post v L') (hL : BC L' L R) (hF : Hu F R) : G W n [] E L (YK P fn post F W .ret) := by
 intro a w he hk hs
 exact ⟨he.defers, v, OA hl (hr _ _ he.slots hs), v, L', hp, rfl, hF.st (hs.picks hL), hk⟩
theorem G.done2 {fn : Func} {post : Value → List HP → Prop} {F : List HP} {L' : List HP} {r s : ResultVar} {v u : Value} (hl : fn.results = #[r, s]) (hr : Js P E L r v) (hr' : Js P E L s u) (hp : post (.tuple #[v, u]) L') (hL : BC L' L R) (hF : Hu F R) : G W n [] E L (YK P fn post F W .ret) := by
 intro a w he hk hs
 exact ⟨he.defers, _, VA hl (hr _ _ he.slots hs) (hr' _ _ he.slots hs), _, L', hp, rfl, hF.st (hs.picks hL), hk⟩
theorem G.done3 {fn : Func} {post : Value → List HP → Prop} {F : List HP} {L' : List HP} {r s q : ResultVar} {v u z : Value} (hl : fn.results = #[r, s, q]) (hr : Js P E L r v) (hr' : Js P E L s u) (hr'' : Js P E L q z) (hp : post (.tuple #[v, u, z]) L') (hL : BC L' L R) (hF : Hu F R) : G W n [] E L (YK P fn post F W .ret) := by
 intro a w he hk hs
 exact ⟨he.defers, _, Vq hl (hr _ _ he.slots hs) (hr' _ _ he.slots hs) (hr'' _ _ he.slots hs), _, L', hp, rfl, hF.st (hs.picks hL), hk⟩
/-! ### Deferred calls -/
end
section
variable {P : Program} {W : World} {n : Nat} {ds : List Deferred} {E : Bx} {L R : List HP} {Q : Exit → Act → World → Prop} {next : Act → World → Prop}
theorem G.d1 {fn : Func} {post : Value → List HP → Prop} {F : List HP} {L' : List HP} {r : ResultVar} {v : Value} (hl : fn.results = #[r]) (hr : Js P E L r v) (hp : post v L') (hL : BC L' L R := by repeat' constructor) (hF : Hu F R := by repeat' constructor) : G W n [] E L (YK P fn post F W .ret) := G.done1 hl hr hp hL hF
theorem G.d2 {fn : Func} {post : Value → List HP → Prop} {F : List HP} {L' : List HP} {r s : ResultVar} {v u : Value} (hl : fn.results = #[r, s]) (hr : Js P E L r v) (hr' : Js P E L s u) (hp : post (.tuple #[v, u]) L') (hL : BC L' L R := by repeat' constructor) (hF : Hu F R := by repeat' constructor) : G W n [] E L (YK P fn post F W .ret) := G.done2 hl hr hr' hp hL hF
end
section
variable {P : Program} {E : Bx} {L R : List HP} {ty : TypeId} {w : World}
abbrev Ky (it : Nat) (s : List UInt8) (pos : Nat) : HP := pt it (.stringIter (bs s) pos)
theorem AP.rangeS {t : TypeId} {x : Operand} {s : List UInt8} (hx : ev E x = some (AE s)) (ht : P.underlying t = some .string) :
  AP P ⟨none, .range t x, ty, "", #[], none⟩ E [] fun v L' => ∃ it, v = AI it ∧ L' = [Ky it s 0] := by
 intro ρ w F ha hs
 have hrun : (execOp ρ ⟨none, .range t x, ty, "", #[], none⟩).run P w = .ok (.value (AI w.heap.size)) { w with heap := w.heap.push (.stringIter (bs s) 0) } := by
  refine Bq ?_
  show (Instr.range t (ρ x)).run P w = _
  rw [ha x _ hx]; exact run_range_string w t _ ht
 unfold C5; rw [hrun]
 exact ⟨_, ⟨_, rfl, rfl⟩, St.new hs _, At.new _ _⟩
theorem AP.nextS {x : Operand} {it pos : Nat} {s : List UInt8} (hx : ev E x = some (AI it)) :
  AP P ⟨none, .next x true, ty, "", #[], none⟩ E [Ky it s pos] fun v L' => (v = .tuple #[.bool false] ∧ ¬ pos < s.length ∧ L' = [Ky it s pos]) ∨
   (pos < s.length ∧ v = .tuple #[.bool true, AA pos, .int .i32 (Utf8.decode (bs s) pos).1] ∧ L' = [Ky it s (pos + (Utf8.decode (bs s) pos).2)]) := by
 intro ρ w F ha hs
 have hk : w.heap[it]? = some (.stringIter (bs s) pos) := St.pt (L := F) hs
 by_cases h : pos < s.length
 ·have hrun : (execOp ρ ⟨none, .next x true, ty, "", #[], none⟩).run P w = .ok (.value (.tuple #[.bool true, AA pos, .int .i32 (Utf8.decode (bs s) pos).1])) (upd w it (.stringIter (bs s) (pos + (Utf8.decode (bs s) pos).2))) := by
   refine Bq ?_
   show (Instr.next (ρ x) true ty).run P w = _
   rw [ha x _ hx]; exact Go.Lib.run_next_any_at w it (bs s) pos ty hk (by rw [Ba]; exact h)
  unfold C5; rw [hrun]
  exact ⟨_, .inr ⟨h, rfl, rfl⟩, St.upd (L := F) hs, At.upd _ _ _⟩
 ·have hrun : (execOp ρ ⟨none, .next x true, ty, "", #[], none⟩).run P w = .ok (.value (.tuple #[.bool false])) w := by
   refine Bq ?_
   show (Instr.next (ρ x) true ty).run P w = _
   rw [ha x _ hx]; exact Go.Lib.run_next_end_at w it (bs s) pos ty hk (by rw [Ba]; exact h)
  unfold C5; rw [hrun]
  exact ⟨_, .inl ⟨rfl, h, rfl⟩, hs, At.refl _⟩
theorem NJ {s : List UInt8} {pos : Nat} (h : pos < s.length) (hc : (s[pos]).toNat < 128) : Utf8.decode (bs s) pos = ((s[pos]).toNat, 1) :=
 decode_ascii (bs s) pos (by rw [Ba]; exact h) hc
theorem ABO {s : List UInt8} {pos : Nat} (h : pos < s.length) : (bs s).get! (pos + 0) = s[pos] := by
 show (bs s).get! pos = _
 show s.toArray[pos]! = _
 rw [getElem!_pos s.toArray pos (by simpa using h)]
 simp
theorem K2 {s : List UInt8} {pos : Nat} (h : pos < s.length) (hc : ¬ (s[pos]).toNat < 128) : 128 ≤ (Utf8.decode (bs s) pos).1 ∧ 1 ≤ (Utf8.decode (bs s) pos).2 := by
 have e := ABO h
 simp only [Utf8.decode, e]
 rw [if_neg hc]
 repeat' split
 all_goals first | (simp_all [Utf8.runeError]; done) | (refine ⟨?_, ?_⟩ <;> simp_all [Utf8.runeError] <;> omega)
theorem AK.lookupNil {K : Type} [DecidableEq K] {kv : K → Value} {kt et : TypeId} (hl : AV P kt kv) {t : TypeId} {x y : Operand} {k : K} {z : Value} (hx : ev E x = some (.map none)) (hy : ev E y = some (kv k)) (ht : P.underlying t = some (.map kt et)) (hz : Au P et = some z) :
  AK P ⟨none, .lookup t x y false, ty, "", #[], none⟩ E L z := by
 intro ρ w ha hs
 refine Bq ?_
 show (Instr.lookup t (ρ x) (ρ y) false).run P w = _
 rw [ha x _ hx, ha y _ hy]
 unfold Instr.lookup
 rw [run_bind (AN ht)]
 dsimp only
 rw [run_bind run_pure, run_bind (hl.check k _ w), run_bind (hl.find k [] [] w rfl)]
 simp only [Dh, Option.bind_none]
 rw [run_bind (Ef hz), run_bind run_pure]
 rfl
abbrev ZR (it : Nat) : HP := pt it (.mapIter none 0 #[] 0)
theorem AP.rangeNil {t kt et : TypeId} {x : Operand} (hx : ev E x = some (.map none)) (ht : P.underlying t = some (.map kt et)) :
  AP P ⟨none, .range t x, ty, "", #[], none⟩ E [] fun v L' => ∃ it, v = AI it ∧ L' = [ZR it] := by
 intro ρ w F ha hs
 have hrun : (execOp ρ ⟨none, .range t x, ty, "", #[], none⟩).run P w = .ok (.value (AI w.heap.size)) { w with heap := w.heap.push (.mapIter none 0 #[] 0) } := by
  refine Bq ?_
  show (Instr.range t (ρ x)).run P w = _
  rw [ha x _ hx]; exact run_range_nilMap w t kt et ht
 unfold C5; rw [hrun]
 exact ⟨_, ⟨_, rfl, rfl⟩, St.new hs _, At.new _ _⟩
theorem AP.nextNil {x : Operand} {it : Nat} (hx : ev E x = some (AI it)) :
  AP P ⟨none, .next x false, ty, "", #[], none⟩ E [ZR it] fun v L' => v = .tuple #[.bool false] ∧ L' = [ZR it] := by
 intro ρ w F ha hs
 have hk : w.heap[it]? = some (.mapIter none 0 #[] 0) := St.pt (L := F) hs
 have hrun : (execOp ρ ⟨none, .next x false, ty, "", #[], none⟩).run P w = .ok (.value (.tuple #[.bool false])) w := by
  refine Bq ?_
  show (Instr.next (ρ x) false ty).run P w = _
  rw [ha x _ hx]
  simp only [Instr.next, getObj, Sem.run_bind, Sem.run, hk, Result.andThen]
  rfl
 unfold C5; rw [hrun]
 exact ⟨_, ⟨rfl, rfl⟩, hs, At.refl _⟩
theorem AK.extern {f : FuncId} {fn : Func} {e : Array Value → Sem Value} {xs : Array Operand} {ts : Array TypeId} {vs : List Value} {v : Value} (hf : P.funcs[f]? = some fn) (hnm : (fn.name == "runtime.NumGoroutine") = false) (hb : fn.body.isNone = true) (hn : Extern.findNext fn = none) (he : Extern.find fn = some e)
  (hx : xs.toList.map (ev E) = vs.map some) (hr : ∀ w, (e vs.toArray).run P w = .ok v w) : AK P ⟨none, .call { callee := .value (.func f), args := xs, argTypes := ts }, ty, "", #[], none⟩ E L v := by
 intro ρ w ha _
 have hv : xs.map ρ = vs.toArray := by
  apply Array.ext'
  rw [Array.toList_map]
  exact JJ ha _ _ hx
 have hfn : ρ (.func f) = .func (.func f) #[] #[] := ha (.func f) _ rfl
 have e1 : (execOp ρ ⟨none, .call { callee := .value (.func f), args := xs, argTypes := ts }, ty, "", #[], none⟩).run P w = (callFunc f vs.toArray).run P w := by
  simp [execOp, resolve, hfn, Deferred.ofValue, invoke, program, Bind.bind, Sem.bind, Pure.pure, Sem.run, hv]
 rw [e1, run_callFunc_extern hf hnm hb hn he, hr]
 rfl
theorem U4 (s : List UInt8) (w : World) : (Extern.BytealgCount.count #[AE s, .int .u8 47]).run P w = .ok (AA (s.count 47 : Nat)) w := by
 rw [show AE s = .string (bs s) from rfl, Go.Lib.run_countString]; rfl
def Nk : List UInt8 → Int
 | [] => -1
 | b :: l => if b = 47 then 0 else if Nk l = -1 then -1 else Nk l + 1
theorem ABV (s : List UInt8) : Go.Lib.indexByte s 47 = Nk s := by
 induction s with
 | nil => rfl
 | cons b l ih =>
  unfold Go.Lib.indexByte Nk
  rw [ih]
  simp
theorem Vk (s : List UInt8) (w : World) : (Extern.BytealgIndexByte.indexByte #[AE s, .int .u8 47]).run P w = .ok (AA (Nk s)) w := by
 rw [show AE s = .string (bs s) from rfl, Go.Lib.run_indexByteString]
 rw [show (bs s).data.toList = s from rfl, show (47 : Int).toNat.toUInt8 = 47 from rfl, ABV]
theorem Zt {s : List UInt8} (h : (47 : UInt8) ∈ s) : ∃ k : Nat, Nk s = k ∧ k < s.length ∧ s = s.take k ++ 47 :: s.drop (k + 1) ∧ (47 : UInt8) ∉ s.take k := by
 induction s with
 | nil => cases h
 | cons b l ih =>
  unfold Nk
  by_cases hb : b = 47
  ·subst hb
   exact ⟨0, by rw [if_pos rfl]; rfl, by simp, by simp, by simp⟩
  ·have hl : (47 : UInt8) ∈ l := by
    rcases mem_cons.1 h with h | h
    ·exact absurd h.symm hb
    ·exact h
   obtain ⟨k, e1, e2, e3, e4⟩ := ih hl
   refine ⟨k + 1, ?_, by simp; omega, ?_, ?_⟩
   ·rw [if_neg hb, e1, if_neg om]; omega
   ·simp only [take_succ_cons, drop_succ_cons, cons_append]
    rw [← e3]
   ·simp only [take_succ_cons, mem_cons, not_or]
    exact ⟨fun e => hb e.symm, e4⟩
end
section
variable {P : Program} {W : World} {n : Nat} {ds : List Deferred} {E : Bx} {L : List HP}
theorem G.joinM {X Y : Act → World → Prop} {ts : List Nat} {K : Bx} {t : Nat} {φ : Prop} [Decidable φ] (_ : OB ts E K) (w : (∀ {E2 : Bx}, φ → Ig ((t, .bool true) :: K) E2 → G W n ds E2 L X) → (∀ {E2 : Bx}, ¬ φ → Ig ((t, .bool false) :: K) E2 → G W n ds E2 L X) → G W n ds E L Y) (k : G W n ds ((t, .bool (decide φ)) :: K) L X) : G W n ds E L Y :=
 w (fun {E2} h hs => G.env _ hs (by rw [decide_eq_true h] at k; exact k)) (fun {E2} h hs => G.env _ hs (by rw [decide_eq_false h] at k; exact k))
theorem G.midD {X : Act → World → Prop} {t : Nat} {φ ψ : Prop} [Decidable ψ] {E2 : Bx} (JT : ∀ {E2 : Bx}, φ → Ig ((t, .bool true) :: E) E2 → G W n ds E2 L X) (JF : ∀ {E2 : Bx}, ¬ φ → Ig ((t, .bool false) :: E) E2 → G W n ds E2 L X) (hs : Ig ((t, .bool (decide ψ)) :: E) E2) (h : ψ ↔ φ) : G W n ds E2 L X := by
 by_cases g : ψ
 ·exact JT (h.1 g) (by rw [decide_eq_true g] at hs; exact hs)
 ·exact JF (fun f => g (h.2 f)) (by rw [decide_eq_false g] at hs; exact hs)
end
theorem LV (s : Bs) : Fn prog 291 #[AE s, .int .u8 47] [] fun v L => v = AA (Nk s) ∧ L = [] := by
 refine Fn.intro func291 Y Y fun F W => ?_
 refine .sr (.an Y (.sm Y (.m Y (.q (.extern (e := Extern.BytealgIndexByte.indexByte) (vs := [_, .int .u8 47]) func297 kQ kQ kQ kQ Y (fun w => Vk s w)) Y (.an Y (.ret ?_))))))
 exact .vv
theorem P1 (s : Bs) : Fn prog 281 #[AE s, AE [47]] [] fun v L => v = AA (Nk s) ∧ L = [] := by
 refine Fn.intro func281 Y Y fun F W => ?_
 refine .sr (.an Y (.sm Y (.q (.strlen Y underlying9 Y) Y (.an Y (.seq (.block (.sm Y (.q (.as (v' := .bool false) (by rfl) (.int Y Y Y)) Y (.m Y (.gr (.m Y (.gr (.m Y (.gr (.u (.streq Y Y) (.pF Y Y (.an Y (.condD Y (fun h16 => ?_) (fun h16 => ?_)))))))))))))))))))
 ·refine .sr (.an Y (.ret (.blk_r (.then_r ?_))))
  exact .dn Y Y ⟨by have e : s = [47] := (by first | exact h16.symm | exact (by simpa using h16.symm)); subst e; rfl, rfl⟩
 refine .sm Y (.q (.as (v' := .bool true) (by rfl) (.int Y Y Y)) Y (.an Y (.condT Y (.sm Y (.m Y (.q (.strIndex (c := 47) Y Y underlying9 (by simp) (by simp)) Y (.cv func291 [_, _] (LV _) ?_)))))))
 refine .an Y (.ret (.blk_r (.then_r ?_)))
 exact .vv
theorem S4 (s : Bs) : Fn prog 254 #[AE s, AE [47]] [] fun v L => v = AA (Nk s) ∧ L = [] := by
 refine Fn.intro func254 Y Y fun F W => ?_
 refine .sr (.an Y (.sm Y (.m Y (.cv func281 [_, _] (P1 _) ?_))))
 refine .an Y (.ret ?_)
 exact .vv
theorem TS (s : Bs) : Fn prog 253 #[AE s, AE [47]] [] fun v L => v = AA (s.count 47 : Nat) ∧ L = [] := by
 refine Fn.intro func253 Y Y fun F W => ?_
 refine .sr (.an Y (.seq (.sm Y (.q (.strlen Y underlying9 Y) Y (.q (.as (v' := .bool false) (by rfl) (.int Y Y Y)) Y (.nt (.condF Y (.sk (.seq (.sm Y (.q (.strlen Y underlying9 Y) Y (.q (.as (v' := .bool true) (by rfl) (.int Y Y Y)) Y (.nt (.condT Y (.sm Y (.m Y (.q (.strIndex (c := 47) Y Y underlying9 (by simp) (by simp)) Y (.q (.extern (e := Extern.BytealgCount.count) (vs := [_, .int .u8 47]) func280 kQ kQ kQ kQ Y (fun w => U4 s w)) Y (.an Y (.rt ?_))))))))))))))))))))
 exact .vv
theorem VY {s : Bs} {k : Nat} (h : s = s.take k ++ 47 :: s.drop (k + 1)) (hk : (47 : UInt8) ∉ s.take k) : s.count 47 = (s.drop (k + 1)).count 47 + 1 := by
 have := congrArg (List.count 47) h
 rw [count_append, count_eq_zero.2 hk, count_cons_self] at this
 omega
theorem QU {dn : List Bs} {i n : Nat} {s : Bs} (hd : dn.length = i) (hi : i < n) : (A6 dn ++ List.replicate (n - i) (AE [])).set i (AE s) = A6 (dn ++ [s]) ++ List.replicate (n - (i + 1)) (AE []) := by
 obtain ⟨k, rfl⟩ : ∃ k, n = i + (k + 1) := ⟨n - i - 1, by omega⟩
 rw [set_append_right _ _ (by simp [hd]), show i - (A6 dn).length = 0 by simp [hd], show i + (k + 1) - i = k + 1 by omega, show i + (k + 1) - (i + 1) = k by omega, replicate_succ, set_cons_zero]
 simp [A6]
theorem UY {dn : List Bs} {i n : Nat} {s : Bs} (hd : dn.length = i) (hi : i = n) : (A6 (dn ++ [s]) ++ List.replicate (n + 1 - (i + 1)) (AE [])).take (n + 1) = A6 (dn ++ [s]) := by
 subst hi
 rw [Nat.sub_self, replicate_zero, append_nil, take_of_length_le (by simp [hd])]
theorem Nb (s : Bs) (hs : s.length ≤ 1048576) : Fn prog 221 #[AE s, AE [47], AA 0, AA (-1)] [] fun v L => ∃ b, v = .slice (some ⟨b, 0, none⟩) (Al s).length (Al s).length ∧ L = [Af 9 1 v (Al s).length (A6 (Al s))] := by
 refine Fn.intro func221 Y Y fun F W => ?_
 have hcl : s.count 47 ≤ s.length := count_le_length
 have hsp := N4 s
 refine .sr (.an Y (.seq (.sm Y (.q (.as (v' := .bool false) (by rfl) (.int Y Y Y)) Y (.nt (.condF Y (.sk (.seq (.sm Y (.q (.as (v' := .bool false) (by rfl) (.streq Y Y)) Y (.nt (.condF Y (.sk (.seq (.sm Y (.q (.as (v' := .bool true) (by rfl) (.int Y Y Y)) Y (.nt (.condT Y (.region (.m Y (.m Y (.cv func253 [_, _] (TS _) ?_))))))))))))))))))))))
 refine .q (.add Y Y om) Y (.an Y (.sm Y (.m Y (.q (.strlen Y underlying9 Y) Y (.q (.add Y Y om) Y (.q (.to (v' := AA (((s.count 47) : Nat) + 1)) (.min2 Y Y) (by congr 1; omega)) Y (.an Y (.sm Y (.oq (.make Y Y Dr J6 Y ⟨by simp, by simp; rfl⟩ ?hc17) ?_)))))))))
 case hc17 => omega
 rintro v L' ⟨ba, rfl, rfl⟩; rw [show (((s.count 47) : Nat) + 1 : Int).toNat = (s.count 47) + 1 by omega]
 refine .a Y (.nil (.ptCast (b := ba) (l' := A6 [] ++ List.replicate ((s.count 47) + 1 - 0) (AE [])) O (by simp) ?_))
 refine .then_n (.sm Y (.q (.to (v' := AA ((s.count 47) : Nat)) (.sub Y Y om) (by congr 1; omega)) Y (.an Y (.sr (.an Y (.seq (.block (.loopK (ι := Nat × Bs × (List Bs)) (fun q E => (10, AA q.1) :: (0, AE q.2.1) :: E) (fun q => [Ad ba (A6 q.2.2 ++ List.replicate ((s.count 47) + 1 - q.1) (AE [])) 9]) (fun q => q.1 ≤ (s.count 47) ∧ q.2.2.length = q.1 ∧ q.2.1.count 47 + q.1 = (s.count 47) ∧ Al s = q.2.2 ++ Al q.2.1 ∧ q.2.1.length ≤ s.length) (fun q => (s.count 47) - q.1) (0, s, []) (ts := [1, 2, 3, 8, 9]) O (⟨Nat.zero_le _, Y, by dsimp only; omega, rfl, Nat.le_refl _⟩) O O ?_))))))))
 rintro ⟨i, cur, dn⟩ ⟨hi, hdl, hct, hsplit, hcul⟩
 dsimp only
 dsimp only at hi hdl hct hsplit hcul
 refine .seq (.sm Y (.m Y (.ui Y Y Y (.nt (.condD Y (fun h36 => ?_) (fun h36 => ?_))))))
 ·have hmem : (47 : UInt8) ∈ cur := count_pos_iff.1 om
  obtain ⟨k, hk1, hk2, hk4, hk3⟩ := Zt hmem
  have hcat : cur = cur.take k ++ 47 :: cur.drop (k + 1) := hk4
  have hcc := VY hcat hk3
  refine .sk (.block (.sm Y (.m Y (.oq (.c func254 [_, _] (S4 cur)) ?_))))
  rintro v L' ⟨rfl, rfl⟩; rw [hk1]
  refine .an Y (.seq (.sm Y (.q (.as (v' := .bool false) (by first | (simp; done) | (simp; omega)) (.int Y Y Y)) Y (.nt (.condF Y (.sk (.sm Y (.m Y (.m Y (.m Y (.m Y (.q (.add Y Y om) Y (.q (.to (v' := AE (cur.take k)) (.strTo (j := (k : Int) + 0) Y Y underlying9 om) (by rw [show ((k : Int) + 0).toNat = k by omega])) Y (.q (.indexAddr Y Y Dr om) Y (.oq (.store Y Y Y KP ?c37 (Bb _ _)) ?_)))))))))))))))
  case c37 => first | (simp; done) | (simp; omega)
  rintro v L' rfl
  refine .nt (.sm Y (.m Y (.m Y (.q (.as (v' := AA 1) (by rfl) (.strlen Y underlying9 Y)) Y (.q (.add Y Y om) Y (.q (.to (v' := AE (cur.drop (k + 1))) (.strFrom (i := (k : Int) + 1) Y Y underlying9 om) (by rw [show ((k : Int) + 1).toNat = k + 1 by omega])) Y (.an Y (.region (.m Y (.q (.add Y Y om) Y (.a Y (.nil (.blk_n (.then_n ?_))))))))))))))
  rw [show 0 + (i : Int).toNat * 1 = i by omega, QU hdl om]
  exact .rk ((i + 1, cur.drop (k + 1), dn ++ [cur.take k])) (⟨by dsimp only; omega, by dsimp only; simp [hdl], by dsimp only; omega, by dsimp only; rw [hsplit, hcat, QC hk3, ← hcat, append_assoc]; rfl, by dsimp only; rw [length_drop]; omega⟩) (by dsimp only; omega) O
 have hii : i = (s.count 47) := by omega
 have hlast : Al cur = [cur] := HI (count_eq_zero.1 om)
 rw [hlast] at hsplit
 refine .xe (.sm Y (.m Y (.m Y (.q (.indexAddr Y Y Dr om) Y (.oq (.store Y Y Y KP ?c51 (Bb _ _)) ?_)))))
 case c51 => first | (simp; done) | (simp; omega)
 rintro v L' rfl
 refine .nt (.sm Y (.m Y (.q (.add Y Y om) Y (.q (.to (v' := .slice (some ⟨ba, 0, none⟩) (Al s).length (Al s).length) (.slTo (j := (i : Int) + 1) Y Dr Y om (.inr ⟨_, _, Y⟩)) (by rw [hsp, hii]; congr 1)) Y (.a Y (.nil (.slMake (b := ba) (n := (Al s).length) (c := (Al s).length) (xs := A6 (Al s)) O (Nat.le_refl _) (by rw [hsp]; simp; omega) (by rw [show 0 + (i : Int).toNat * 1 = i by omega, QU hdl om, hsp, hsplit]; exact UY hdl hii) (.then_n (.ret ?_)))))))))
 exact .dn Y Y ⟨ba, Y, Y⟩
theorem R6 (s : Bs) (hs : s.length ≤ 1048576) : Fn prog 168 #[AE s, AE [47]] [] fun v L => ∃ b, v = .slice (some ⟨b, 0, none⟩) (Al s).length (Al s).length ∧ L = [Af 9 1 v (Al s).length (A6 (Al s))] := by
 refine Fn.intro func168 Y Y fun F W => ?_
 refine .sr (.an Y (.sm Y (.m Y (.oq (.c func221 [_, _, _, _] (Nb _ ?hs4)) ?_))))
 case hs4 => assumption
 rintro v L' ⟨bb, rfl, rfl⟩
 refine .an Y (.ret ?_)
 exact .dn Y Y ⟨bb, Y, Y⟩
theorem P7 (s : Bs) : Fn prog 169 #[AE s] [] fun v L => v = .bool (BN s) ∧ L = [] := by
 refine Fn.intro func169 Y Y fun F W => ?_
 refine .sr (.an Y (.seq (.sm Y (.oq (.rangeS Y underlying9) ?_))))
 rintro v L' ⟨it, rfl, rfl⟩
 refine .nt (.block (.loopK (ι := Nat) (fun q E => E) (fun q => [Ky it s q]) (fun q => q ≤ s.length ∧ (s.take q).all DW = true) (fun q => s.length - q) (0) (ts := [0, 6]) O (⟨Nat.zero_le _, Y⟩) O O ?_))
 rintro pos ⟨hp, hall⟩
 refine .sr (.oq (.nextS Y) ?_)
 rintro v L' (⟨rfl, hpos, rfl⟩ | ⟨hpos, rfl, rfl⟩)
 ·refine .ex Y Y (.nt (.seq (.condF Y (.xe (.sm Y (.u (.strne Y Y) (.m Y (.ndec (t := 37) Y (fun h11_37 => ?_) (fun h11_37 => ?_)))))))))
  ·refine .kNT (t := 36) Y h11_37 (.gr (.m Y (.gr (.u (.strne Y Y) (.pT Y Y (.m Y (.ndec (t := 41) Y (fun h11_41 => ?_) (fun h11_41 => ?_))))))))
   ·refine .kNT (t := 39) Y h11_41 (.kNT (t := 40) Y h11_41 (.gr (.m Y (.gr (.u (.strne Y Y) (.pT Y Y (.an Y (.ret ?_))))))))
    have hz : BN s = (!decide (s = []) && !decide (s = [46]) && !decide (s = [46, 46])) := by unfold BN; rw [take_of_length_le om] at hall; rw [hall, Bool.and_true]
    rw [hz]
    exact .dn Y Y ⟨by simp_all, rfl⟩
   refine .kNF (t := 39) Y h11_41 (.kNF (t := 40) Y h11_41 (.gk (.gk (.pF Y Y (.an Y (.ret ?_))))))
   have hz : BN s = (!decide (s = []) && !decide (s = [46]) && !decide (s = [46, 46])) := by unfold BN; rw [take_of_length_le om] at hall; rw [hall, Bool.and_true]
   rw [hz]
   exact .dn Y Y ⟨by simp_all, rfl⟩
  refine .kNF (t := 36) Y h11_37 (.gk (.gk (.pF Y Y (.m Y (.gk (.gk (.pF Y Y (.an Y (.ret ?_)))))))))
  have hz : BN s = (!decide (s = []) && !decide (s = [46]) && !decide (s = [46, 46])) := by unfold BN; rw [take_of_length_le om] at hall; rw [hall, Bool.and_true]
  rw [hz]
  exact .dn Y Y ⟨by simp_all, rfl⟩
 refine .ex Y Y (.nt (.seq (.condT Y (.sk (.block (.seq (.joinK (ι := Int × Nat) (fun q E => (4, .int .i32 q.1) :: E) (fun q => [Ky it s q.2]) (fun q => (q.2 = pos + 1 ∧ q.1 = ((s[pos]).toNat : Int)) ∨ (128 ≤ q.1 ∧ 128 ≤ (s[pos]).toNat)) (pre := [Ky it s _]) (ts := [0, 6, 7, 8]) O O ?_ ?_)))))))
 ·refine .region ?_
  rcases Nat.lt_or_ge (s[pos]).toNat 128 with hlo | hhi
  ·rw [NJ hpos hlo]
   dsimp only
   refine .ex Y Y (.an Y ?_)
   exact .mk ((((s[pos]).toNat : Int), pos + 1)) (.inl ⟨Y, Y⟩) O
  obtain ⟨hd1, hd2⟩ := K2 hpos om
  generalize Utf8.decode (bs s) pos = dc at *
  refine .ex Y Y (.an Y ?_)
  exact .mk (((dc.1 : Int), pos + dc.2)) (.inr ⟨by dsimp only; omega, by omega⟩) O
 rintro ⟨r, m⟩ hr
 dsimp only
 dsimp only at hr
 refine .block (.seq (.sr ?_))
 refine' G.joinM (ts := [0, 4, 6, 7, 8]) (t := 16) (φ := (97 ≤ r ∧ r ≤ 122)) (.cons rfl (.cons rfl (.cons rfl (.cons rfl (.cons rfl (.nil)))))) ?w5_0 ?k5_0
 case w5_0 =>
  intro JT JF
  refine .m Y (.ui Y Y Y (.m Y (.dec (t := 13) Y (fun h5_13 => ?_) (fun h5_13 => ?_))))
  ·refine .kDT (t := 12) Y h5_13 (.gr (.m Y (.gr (.ui Y Y Y (.pT Y Y ?_)))))
   exact .midD JT JF O om
  refine .kDF (t := 12) Y h5_13 (.gk (.gk (.pF Y Y ?_)))
  exact JF om O
 refine .an Y (.dec (t := 10) Y (fun h10 => ?_) (fun h10 => ?_))
 ·obtain ⟨rfl, rfl⟩ : m = pos + 1 ∧ r = ((s[pos]).toNat : Int) := by rcases hr with h | h; exact h; omega
  refine .condT Y (.sk (.condT Y (.skip (.blk_n (.blk_n (.then_n ?_))))))
  exact .rk (pos + 1) (⟨by omega, F3 hpos hall (Fr om)⟩) om O
 refine .condF Y (.sr ?_)
 refine' G.joinM (ts := [0, 4, 6, 7, 8, 10, 16]) (t := 22) (φ := (65 ≤ r ∧ r ≤ 90)) (.cons rfl (.cons rfl (.cons rfl (.cons rfl (.cons rfl (.cons rfl (.cons rfl (.nil)))))))) ?w6_0 ?k6_0
 case w6_0 =>
  intro JT JF
  refine .m Y (.ui Y Y Y (.m Y (.dec (t := 19) Y (fun h6_19 => ?_) (fun h6_19 => ?_))))
  ·refine .kDT (t := 18) Y h6_19 (.gr (.m Y (.gr (.ui Y Y Y (.pT Y Y ?_)))))
   exact .midD JT JF O om
  refine .kDF (t := 18) Y h6_19 (.gk (.gk (.pF Y Y ?_)))
  exact JF om O
 refine .an Y (.dec (t := 10) Y (fun h10 => ?_) (fun h10 => ?_))
 ·obtain ⟨rfl, rfl⟩ : m = pos + 1 ∧ r = ((s[pos]).toNat : Int) := by rcases hr with h | h; exact h; omega
  refine .condT Y (.sk (.condT Y (.skip (.blk_n (.blk_n (.then_n ?_))))))
  exact .rk (pos + 1) (⟨by omega, F3 hpos hall (Fr om)⟩) om O
 refine .condF Y (.sr ?_)
 refine' G.joinM (ts := [0, 4, 6, 7, 8, 10, 16, 22]) (t := 28) (φ := (48 ≤ r ∧ r ≤ 57)) (.cons rfl (.cons rfl (.cons rfl (.cons rfl (.cons rfl (.cons rfl (.cons rfl (.cons rfl (.nil))))))))) ?w7_0 ?k7_0
 case w7_0 =>
  intro JT JF
  refine .m Y (.ui Y Y Y (.m Y (.dec (t := 25) Y (fun h7_25 => ?_) (fun h7_25 => ?_))))
  ·refine .kDT (t := 24) Y h7_25 (.gr (.m Y (.gr (.ui Y Y Y (.pT Y Y ?_)))))
   exact .midD JT JF O om
  refine .kDF (t := 24) Y h7_25 (.gk (.gk (.pF Y Y ?_)))
  exact JF om O
 refine .an Y (.dec (t := 10) Y (fun h10 => ?_) (fun h10 => ?_))
 ·obtain ⟨rfl, rfl⟩ : m = pos + 1 ∧ r = ((s[pos]).toNat : Int) := by rcases hr with h | h; exact h; omega
  refine .condT Y (.sk (.condT Y (.skip (.blk_n (.blk_n (.then_n ?_))))))
  exact .rk (pos + 1) (⟨by omega, F3 hpos hall (Fr om)⟩) om O
 refine .condF Y (.sm Y (.ui Y Y Y (.an Y (.dec (t := 10) Y (fun h10 => ?_) (fun h10 => ?_)))))
 ·obtain ⟨rfl, rfl⟩ : m = pos + 1 ∧ r = ((s[pos]).toNat : Int) := by rcases hr with h | h; exact h; omega
  refine .condT Y (.sk (.condT Y (.skip (.blk_n (.blk_n (.then_n ?_))))))
  exact .rk (pos + 1) (⟨by omega, F3 hpos hall (Fr om)⟩) om O
 refine .condF Y (.sm Y (.ui Y Y Y (.an Y (.dec (t := 10) Y (fun h10 => ?_) (fun h10 => ?_)))))
 ·obtain ⟨rfl, rfl⟩ : m = pos + 1 ∧ r = ((s[pos]).toNat : Int) := by rcases hr with h | h; exact h; omega
  refine .condT Y (.sk (.condT Y (.skip (.blk_n (.blk_n (.then_n ?_))))))
  exact .rk (pos + 1) (⟨by omega, F3 hpos hall (Fr om)⟩) om O
 refine .condF Y (.region (.m Y (.ui Y Y Y (.an Y (.dec (t := 10) Y (fun h10 => ?_) (fun h10 => ?_))))))
 ·obtain ⟨rfl, rfl⟩ : m = pos + 1 ∧ r = ((s[pos]).toNat : Int) := by rcases hr with h | h; exact h; omega
  refine .condT Y (.skip (.blk_n (.blk_n (.then_n ?_))))
  exact .rk (pos + 1) (⟨by omega, F3 hpos hall (Fr om)⟩) om O
 refine .condF Y (.sr (.an Y (.ret (.blk_r (.blk_r (.then_r (.blk_r (.then_r ?_))))))))
 have hz : BN s = false := Qe hpos (Sw om)
 rw [hz]
 exact .vv
theorem SK {s : Bs} : ∃ h t, Al s = h :: t := by
 rcases h : Al s with _ | ⟨a, t⟩
 ·exact absurd h (Gs s)
 ·exact ⟨a, t, rfl⟩
theorem EI (s : Bs) (hs : s.length ≤ 1048576) : Fn prog 87 #[AE s] [] fun v L => v = AA (BG s) ∧ L = [] := by
 refine Fn.intro func87 Y Y fun F W => ?_
 obtain ⟨hd, tl, hspl⟩ := SK (s := s)
 have hspn := N4 s
 have hcl : s.count 47 ≤ s.length := count_le_length
 have hln : (Al s).length = tl.length + 1 := by rw [hspl]; rfl
 refine .sr (.an Y (.seq (.sm Y (.u (.streq Y Y) (.nt (.condD Y (fun h7 => ?_) (fun h7 => ?_)))))))
 ·refine .sr (.an Y (.rt ?_))
  have e : BG s = 0 := by unfold BG; rw [if_pos h7]
  rw [e]
  exact .vv
 refine .sk (.sm Y (.oq (.c func168 [_, _] (R6 _ ?hs6)) ?_))
 case hs6 => assumption
 rintro v L' ⟨bb, rfl, rfl⟩
 refine .an Y (.seq (.sm Y (.q (.indexAddr Y Y Dr om) Y (.q (.loadSl (v := AE hd) (i := 0) Y Ak O (by rw [hspl]; rfl)) Y (.u (.strne Y Y) (.m Y (.ndec (t := 14) Y (fun h4_14 => ?_) (fun h4_14 => ?_))))))))
 ·refine .kNT (t := 13) Y h4_14 (.gk (.gk (.gk (.pT Y Y (.nt (.condT Y (.sr (.an Y (.rt ?_)))))))))
  have e : BG s = 40 := by unfold BG; rw [if_neg h7, if_pos (by rw [hspl]; first | exact .inl (by simpa using h4_14) | exact .inr (.inl (by rw [← hspl]; omega)))]
  rw [e]
  exact .vv
 refine .kNF (t := 13) Y h4_14 (.gr (.m Y (.gr (.q (.slen Y underlying38 Y) Y (.gr (.ui Y Y Y (.pF Y Y (.nt (.condD Y (fun h18 => ?_) (fun h18 => ?_))))))))))
 ·refine .sr (.an Y (.rt ?_))
  have e : BG s = 40 := by unfold BG; rw [if_neg h7, if_pos (by rw [hspl]; first | exact .inl (by simpa using h4_14) | exact .inr (.inl (by rw [← hspl]; omega)))]
  rw [e]
  exact .vv
 refine .sk (.seq (.seq ?_))
 have hh0 : hd = [] := by simpa using h4_14
 have hn1 : (Al s).length ≠ 1 := by omega
 refine .region (.m Y (.q (.to (v' := .slice (some ⟨bb, 1, none⟩) tl.length tl.length) (.slSlice (i := 1) (j := ((Al s).length : Int)) Y Dr Y Y om) (by rw [hln, if_neg (show ¬ tl.length + 1 = (1 : Int).toNat by rw [show (1 : Int).toNat = 1 from rfl]; omega)]; simp)) Y (.q (.slen Y underlying38 Y) Y (.m Y (.nt (.block (.loopK (ι := Nat) (fun q E => (22, AA q) :: E) (fun q => []) (fun q => q ≤ tl.length ∧ (tl.take q).all BN = true) (fun q => tl.length - q) (0) (ts := [0, 3, 20, 21]) O (⟨Nat.zero_le _, Y⟩) O O ?_)))))))
 rintro i ⟨hi, hall⟩
 refine .sr (.ui Y Y Y (.nt (.seq (.condD Y (fun h23 => ?_) (fun h23 => ?_)))))
 ·have hi2 : i < tl.length := by omega
  have hname0 := rfl (a := BN tl[i])
  refine .sk (.seq (.block (.sr (.q (.indexAddr Y Y Dr om) Y (.q (.loadRd (sz := 1) (j := i + 1) (p := Af 9 1 (.slice (some ⟨bb, 0, none⟩) (Al s).length (Al s).length) (Al s).length (A6 (Al s))) (v := AE tl[i]) Y Ak O (fun h hp => Aa hp) (by simp; omega) (by rw [hspl]; simp [hi2])) Y (.an Y (.sm Y (.cv func169 [_] (P7 _) ?_))))))))
  refine .u (.not Y) (.nt (.condB Y (fun h28 => ?_) (fun h28 => ?_)))
  ·have hname : BN tl[i] = false := by simpa using h28
   refine .sr (.an Y (.ret (.blk_r (.then_r (.then_r (.blk_r (.then_r ?_)))))))
   have e : BG s = 40 := by unfold BG; rw [if_neg h7, if_pos (.inr (.inr (by rw [hspl, tail_cons, ← Bool.not_eq_true]; intro g; have := all_eq_true.1 g _ (getElem_mem hi2); rw [hname] at this; cases this)))]
   rw [e]
   exact .vv
  have hname : BN tl[i] = true := by simpa using h28
  refine .skip (.blk_n (.then_n (.region (.q (.add Y Y om) Y (.m Y (.nt ?_))))))
  exact .rk (i + 1) (⟨by omega, by rw [take_succ_eq_append_getElem hi2, all_append, hall]; simp [hname]⟩) om O
 have hii : i = tl.length := by omega
 rw [hii, take_length] at hall
 refine .xe (.seq (.sm Y (.q (.strlen Y underlying9 Y) Y (.ui Y Y Y (.m Y (.dec (t := 33) Y (fun h12_33 => ?_) (fun h12_33 => ?_)))))))
 ·refine .kDT (t := 32) Y h12_33 (.gk (.gk (.gk (.gk (.pT Y Y (.nt (.condT Y (.sr (.an Y (.rt ?_))))))))))
  have e : BG s = 41 := by unfold BG; rw [if_neg h7, if_neg (by rw [hspl, List.head?_cons, tail_cons, hall, hh0]; rintro (h | h | h); exact h rfl; rw [← hh0, ← hspl] at h; exact hn1 h; cases h), if_pos (by first | exact .inl om | exact .inr om)]
  rw [e]
  exact .vv
 refine .kDF (t := 32) Y h12_33 (.gr (.m Y (.gr (.q (.slen Y underlying38 Y) Y (.gr (.q (.sub Y Y om) Y (.gr (.ui Y Y Y (.pF Y Y (.nt (.condD Y (fun h38 => ?_) (fun h38 => ?_))))))))))))
 ·refine .sr (.an Y (.rt ?_))
  have e : BG s = 41 := by unfold BG; rw [if_neg h7, if_neg (by rw [hspl, List.head?_cons, tail_cons, hall, hh0]; rintro (h | h | h); exact h rfl; rw [← hh0, ← hspl] at h; exact hn1 h; cases h), if_pos (by first | exact .inl om | exact .inr om)]
  rw [e]
  exact .vv
 refine .sk (.sr (.an Y (.ret ?_)))
 have e : BG s = 0 := by unfold BG; rw [if_neg h7, if_neg (by rw [hspl, List.head?_cons, tail_cons, hall, hh0]; rintro (h | h | h); exact h rfl; rw [← hh0, ← hspl] at h; exact hn1 h; cases h), if_neg (by rintro (h | h) <;> omega)]
 rw [e]
 exact .vv
theorem Nf (s : Bs) (hs : s.length ≤ 1099511627776) : Fn prog 216 #[AE s, .int .u8 47] [] fun v L => v = AA (B8 s) ∧ L = [] := by
 refine Fn.intro func216 Y Y fun F W => ?_
 have hbs := Ba s
 refine .sr (.an Y (.seq (.sm Y (.q (.strlen Y underlying9 Y) Y (.q (.sub Y Y om) Y (.an Y (.block (.loopK (ι := Nat) (fun q E => (5, AA (dnL s.length q)) :: E) (fun q => []) (fun q => q ≤ s.length ∧ CI s (s.length - q) = B8 s) (fun q => s.length - q) (0) (ts := [0, 1]) O (⟨Nat.zero_le _, Y⟩) O O ?_))))))))
 rintro k ⟨hk, hl⟩
 have hdn := V2 s.length k
 refine .seq (.sm Y (.ui Y Y Y (.nt (.condD Y (fun h10 => ?_) (fun h10 => ?_)))))
 ·have hk2 : k < s.length := by omega
  have hat : s[s.length - (k + 1)] = s.getD (s.length - (k + 1)) 0 := by rw [getD_eq_getElem?_getD, List.getElem?_eq_getElem om, Option.getD_some]
  refine .sk (.seq (.block (.sm Y (.m Y (.q (.strIndex (c := s[s.length - (k + 1)]) Y Y underlying9 om (by rw [show (dnL s.length k).toNat = s.length - (k + 1) by omega]; simp [show s.length - (k + 1) < s.length by omega])) Y (.m Y (.ui Y Y Y (.nt (.condD Y (fun h17 => ?_) (fun h17 => ?_))))))))))
  ·have he : s.getD (s.length - (k + 1)) 0 = 47 := by rw [← hat]; exact Lm h17
   refine .sm Y (.an Y (.ret (.blk_r (.then_r (.then_r (.blk_r (.then_r ?_)))))))
   exact .dn Y Y ⟨by rw [← hl, show s.length - k = (s.length - (k + 1)) + 1 by omega, CI, if_pos he, hdn]; congr 1; omega, rfl⟩
  have hne : ¬ s.getD (s.length - (k + 1)) 0 = 47 := by rw [← hat]; exact fun e => h17 (by rw [e]; rfl)
  refine .skip (.blk_n (.then_n (.region (.m Y (.q (.sub Y Y om) Y (.an Y ?_))))))
  exact .rk (k + 1) (⟨by omega, by rw [← hl, show s.length - k = (s.length - (k + 1)) + 1 by omega, CI, if_neg hne]⟩) om O
 refine .xe (.sr (.an Y (.ret ?_)))
 exact .dn Y Y ⟨by rw [← hl, show s.length - k = 0 by omega]; rfl, rfl⟩
theorem KA (s : Bs) (hs : s.length ≤ 1099511627776) : Fn prog 141 #[AE s, .int .u8 47] [] fun v L => v = AA (B8 s) ∧ L = [] := by
 refine Fn.intro func141 Y Y fun F W => ?_
 refine .sr (.an Y (.sm Y (.m Y (.oq (.c func216 [_, _] (Nf _ ?hs4)) ?_))))
 case hs4 => assumption
 rintro v L' ⟨rfl, rfl⟩
 refine .an Y (.ret ?_)
 exact .vv
theorem De (s : Bs) (hs : s.length ≤ 1099511627776) : Fn prog 81 #[AE s] [] fun v L => v = AE (AL s) ∧ L = [] := by
 refine Fn.intro func81 Y Y fun F W => ?_
 have hr := EG s
 refine .sr (.an Y (.sm Y (.oq (.c func141 [_, _] (KA _ ?hs3)) ?_)))
 case hs3 => assumption
 rintro v L' ⟨rfl, rfl⟩
 refine .an Y (.block (.sm Y (.ui Y Y Y (.m Y (.dec (t := 12) Y (fun h3_12 => ?_) (fun h3_12 => ?_))))))
 ·refine .kDT (t := 11) Y h3_12 (.gk (.gk (.pT Y Y (.an Y (.condT Y (.sr (.an Y (.ret (.blk_r ?_)))))))))
  exact .dn Y Y ⟨by unfold AL; rw [if_pos (by first | exact .inl om | exact .inr (by assumption))], rfl⟩
 refine .kDF (t := 11) Y h3_12 (.gr (.m Y (.gr (.u (.streq Y Y) (.pF Y Y (.an Y (.dec (t := 9) Y (fun h9 => ?_) (fun h9 => ?_))))))))
 ·refine .condT Y (.sr (.an Y (.ret (.blk_r ?_))))
  exact .dn Y Y ⟨by unfold AL; rw [if_pos (by first | exact .inl om | exact .inr (by assumption))], rfl⟩
 refine .condF Y (.sm Y (.ui Y Y Y (.an Y (.condD Y (fun h16 => ?_) (fun h16 => ?_)))))
 ·refine .sr (.an Y (.ret (.blk_r ?_)))
  exact .dn Y Y ⟨by unfold AL; rw [if_neg (by rintro (g | g); omega; exact absurd g h9), if_pos h16], rfl⟩
 refine .sm Y (.m Y (.q (.strTo Y Y underlying9 om) Y (.an Y (.ret (.blk_r ?_)))))
 exact .dn Y Y ⟨by unfold AL; rw [if_neg (by rintro (g | g); omega; exact absurd g h9), if_neg h16], rfl⟩
theorem Vs (s : Bs) (hs : s.length ≤ 1099511627776) : Fn prog 211 #[AE s] [] fun v L => v = AE (C8 s) ∧ L = [] := by
 refine Fn.intro func211 Y Y fun F W => ?_
 have hr := EG s
 refine .sr (.an Y (.sm Y (.m Y (.oq (.c func141 [_, _] (KA _ ?hs4)) ?_))))
 case hs4 => assumption
 rintro v L' ⟨rfl, rfl⟩
 refine .q (.add Y Y om) Y (.q (.strFrom Y Y underlying9 om) Y (.an Y (.ret ?_)))
 exact .vv
theorem LW (s q : Bs) : Fn prog 228 #[AE s, AE q] [] fun v L => v = .bool (decide (pfx q s)) ∧ L = [] := by
 refine Fn.intro func228 Y Y fun F W => ?_
 have h1 := Ba s
 have h2 := Ba q
 refine .sr (.an Y (.sm Y (.q (.strlen Y underlying9 Y) Y (.m Y (.q (.strlen Y underlying9 Y) Y (.ui Y Y Y (.m Y (.dec (t := 10) Y (fun h1_10 => ?_) (fun h1_10 => ?_)))))))))
 ·refine .kDT (t := 9) Y h1_10 (.gr (.m Y (.gr (.m Y (.gr (.q (.strlen Y underlying9 Y) Y (.gr (.q (.to (v' := AE (s.take q.length)) (.strTo Y Y underlying9 om) (by rw [Int.toNat_natCast])) Y (.gr (.m Y (.gr (.u (.streq Y Y) (.pT Y Y (.an Y (.ret ?_)))))))))))))))
  exact .vv
 refine .kDF (t := 9) Y h1_10 (.gk (.gk (.gk (.gk (.gk (.gk (.pF Y Y (.an Y (.ret ?_)))))))))
 exact .dn Y Y ⟨by rw [decide_eq_false (fun e => by unfold pfx at e; have := congrArg List.length e; rw [length_take] at this; omega)], rfl⟩
theorem Mb (s q : Bs) : Fn prog 175 #[AE s, AE q] [] fun v L => v = .bool (decide (pfx q s)) ∧ L = [] := by
 refine Fn.intro func175 Y Y fun F W => ?_
 refine .sr (.an Y (.sm Y (.m Y (.cv func228 [_, _] (LW _ _) ?_))))
 refine .an Y (.ret ?_)
 exact .vv
theorem LP (s q : Bs) (hs : s.length ≤ 1099511627776) (hq : q.length ≤ 1099511627776) : Fn prog 295 #[AE s, AE q] [] fun v L => v = .bool (decide (sfx q s)) ∧ L = [] := by
 refine Fn.intro func295 Y Y fun F W => ?_
 have h1 := Ba s
 have h2 := Ba q
 refine .sr (.an Y (.sm Y (.q (.strlen Y underlying9 Y) Y (.m Y (.q (.strlen Y underlying9 Y) Y (.ui Y Y Y (.m Y (.dec (t := 10) Y (fun h1_10 => ?_) (fun h1_10 => ?_)))))))))
 ·refine .kDT (t := 9) Y h1_10 (.gr (.m Y (.gr (.m Y (.gr (.q (.strlen Y underlying9 Y) Y (.gr (.m Y (.gr (.q (.strlen Y underlying9 Y) Y (.gr (.q (.sub Y Y om) Y (.gr (.q (.to (v' := AE (s.drop (s.length - q.length))) (.strFrom Y Y underlying9 om) (by rw [show ((s.length : Int) - (q.length : Int)).toNat = s.length - q.length by omega])) Y (.gr (.m Y (.gr (.u (.streq Y Y) (.pT Y Y (.an Y (.ret ?_)))))))))))))))))))))
  exact .dn Y Y ⟨by congr 1; exact decide_eq_decide.2 ⟨fun e => ⟨by omega, e⟩, fun e => e.2⟩, rfl⟩
 refine .kDF (t := 9) Y h1_10 (.gk (.gk (.gk (.gk (.gk (.gk (.gk (.gk (.gk (.pF Y Y (.an Y (.ret ?_))))))))))))
 exact .dn Y Y ⟨by rw [decide_eq_false (fun e => by have := e.1; omega)], rfl⟩
theorem Ko (s q : Bs) (hs : s.length ≤ 1099511627776) (hq : q.length ≤ 1099511627776) : Fn prog 285 #[AE s, AE q] [] fun v L => v = AE (HW s q) ∧ L = [] := by
 refine Fn.intro func285 Y Y fun F W => ?_
 have h1 := Ba s
 have h2 := Ba q
 refine .sr (.an Y (.seq (.sm Y (.m Y (.oq (.c func295 [_, _] (LP _ _ ?hs4 ?hq5)) ?_)))))
 case hs4 => assumption
 case hq5 => assumption
 rintro v L' ⟨rfl, rfl⟩
 refine .nt (.condD Y (fun h7 => ?_) (fun h7 => ?_))
 ·have hsf := h7.1
  refine .sm Y (.m Y (.q (.strlen Y underlying9 Y) Y (.m Y (.q (.strlen Y underlying9 Y) Y (.q (.sub Y Y om) Y (.q (.to (v' := AE (HW s q)) (.strTo Y Y underlying9 om) (by unfold HW; rw [if_pos h7, show ((s.length : Int) - (q.length : Int)).toNat = s.length - q.length by omega])) Y (.an Y (.rt ?_))))))))
  exact .vv
 refine .sk (.sm Y (.an Y (.ret ?_)))
 exact .dn Y Y ⟨by unfold HW; rw [if_neg h7], rfl⟩
theorem LY (s q : Bs) (hs : s.length ≤ 1099511627776) (hq : q.length ≤ 1099511627776) : Fn prog 264 #[AE s, AE q] [] fun v L => v = AE (HW s q) ∧ L = [] := by
 refine Fn.intro func264 Y Y fun F W => ?_
 refine .sr (.an Y (.sm Y (.m Y (.oq (.c func285 [_, _] (Ko _ _ ?hs4 ?hq5)) ?_))))
 case hs4 => assumption
 case hq5 => assumption
 rintro v L' ⟨rfl, rfl⟩
 refine .an Y (.ret ?_)
 exact .vv
theorem O0 (s : Bs) : Fn prog 265 #[AE s] [] fun v L => v = AE (if s = [47] then [47] else []) ∧ L = [] := by
 refine Fn.intro func265 Y Y fun F W => ?_
 refine .sr (.an Y (.seq (.sm Y (.u (.streq Y Y) (.nt (.condD Y (fun h4 => ?_) (fun h4 => ?_)))))))
 ·refine .sr (.an Y (.rt ?_))
  exact .dn Y Y ⟨by rw [if_pos h4], rfl⟩
 refine .sk (.sr (.an Y (.ret ?_)))
 exact .dn Y Y ⟨by rw [if_neg h4], rfl⟩
theorem XI (s name : Bs) (hs : s.length ≤ 1099511627776) (hn : name.length ≤ 1099511627776) : Fn prog 244 #[AE s, AE name] [] fun v L => v = AE (Fe s name) ∧ L = [] := by
 refine Fn.intro func244 Y Y fun F W => ?_
 have htl : (HW s (if s = [47] then [47] else [])).length ≤ s.length := Xc _ _
 refine .sr (.an Y (.sm Y (.m Y (.cv func265 [_] (O0 _) ?_))))
 refine .oq (.c func264 [_, _] (LY _ _ ?hs6 ?hq7)) ?_
 case hs6 => assumption
 case hq7 => first | assumption | (split <;> simp) | simp
 rintro v L' ⟨rfl, rfl⟩
 refine .q (.concat Y Y (by simp; omega)) Y (.m Y (.q (.concat Y Y (by simp; omega)) Y (.an Y (.ret ?_))))
 exact .dn Y Y ⟨by rw [XN], rfl⟩
theorem MU (s q : Bs) (hq : q.length ≤ 1099511627776) : Fn prog 210 #[AE s, AE q] [] fun v L => v = .bool (decide (JC s q)) ∧ L = [] := by
 refine Fn.intro func210 Y Y fun F W => ?_
 refine .sr (.an Y (.sm Y (.oq (.c func244 [_, _] (XI _ _ ?hs3 ?hn4)) ?_)))
 case hs3 => first | assumption | omega
 case hn4 => first | assumption | omega | simp
 rintro v L' ⟨rfl, rfl⟩
 refine .an Y (.sm Y (.m Y (.cv func175 [_, _] (Mb _ _) ?_)))
 refine .m Y (.dec (t := 11) Y (fun h2_11 => ?_) (fun h2_11 => ?_))
 ·refine .kDT (t := 10) Y h2_11 (.gr (.m Y (.gr (.m Y (.gr (.u (.strne Y Y) (.pT Y Y (.an Y (.ret ?_)))))))))
  exact .dn Y Y ⟨by rw [← decide_not]; congr 1; exact decide_eq_decide.2 ⟨fun e => ⟨h2_11, e⟩, fun e => e.2⟩, rfl⟩
 refine .kDF (t := 10) Y h2_11 (.gk (.gk (.gk (.pF Y Y (.an Y (.ret ?_))))))
 exact .dn Y Y ⟨by rw [decide_eq_false (fun e => h2_11 e.1)], rfl⟩
end Go.Proofs.YtmbnebafdhpgpaaGreatDoor
/-
 DERIVED: THE SHELF's CONTRACTS AT THIS DUMP, IN PLAIN WORDS (tools/lay-plain.mjs out of 'YtmbnebafdhpgpaaGreatDoorLayS.lean', which tools/lay-shelf.mjs wrote): THE SAME DECLARATIONS UNDER THE SAME NAMES: 'import', 'namespace', 'open', 'def', 'theorem' AND NOTHING ELSE: no command of the shelf's: FOR A HAND-IN. Each laying: the table of numbers ('.._ren') and one theorem, a field a fact of the dump's own or the kernel's comparison; each Fy: ONE APPLICATION.
-/
namespace Go.Proofs
open Go List Go.Proofs.Tryz Go.Shelf
def Tryz.keysS_ren : Go.Shelf.Ren := ⟨fun | 7 => 215 | 10 => 247 | n => n, fun | 23 => 110 | 26 => 9 | 3 => 107 | 28 => 273 | 0 => 0 | 27 => 272 | 33 => 179 | 4 => 4 | n => n, fun | n => n⟩
theorem Tryz.keysS : Go.Proofs.SlLaysZ.n7 prog Tryz.keysS_ren := {
 mixed := by kernel_rfl
 f7 := ⟨f215.name, by decide, func215.trans (congrArg some (by kernel_rfl))⟩
 f10 := ⟨f247.name, by decide, func247.trans (congrArg some (by kernel_rfl))⟩
 t0 := underlying0
 a0 := Tryz.isAgg0
 z0 := Tryz.sizeOf0
 v0 := Tryz.zeroValue0
 t4 := underlying4
 a4 := Tryz.isAgg4
 z4 := Tryz.sizeOf4
 v4 := Tryz.zeroValue4
 t23 := underlying110
 a23 := Tryz.isAgg110
 z23 := Tryz.sizeOf110
 v23 := Tryz.zeroValue110
 t26 := underlying9
 a26 := Tryz.isAgg9
 z26 := Tryz.sizeOf9
 v26 := Tryz.zeroValue9
 t27 := underlying272
 a27 := Tryz.isAgg272
 z27 := Tryz.sizeOf272
 v27 := Tryz.zeroValue272
 t28 := underlying273
 a28 := Tryz.isAgg273
 z28 := Tryz.sizeOf273
 v28 := Tryz.zeroValue273
 t33 := underlying179
 a33 := Tryz.isAgg179
 z33 := Tryz.sizeOf179
 v33 := Tryz.zeroValue179 }
def Tryz.sortedS_ren : Go.Shelf.Ren := ⟨fun | 6 => 214 | 8 => 246 | 9 => 212 | 11 => 275 | 13 => 131 | 12 => 245 | 23 => 206 | 24 => 207 | 14 => 266 | 15 => 267 | 16 => 268 | 17 => 269 | 18 => 270 | 19 => 271 | 20 => 272 | 21 => 273 | 22 => 274 | 25 => 286 | 26 => 239 | 27 => 240 | 28 => 287 | 29 => 288 | 30 => 289 | 31 => 296 | n => n, fun | 26 => 9 | 28 => 273 | 24 => 38 | 0 => 0 | 3 => 3 | 37 => 160 | 48 => 219 | 50 => 180 | 4 => 4 | 40 => 259 | 39 => 258 | 45 => 264 | 5 => 5 | 9 => 9 | 51 => 293 | 55 => 204 | 57 => 311 | 58 => 312 | 33 => 179 | n => n, fun | n => n⟩
theorem Tryz.sortedS : Go.Proofs.SlLaysZ.n6 prog Tryz.sortedS_ren := {
 mixed := by kernel_rfl
 f6 := ⟨f214.name, by decide, func214.trans (congrArg some (by kernel_rfl))⟩
 f8 := ⟨f246.name, by decide, func246.trans (congrArg some (by kernel_rfl))⟩
 f11 := ⟨f275.name, by decide, func275.trans (congrArg some (by kernel_rfl))⟩
 t0 := underlying0
 a0 := Tryz.isAgg0
 z0 := Tryz.sizeOf0
 v0 := Tryz.zeroValue0
 t24 := underlying38
 a24 := Tryz.isAgg38
 z24 := Tryz.sizeOf38
 v24 := Tryz.zeroValue38
 t26 := underlying9
 a26 := Tryz.isAgg9
 z26 := Tryz.sizeOf9
 v26 := Tryz.zeroValue9
 t28 := underlying273
 a28 := Tryz.isAgg273
 z28 := Tryz.sizeOf273
 v28 := Tryz.zeroValue273
 i26 := by kernel_rfl }
def Tryz.sortS_ren : Go.Shelf.Ren := ⟨fun | 6 => 212 | 8 => 131 | 9 => 245 | 19 => 206 | 20 => 207 | 21 => 266 | 22 => 267 | 23 => 268 | 24 => 269 | 25 => 270 | 26 => 271 | 27 => 272 | 28 => 273 | 29 => 274 | 36 => 286 | 31 => 239 | 32 => 240 | 37 => 287 | 38 => 288 | 39 => 289 | 41 => 296 | n => n, fun | 27 => 38 | 29 => 9 | 3 => 3 | 32 => 160 | 26 => 38 | 0 => 0 | 44 => 219 | 46 => 180 | 4 => 4 | 36 => 259 | 35 => 258 | 41 => 264 | 5 => 5 | 9 => 9 | 53 => 293 | 57 => 204 | 63 => 311 | 64 => 312 | n => n, fun | n => n⟩
theorem Tryz.sortS : Go.Proofs.SlLaysM.n6 prog Tryz.sortS_ren := {
 mixed := by kernel_rfl
 f6 := ⟨f212.name, by decide, func212.trans (congrArg some (by kernel_rfl))⟩
 f8 := func131.trans (congrArg some (by kernel_rfl))
 f9 := ⟨f245.name, by decide, func245.trans (congrArg some (by kernel_rfl))⟩
 f19 := func206.trans (congrArg some (by kernel_rfl))
 f20 := func207.trans (congrArg some (by kernel_rfl))
 f21 := ⟨f266.name, by decide, func266.trans (congrArg some (by kernel_rfl))⟩
 f22 := ⟨f267.name, by decide, func267.trans (congrArg some (by kernel_rfl))⟩
 f23 := ⟨f268.name, by decide, func268.trans (congrArg some (by kernel_rfl))⟩
 f24 := ⟨f269.name, by decide, func269.trans (congrArg some (by kernel_rfl))⟩
 f25 := ⟨f270.name, by decide, func270.trans (congrArg some (by kernel_rfl))⟩
 f26 := ⟨f271.name, by decide, func271.trans (congrArg some (by kernel_rfl))⟩
 f27 := ⟨f272.name, by decide, func272.trans (congrArg some (by kernel_rfl))⟩
 f28 := ⟨f273.name, by decide, func273.trans (congrArg some (by kernel_rfl))⟩
 f29 := ⟨f274.name, by decide, func274.trans (congrArg some (by kernel_rfl))⟩
 f31 := func239.trans (congrArg some (by kernel_rfl))
 f32 := func240.trans (congrArg some (by kernel_rfl))
 f36 := ⟨f286.name, by decide, func286.trans (congrArg some (by kernel_rfl))⟩
 f37 := ⟨f287.name, by decide, func287.trans (congrArg some (by kernel_rfl))⟩
 f38 := ⟨f288.name, by decide, func288.trans (congrArg some (by kernel_rfl))⟩
 f39 := ⟨f289.name, by decide, func289.trans (congrArg some (by kernel_rfl))⟩
 f41 := ⟨f296.name, by decide, func296.trans (congrArg some (by kernel_rfl))⟩
 t0 := underlying0
 a0 := Tryz.isAgg0
 z0 := Tryz.sizeOf0
 v0 := Tryz.zeroValue0
 t3 := underlying3
 a3 := Tryz.isAgg3
 z3 := Tryz.sizeOf3
 v3 := Tryz.zeroValue3
 t4 := underlying4
 a4 := Tryz.isAgg4
 z4 := Tryz.sizeOf4
 v4 := Tryz.zeroValue4
 t5 := underlying5
 a5 := Tryz.isAgg5
 z5 := Tryz.sizeOf5
 v5 := Tryz.zeroValue5
 t9 := underlying9
 a9 := Tryz.isAgg9
 z9 := Tryz.sizeOf9
 v9 := Tryz.zeroValue9
 t26 := underlying38
 a26 := Tryz.isAgg38
 z26 := Tryz.sizeOf38
 v26 := Tryz.zeroValue38
 t27 := underlying38
 a27 := Tryz.isAgg38
 z27 := Tryz.sizeOf38
 v27 := Tryz.zeroValue38
 t29 := underlying9
 a29 := Tryz.isAgg9
 z29 := Tryz.sizeOf9
 v29 := Tryz.zeroValue9
 t32 := underlying160
 a32 := Tryz.isAgg160
 z32 := Tryz.sizeOf160
 v32 := Tryz.zeroValue160
 t35 := underlying258
 a35 := Tryz.isAgg258
 z35 := Tryz.sizeOf258
 v35 := Tryz.zeroValue258
 t36 := underlying259
 a36 := Tryz.isAgg259
 z36 := Tryz.sizeOf259
 v36 := Tryz.zeroValue259
 t41 := underlying264
 a41 := Tryz.isAgg264
 z41 := Tryz.sizeOf264
 v41 := Tryz.zeroValue264
 t44 := underlying219
 a44 := Tryz.isAgg219
 z44 := Tryz.sizeOf219
 v44 := Tryz.zeroValue219
 t46 := underlying180
 a46 := Tryz.isAgg180
 z46 := Tryz.sizeOf180
 v46 := Tryz.zeroValue180
 t53 := underlying293
 a53 := Tryz.isAgg293
 z53 := Tryz.sizeOf293
 v53 := Tryz.zeroValue293
 t57 := underlying204
 a57 := Tryz.isAgg204
 z57 := Tryz.sizeOf204
 v57 := Tryz.zeroValue204
 t63 := underlying311
 a63 := Tryz.isAgg311
 z63 := Tryz.sizeOf311
 v63 := Tryz.zeroValue311
 t64 := underlying312
 a64 := Tryz.isAgg312
 z64 := Tryz.sizeOf312
 v64 := Tryz.zeroValue312 }
end Go.Proofs
namespace Go.Proofs.YtmbnebafdhpgpaaGreatDoor
open Go List Go.Proofs.Tryz 
section
variable {P : Program} {E : Bx} {L R : List HP} {ty : TypeId} {w : World}
theorem AK.shl {t t' : TypeId} {x y : Operand} {k yk : IntKind} {a b : Int} (hx : ev E x = some (.int k a)) (hy : ev E y = some (.int yk b)) (hb : 0 ≤ b) :
  AK P ⟨none, .binOp .shl t x y t', ty, "", #[], none⟩ E L (.int k (k.wrap (a * 2 ^ min b.toNat k.bits))) := by
 intro ρ w ha _
 have hb' : ¬ b < 0 := by omega
 simp [execOp, ha x _ hx, ha y _ hy, eqGuard, binOp, Op.shift, Bind.bind, Sem.bind, Pure.pure, Sem.run, hb']
theorem AK.shr {t t' : TypeId} {x y : Operand} {k yk : IntKind} {a b : Int} (hx : ev E x = some (.int k a)) (hy : ev E y = some (.int yk b)) (hb : 0 ≤ b) :
  AK P ⟨none, .binOp .shr t x y t', ty, "", #[], none⟩ E L (.int k (a.fdiv (2 ^ min b.toNat k.bits))) := by
 intro ρ w ha _
 have hb' : ¬ b < 0 := by omega
 simp [execOp, ha x _ hx, ha y _ hy, eqGuard, binOp, Op.shift, Bind.bind, Sem.bind, Pure.pure, Sem.run, hb']
theorem AK.or {t t' : TypeId} {x y : Operand} {k : IntKind} {a b : Int} (hx : ev E x = some (.int k a)) (hy : ev E y = some (.int k b)) :
  AK P ⟨none, .binOp .or t x y t', ty, "", #[], none⟩ E L (.int k (k.wrap (BitVec.ofInt k.bits a ||| BitVec.ofInt k.bits b).toNat)) := by
 intro ρ w ha _
 simp [execOp, ha x _ hx, ha y _ hy, eqGuard, binOp, Op.intBits, Bind.bind, Sem.bind, Pure.pure, Sem.run]
theorem AK.xor {t t' : TypeId} {x y : Operand} {k : IntKind} {a b : Int} (hx : ev E x = some (.int k a)) (hy : ev E y = some (.int k b)) :
  AK P ⟨none, .binOp .xor t x y t', ty, "", #[], none⟩ E L (.int k (k.wrap (BitVec.ofInt k.bits a ^^^ BitVec.ofInt k.bits b).toNat)) := by
 intro ρ w ha _
 simp [execOp, ha x _ hx, ha y _ hy, eqGuard, binOp, Op.intBits, Bind.bind, Sem.bind, Pure.pure, Sem.run]
theorem AK.and {t t' : TypeId} {x y : Operand} {k : IntKind} {a b : Int} (hx : ev E x = some (.int k a)) (hy : ev E y = some (.int k b)) :
  AK P ⟨none, .binOp .and t x y t', ty, "", #[], none⟩ E L (.int k (k.wrap (BitVec.ofInt k.bits a &&& BitVec.ofInt k.bits b).toNat)) := by
 intro ρ w ha _
 simp [execOp, ha x _ hx, ha y _ hy, eqGuard, binOp, Op.intBits, Bind.bind, Sem.bind, Pure.pure, Sem.run]
theorem LZ {t e : TypeId} {a : Option Addr} {n c : Nat} (ht : P.underlying t = some (.slice e)) : (Op.equal t (.slice a n c) (.slice none 0 0)).run P w = .ok a.isNone w := by
 unfold Op.equal
 rw [show Op.maxDepth = 9999 + 1 from rfl]
 generalize 9999 = d
 unfold Op.equalIn
 rw [run_bind (AN ht)]; cases a <;> rfl
theorem AK.sleq {t t' e : TypeId} {x y : Operand} {a : Option Addr} {n c : Nat} (hx : ev E x = some (.slice a n c)) (hy : ev E y = some (.slice none 0 0)) (ht : P.underlying t = some (.slice e)) : AK P ⟨none, .binOp .eql t x y t', ty, "", #[], none⟩ E L (.bool a.isNone) :=
 fun _ _ ha _ => L4 (ha x _ hx) (ha y _ hy) rfl rfl (LZ ht)
end
theorem Xh (x : Int) : IntKind.i64.wrap x = (x + 9223372036854775808) % 18446744073709551616 - 9223372036854775808 := by rw [IntKind.wrap_i64]
theorem ON (l : List Ac) : ∀ y ∈ l.flatMap CO, AB y = true := by
 intro y hy
 obtain ⟨a, -, h⟩ := mem_flatMap.1 hy
 simp only [CO, mem_cons, not_mem_nil, or_false] at h
 rcases h with rfl | rfl <;> rfl
theorem IF (d : Bs) (ad : Option Addr) (n c : Nat) (s0 s1 s2 s3 s4 s5 s6 s7 s8 : Value) : Instr.fill (fun i => [(0, 1), (1, 1), (2, 9)].toArray[i]?) ([.string (bs []), .slice none 0 0, .int .i64 0, .int .i64 0, .int .i64 0, .int .i64 0, .int .i64 0, .int .i64 0, .int .i64 0, .int .i64 0, .int .i64 0] : List Value).toArray [(0, AE d), (1, .slice ad n c), (2, .agg ([s0, s1, s2, s3, s4, s5, s6, s7, s8] : List Value).toArray)] = some (([AE d, .slice ad n c] ++ [s0, s1, s2, s3, s4, s5, s6, s7, s8] : List Value).toArray) := by kernel_rfl
structure W8 (p : HP) (x : Pt) : Prop where
 acl : ∀ h : Hp, p h → Cx 2 h x.aclV x.acl.length (x.acl.flatMap CO)
 few : x.acl.length ≤ 1048576
 plen : x.path.length ≤ 1048576
 subs : AB x.subsV = true
 cell : AB x.aclV = true
theorem W8.all {p : HP} {x : Pt} (h : W8 p x) : ∀ v ∈ A1 x, AB v = true := by
 intro v hv
 simp only [A1, mem_cons, not_mem_nil, or_false] at hv
 rcases hv with rfl | rfl | rfl | rfl | rfl | rfl | rfl | rfl
 ·rfl
 ·rfl
 ·rfl
 ·exact h.cell
 ·rfl
 ·rfl
 ·rfl
 ·exact h.subs
structure TxA (p : HP) (x : Pt) (subs : List Pt) : Prop where
 own : W8 p x
 rd : ∀ h : Hp, p h → Cx 8 h x.subsV subs.length (subs.flatMap A1)
 few : subs.length ≤ 1048576
 each : ∀ y ∈ subs, W8 p y
theorem IL (l : List Ev) : ∀ y ∈ l.flatMap BV, AB y = true := by
 intro y hy
 obtain ⟨a, -, h⟩ := mem_flatMap.1 hy
 simp only [BV, mem_cons, not_mem_nil, or_false] at h
 rcases h with rfl | rfl | rfl <;> rfl
theorem CK (v : Value) (xs : List Ac) (p : HP) (hp : ∀ h : Hp, p h → Cx 2 h v xs.length (xs.flatMap CO)) (hn : xs.length ≤ 1048576) : Fn prog 134 #[v] [p] fun u L => (∃ a c, u = .slice a xs.length c) ∧ L = [p, Af 75 2 u xs.length (xs.flatMap CO)] := by
 refine Fn.intro func134 Y Y fun F W => ?_
 refine .rdAny (p := p) hp O fun a c e0 hl => ?_
 subst e0
 refine .sr (.an Y (.seq (.sm Y (.q (.sleq Y Y underlying30) Y (.nt (.condB Y (fun h4 => ?_) (fun h4 => ?_)))))))
 ·have ha : a = none := by simpa using h4
  subst ha
  refine .rdNil (p := p) hp O fun hx0 => ?_
  have hxs : xs = [] := eq_nil_of_length_eq_zero hx0
  subst hxs
  refine .add (AO 75 2) (.sr (.an Y (.rt ?_)))
  exact .dn Y Y ⟨⟨_, _, Y⟩, Y⟩
 refine .sk (.sr (.oq (.buildSlice (vs := []) Gw Fv Y Y Y Y cQ dQ) ?_))
 rintro v L' ⟨b0, rfl, rfl⟩
 refine .m Y (.slMakeN 2 0 (b := b0) (xs := ([] : List Ac).flatMap CO) O Y Y (.oq (.append (n := 0) (m := xs.length) (ys := xs.flatMap CO) (p := p) Y Y Y Gw (.inl ⟨_, underlying30⟩) Fv Y Y ?hc8 hp ?hb9 dQ) ?_))
 case hc8 => exact ON _
 case hb9 => omega
 rintro v L' ⟨⟨a3, c3, rfl⟩, rfl⟩; rw [Nat.zero_add, show ([] : List Ac).flatMap CO ++ xs.flatMap CO = xs.flatMap CO from rfl]
 refine .an Y (.ret ?_)
 exact .dn Y Y ⟨⟨_, _, Y⟩, Y⟩
theorem Nt (p : Bs) (hs : p.length ≤ 1048576) : Fn prog 208 #[AE p] [] fun v L => v = .bool (decide (Cn p)) ∧ L = [] := by
 refine Fn.intro func208 Y Y fun F W => ?_
 refine .sr (.an Y (.sm Y (.u (.strne Y Y) (.m Y (.ndec (t := 5) Y (fun h1_5 => ?_) (fun h1_5 => ?_))))))
 ·refine .kNT (t := 4) Y h1_5 (.gr (.m Y (.gr (.cv func87 [_] (EI p hs) ?_))))
  refine .gr (.ui Y Y Y (.pT Y Y (.an Y (.ret ?_))))
  exact .dn Y Y ⟨congrArg Value.bool (decide_eq_decide.2 ⟨fun e => ⟨h1_5, e⟩, fun e => e.2⟩), Y⟩
 refine .kNF (t := 4) Y h1_5 (.gk (.gk (.gk (.pF Y Y (.an Y (.ret ?_))))))
 exact .dn Y Y ⟨by rw [decide_eq_false (fun e => e.1 h1_5)], rfl⟩
theorem TK : Fn prog 20 #[] [] fun v L => ∃ t, v = AI t ∧ L = [AZ t Du] := by
 refine Fn.intro func20 Y Y fun F W => ?_
 refine .sr (.an Y (.sr (.oq (.makeMap underlying110) ?_)))
 rintro v L' ⟨rn, rfl, rfl⟩
 refine .q (.build (us := [(0, _), (1, _)]) UA Fv Y Y (by simp [AB])) Y (.oq (.buildSlice (vs := [_]) Gw Fv Y Y Y Y cQ dQ) ?_)
 rintro v L' ⟨ba, rfl, rfl⟩
 refine .q (.buildN (pl := [(0, 1), (1, 1), (2, 9)]) (us := [(1, .slice (some ⟨ba, 0, none⟩) 1 1)]) (cells := Q2 (.slice (some ⟨ba, 0, none⟩) 1 1) ⟨[], [(31, [119, 111, 114, 108, 100])], st0⟩) underlying109 kQ M7 Y Y) Y (.oq (.box Y) ?_)
 rintro v L' ⟨tn, rfl, rfl⟩
 refine .fold (p := mapR rn []) (.cons (p := pt rn (.map #[] 0)) O .nil) (fun h hp => Eo (F6 hp)) (.oq (.mapInsert (m := ([] : Gu)) (enc := G2) (v := (tn, (.slice (some ⟨ba, 0, none⟩) 1 1, ⟨[], [(31, [119, 111, 114, 108, 100])], st0⟩))) (k := [47]) (AV.str underlying9) Y Y Y underlying110 ?he10) ?_)
 case he10 => rfl
 rintro v L' rfl
 refine .m Y (.oq (.makeMap underlying111) ?_)
 rintro v L' ⟨rs, rfl, rfl⟩
 refine .q (.build (us := [(0, _), (1, _)]) SS Sv Y Y (by simp [AB])) Y (.oq (.box Y) ?_)
 rintro v L' ⟨t, rfl, rfl⟩
 refine .an Y (.ret (.fold (p := mapR rs []) (.cons (p := pt rs (.map #[] 0)) O .nil) (fun h hp => Eo (F6 hp)) (.slMakeN 2 1 (b := ba) (xs := ([(31, [119, 111, 114, 108, 100])] : List Ac).flatMap CO) O Y Y (.toRd (m := 1) O (.ndFold (x := (([47] : Bs), ((tn, (.slice (some ⟨ba, 0, none⟩) 1 1, ⟨[], [(31, [119, 111, 114, 108, 100])], st0⟩)) : Nm))) O Y Y Y Y (.fold (p := Ag Is [(([47] : Bs), ((tn, (.slice (some ⟨ba, 0, none⟩) 1 1, ⟨[], [(31, [119, 111, 114, 108, 100])], st0⟩)) : Nm))]) (.cons (p := Is (([47] : Bs), ((tn, (.slice (some ⟨ba, 0, none⟩) 1 1, ⟨[], [(31, [119, 111, 114, 108, 100])], st0⟩)) : Nm))) O .nil) (fun h hp => hp) ?_))))))
 have hI : Et Du [(([47] : Bs), ((tn, (.slice (some ⟨ba, 0, none⟩) 1 1, ⟨[], [(31, [119, 111, 114, 108, 100])], st0⟩)) : Nm))] [] := ⟨by simp, fun q => (by unfold Du; simp only [AD]; split <;> rfl), by simp, fun i => rfl⟩
 refine .trFold (τ := Du) hI O Y Y Y ?_
 exact .dn Y Y ⟨_, Y, Y⟩
theorem G9 (t : Nat) (τ : Tr) (p : Bs) (num zx : Int) : Fn prog 209 #[AI t, AE p, AA num, AA zx] [AZ t τ] fun v L => v = .tuple #[] ∧ L = [AZ t (D1 τ p num zx)] := by
 refine Fn.intro func209 Y Y fun F W => ?_
 refine .trOpen (τ := τ) O fun rn rs m s hI => (.sr ?_)
 rcases hal : AD m p with _ | x
 ·refine .m Y (.nf Y A9 (.u (.ld Y Bp) (.m Y (.q (.lookupN (m := m) (enc := G2) (AV.str underlying9) (hal) Y Y underlying110 C9 O Y) Y (.an Y (.sm Y (.q (.as (v' := .bool false) (by rfl) (.ptrne Y Y underlying107)) Y (.nt (.condF Y (.skip (.done_n (.trFold (τ := τ) hI O Y Y Y (.trCast (τ' := D1 τ p num zx) O (hI.kidN hal _) ?_)))))))))))))
  exact .vv
 refine .m Y (.nf Y A9 (.u (.ld Y Bp) (.m Y (.q (.lookupY (m := m) (enc := G2) (AV.str underlying9) (hal) Y Y underlying110 C9 O Y) Y (.an Y (.sm Y (.q (.as (v' := .bool true) (by rfl) (.ptrne Y Y underlying107)) Y (.nt (.condT Y (.bigTake hal O (.ndOpen (x := (p, x)) O (.region (.m Y (.m Y (.m Y (.m Y (.nf Y Eb (.fa Y Fi (.oq (.store Y Y Y CC ?c20 (Bb _ _)) ?_)))))))))))))))))))
 case c20 => simp [Q2]
 rintro v L' rfl
 refine .nf Y Eb (.fa Y L5 (.oq (.store Y Y Y CC ?c26 (Bb _ _)) ?_))
 case c26 => simp [Q2]
 rintro v L' rfl
 refine .nil (.done_n (.ndFold (x := (p, (x.1, (x.2.1, kidN num zx x.2.2)))) O Y Y Y Y (.bigPut (f := Is) (m := m) p (x.1, (x.2.1, kidN num zx x.2.2)) Y O (.trFold (τ := (D1 τ p num zx)) (hI.mod hal (kidN num zx) (y := (x.1, (x.2.1, kidN num zx x.2.2))) Y) O Y (Ow (y := (x.1, (x.2.1, kidN num zx x.2.2))) hal Y).symm Y ?_))))
 exact .vv
theorem It (t : Nat) (τ : Tr) (x : Pt) (zx : Int) (p : HP) (hx : W8 p x) : Fn prog 132 #[AI t, .agg (A1 x).toArray, AA zx] [AZ t τ, p] fun v L => ∃ a c, v = .slice a (Ab τ x zx).2.length c ∧ L = [AZ t (Ab τ x zx).1, p, Af 50 3 v (Ab τ x zx).2.length ((Ab τ x zx).2.flatMap BV)] := by
 refine Fn.intro func132 Y Y fun F W => ?_
 have hfew := hx.few
 have hpl := hx.plen
 have hpar := HN x.path
 refine .sr (.oq (.box Y) ?_)
 rintro v L' ⟨bx, rfl, rfl⟩
 refine .a Y (.nil (.ptCast (b := bx) (l' := A1 x) O Y ?_))
 refine .then_n (.sr (.fa Y A7 (.u (.ld Y Ak) (.cv func81 [_] (De x.path om) ?_))))
 refine .an Y (.seq (.sr (.fa Y A7 (.u (.ld Y Ak) (.cv func208 [_] (Nt x.path hpl) ?_)))))
 refine .u (.not Y) (.m Y (.ndec (t := 16) Y (fun h2_16 => ?_) (fun h2_16 => ?_)))
 ·refine .kNT (t := 15) Y h2_16 (.gk (.gk (.gk (.gk (.gk (.gk (.gk (.pT Y Y (.nt (.condT Y (.sr (.an Y (.rt (.add (AO 50 3) ?_))))))))))))))
  have hc : Ab τ x zx = (τ, []) := by unfold Ab; rw [if_neg (fun g => h2_16 g.1)]
  refine .trCast (τ' := (Ab τ x zx).1) O (by rw [hc]) (.slCast (T := 50) (sz := 3) (m' := (Ab τ x zx).2.length) (xs' := (Ab τ x zx).2.flatMap BV) O (by rw [hc]; rfl) (by first | (rw [hc]; done) | (rw [hc]; rfl)) ?_)
  exact .dn Y Y ⟨_, _, by rw [hc]; rfl, rfl⟩
 refine .kNF (t := 15) Y h2_16 (.trOpen (τ := τ) O fun rn rs m s hI => (.gr (.m Y (.gr (.u (.nilp Y) (.gr (.fa Y A9 (.gr (.u (.ld Y Bp) (.gr (.m Y ?_)))))))))))
 rcases hup : AD m (AL x.path) with _ | pu
 ·refine .gr (.q (.lookupN (m := m) (enc := G2) (AV.str underlying9) (hup) Y Y underlying110 C9 O Y) Y (.gr (.q (.as (v' := .bool true) (by rfl) (.ptreq Y Y underlying107)) Y (.pF Y Y (.nt (.condT Y (.sr (.an Y (.rt (.add (AO 50 3) ?_))))))))))
  have hc : Ab τ x zx = (τ, []) := by unfold Ab; rw [if_neg (fun g => hI.none_iff.1 hup g.2)]
  refine .trFold (τ := τ) hI O Y Y Y (.trCast (τ' := (Ab τ x zx).1) O (by rw [hc]) (.slCast (T := 50) (sz := 3) (m' := (Ab τ x zx).2.length) (xs' := (Ab τ x zx).2.flatMap BV) O (by rw [hc]; rfl) (by first | (rw [hc]; done) | (rw [hc]; rfl)) ?_))
  exact .dn Y Y ⟨_, _, by rw [hc]; rfl, rfl⟩
 refine .gr (.q (.lookupY (m := m) (enc := G2) (AV.str underlying9) (hup) Y Y underlying110 C9 O Y) Y (.gr (.q (.as (v' := .bool false) (by rfl) (.ptreq Y Y underlying107)) Y (.pF Y Y (.nt (.condF Y (.sk (.sr (.an Y (.seq (.seq (.draw [] [[0, 1, 2, 3, 4, 5, 6, 7]] mixed kQ (.g0 ?_)))))))))))))
 rcases hal : AD m x.path with _ | px
 ·refine D.mv Y Y (.nf Y Y Y A9 (.kv Y (.ld Y Bp) (.kv Y (.fieldAddr Y A7) (.kv Y (.ld Y Ak) (.kv Y (.lookupN (m := m) (enc := G2) (AV.str underlying9) (hal) Y Y underlying110 C9 O Y) (.kv Y (.as (v' := .bool false) (by rfl) (.ptrne Y Y underlying107)) (.pf (.condF Y (.sk (.seq (.draw [10, 18, 19] [[0, 1, 2, 3, 4, 5, 6, 7, 8, 9, 11, 12, 13, 14, 15, 16, 10, 17, 18], [19]] mixed kQ (.go [Ad bx _ _, Ad t _ _] O (.k Y (.move Y) (.k Y (.nilp Y) (.k Y (.fieldAddr Y A9) (.k Y (.ld Y Bp) (.k Y (.fieldAddr Y A7) (.k Y (.ld Y Ak) (.k Y (.fieldAddr Y E9) (.k Y (.ld Y Ak) (.kv Y (.fieldAddr Y GN) (.kv Y (.ld Y Ft) (.k Y (.move Y) (.k Y (.move Y) ?_))))))))))))))))))))))))
  refine D.k Y (.move Y) (.k Y (.fieldAddr Y CV) (.k Y (.ld Y AR) (.k Y (.build (us := [(0, _), (1, _), (2, _), (6, _)]) MM DQ Y Y (by simp [AB])) (.hh Y (.c func134 [_] (CK x.aclV x.acl p hx.acl hfew)) ?_))))
  rintro v L' ⟨⟨a7, c7, rfl⟩, rfl⟩
  refine D.kv Y (.buildN (pl := [(0, 1), (1, 1), (2, 9)]) (us := [(0, AE x.data), (1, .slice a7 x.acl.length c7), (2, .agg ([AA zx, AA zx, AA zx, AA 0, AA 0, AA 0, AA x.own, AA 0, AA 0] : List Value).toArray)]) (cells := [AE x.data, .slice a7 x.acl.length c7] ++ [AA zx, AA zx, AA zx, AA 0, AA 0, AA 0, AA x.own, AA 0, AA 0]) underlying109 kQ M7 Y (IF _ _ _ _ _ _ _ _ _ _ _ _ _)) (.hh Y (.box Y) ?_)
  rintro v L' ⟨tn, rfl, rfl⟩
  refine D.ph (.g0 (.hh Y (.mapSet (m := m) (enc := G2) (v := ((tn, (.slice a7 x.acl.length c7, DU x zx)) : Nm)) (k := x.path) (AV.str underlying9) Y Y Y underlying110 ?he54) ?_))
  case he54 => rfl
  rintro v L' rfl
  refine D.ph (.fin (.toRd O (.ndFold (x := (x.path, ((tn, (.slice a7 x.acl.length c7, DU x zx)) : Nm))) O Y Y Y Y ?_)))
  have hdel := EM hal
  refine .bigPut (f := Is) (m := m) x.path ((tn, (.slice a7 x.acl.length c7, DU x zx)) : Nm) Y (by rw [hdel]; (repeat' constructor)) (.trFold (τ := ({ τ with nodes := sset τ.nodes x.path (DU x zx) } : Tr)) (hI.lay x.path ((tn, (.slice a7 x.acl.length c7, DU x zx)) : Nm)) O Y Y Y (.then_n (.sm Y (.m Y (.fa Y Cl (.u (.ld Y AR) (.m Y (.cv func209 [_, _, _, _] (G9 t ({ τ with nodes := sset τ.nodes x.path (DU x zx) } : Tr) (AL x.path) x.num zx) ?_))))))))
  refine .nt (.sm Y (.fa Y A7 (.u (.ld Y Ak) (.m Y (.q (.build (us := [(0, _), (1, _), (2, _)]) Fa Bt Y Y (by simp [AB])) Y (.m Y (.m Y (.q (.build (us := [(0, _), (1, _), (2, _)]) Fa Bt Y Y (by simp [AB])) Y (.oq (.buildSlice (vs := [_, _]) DP Bt Y Y Y Y cQ dQ) ?_)))))))))
  rintro v L' ⟨bo, rfl, rfl⟩
  refine .a Y (.nil (.slMakeN 3 2 (b := bo) (xs := ([(1, (x.path, zx)), (4, (AL x.path, zx))] : List Ev).flatMap BV) O Y Y (.then_n (.ret ?_))))
  have hc : Ab τ x zx = (D1 ({ τ with nodes := sset τ.nodes x.path (DU x zx) } : Tr) (AL x.path) x.num zx, [(1, (x.path, zx)), (4, (AL x.path, zx))]) := by unfold Ab; rw [if_pos ⟨h2_16, hI.some_iff hup⟩, if_neg (hI.none_iff.1 hal)]
  refine .trCast (τ' := (Ab τ x zx).1) O (by rw [hc]) (.slCast (T := 50) (sz := 3) (m' := (Ab τ x zx).2.length) (xs' := (Ab τ x zx).2.flatMap BV) O (by rw [hc]; rfl) (by first | (rw [hc]; done) | (rw [hc]; rfl)) ?_)
  exact .dn Y Y ⟨_, _, by rw [hc]; rfl, rfl⟩
 refine D.mv Y Y (.nf Y Y Y A9 (.kv Y (.ld Y Bp) (.kv Y (.fieldAddr Y A7) (.kv Y (.ld Y Ak) (.kv Y (.lookupY (m := m) (enc := G2) (AV.str underlying9) (hal) Y Y underlying110 C9 O Y) (.kv Y (.as (v' := .bool true) (by rfl) (.ptrne Y Y underlying107)) (.pf (.condT Y (.region (.an Y (.seq (.draw [10, 18, 19] [[0, 1, 2, 3, 4, 5, 6, 7, 8, 9, 11, 12, 13, 14, 15, 16, 10, 17, 18], [19]] mixed kQ (.go [Ad bx _ _, Ad t _ _] O (.k Y (.move Y) (.k Y (.nilp Y) (.k Y (.fieldAddr Y A9) (.k Y (.ld Y Bp) (.k Y (.fieldAddr Y A7) (.k Y (.ld Y Ak) (.k Y (.fieldAddr Y E9) (.k Y (.ld Y Ak) (.kv Y (.fieldAddr Y GN) (.kv Y (.ld Y Ft) (.k Y (.move Y) (.k Y (.move Y) ?_)))))))))))))))))))))))))
 refine D.k Y (.move Y) (.k Y (.fieldAddr Y CV) (.k Y (.ld Y AR) (.k Y (.build (us := [(0, _), (1, _), (2, _), (6, _)]) MM DQ Y Y (by simp [AB])) (.hh Y (.c func134 [_] (CK x.aclV x.acl p hx.acl hfew)) ?_))))
 rintro v L' ⟨⟨a7, c7, rfl⟩, rfl⟩
 refine D.kv Y (.buildN (pl := [(0, 1), (1, 1), (2, 9)]) (us := [(0, AE x.data), (1, .slice a7 x.acl.length c7), (2, .agg ([AA zx, AA zx, AA zx, AA 0, AA 0, AA 0, AA x.own, AA 0, AA 0] : List Value).toArray)]) (cells := [AE x.data, .slice a7 x.acl.length c7] ++ [AA zx, AA zx, AA zx, AA 0, AA 0, AA 0, AA x.own, AA 0, AA 0]) underlying109 kQ M7 Y (IF _ _ _ _ _ _ _ _ _ _ _ _ _)) (.hh Y (.box Y) ?_)
 rintro v L' ⟨tn, rfl, rfl⟩
 refine D.ph (.g0 (.hh Y (.mapSet (m := m) (enc := G2) (v := ((tn, (.slice a7 x.acl.length c7, DU x zx)) : Nm)) (k := x.path) (AV.str underlying9) Y Y Y underlying110 ?he100) ?_))
 case he100 => rfl
 rintro v L' rfl
 refine D.ph (.fin (.toRd O (.ndFold (x := (x.path, ((tn, (.slice a7 x.acl.length c7, DU x zx)) : Nm))) O Y Y Y Y (.bigTake hal O (.bigPut (f := Is) (m := m) x.path ((tn, (.slice a7 x.acl.length c7, DU x zx)) : Nm) Y O (.trFold (τ := ({ τ with nodes := sset τ.nodes x.path (DU x zx) } : Tr)) (hI.lay x.path ((tn, (.slice a7 x.acl.length c7, DU x zx)) : Nm)) O Y Y Y (.then_n (.sm Y (.m Y (.fa Y Cl (.u (.ld Y AR) (.m Y (.cv func209 [_, _, _, _] (G9 t ({ τ with nodes := sset τ.nodes x.path (DU x zx) } : Tr) (AL x.path) x.num zx) ?_)))))))))))))
 refine .nt (.sm Y (.fa Y A7 (.u (.ld Y Ak) (.m Y (.q (.build (us := [(0, _), (1, _), (2, _)]) Fa Bt Y Y (by simp [AB])) Y (.m Y (.m Y (.q (.build (us := [(0, _), (1, _), (2, _)]) Fa Bt Y Y (by simp [AB])) Y (.oq (.buildSlice (vs := [_, _]) DP Bt Y Y Y Y cQ dQ) ?_)))))))))
 rintro v L' ⟨bo, rfl, rfl⟩
 refine .a Y (.nil (.slMakeN 3 2 (b := bo) (xs := ([(3, (x.path, zx)), (4, (AL x.path, zx))] : List Ev).flatMap BV) O Y Y (.then_n (.ret ?_))))
 have hc : Ab τ x zx = (D1 ({ τ with nodes := sset τ.nodes x.path (DU x zx) } : Tr) (AL x.path) x.num zx, [(3, (x.path, zx)), (4, (AL x.path, zx))]) := by unfold Ab; rw [if_pos ⟨h2_16, hI.some_iff hup⟩, if_pos (hI.some_iff hal)]
 refine .trCast (τ' := (Ab τ x zx).1) O (by rw [hc]) (.slCast (T := 50) (sz := 3) (m' := (Ab τ x zx).2.length) (xs' := (Ab τ x zx).2.flatMap BV) O (by rw [hc]; rfl) (by first | (rw [hc]; done) | (rw [hc]; rfl)) ?_)
 exact .dn Y Y ⟨_, _, by rw [hc]; rfl, rfl⟩
theorem RT (mb : Option Nat) : Fn prog 215 #[.map mb] [] fun v L => ∃ b, v = .func (.func 247) #[] #[AI b] ∧ L = [Ad b [.map mb] 110] :=
 Xt Tryz.keysS mb
theorem NZ {b r : Nat} {T : TypeId} (m : Gu) (hnd : (m.map (·.1)).Nodup) (hbd : ∀ x ∈ m, x.1.length ≤ 60) (hlen : m.length ≤ 1099511627776) :
  Fn prog 214 #[.func (.func 247) #[] #[AI b]] [Ad b [.map (some r)] T, mapR r (V0 m)] fun v L => (∃ a c, v = .slice a m.length c) ∧ L = [Af 9 1 v m.length (A6 (sortS (m.map (·.1)))), mapR r (V0 m)] :=
 SQ Tryz.keysS Tryz.sortedS Tryz.sortS rfl (enters_of func212 rfl rfl) (enters_of func247 rfl rfl) underlying9 (enc := G2) (b := b) (r := r) (T := T) m hnd (fun x hx => Nat.le_trans (hbd x hx) dQ) hlen
theorem Or (v : Value) (n : Nat) (xs : List Bs) (hn : n < 4611686018427387904) : Fn prog 212 #[v] [Af 9 1 v n (A6 xs)] fun u L => u = .tuple #[] ∧ L = [Af 9 1 v n (A6 (sortS xs))] :=
 XQ Tryz.sortS 9 v n xs hn
theorem Jd (t rn : Nat) (vs vz : Value) (m : Gu) (p : Bs) (hlen : ∀ x ∈ m, x.1.length ≤ 60) (hm0 : m.length ≤ 1099511627776) : Fn prog 135 #[AI t, AE p] [Ad t [.map (some rn), vs, vz] 113, mapR rn (V0 m)] fun v L => (∃ a c, v = .slice a (F9 m p).length c) ∧ L = [Ad t [.map (some rn), vs, vz] 113, mapR rn (V0 m), Af 9 1 v (F9 m p).length (A6 (sortS (F9 m p)))] := by
 refine Fn.intro func135 Y Y fun F W => ?_
 refine .sr (.an Y (.seq (.add (AO 9 1) (.region (.an Y (.seq (.sm Y (.nf Y A9 (.u (.ld Y Bp) (.oq (.range (f := fun x : Bs × Nm => (AE x.1, G2 x.2)) (m := m) Y underlying110 ?he7) ?_))))))))))
 case he7 => rfl
 rintro v L' ⟨it, rfl, rfl⟩
 refine .nt (.block (.loopK (ι := Gu × Value × (List Bs)) (fun q E => (5, q.2.1) :: E) (fun q => [Em (fun x : Bs × Nm => (AE x.1, G2 x.2)) it rn m q.1, Af 9 1 q.2.1 q.2.2.length (A6 q.2.2)]) (fun q => q.2.2 = F9 q.1 p ∧ (∃ rest, m.Perm (q.1 ++ rest)) ∧ ∃ a c, q.2.1 = .slice a q.2.2.length c) (fun q => m.length - q.1.length) ([], .slice none 0 0, []) (ts := [1, 4, 11]) O (⟨Y, ⟨m, .refl _⟩, none, 0, Y⟩) O O ?_))
 rintro ⟨ss, u, acc⟩ ⟨hacc, ⟨rest, hm⟩, au, cu, hu⟩
 dsimp only
 dsimp only at hacc hm hu
 subst hu
 have hml := hm.length_eq
 rw [length_append] at hml
 have hkl := OQ ss p
 rw [← hacc] at hkl
 refine .sr (.oq (.next Y) ?_)
 rintro v L' (⟨rfl, hp3, rfl⟩ | ⟨x, rest3, rfl, hp3, rfl⟩)
 ·refine .rangeDone O ?_
  have hperm : acc.Perm (F9 m p) := by rw [hacc]; unfold F9; exact ((hp3.symm.filter _).map _)
  have hpl := hperm.length_eq
  have hsp := GV hperm
  have hkm := OQ m p
  refine .ex Y Y (.nt (.seq (.condF Y (.xe (.sm Y (.oq (.call func212 Y Y (vs := [_]) Y (Or _ acc.length acc om)) ?_))))))
  rintro v L' ⟨rfl, rfl⟩; rw [hsp, hpl]
  refine .nt (.sm Y (.an Y (.ret ?_)))
  exact .dn Y Y ⟨⟨_, _, Y⟩, Y⟩
 refine .ex Y Y (.nt (.seq (.condT Y (.sk (.block (.sr (.q (.entryE (v := .tuple #[AE x.1, G2 x.2]) Y O Y) Y (.ex Y Y (.a Y (.nil ?_))))))))))
 have hxm : x ∈ m := hp3.mem_iff.2 (by simp)
 have hxl := hlen x hxm
 refine .then_n (.sm Y (.u (.strne Y Y) (.m Y (.ndec (t := 18) Y (fun h5_18 => ?_) (fun h5_18 => ?_)))))
 ·refine .kNT (t := 17) Y h5_18 (.gr (.m Y (.gr (.cv func81 [_] (De x.1 om) ?_))))
  refine .gr (.m Y (.gr (.u (.streq Y Y) (.pT Y Y (.nt (.condD Y (fun h23 => ?_) (fun h23 => ?_)))))))
  ·refine .region (.m Y (.m Y (.cv func211 [_] (Vs x.1 om) ?_)))
   refine .oq (.buildSlice1 (vs := [_]) Dr J6 Y Y Y Y Y dQ) ?_
   rintro v L' ⟨b6_3, rfl, rfl⟩
   refine .oq (.append1 Y Y Y Dr J6 Y Y ?c31 ?c32 (Nat.le_refl _) ?c33 dQ) ?_
   case c31 => (first | (simp [AB]; done) | (simp [AB, AW, Value.cells]; done))
   case c32 => rfl
   case c33 => omega
   rintro v L' ⟨⟨a6_4, c6_4, rfl⟩, rfl⟩
   refine .a Y (.nil (.blk_n (.then_n ?_)))
   have hl := hp3.length_eq
   simp at hl
   have hsel : ¬ x.1 = [47] ∧ AL x.1 = p := ⟨h5_18, h23⟩
   rw [show A6 acc ++ [AE (C8 x.1)] = A6 (acc ++ [C8 x.1]) by simp [A6], show acc.length + 1 = (acc ++ [C8 x.1]).length by simp]
   exact .rk ((ss ++ [x], .slice a6_4 (acc ++ [C8 x.1]).length c6_4, acc ++ [C8 x.1])) (⟨by dsimp only; rw [hacc]; unfold F9; rw [filter_append, map_append]; simp [hsel], ⟨_, by simpa using hp3⟩, _, _, rfl⟩) (by dsimp only; simp; omega) O
  refine .skip (.blk_n (.then_n ?_))
  have hl := hp3.length_eq
  simp at hl
  have hsel : ¬ x.1 = [47] → ¬ AL x.1 = p := fun g1 g2 => h23 g2
  exact .rk ((ss ++ [x], .slice au acc.length cu, acc)) (⟨by dsimp only; rw [hacc]; unfold F9; rw [filter_append, map_append]; simp; exact hsel, ⟨_, by simpa using hp3⟩, _, _, rfl⟩) (by dsimp only; simp; omega) O
 refine .kNF (t := 17) Y h5_18 (.gk (.gk (.gk (.gk (.pF Y Y (.nt (.condF Y (.skip (.blk_n (.then_n ?_))))))))))
 have hl := hp3.length_eq
 simp at hl
 have hsel : ¬ x.1 = [47] → ¬ AL x.1 = p := fun g1 g2 => g1 h5_18
 exact .rk ((ss ++ [x], .slice au acc.length cu, acc)) (⟨by dsimp only; rw [hacc]; unfold F9; rw [filter_append, map_append]; simp; exact hsel, ⟨_, by simpa using hp3⟩, _, _, rfl⟩) (by dsimp only; simp; omega) O
theorem Fj (t : Nat) (τ : Tr) (N : Nat) (ho : τ.Ok N) (hN : N ≤ 1099511627776) : Fn prog 140 #[AI t] [AZ t τ] fun v L => (∃ a c, v = .slice a (AX τ).length c) ∧ L = [AZ t τ, Af 9 1 v (AX τ).length (A6 (AX τ))] := by
 refine Fn.intro func140 Y Y fun F W => ?_
 refine .trOpen (τ := τ) O fun rn rs m s hI => ?_
 have hlen := hI.len ho
 have hfew := ho.few
 have hpz : (AX τ).length = τ.nodes.length := length_map _
 refine .sr (.an Y (.sm Y (.nf Y A9 (.u (.ld Y Bp) (.oq (.c func215 [_] (RT _)) ?_)))))
 rintro v L' ⟨bk, rfl, rfl⟩
 refine .oq (.c func214 [_] (NZ m hI.keys (hI.plen ho) om)) ?_
 rintro v L' ⟨⟨ap, cp, rfl⟩, rfl⟩; rw [hI.paths ho, show m.length = (AX τ).length by omega]
 refine .an Y (.ret (.trFold (τ := τ) hI O Y Y Y ?_))
 exact .dn Y Y ⟨⟨_, _, Y⟩, Y⟩
/- not in this seat -/
theorem Cb (t : Nat) (τ : Tr) : Fn prog 29 #[AI t] [AZ t τ] fun v L => v = AA τ.zx ∧ L = [AZ t τ] := by
 refine Fn.intro func29 Y Y fun F W => ?_
 refine .trOpen (τ := τ) O fun rn rs m s hI => (.sr (.an Y (.sm Y (.nf Y Mx (.u (.ld Y AR) (.an Y (.ret (.trFold (τ := τ) hI O Y Y Y ?_))))))))
 exact .vv
theorem J0 (t : Nat) (τ : Tr) (x : Pt) (zx : Int) (p : HP) (hx : W8 p x) (N : Nat) (ho : τ.Ok N) (hN : N ≤ 1099511627776) : Fn prog 133 #[AI t, .agg (A1 x).toArray, AA zx] [AZ t τ] fun v L => ∃ a c, v = .slice a (As τ x zx).2.length c ∧ L = [AZ t (As τ x zx).1, Af 50 3 v (As τ x zx).2.length ((As τ x zx).2.flatMap BV)] := by
 refine Fn.intro func133 Y Y fun F W => ?_
 have hfew := hx.few
 have hpl := hx.plen
 have hpar := HN x.path
 have hpz : (AX τ).length = τ.nodes.length := length_map _
 have hofew := ho.few
 refine .sr (.oq (.box Y) ?_)
 rintro v L' ⟨bx, rfl, rfl⟩
 refine .a Y (.nil (.ptCast (b := bx) (l' := A1 x) O Y ?_))
 refine .then_n (.seq (.sr (.fa Y A7 (.u (.ld Y Ak) (.cv func208 [_] (Nt x.path hpl) ?_)))))
 refine .u (.not Y) (.nt (.condN Y (fun h16 => ?_) (fun h16 => ?_)))
 ·refine .sr (.an Y (.rt (.add (AO 50 3) ?_)))
  have hc : As τ x zx = (τ, []) := by unfold As; rw [if_neg h16]
  refine .trCast (τ' := (As τ x zx).1) O (by rw [hc]) (.slCast (T := 50) (sz := 3) (m' := (As τ x zx).2.length) (xs' := (As τ x zx).2.flatMap BV) O (by (rw [hc]; try rfl)) (by (rw [hc]; try rfl)) ?_)
  exact .dn Y Y ⟨_, _, by (rw [hc]; try rfl), rfl⟩
 refine .sk (.sr (.fa Y A7 (.u (.ld Y Ak) (.cv func81 [_] (De x.path om) ?_))))
 refine .an Y (.seq (.trOpen (τ := τ) O fun rn rs m s hI => (.draw [] [[0, 1, 2, 3, 4, 5, 6, 7, 8, 9, 10, 11]] mixed kQ (.g0 ?_))))
 rcases hal : AD m x.path with _ | px
 ·have hth : ¬ AQ τ x.path := hI.none_iff.1 hal
  refine D.mv Y Y (.nf Y Y Y A9 (.kv Y (.ld Y Bp) (.kv Y (.fieldAddr Y A7) (.kv Y (.ld Y Ak) (.kv Y (.lookupOkN (m := m) (enc := G2) (AV.str underlying9) hal Y Y underlying110 C9 O Y) (.mv Y Y (.kv Y (.extract Y Y) (.kv Y (.extract Y Y) (.kv Y (.assign Y) (.kv Y (.assign Y) (.ph (.fin (.trFold (τ := τ) hI O Y Y Y (.then_n (.seq (.sm Y (.oq (.c func140 [_] (Fj t τ N ho hN)) ?_)))))))))))))))))
  rintro v L' ⟨⟨ap, cp, rfl⟩, rfl⟩
  refine .q (.slen Y underlying38 Y) Y (.m Y (.nt (.block (.trCast (τ' := cutL τ x.path ((AX τ).take 0)) O (by rw [take_zero, P5]) (.loopK (ι := Nat) (fun q E => (33, AA q) :: E) (fun q => [AZ t (cutL τ x.path ((AX τ).take q))]) (fun q => q ≤ (AX τ).length) (fun q => (AX τ).length - q) (0) (ts := [0, 2, 4, 6, 7, 9, 31, 32]) O (Nat.zero_le _) O O ?_)))))
  rintro i hi
  refine .sr (.ui Y Y Y (.nt (.seq (.condD Y (fun h34 => ?_) (fun h34 => ?_)))))
  ·have hi2 : i < (AX τ).length := by omega
   refine .slShape (v := .slice ap _ cp) O om fun bp cp' e0 mp _ => ?_
   simp only [Value.slice.injEq, true_and] at e0
   obtain ⟨rfl, rfl⟩ := e0
   refine .sk (.seq (.block (.sr (.q (.indexAddr Y Y Dr om) Y (.q (.loadSl (v := AE (AX τ)[i]) (i := i * 1) Y Ak O (by simp [hi2])) Y (.an Y (.sm Y (.fa Y A7 (.u (.ld Y Ak) (.u (.streq Y Y) (.m Y (.dec (t := 41) Y (fun h8_41 => ?_) (fun h8_41 => ?_)))))))))))))
   ·refine .kDT (t := 40) Y h8_41 (.gk (.gk (.gk (.gk (.pT Y Y (.nt (.condT Y ?_)))))))
    have hhit : Bj (AX τ)[i] x.path = true := by unfold Bj; rw [decide_eq_true h8_41]; rfl
    refine .trOpen (τ := (cutL τ x.path ((AX τ).take i))) O fun rn rs m s hI => (.region (.m Y (.nf Y A9 (.u (.ld Y Bp) (.m Y (.oq (.mapDel (m := m) (enc := G2) (k := (AX τ)[i]) (AV.str underlying9) Y Y Y underlying110 ?he39) ?_))))))
    case he39 => rfl
    rintro v L' rfl
    refine .nil (.bigDel (f := Is) (AX τ)[i] O (.trFold (τ := ({ (cutL τ x.path ((AX τ).take i)) with nodes := (cutL τ x.path ((AX τ).take i)).nodes.filter fun y => !decide (y.1 = (AX τ)[i]) } : Tr)) (hI.del (AX τ)[i]) O Y Y Y (.blk_n (.then_n (.region (.q (.add Y Y om) Y (.m Y (.nt (.trCast (τ' := cutL τ x.path ((AX τ).take (i + 1))) O (by rw [take_succ_eq_append_getElem hi2, Jw τ _ hhit]) ?_)))))))))
    exact .rk (i + 1) om om O
   refine .kDF (t := 40) Y h8_41 (.gr (.m Y (.gr (.fa Y A7 (.gr (.u (.ld Y Ak) (.gr (.cv func210 [_, _] (MU (AX τ)[i] x.path om) ?_))))))))
   refine .pF Y Y (.nt (.condD Y (fun h46 => ?_) (fun h46 => ?_)))
   ·have hhit : Bj (AX τ)[i] x.path = true := by unfold Bj; rw [decide_eq_true h46, Bool.or_true]
    refine .trOpen (τ := (cutL τ x.path ((AX τ).take i))) O fun rn rs m s hI => (.region (.m Y (.nf Y A9 (.u (.ld Y Bp) (.m Y (.oq (.mapDel (m := m) (enc := G2) (k := (AX τ)[i]) (AV.str underlying9) Y Y Y underlying110 ?he50) ?_))))))
    case he50 => rfl
    rintro v L' rfl
    refine .nil (.bigDel (f := Is) (AX τ)[i] O (.trFold (τ := ({ (cutL τ x.path ((AX τ).take i)) with nodes := (cutL τ x.path ((AX τ).take i)).nodes.filter fun y => !decide (y.1 = (AX τ)[i]) } : Tr)) (hI.del (AX τ)[i]) O Y Y Y (.blk_n (.then_n (.region (.q (.add Y Y om) Y (.m Y (.nt (.trCast (τ' := cutL τ x.path ((AX τ).take (i + 1))) O (by rw [take_succ_eq_append_getElem hi2, Jw τ _ hhit]) ?_)))))))))
    exact .rk (i + 1) om om O
   have hhit : Bj (AX τ)[i] x.path = false := by unfold Bj; rw [decide_eq_false h8_41, decide_eq_false h46]; rfl
   refine .skip (.blk_n (.then_n (.region (.q (.add Y Y om) Y (.m Y (.nt (.trCast (τ' := cutL τ x.path ((AX τ).take (i + 1))) O (by rw [take_succ_eq_append_getElem hi2, Nr τ _ hhit]) ?_)))))))
   exact .rk (i + 1) om om O
  have hii : i = (AX τ).length := by omega
  rw [hii, take_length, Qo]
  refine .xe (.sm Y (.m Y (.fa Y Cl (.u (.ld Y AR) (.m Y (.cv func209 [_, _, _, _] (G9 t (FH τ x.path) (AL x.path) x.num zx) ?_))))))
  refine .nt (.seq (.sm Y (.u (.not Y) (.nt (.condT Y (.sr (.an Y (.rt (.add (AO 50 3) ?_)))))))))
  have hc : As τ x zx = ((D1 (FH τ x.path) (AL x.path) x.num zx), []) := by unfold As; rw [if_pos h16, if_neg hth]
  refine .trCast (τ' := (As τ x zx).1) O (by rw [hc]) (.slCast (T := 50) (sz := 3) (m' := (As τ x zx).2.length) (xs' := (As τ x zx).2.flatMap BV) O (by (rw [hc]; try rfl)) (by (rw [hc]; try rfl)) ?_)
  exact .dn Y Y ⟨_, _, by (rw [hc]; try rfl), rfl⟩
 have hth : AQ τ x.path := hI.some_iff hal
 refine D.mv Y Y (.nf Y Y Y A9 (.kv Y (.ld Y Bp) (.kv Y (.fieldAddr Y A7) (.kv Y (.ld Y Ak) (.kv Y (.lookupOkY (m := m) (enc := G2) (AV.str underlying9) hal Y Y underlying110 C9 O Y) (.mv Y Y (.kv Y (.extract Y Y) (.kv Y (.extract Y Y) (.kv Y (.assign Y) (.kv Y (.assign Y) (.ph (.fin (.trFold (τ := τ) hI O Y Y Y (.then_n (.seq (.sm Y (.oq (.c func140 [_] (Fj t τ N ho hN)) ?_)))))))))))))))))
 rintro v L' ⟨⟨ap, cp, rfl⟩, rfl⟩
 refine .q (.slen Y underlying38 Y) Y (.m Y (.nt (.block (.trCast (τ' := cutL τ x.path ((AX τ).take 0)) O (by rw [take_zero, P5]) (.loopK (ι := Nat) (fun q E => (33, AA q) :: E) (fun q => [AZ t (cutL τ x.path ((AX τ).take q))]) (fun q => q ≤ (AX τ).length) (fun q => (AX τ).length - q) (0) (ts := [0, 2, 4, 6, 7, 9, 31, 32]) O (Nat.zero_le _) O O ?_)))))
 rintro i hi
 refine .sr (.ui Y Y Y (.nt (.seq (.condD Y (fun h34 => ?_) (fun h34 => ?_)))))
 ·have hi2 : i < (AX τ).length := by omega
  refine .slShape (v := .slice ap _ cp) O om fun bp cp' e0 mp _ => ?_
  simp only [Value.slice.injEq, true_and] at e0
  obtain ⟨rfl, rfl⟩ := e0
  refine .sk (.seq (.block (.sr (.q (.indexAddr Y Y Dr om) Y (.q (.loadSl (v := AE (AX τ)[i]) (i := i * 1) Y Ak O (by simp [hi2])) Y (.an Y (.sm Y (.fa Y A7 (.u (.ld Y Ak) (.u (.streq Y Y) (.m Y (.dec (t := 41) Y (fun h8_41 => ?_) (fun h8_41 => ?_)))))))))))))
  ·refine .kDT (t := 40) Y h8_41 (.gk (.gk (.gk (.gk (.pT Y Y (.nt (.condT Y ?_)))))))
   have hhit : Bj (AX τ)[i] x.path = true := by unfold Bj; rw [decide_eq_true h8_41]; rfl
   refine .trOpen (τ := (cutL τ x.path ((AX τ).take i))) O fun rn rs m s hI => (.region (.m Y (.nf Y A9 (.u (.ld Y Bp) (.m Y (.oq (.mapDel (m := m) (enc := G2) (k := (AX τ)[i]) (AV.str underlying9) Y Y Y underlying110 ?he89) ?_))))))
   case he89 => rfl
   rintro v L' rfl
   refine .nil (.bigDel (f := Is) (AX τ)[i] O (.trFold (τ := ({ (cutL τ x.path ((AX τ).take i)) with nodes := (cutL τ x.path ((AX τ).take i)).nodes.filter fun y => !decide (y.1 = (AX τ)[i]) } : Tr)) (hI.del (AX τ)[i]) O Y Y Y (.blk_n (.then_n (.region (.q (.add Y Y om) Y (.m Y (.nt (.trCast (τ' := cutL τ x.path ((AX τ).take (i + 1))) O (by rw [take_succ_eq_append_getElem hi2, Jw τ _ hhit]) ?_)))))))))
   exact .rk (i + 1) om om O
  refine .kDF (t := 40) Y h8_41 (.gr (.m Y (.gr (.fa Y A7 (.gr (.u (.ld Y Ak) (.gr (.cv func210 [_, _] (MU (AX τ)[i] x.path om) ?_))))))))
  refine .pF Y Y (.nt (.condD Y (fun h46 => ?_) (fun h46 => ?_)))
  ·have hhit : Bj (AX τ)[i] x.path = true := by unfold Bj; rw [decide_eq_true h46, Bool.or_true]
   refine .trOpen (τ := (cutL τ x.path ((AX τ).take i))) O fun rn rs m s hI => (.region (.m Y (.nf Y A9 (.u (.ld Y Bp) (.m Y (.oq (.mapDel (m := m) (enc := G2) (k := (AX τ)[i]) (AV.str underlying9) Y Y Y underlying110 ?he100) ?_))))))
   case he100 => rfl
   rintro v L' rfl
   refine .nil (.bigDel (f := Is) (AX τ)[i] O (.trFold (τ := ({ (cutL τ x.path ((AX τ).take i)) with nodes := (cutL τ x.path ((AX τ).take i)).nodes.filter fun y => !decide (y.1 = (AX τ)[i]) } : Tr)) (hI.del (AX τ)[i]) O Y Y Y (.blk_n (.then_n (.region (.q (.add Y Y om) Y (.m Y (.nt (.trCast (τ' := cutL τ x.path ((AX τ).take (i + 1))) O (by rw [take_succ_eq_append_getElem hi2, Jw τ _ hhit]) ?_)))))))))
   exact .rk (i + 1) om om O
  have hhit : Bj (AX τ)[i] x.path = false := by unfold Bj; rw [decide_eq_false h8_41, decide_eq_false h46]; rfl
  refine .skip (.blk_n (.then_n (.region (.q (.add Y Y om) Y (.m Y (.nt (.trCast (τ' := cutL τ x.path ((AX τ).take (i + 1))) O (by rw [take_succ_eq_append_getElem hi2, Nr τ _ hhit]) ?_)))))))
  exact .rk (i + 1) om om O
 have hii : i = (AX τ).length := by omega
 rw [hii, take_length, Qo]
 refine .xe (.sm Y (.m Y (.fa Y Cl (.u (.ld Y AR) (.m Y (.cv func209 [_, _, _, _] (G9 t (FH τ x.path) (AL x.path) x.num zx) ?_))))))
 refine .nt (.seq (.sm Y (.u (.not Y) (.nt (.condF Y (.sk (.sr (.fa Y A7 (.u (.ld Y Ak) (.m Y (.q (.build (us := [(0, _), (1, _), (2, _)]) Fa Bt Y Y (by simp [AB])) Y (.oq (.buildSlice (vs := [_]) DP Bt Y Y Y Y cQ dQ) ?_))))))))))))
 rintro v L' ⟨bo, rfl, rfl⟩
 refine .a Y (.nil (.slMakeN 3 1 (b := bo) (xs := ([(2, (x.path, zx))] : List Ev).flatMap BV) O Y Y (.then_n (.seq (.seq (.trOpen (τ := (D1 (FH τ x.path) (AL x.path) x.num zx)) O fun rn rs m s hI => (.region ?_)))))))
 rcases hup : AD m (AL x.path) with _ | pu
 ·refine .m Y (.nf Y A9 (.u (.ld Y Bp) (.m Y (.q (.lookupN (m := m) (enc := G2) (AV.str underlying9) (hup) Y Y underlying110 C9 O Y) Y (.q (.as (v' := .bool false) (by rfl) (.ptrne Y Y underlying107)) Y (.nt (.condF Y (.sk (.sm Y (.an Y (.ret ?_)))))))))))
  have hc : As τ x zx = ((D1 (FH τ x.path) (AL x.path) x.num zx), [(2, (x.path, zx))]) := by unfold As; rw [if_pos h16, if_pos hth, if_neg (fun g => hI.none_iff.1 hup (IW.2 g))]
  refine .trFold (τ := (D1 (FH τ x.path) (AL x.path) x.num zx)) hI O Y Y Y (.trCast (τ' := (As τ x zx).1) O (by rw [hc]) (.slCast (T := 50) (sz := 3) (m' := (As τ x zx).2.length) (xs' := (As τ x zx).2.flatMap BV) O (by (rw [hc]; try rfl)) (by (rw [hc]; try rfl)) ?_))
  exact .dn Y Y ⟨_, _, by (rw [hc]; try rfl), rfl⟩
 refine .m Y (.nf Y A9 (.u (.ld Y Bp) (.m Y (.q (.lookupY (m := m) (enc := G2) (AV.str underlying9) (hup) Y Y underlying110 C9 O Y) Y (.q (.as (v' := .bool true) (by rfl) (.ptrne Y Y underlying107)) Y (.nt (.condT Y (.region (.m Y (.m Y (.m Y (.q (.build (us := [(0, _), (1, _), (2, _)]) Fa Bt Y Y (by simp [AB])) Y (.oq (.buildSlice (vs := [_]) DP Bt Y Y Y Y cQ dQ) ?_)))))))))))))
 rintro v L' ⟨b16_4, rfl, rfl⟩
 refine .oq (.append1 Y Y Y DP Bt Y Y ?c138 ?c139 (Nat.le_refl _) ?c140 dQ) ?_
 case c138 => (first | (simp [AB]; done) | (simp [AB, AW, Value.cells]; done))
 case c139 => rfl
 case c140 => omega
 rintro v L' ⟨⟨a16_5, c16_5, rfl⟩, rfl⟩
 refine .an Y (.sm Y (.an Y (.ret ?_)))
 have hc : As τ x zx = ((D1 (FH τ x.path) (AL x.path) x.num zx), [(2, (x.path, zx)), (4, (AL x.path, zx))]) := by unfold As; rw [if_pos h16, if_pos hth, if_pos (IW.1 (hI.some_iff hup))]
 refine .trFold (τ := (D1 (FH τ x.path) (AL x.path) x.num zx)) hI O Y Y Y (.trCast (τ' := (As τ x zx).1) O (by rw [hc]) (.slCast (T := 50) (sz := 3) (m' := (As τ x zx).2.length) (xs' := (As τ x zx).2.flatMap BV) O (by (rw [hc]; try rfl)) (by (rw [hc]; try rfl)) ?_))
 exact .dn Y Y ⟨_, _, by (rw [hc]; try rfl), rfl⟩
theorem H1 (t : Nat) (τ : Tr) (x : Pt) (zx : Int) (p : HP) (hx : W8 p x) (N : Nat) (ho : τ.Ok N) (hN : N ≤ 1099511627776) : Fn prog 72 #[AI t, .agg (A1 x).toArray, AA zx] [AZ t τ, p] fun v L => ∃ a c, v = .slice a (AJ τ x zx).2.length c ∧ L = [AZ t (AJ τ x zx).1, p, Af 50 3 v (AJ τ x zx).2.length ((AJ τ x zx).2.flatMap BV)] := by
 refine Fn.intro func72 Y Y fun F W => ?_
 have hfew := hx.few
 have hpl := hx.plen
 refine .sr (.oq (.box Y) ?_)
 rintro v L' ⟨bx, rfl, rfl⟩
 refine .a Y (.nil (.ptCast (b := bx) (l' := A1 x) O Y ?_))
 refine .then_n (.seq (.trOpen (τ := τ) O fun rn rs m s hI => (.draw [] [[0, 1, 2, 3, 4, 5, 6, 7]] mixed kQ (.g0 ?_))))
 rcases hal : AD m x.path with _ | px
 ·refine D.mv Y Y (.nf Y Y Y A9 (.kv Y (.ld Y Bp) (.kv Y (.fieldAddr Y A7) (.kv Y (.ld Y Ak) (.kv Y (.lookupN (m := m) (enc := G2) (AV.str underlying9) (hal) Y Y underlying110 C9 O Y) (.kv Y (.assign Y) (.pf (.seq (.block (.sr (.fa Y Bz (.u (.ld Y AR) (.ui Y Y Y (.an Y (.condD Y (fun h15 => ?_) (fun h15 => ?_))))))))))))))))
  ·refine .trFold (τ := τ) hI O Y Y Y (.sm Y (.q (.loadAs (vs := A1 x) Y Ay O (by simp [A1]) Y) Y (.m Y (.oq (.c func132 [_, _, _] (It t τ x zx p hx)) ?_))))
   rintro v L' ⟨a3, c3, rfl, rfl⟩
   refine .an Y (.ret (.blk_r (.then_r ?_)))
   have hc : AJ τ x zx = Ab τ x zx := by unfold AJ; rw [if_pos h15]
   refine .trCast (τ' := (AJ τ x zx).1) O (by rw [hc]) (.slCast (T := 50) (sz := 3) (m' := (AJ τ x zx).2.length) (xs' := (AJ τ x zx).2.flatMap BV) O (by (rw [hc]; try rfl)) (by (rw [hc]; try rfl)) ?_)
   exact .dn Y Y ⟨_, _, by (rw [hc]; try rfl), rfl⟩
  refine .sr (.fa Y Bz (.u (.ld Y AR) (.ui Y Y Y (.an Y (.condD Y (fun h23 => ?_) (fun h23 => ?_))))))
  ·refine .trFold (τ := τ) hI O Y Y Y (.sm Y (.q (.loadAs (vs := A1 x) Y Ay O (by simp [A1]) Y) Y (.m Y (.oq (.c func133 [_, _, _] (J0 t τ x zx p hx N ho hN)) ?_))))
   rintro v L' ⟨a5, c5, rfl, rfl⟩
   refine .an Y (.ret (.blk_r (.then_r ?_)))
   have hc : AJ τ x zx = As τ x zx := by unfold AJ; rw [if_neg h15, if_pos h23]
   refine .trCast (τ' := (AJ τ x zx).1) O (by rw [hc]) (.slCast (T := 50) (sz := 3) (m' := (AJ τ x zx).2.length) (xs' := (AJ τ x zx).2.flatMap BV) O (by (rw [hc]; try rfl)) (by (rw [hc]; try rfl)) ?_)
   exact .dn Y Y ⟨_, _, by (rw [hc]; try rfl), rfl⟩
  refine .sr (.fa Y Bz (.u (.ld Y AR) (.ui Y Y Y (.m Y (.dec (t := 35) Y (fun h6_35 => ?_) (fun h6_35 => ?_))))))
  ·refine .kDT (t := 34) Y h6_35 (.gr (.m Y (.gr (.q (.as (v' := .bool false) (by rfl) (.ptrne Y Y underlying107)) Y (.pT Y Y (.an Y (.condF Y (.sr (.fa Y Bz (.u (.ld Y AR) (.ui Y Y Y (.m Y (.dec (t := 64) Y (fun h9_64 => ?_) (fun h9_64 => ?_))))))))))))))
   ·refine .kDT (t := 63) Y h9_64 (.gr (.m Y (.gr (.q (.as (v' := .bool false) (by rfl) (.ptrne Y Y underlying107)) Y (.pT Y Y (.an Y (.condF Y (.skip (.blk_n (.then_n (.sr (.an Y (.ret (.trFold (τ := τ) hI O Y Y Y (.add (AO 50 3) ?_)))))))))))))))
    have hc : AJ τ x zx = (τ, []) := by unfold AJ; rw [if_neg h15, if_neg h23, if_neg (fun g => hI.none_iff.1 hal g.2), if_neg (fun g => hI.none_iff.1 hal g.2)]
    refine .trCast (τ' := (AJ τ x zx).1) O (by rw [hc]) (.slCast (T := 50) (sz := 3) (m' := (AJ τ x zx).2.length) (xs' := (AJ τ x zx).2.flatMap BV) O (by (rw [hc]; try rfl)) (by (rw [hc]; try rfl)) ?_)
    exact .dn Y Y ⟨_, _, by (rw [hc]; try rfl), rfl⟩
   refine .kDF (t := 63) Y h9_64 (.gk (.gk (.pF Y Y (.an Y (.condF Y (.skip (.blk_n (.then_n (.sr (.an Y (.ret (.trFold (τ := τ) hI O Y Y Y (.add (AO 50 3) ?_)))))))))))))
   have hc : AJ τ x zx = (τ, []) := by unfold AJ; rw [if_neg h15, if_neg h23, if_neg (fun g => hI.none_iff.1 hal g.2), if_neg (fun g => h9_64 g.1)]
   refine .trCast (τ' := (AJ τ x zx).1) O (by rw [hc]) (.slCast (T := 50) (sz := 3) (m' := (AJ τ x zx).2.length) (xs' := (AJ τ x zx).2.flatMap BV) O (by (rw [hc]; try rfl)) (by (rw [hc]; try rfl)) ?_)
   exact .dn Y Y ⟨_, _, by (rw [hc]; try rfl), rfl⟩
  refine .kDF (t := 34) Y h6_35 (.gk (.gk (.pF Y Y (.an Y (.condF Y (.sr (.fa Y Bz (.u (.ld Y AR) (.ui Y Y Y (.m Y (.dec (t := 64) Y (fun h9_64 => ?_) (fun h9_64 => ?_))))))))))))
  ·refine .kDT (t := 63) Y h9_64 (.gr (.m Y (.gr (.q (.as (v' := .bool false) (by rfl) (.ptrne Y Y underlying107)) Y (.pT Y Y (.an Y (.condF Y (.skip (.blk_n (.then_n (.sr (.an Y (.ret (.trFold (τ := τ) hI O Y Y Y (.add (AO 50 3) ?_)))))))))))))))
   have hc : AJ τ x zx = (τ, []) := by unfold AJ; rw [if_neg h15, if_neg h23, if_neg (fun g => h6_35 g.1), if_neg (fun g => hI.none_iff.1 hal g.2)]
   refine .trCast (τ' := (AJ τ x zx).1) O (by rw [hc]) (.slCast (T := 50) (sz := 3) (m' := (AJ τ x zx).2.length) (xs' := (AJ τ x zx).2.flatMap BV) O (by (rw [hc]; try rfl)) (by (rw [hc]; try rfl)) ?_)
   exact .dn Y Y ⟨_, _, by (rw [hc]; try rfl), rfl⟩
  refine .kDF (t := 63) Y h9_64 (.gk (.gk (.pF Y Y (.an Y (.condF Y (.skip (.blk_n (.then_n (.sr (.an Y (.ret (.trFold (τ := τ) hI O Y Y Y (.add (AO 50 3) ?_)))))))))))))
  have hc : AJ τ x zx = (τ, []) := by unfold AJ; rw [if_neg h15, if_neg h23, if_neg (fun g => h6_35 g.1), if_neg (fun g => h9_64 g.1)]
  refine .trCast (τ' := (AJ τ x zx).1) O (by rw [hc]) (.slCast (T := 50) (sz := 3) (m' := (AJ τ x zx).2.length) (xs' := (AJ τ x zx).2.flatMap BV) O (by (rw [hc]; try rfl)) (by (rw [hc]; try rfl)) ?_)
  exact .dn Y Y ⟨_, _, by (rw [hc]; try rfl), rfl⟩
 refine D.mv Y Y (.nf Y Y Y A9 (.kv Y (.ld Y Bp) (.kv Y (.fieldAddr Y A7) (.kv Y (.ld Y Ak) (.kv Y (.lookupY (m := m) (enc := G2) (AV.str underlying9) (hal) Y Y underlying110 C9 O Y) (.kv Y (.assign Y) (.pf (.seq (.block (.sr (.fa Y Bz (.u (.ld Y AR) (.ui Y Y Y (.an Y (.condD Y (fun h15 => ?_) (fun h15 => ?_))))))))))))))))
 ·refine .trFold (τ := τ) hI O Y Y Y (.sm Y (.q (.loadAs (vs := A1 x) Y Ay O (by simp [A1]) Y) Y (.m Y (.oq (.c func132 [_, _, _] (It t τ x zx p hx)) ?_))))
  rintro v L' ⟨a3, c3, rfl, rfl⟩
  refine .an Y (.ret (.blk_r (.then_r ?_)))
  have hc : AJ τ x zx = Ab τ x zx := by unfold AJ; rw [if_pos h15]
  refine .trCast (τ' := (AJ τ x zx).1) O (by rw [hc]) (.slCast (T := 50) (sz := 3) (m' := (AJ τ x zx).2.length) (xs' := (AJ τ x zx).2.flatMap BV) O (by (rw [hc]; try rfl)) (by (rw [hc]; try rfl)) ?_)
  exact .dn Y Y ⟨_, _, by (rw [hc]; try rfl), rfl⟩
 refine .sr (.fa Y Bz (.u (.ld Y AR) (.ui Y Y Y (.an Y (.condD Y (fun h23 => ?_) (fun h23 => ?_))))))
 ·refine .trFold (τ := τ) hI O Y Y Y (.sm Y (.q (.loadAs (vs := A1 x) Y Ay O (by simp [A1]) Y) Y (.m Y (.oq (.c func133 [_, _, _] (J0 t τ x zx p hx N ho hN)) ?_))))
  rintro v L' ⟨a5, c5, rfl, rfl⟩
  refine .an Y (.ret (.blk_r (.then_r ?_)))
  have hc : AJ τ x zx = As τ x zx := by unfold AJ; rw [if_neg h15, if_pos h23]
  refine .trCast (τ' := (AJ τ x zx).1) O (by rw [hc]) (.slCast (T := 50) (sz := 3) (m' := (AJ τ x zx).2.length) (xs' := (AJ τ x zx).2.flatMap BV) O (by (rw [hc]; try rfl)) (by (rw [hc]; try rfl)) ?_)
  exact .dn Y Y ⟨_, _, by (rw [hc]; try rfl), rfl⟩
 refine .sr (.fa Y Bz (.u (.ld Y AR) (.ui Y Y Y (.m Y (.dec (t := 35) Y (fun h6_35 => ?_) (fun h6_35 => ?_))))))
 ·refine .kDT (t := 34) Y h6_35 (.gr (.m Y (.gr (.q (.as (v' := .bool true) (by rfl) (.ptrne Y Y underlying107)) Y (.pT Y Y (.an Y (.condT Y (.seq (.bigTake hal O (.ndOpen (x := (x.path, px)) O (.draw [10, 14, 18] [[0, 1, 2, 3, 4, 5, 6, 7, 8, 9, 10, 11, 12, 13, 14], [15, 16, 17, 18]] mixed kQ (.go [Ad bx _ _] O (.mv Y Y (.k Y (.move Y) (.k Y (.move Y) (.kv Y (.fieldAddr Y E9) (.kv Y (.ld Y Ak) (.k Y (.fieldAddr Y Cl) (.k Y (.ld Y AR) (.k Y (.move Y) (.nf Y Y Y Hq (.hh Y (.store Y Y Y KP ?c80 (Bb _ _)) ?_))))))))))))))))))))))
  case c80 => simp [Q2]
  rintro v L' rfl
  refine D.nf Y Y Y Eb (.kv Y (.fieldAddr Y Lq) (.hh Y (.store Y Y Y CC ?c86 (Bb _ _)) ?_))
  case c86 => simp [Q2]
  rintro v L' rfl
  refine D.ph (.g0 (.nf Y Y Y Eb (.kv Y (.fieldAddr Y MA) (.hh Y (.store Y Y Y CC ?c92 (Bb _ _)) ?_))))
  case c92 => simp [Q2]
  rintro v L' rfl
  refine D.ph (.fin (.ndFold (x := (x.path, (px.1, (px.2.1, F0 x.data x.num zx px.2.2)))) O Y Y Y Y (.bigPut (f := Is) (m := m) x.path ((x.path, (px.1, (px.2.1, F0 x.data x.num zx px.2.2)))).2 Y O (.trFold (τ := ({ τ with nodes := amod τ.nodes x.path (F0 x.data x.num zx) } : Tr)) (hI.mod hal (F0 x.data x.num zx) (y := ((x.path, (px.1, (px.2.1, F0 x.data x.num zx px.2.2)))).2) Y) O Y (Ow (y := ((x.path, (px.1, (px.2.1, F0 x.data x.num zx px.2.2)))).2) hal Y).symm Y (.then_n (.sr (.fa Y A7 (.u (.ld Y Ak) (.m Y (.q (.build (us := [(0, _), (1, _), (2, _)]) Fa Bt Y Y (by simp [AB])) Y (.oq (.buildSlice (vs := [_]) DP Bt Y Y Y Y cQ dQ) ?_)))))))))))
  rintro v L' ⟨bo, rfl, rfl⟩
  refine .a Y (.nil (.slMakeN 3 1 (b := bo) (xs := ([(3, (x.path, zx))] : List Ev).flatMap BV) O Y Y (.then_n (.ret (.blk_r (.then_r ?_))))))
  have hc : AJ τ x zx = (({ τ with nodes := amod τ.nodes x.path (F0 x.data x.num zx) } : Tr), [(3, (x.path, zx))]) := by unfold AJ; rw [if_neg h15, if_neg h23, if_pos ⟨h6_35, hI.some_iff hal⟩]
  refine .trCast (τ' := (AJ τ x zx).1) O (by rw [hc]) (.slCast (T := 50) (sz := 3) (m' := (AJ τ x zx).2.length) (xs' := (AJ τ x zx).2.flatMap BV) O (by (rw [hc]; try rfl)) (by (rw [hc]; try rfl)) ?_)
  exact .dn Y Y ⟨_, _, by (rw [hc]; try rfl), rfl⟩
 refine .kDF (t := 34) Y h6_35 (.gk (.gk (.pF Y Y (.an Y (.condF Y (.sr (.fa Y Bz (.u (.ld Y AR) (.ui Y Y Y (.m Y (.dec (t := 64) Y (fun h9_64 => ?_) (fun h9_64 => ?_))))))))))))
 ·refine .kDT (t := 63) Y h9_64 (.gr (.m Y (.gr (.q (.as (v' := .bool true) (by rfl) (.ptrne Y Y underlying107)) Y (.pT Y Y (.an Y (.condT Y (.bigTake hal O (.ndOpen (x := (x.path, px)) O (.draw [4, 9, 13] [[0, 1, 2, 3, 5, 6, 4, 7, 8, 9], [10, 11, 12, 13]] mixed kQ (.go [Ad bx _ _] O (.k Y (.move Y) (.k Y (.move Y) (.kv Y (.fieldAddr Y GN) (.kv Y (.ld Y Ft) (.k Y (.fieldAddr Y Cl) (.k Y (.ld Y AR) (.hh Y (.c func134 [_] (CK x.aclV x.acl p hx.acl hfew)) ?_))))))))))))))))))
  rintro v L' ⟨⟨a10, c10, rfl⟩, rfl⟩
  refine D.nf Y Y Y JY (.hh Y (.store Y Y Y P6 ?c114 (Bb _ _)) ?_)
  case c114 => simp [Q2]
  rintro v L' rfl
  refine D.ph (.g0 (.nf Y Y Y Eb (.kv Y (.fieldAddr Y PK) (.hh Y (.store Y Y Y CC ?c120 (Bb _ _)) ?_))))
  case c120 => simp [Q2]
  rintro v L' rfl
  refine D.ph (.fin (.toRd (v := .slice a10 x.acl.length c10) O (.ndFold (x := (x.path, (px.1, (.slice a10 x.acl.length c10, FT x.acl x.num px.2.2)))) (v := .slice a10 x.acl.length c10) O Y Y Y Y (.bigPut (f := Is) (m := m) x.path ((x.path, (px.1, (.slice a10 x.acl.length c10, FT x.acl x.num px.2.2)))).2 Y O (.trFold (τ := ({ τ with nodes := amod τ.nodes x.path (FT x.acl x.num) } : Tr)) (hI.mod hal (FT x.acl x.num) (y := ((x.path, (px.1, (.slice a10 x.acl.length c10, FT x.acl x.num px.2.2)))).2) Y) O Y (Ow (y := ((x.path, (px.1, (.slice a10 x.acl.length c10, FT x.acl x.num px.2.2)))).2) hal Y).symm Y (.blk_n (.then_n (.sr (.an Y (.ret (.add (AO 50 3) ?_)))))))))))
  have hc : AJ τ x zx = (({ τ with nodes := amod τ.nodes x.path (FT x.acl x.num) } : Tr), []) := by unfold AJ; rw [if_neg h15, if_neg h23, if_neg (fun g => h6_35 g.1), if_pos ⟨h9_64, hI.some_iff hal⟩]
  refine .trCast (τ' := (AJ τ x zx).1) O (by rw [hc]) (.slCast (T := 50) (sz := 3) (m' := (AJ τ x zx).2.length) (xs' := (AJ τ x zx).2.flatMap BV) O (by (rw [hc]; try rfl)) (by (rw [hc]; try rfl)) ?_)
  exact .dn Y Y ⟨_, _, by (rw [hc]; try rfl), rfl⟩
 refine .kDF (t := 63) Y h9_64 (.gk (.gk (.pF Y Y (.an Y (.condF Y (.skip (.blk_n (.then_n (.sr (.an Y (.ret (.trFold (τ := τ) hI O Y Y Y (.add (AO 50 3) ?_)))))))))))))
 have hc : AJ τ x zx = (τ, []) := by unfold AJ; rw [if_neg h15, if_neg h23, if_neg (fun g => h6_35 g.1), if_neg (fun g => h9_64 g.1)]
 refine .trCast (τ' := (AJ τ x zx).1) O (by rw [hc]) (.slCast (T := 50) (sz := 3) (m' := (AJ τ x zx).2.length) (xs' := (AJ τ x zx).2.flatMap BV) O (by (rw [hc]; try rfl)) (by (rw [hc]; try rfl)) ?_)
 exact .dn Y Y ⟨_, _, by (rw [hc]; try rfl), rfl⟩
def Hd (l : List (Bs × Nd)) (s : Int) : List Bs := (l.filter fun y => !decide (s = 0) && decide (y.2.st.own = s)).map (·.1)
theorem Ym (l : List (Bs × Nd)) (s : Int) : (Hd l s).length ≤ l.length := by unfold Hd; rw [length_map]; exact length_filter_le _ _
theorem WX {l : List (Bs × Nd)} {s : Int} {i : Nat} (hi : i < l.length) (h0 : s ≠ 0) (h : l[i].2.st.own = s) : Hd (l.take (i + 1)) s = Hd (l.take i) s ++ [l[i].1] := by
 unfold Hd; rw [take_succ_eq_append_getElem hi, filter_append, map_append]; simp [h0, h]
theorem TY {l : List (Bs × Nd)} {s : Int} {i : Nat} (hi : i < l.length) (h : s ≠ 0 → l[i].2.st.own ≠ s) : Hd (l.take (i + 1)) s = Hd (l.take i) s := by
 unfold Hd; rw [take_succ_eq_append_getElem hi, filter_append, map_append]
 simp; intro h0; exact h h0
theorem Et.getAt {τ : Tr} {m : Gu} {s : Im} (h : Et τ m s) {N : Nat} (ho : τ.Ok N) {i : Nat} (hi : i < τ.nodes.length) : ∃ px, AD m τ.nodes[i].1 = some px ∧ px.2.2 = τ.nodes[i].2 := by
 have h1 : AD τ.nodes τ.nodes[i].1 = some τ.nodes[i].2 := CE (ho.sorted.nodup EC) (getElem_mem hi)
 rw [← h.look] at h1
 rcases e : AD m τ.nodes[i].1 with _ | px
 ·rw [e] at h1; cases h1
 ·rw [e] at h1; exact ⟨px, rfl, by simpa using h1⟩
def NX (τ : Tr) (id : Int) : Int × Bs := (AD τ.sess id).getD (0, [])
def Cg (τ : Tr) (id : Int) : Prop := (AD τ.sess id).isSome = true
instance (τ : Tr) (id : Int) : Decidable (Cg τ id) := inferInstanceAs (Decidable (_ = _))
theorem JW (t : Nat) (τ : Tr) (id : Int) (N : Nat) (ho : τ.Ok N) (hN : N ≤ 1099511627776) : Fn prog 80 #[AI t, AA id] [AZ t τ] fun v L => (∃ a c, v = .slice a (AG τ id).length c) ∧ L = [AZ t τ, Af 9 1 v (AG τ id).length (A6 (AG τ id))] := by
 refine Fn.intro func80 Y Y fun F W => ?_
 have hfew := ho.few
 have hpz : (AX τ).length = τ.nodes.length := length_map _
 refine .sr (.an Y (.seq (.add (AO 9 1) (.region (.an Y (.seq (.sm Y (.oq (.c func140 [_] (Fj t τ N ho hN)) ?_))))))))
 rintro v L' ⟨⟨ap, cp, rfl⟩, rfl⟩
 refine .q (.slen Y underlying38 Y) Y (.m Y (.nt (.block (.loopK (ι := Nat × Value) (fun q E => (11, AA q.1) :: (5, q.2) :: E) (fun q => [AZ t τ, Af 9 1 q.2 (Hd (τ.nodes.take q.1) id).length (A6 (Hd (τ.nodes.take q.1) id))]) (fun q => q.1 ≤ (AX τ).length ∧ ∃ a c, q.2 = .slice a (Hd (τ.nodes.take q.1) id).length c) (fun q => (AX τ).length - q.1) (0, .slice none 0 0) (ts := [0, 1, 4, 9, 10]) O (⟨Nat.zero_le _, none, 0, Y⟩) O O ?_))))
 rintro ⟨i, u⟩ ⟨hi, au, cu, hu⟩
 dsimp only
 dsimp only at hi hu
 subst hu
 have hkl := Ym (τ.nodes.take i) id
 rw [length_take] at hkl
 refine .sr (.ui Y Y Y (.nt (.seq (.condD Y (fun h12 => ?_) (fun h12 => ?_)))))
 ·have hi2 : i < (AX τ).length := by omega
  have hin : i < τ.nodes.length := by omega
  refine .slShape (v := .slice ap _ cp) O om fun bp cp' e0 mp _ => ?_
  simp only [Value.slice.injEq, true_and] at e0
  obtain ⟨rfl, rfl⟩ := e0
  have hpi : (AX τ)[i] = τ.nodes[i].1 := by simp [AX]
  refine .sk (.seq (.block (.sr (.q (.indexAddr Y Y Dr om) Y (.q (.loadSl (v := AE (AX τ)[i]) (i := i * 1) Y Ak O (by simp [hi2])) Y (.an Y (.seq (.trOpen (τ := τ) O fun rn rs m s hI => ?_))))))))
  obtain ⟨px, hal, hpx⟩ := hI.getAt ho hin
  rw [← hpi] at hal
  refine .bigTake hal O (.ndOpen (x := ((AX τ)[i], px)) O (.region (.m Y (.ui Y Y Y (.m Y (.ndec (t := 17) Y (fun h5_17 => ?_) (fun h5_17 => ?_)))))))
  ·refine .kNT (t := 16) Y h5_17 (.gr (.m Y (.gr (.u (.nilp Y) (.gr (.fa Y A9 (.gr (.u (.ld Y Bp) (.gr (.m Y (.gr (.q (.lookupY (m := m) (enc := G2) (AV.str underlying9) (hal) Y Y underlying110 C9 O Y) Y (.gr (.u (.nilp Y) (.gr (.fa Y Eb (.gr (.fa Y IU (.gr (.q (.to (v' := AA τ.nodes[i].2.st.own) (.load Y AR O Y) (by rw [← hpx])) Y (.gr (.m Y (.gr (.ui Y Y Y (.pT Y Y (.nil (.ndFold (x := ((AX τ)[i], px)) O Y Y Y Y ?_)))))))))))))))))))))))))))
   refine .bigPut (f := Is) (m := m) (AX τ)[i] px Y O ?_
   rw [Ce hal]
   refine .trFold (τ := τ) hI O Y Y Y (.then_n (.condD Y (fun h30 => ?_) (fun h30 => ?_)))
   ·refine .region (.m Y (.m Y (.oq (.buildSlice1 (vs := [_]) Dr J6 Y Y Y Y Y dQ) ?_)))
    rintro v L' ⟨b6_2, rfl, rfl⟩
    refine .oq (.append1 Y Y Y Dr J6 Y Y ?c27 ?c28 (Nat.le_refl _) ?c29 dQ) ?_
    case c27 => (first | (simp [AB]; done) | (simp [AB, AW, Value.cells]; done))
    case c28 => rfl
    case c29 => first | omega | (simp; omega)
    rintro v L' ⟨⟨a6_3, c6_3, rfl⟩, rfl⟩
    refine .a Y (.nil (.blk_n (.then_n (.region (.q (.add Y Y om) Y (.m Y (.nt ?_)))))))
    have hst := WX hin h5_17 h30
    rw [show A6 (Hd (τ.nodes.take i) id) ++ [AE (AX τ)[i]] = A6 (Hd (τ.nodes.take (i + 1)) id) by rw [hst]; simp [A6, AX], show (Hd (τ.nodes.take i) id).length + 1 = (Hd (τ.nodes.take (i + 1)) id).length by rw [hst, length_append]; rfl]
    exact .rk ((i + 1, .slice a6_3 (Hd (τ.nodes.take (i + 1)) id).length c6_3)) (⟨by dsimp only; omega, _, _, rfl⟩) (by dsimp only; omega) O
   refine .skip (.blk_n (.then_n (.region (.q (.add Y Y om) Y (.m Y (.nt ?_))))))
   have hst := TY (s := id) hin (fun g => h30)
   rw [← hst]
   exact .rk ((i + 1, .slice au (Hd (τ.nodes.take (i + 1)) id).length cu)) (⟨by dsimp only; omega, _, _, rfl⟩) (by dsimp only; omega) O
  refine .kNF (t := 16) Y h5_17 (.gk (.gk (.gk (.gk (.gk (.gk (.gk (.gk (.gk (.gk (.gk (.gk (.pF Y Y (.nil (.ndFold (x := ((AX τ)[i], px)) O Y Y Y Y (.bigPut (f := Is) (m := m) (AX τ)[i] px Y O ?_))))))))))))))))
  rw [Ce hal]
  refine .trFold (τ := τ) hI O Y Y Y (.then_n (.condF Y (.skip (.blk_n (.then_n (.region (.q (.add Y Y om) Y (.m Y (.nt ?_)))))))))
  have hst := TY (s := id) hin (fun g => absurd h5_17 g)
  rw [← hst]
  exact .rk ((i + 1, .slice au (Hd (τ.nodes.take (i + 1)) id).length cu)) (⟨by dsimp only; omega, _, _, rfl⟩) (by dsimp only; omega) O
 have hii : i = τ.nodes.length := by omega
 rw [hii, take_length]
 refine .xe (.sm Y (.an Y (.ret ?_)))
 exact .dn Y Y ⟨⟨_, _, Y⟩, Y⟩
theorem Hw (t : Nat) (τ : Tr) (id : Int) : Fn prog 45 #[AI t, AA id] [AZ t τ] fun v L => v = .tuple #[AA (NX τ id).1, AE (NX τ id).2, .bool (decide (Cg τ id))] ∧ L = [AZ t τ] := by
 refine Fn.intro func45 Y Y fun F W => ?_
 refine .trOpen (τ := τ) O fun rn rs m s hI => (.sr (.a Y (.a Y (.an Y (.sr ?_)))))
 rcases hal : AD s id with _ | y
 ·have hz : NX τ id = (0, []) ∧ ¬ Cg τ id := by unfold NX Cg; rw [← hI.slook, hal]; exact ⟨rfl, by simp⟩
  refine .m Y (.nf Y Gl (.u (.ld Y KV) (.m Y (.q (.lookupOkN (m := s) (enc := ssV) (AV.int underlying3) hal Y Y underlying111 Mf O Y) Y (.m Y (.ex Y Y (.ex Y Y (.oq (.allocA Mf) ?_))))))))
  rintro v L' ⟨b7, rfl, rfl⟩
  refine .sa Y Y YO (by (first | (simp [AB]; done) | (simp [AB, AW, Value.cells]; done))) ?_
  refine .a Y (.nil (.ptCast (b := b7) (l' := [AA (NX τ id).1, AE (NX τ id).2]) O (by rw [hz.1]; rfl) ?_))
  refine .then_n (.seq (.draw [] [[0, 1, 2, 3, 4, 5, 6, 7]] mixed kQ (.g0 (.kv Y (.fieldAddr Y QJ) (.kv Y (.ld Y AR) (.kv Y (.fieldAddr Y RA) (.kv Y (.ld Y Ak) (.mv Y Y (.kv Y (.assign Y) (.kv Y (.assign Y) (.kv Y (.assign Y) (.pf (.ret (.trFold (τ := τ) hI O Y Y Y ?_))))))))))))))
  exact .dn Y Y ⟨by rw [decide_eq_false hz.2], rfl⟩
 have hz : NX τ id = y ∧ Cg τ id := by unfold NX Cg; rw [← hI.slook, hal]; exact ⟨rfl, rfl⟩
 refine .m Y (.nf Y Gl (.u (.ld Y KV) (.m Y (.q (.lookupOkY (m := s) (enc := ssV) (AV.int underlying3) hal Y Y underlying111 Mf O Y) Y (.m Y (.ex Y Y (.ex Y Y (.oq (.allocA Mf) ?_))))))))
 rintro v L' ⟨b7, rfl, rfl⟩
 refine .sa Y Y YO (by (first | (simp [AB]; done) | (simp [AB, AW, Value.cells]; done))) ?_
 refine .a Y (.nil (.ptCast (b := b7) (l' := [AA (NX τ id).1, AE (NX τ id).2]) O (by rw [hz.1]; rfl) ?_))
 refine .then_n (.seq (.draw [] [[0, 1, 2, 3, 4, 5, 6, 7]] mixed kQ (.g0 (.kv Y (.fieldAddr Y QJ) (.kv Y (.ld Y AR) (.kv Y (.fieldAddr Y RA) (.kv Y (.ld Y Ak) (.mv Y Y (.kv Y (.assign Y) (.kv Y (.assign Y) (.kv Y (.assign Y) (.pf (.ret (.trFold (τ := τ) hI O Y Y Y ?_))))))))))))))
 exact .dn Y Y ⟨by rw [decide_eq_true hz.2], rfl⟩
theorem LD (t : Nat) (τ : Tr) (p : Bs) (N : Nat) (ho : τ.Ok N) (hN : N ≤ 1099511627776) : Fn prog 107 #[AI t, AE p] [AZ t τ] fun v L => ∃ (u : Value) (l : List Bs), v = .tuple #[u, AA (if AQ τ p then 0 else 60)] ∧ True ∧ l = (if AQ τ p then Bf τ p else []) ∧ (∃ a c, u = .slice a l.length c) ∧ L = [AZ t τ, Af 9 1 u l.length (A6 l)] := by
 refine Fn.intro func107 Y Y fun F W => ?_
 refine .trOpen (τ := τ) O fun rn rs m s hI => ?_
 have hlen := hI.len ho
 have hfew := ho.few
 refine .sr (.a Y (.an Y (.seq (.sr ?_))))
 rcases hal : AD m p with _ | px
 ·refine .m Y (.nf Y A9 (.u (.ld Y Bp) (.m Y (.q (.lookupN (m := m) (enc := G2) (AV.str underlying9) (hal) Y Y underlying110 C9 O Y) Y (.q (.as (v' := .bool true) (by rfl) (.ptreq Y Y underlying107)) Y (.nt (.condT Y (.sr (.a Y (.an Y (.rt (.trFold (τ := τ) hI O Y Y Y (.add (AO 9 1) ?_)))))))))))))
  have hth : ¬ AQ τ p := hI.none_iff.1 hal
  exact .dn Y Y ⟨.slice none 0 0, [], by rw [if_neg hth]; try rfl, trivial, (by rw [if_neg hth]), ⟨none, 0, rfl⟩, rfl⟩
 refine .m Y (.nf Y A9 (.u (.ld Y Bp) (.m Y (.q (.lookupY (m := m) (enc := G2) (AV.str underlying9) (hal) Y Y underlying110 C9 O Y) Y (.q (.as (v' := .bool false) (by rfl) (.ptreq Y Y underlying107)) Y (.nt (.condF Y (.sk (.sm Y (.m Y (.oq (.c func135 [_, _] (Jd t rn (.map (some rs)) (AA τ.zx) m p (hI.plen ho) om)) ?_)))))))))))
 rintro v L' ⟨⟨a5, c5, rfl⟩, rfl⟩
 refine .a Y (.an Y (.ret (.trFold (τ := τ) hI O Y Y Y ?_)))
 have hth : AQ τ p := hI.some_iff hal
 have hkl : (F9 m p).length = (Bf τ p).length := by rw [← hI.kids ho p, J7]
 rw [hI.kids ho p, hkl]
 exact .dn Y Y ⟨_, Bf τ p, by rw [if_pos hth], trivial, by rw [if_pos hth], ⟨_, _, rfl⟩, rfl⟩
theorem QZ : Fn prog 181 #[.slice none 0 0] [Af 75 2 (.slice none 0 0) 0 []] fun u L => u = .slice none 0 0 ∧ L = [Af 75 2 u 0 []] := by
 refine Fn.intro func181 Y Y fun F W => ?_
 refine .sr (.an Y (.sm Y (.m Y (.q (.slen Y underlying30 Y) Y (.m Y (.q (.slen Y underlying30 Y) Y (.q (.clip (n := 0) Y Gw Y Y (Nat.le_refl _) (.inl Y)) Y (.an Y (.ret ?_)))))))))
 exact .dn Y Y ⟨Y, Y⟩
theorem QA (b n c : Nat) (hc : n ≤ c) (xs : List Value) : Fn prog 181 #[.slice (some ⟨b, 0, none⟩) n c] [Af 75 2 (.slice (some ⟨b, 0, none⟩) n c) n xs] fun u L => u = .slice (some ⟨b, 0, none⟩) n n ∧ L = [Af 75 2 u n xs] := by
 refine Fn.intro func181 Y Y fun F W => ?_
 refine .sr (.an Y (.sm Y (.m Y (.q (.slen Y underlying30 Y) Y (.m Y (.q (.slen Y underlying30 Y) Y (.q (.clip (n := n) Y Gw Y Y hc (.inr ⟨_, _, Y⟩)) Y (.an Y (.ret (.slClip O ?_))))))))))
 exact .dn Y Y ⟨Y, Y⟩
theorem Sr (v : Value) (n : Nat) (xs : List Value) : Fn prog 181 #[v] [Af 75 2 v n xs] fun u L => (∃ a c, u = .slice a n c) ∧ L = [Af 75 2 u n xs] := by
 intro F w hs
 obtain ⟨g1, -, hp⟩ := Ao hs
 rcases hp with ⟨rfl, rfl, rfl⟩ | ⟨b, cap, rest, fr, rfl, -, -, -, h4, -⟩
 ·exact (QZ F w hs).mono fun e w' ⟨u, L, ⟨h1, h2⟩, h3⟩ => ⟨u, L, ⟨⟨_, _, h1⟩, h2⟩, h3⟩
 ·exact (QA b n cap h4 xs F w hs).mono fun e w' ⟨u, L, ⟨h1, h2⟩, h3⟩ => ⟨u, L, ⟨⟨_, _, h1⟩, h2⟩, h3⟩
def Do (τ : Tr) (p : Bs) : List Ac := ((AD τ.nodes p).map (·.acl)).getD []
def Qf (τ : Tr) : List Int := τ.sess.map (·.1)
theorem I8 (t : Nat) (τ : Tr) (p : Bs) (N : Nat) (ho : τ.Ok N) : Fn prog 108 #[AI t, AE p] [AZ t τ] fun v L => ∃ u : Value, v = .tuple #[u, AA (if AQ τ p then 0 else 60)] ∧ (∃ a c, u = .slice a (Do τ p).length c) ∧ L = [AZ t τ, Af 75 2 u (Do τ p).length ((Do τ p).flatMap CO)] := by
 refine Fn.intro func108 Y Y fun F W => ?_
 refine .trOpen (τ := τ) O fun rn rs m s hI => (.sr (.a Y (.an Y (.sr ?_))))
 rcases hal : AD m p with _ | px
 ·refine .m Y (.nf Y A9 (.u (.ld Y Bp) (.m Y (.q (.lookupN (m := m) (enc := G2) (AV.str underlying9) (hal) Y Y underlying110 C9 O Y) Y (.an Y (.seq (.sm Y (.q (.as (v' := .bool true) (by rfl) (.ptreq Y Y underlying107)) Y (.nt (.condT Y (.sr (.a Y (.an Y (.rt (.trFold (τ := τ) hI O Y Y Y (.add (AO 75 2) ?_))))))))))))))))
  have hth : ¬ AQ τ p := hI.none_iff.1 hal
  have hac : Do τ p = [] := by unfold Do; rw [← hI.look, hal]; rfl
  exact .dn Y Y ⟨.slice none 0 0, by rw [if_neg hth]; try rfl, ⟨none, 0, by rw [hac]; rfl⟩, by rw [hac]; try rfl⟩
 refine .m Y (.nf Y A9 (.u (.ld Y Bp) (.m Y (.q (.lookupY (m := m) (enc := G2) (AV.str underlying9) (hal) Y Y underlying110 C9 O Y) Y (.an Y (.seq (.sm Y (.q (.as (v' := .bool false) (by rfl) (.ptreq Y Y underlying107)) Y (.nt (.condF Y (.sk (.seq (.bigTake hal O (.ndOpen (x := (p, px)) O (.region (.m Y (.nf Y JY (.u (.ld Y Ft) (.oq (.c func134 [_] (CK px.2.1 px.2.2.acl _ (fun h hp => hp) (hI.acl ho hal))) ?_)))))))))))))))))))
 rintro v L' ⟨⟨a5, c5, rfl⟩, rfl⟩
 refine .oq (.c func181 [_] (Sr _ _ _)) ?_
 rintro v L' ⟨⟨a6, c6, rfl⟩, rfl⟩
 refine .a Y (.a Y (.nil (.ndFold (x := (p, px)) O Y Y Y Y (.bigPut (f := Is) (m := m) p px Y O ?_))))
 rw [Ce hal]
 refine .then_n (.ret (.trFold (τ := τ) hI O Y Y Y ?_))
 have hth : AQ τ p := hI.some_iff hal
 have hac : Do τ p = px.2.2.acl := by unfold Do; rw [hI.at hal]; rfl
 rw [← hac]
 exact .dn Y Y ⟨_, by rw [if_pos hth], ⟨_, _, rfl⟩, rfl⟩
theorem TF (mb : Option Nat) : Fn prog 41 #[.map mb] [] fun v L => ∃ b, v = .func (.func 71) #[] #[AI b] ∧ L = [Ad b [.map mb] 111] :=
 ZS Tryz.keysA mb
theorem PE {b r : Nat} {T : TypeId} (s : Im) (hnd : (s.map (·.1)).Nodup) (hbd : ∀ x ∈ s, -9223372036854775808 ≤ x.1 ∧ x.1 ≤ 9223372036854775807) (hlen : s.length ≤ 1099511627776) :
  Fn prog 40 #[.func (.func 71) #[] #[AI b]] [Ad b [.map (some r)] T, mapR r (ssE s)] fun v L => (∃ a c, v = .slice a s.length c) ∧ L = [Af 3 1 v s.length (Dw (C6 (s.map (·.1)))), mapR r (ssE s)] :=
 VX Tryz.keysA Tryz.sortedA Tryz.sortA rfl (enters_of func70 rfl rfl) (enters_of func71 rfl rfl) underlying3 (enc := ssV) (b := b) (r := r) (T := T) s hnd hbd hlen
theorem W0 {l : List Int} (h : l.Pairwise (· < ·)) : C6 l = l := by
 unfold C6
 refine mergeSort_of_pairwise (h.imp fun hab => ?_)
 simp only [decide_eq_true_eq]; omega
theorem Et.ids {τ : Tr} {m : Gu} {s : Im} (h : Et τ m s) {N : Nat} (ho : τ.Ok N) : C6 (s.map (·.1)) = Qf τ := by
 have hp : (s.map (·.1)).Perm (Qf τ) := (h.sperm ho).map _
 unfold C6
 rw [mergeSort_of_perm_i hp]
 exact W0 ho.ssorted
theorem LX (t : Nat) (τ : Tr) (N : Nat) (ho : τ.Ok N) (hb : ∀ x ∈ τ.sess, x.1 ≤ 9223372036854775807) (hN : N ≤ 1099511627776) : Fn prog 22 #[AI t] [AZ t τ] fun v L => (∃ a c, v = .slice a (Qf τ).length c) ∧ L = [AZ t τ, Af 3 1 v (Qf τ).length (Dw (Qf τ))] := by
 refine Fn.intro func22 Y Y fun F W => ?_
 refine .trOpen (τ := τ) O fun rn rs m s hI => ?_
 have hsf := ho.sfew
 have hsp := hI.sperm ho
 have hsl := hsp.length_eq
 have hiz : (Qf τ).length = τ.sess.length := length_map _
 have hbd : ∀ x ∈ s, -9223372036854775808 ≤ x.1 ∧ x.1 ≤ 9223372036854775807 := fun x hx => by have h1 := hsp.mem_iff.1 hx; have h2 := ho.ids x h1; have h3 := hb x h1; omega
 refine .sr (.an Y (.sm Y (.nf Y Gl (.u (.ld Y KV) (.oq (.c func41 [_] (TF _)) ?_)))))
 rintro v L' ⟨bk, rfl, rfl⟩
 refine .oq (.c func40 [_] (PE s hI.skeys hbd om)) ?_
 rintro v L' ⟨⟨ap, cp, rfl⟩, rfl⟩; rw [hI.ids ho, show s.length = (Qf τ).length by omega]
 refine .an Y (.ret (.trFold (τ := τ) hI O Y Y Y ?_))
 exact .dn Y Y ⟨⟨_, _, Y⟩, Y⟩
end Go.Proofs.YtmbnebafdhpgpaaGreatDoor
/-
 DERIVED: THE SHELF's CONTRACTS AT THIS DUMP, IN PLAIN WORDS (tools/lay-plain.mjs out of 'YtmbnebafdhpgpaaGreatDoorLayC.lean', which tools/lay-shelf.mjs wrote): THE SAME DECLARATIONS UNDER THE SAME NAMES: 'import', 'namespace', 'open', 'def', 'theorem' AND NOTHING ELSE: no command of the shelf's: FOR A HAND-IN. Each laying: the table of numbers ('.._ren') and one theorem, a field a fact of the dump's own or the kernel's comparison; each Fy: ONE APPLICATION.
-/
namespace Go.Proofs
open Go List Go.Proofs.Tryz Go.Shelf
def Tryz.cloneI_ren : Go.Shelf.Ren := ⟨fun | 5 => 138 | 7 => 213 | n => n, fun | 23 => 111 | 25 => 3 | 3 => 123 | 4 => 4 | 20 => 20 | n => n, fun | n => n⟩
theorem Tryz.cloneI : Go.Proofs.SlLaysW.n5 prog Tryz.cloneI_ren := {
 mixed := by kernel_rfl
 f5 := ⟨f138.name, by decide, func138.trans (congrArg some (by kernel_rfl))⟩
 f7 := func213.trans (congrArg some (by kernel_rfl))
 t4 := underlying4
 a4 := Tryz.isAgg4
 z4 := Tryz.sizeOf4
 v4 := Tryz.zeroValue4
 t20 := underlying20
 a20 := Tryz.isAgg20
 z20 := Tryz.sizeOf20
 v20 := Tryz.zeroValue20
 t23 := underlying111
 a23 := Tryz.isAgg111
 z23 := Tryz.sizeOf111
 v23 := Tryz.zeroValue111 }
end Go.Proofs
namespace Go.Proofs.YtmbnebafdhpgpaaGreatDoor
open Go List Go.Proofs.Tryz 
theorem Ir (r : Nat) (ents : List (Value × Value)) : Fn prog 138 #[.map (some r)] [mapR r ents] fun v L => ∃ r', v = .map (some r') ∧ L = [mapR r ents, mapR r' ents] := by
 intro F w hs
 obtain ⟨h1, hle, es, clock, hb, he, hc, hn⟩ := Ao (show CD (mapR r ents :: F) _ from hs)
 have hr : w.heap[r]? = some (.map es.toArray clock) := hle _ _ hb
 refine (AnyW.maps_Clone Tryz.cloneI r es.toArray clock w hr).mono ?_
 rintro e w' ⟨rfl, rfl⟩
 refine ⟨_, [mapR r ents, mapR w.heap.size ents], ⟨_, rfl, rfl⟩, rfl, ?_, At.new w _⟩
 have h2 := St.new hs (.map es.toArray clock)
 exact Eq (Br (fun _ hp => ⟨es, clock, hp, he, hc, hn⟩) h2)
theorem AP.makeMapN {P : Program} {E : Bx} {ty t : TypeId} {k e : TypeId} {x : Operand} {n : Int} (ht : P.underlying t = some (.map k e)) (hx : ev E x = some (AA n)) : AP P ⟨none, .makeMap t (some x), ty, "", #[], none⟩ E [] fun u L' => ∃ b, u = .map (some b) ∧ L' = [pt b (.map #[] 0)] := by
 intro ρ w F ha hs
 have : (execOp ρ ⟨none, .makeMap t (some x), ty, "", #[], none⟩).run P w = .ok (.value (.map (some w.heap.size))) { w with heap := w.heap.push (.map #[] 0) } := by
  refine Bq ?_
  show (Instr.makeMap t (some (ρ x))).run P w = _
  rw [ha x _ hx]
  unfold Instr.makeMap
  simp [AN ht, go_sem, asInt, Result.andThen]
 unfold C5; rw [this]
 exact ⟨_, ⟨_, rfl, rfl⟩, St.new (L := F) hs _, At.new _ _⟩
theorem OU {m ss rest : Gu} {x : Bs × Nm} (hn : (m.map (·.1)).Nodup) (hp : m.Perm (ss ++ x :: rest)) : AD ss x.1 = none := by
 rw [El]
 intro h
 have h1 : ((ss ++ x :: rest).map (·.1)).Nodup := (hp.map _).nodup_iff.1 hn
 rw [map_append, map_cons] at h1
 exact (nodup_append.1 h1).2.2 _ h _ mem_cons_self rfl
theorem Ti {β : Type} : ∀ (l : List (Bs × β)) (x : Bs × β) (p : Bs), AD l x.1 = none → AD (l ++ [x]) p = if p = x.1 then some x.2 else AD l p
 | [], x, p, _ => by simp only [nil_append, AD]
 | y :: l, x, p, h => by
  simp only [cons_append, AD] at h ⊢
  by_cases e : p = y.1
  ·rw [if_pos e]
   have : ¬ p = x.1 := fun g => by rw [if_pos (g.symm.trans e)] at h; cases h
   rw [if_neg this, if_pos e]
  ·rw [if_neg e, if_neg e]
   by_cases e2 : x.1 = y.1
   ·rw [if_pos e2] at h; cases h
   ·rw [if_neg e2] at h
    exact Ti l x p h
theorem NH {m2 ss : Gu} {x : Bs × Nm} {y : Nm} (h : ∀ p, (AD m2 p).map (fun y : Nm => y.2.2) = (AD ss p).map (fun y : Nm => y.2.2)) (hx : AD ss x.1 = none) (hy : y.2.2 = x.2.2.2) (p : Bs) : (AD (BQ m2 x.1 y) p).map (fun y : Nm => y.2.2) = (AD (ss ++ [x]) p).map (fun y : Nm => y.2.2) := by
 rw [DG, Ti ss x p hx]
 split
 ·simp [hy]
 ·exact h p
theorem Jt (t : Nat) (τ : Tr) (N : Nat) (ho : τ.Ok N) (hN : N ≤ 1099511627776) : Fn prog 78 #[AI t] [AZ t τ] fun v L => ∃ c, v = AI c ∧ L = [AZ c τ, AZ t τ] := by
 refine Fn.intro func78 Y Y fun F W => ?_
 refine .trOpen (τ := τ) O fun rn rs m s hI => ?_
 have hlen := hI.len ho
 have hfew := ho.few
 refine .sr (.an Y (.seq (.draw [5, 10, 16] [[0, 1, 2, 3, 4, 6, 7, 8, 9, 11, 12, 13, 14, 5, 10], [15, 16], [17]] mixed kQ (.go [Ad t _ _] O (.mv Y Y (.nf Y Y Y A9 (.kv Y (.ld Y Bp) (.kv Y (.maplen Y underlying110 Y O) (.k Y (.move Y) (.k Y (.nilp Y) (.k Y (.fieldAddr Y Gl) (.k Y (.ld Y KV) (.k Y (.move Y) (.k Y (.nilp Y) (.k Y (.fieldAddr Y Mx) (.k Y (.ld Y AR) (.h2 (k := 10) Y Y kQ Y (.makeMapN underlying110 Y) O (.c func138 [_] (Ir rs (ssE s))) O ?_ ?_)))))))))))))))))
 ·rintro v L' ⟨rn2, rfl, rfl⟩
  refine D.hh Y (.c func138 [_] (Ir rs (ssE s))) ?_
  rintro v L' ⟨rs2, rfl, rfl⟩
  refine D.ph (.g0 (.kv Y (.to (v' := .agg ([.map (some rn2), .map (some rs2), AA τ.zx] : List Value).toArray) (.build (us := [(0, _), (1, _), (2, _)]) SS Sv Y Y (by simp [AB])) Y) (.hh Y (.box Y) ?_)))
  rintro v L' ⟨c, rfl, rfl⟩
  refine D.ph (.g0 (.kv Y (.assign Y) (.ph (.fin (.ptCast (b := c) (l' := [.map (some rn2), .map (some rs2), AA τ.zx]) O Y ?_)))))
  refine .fold (p := mapR rn2 []) (.cons (p := pt rn2 (.map #[] 0)) O .nil) (fun h hp => Eo (F6 hp)) (.add (p := Ag Is []) CX (.then_n (.seq (.sm Y (.nf Y A9 (.u (.ld Y Bp) (.oq (.range (f := fun x : Bs × Nm => (AE x.1, G2 x.2)) (m := m) Y underlying110 ?he27) ?_)))))))
  case he27 => rfl
  rintro v L' ⟨it, rfl, rfl⟩
  refine .nt (.block (.loopK (ι := Gu × Gu) (fun q E => E) (fun q => [Em (fun x : Bs × Nm => (AE x.1, G2 x.2)) it rn m q.1, Ag Is m, mapR rn2 (V0 q.2), Ag Is q.2, Ad c [.map (some rn2), .map (some rs2), AA τ.zx] 113]) (fun q => ((q.2.map (·.1)).Nodup ∧ ∀ p, (AD q.2 p).map (fun y : Nm => y.2.2) = (AD q.1 p).map (fun y : Nm => y.2.2)) ∧ ∃ rest, m.Perm (q.1 ++ rest)) (fun q => m.length - q.1.length) ([], []) (ts := [2, 3, 27]) O (⟨⟨by simp, fun p => rfl⟩, m, .refl _⟩) O O ?_))
  rintro ⟨ss, m2⟩ ⟨⟨hnd2, hm2⟩, rest, hm⟩
  dsimp only
  dsimp only at hnd2 hm2 hm
  have hml := hm.length_eq
  rw [length_append] at hml
  refine .sr (.oq (.next Y) ?_)
  rintro v L' (⟨rfl, hp3, rfl⟩ | ⟨x, rest3, rfl, hp3, rfl⟩)
  ·refine .rangeDone O (.ex Y Y (.nt (.seq (.condF Y (.xe (.sm Y (.an Y (.ret ?_))))))))
   have hI2 : Et τ m2 s := ⟨hnd2, fun p => by rw [hm2, ← UN hp3 hI.keys p]; exact hI.look p, hI.skeys, hI.slook⟩
   refine .trFold (t := c) (rn := rn2) (rs := rs2) (τ := τ) hI2 O Y Y Y (.trFold (t := t) (τ := τ) hI O Y Y Y ?_)
   exact .dn Y Y ⟨_, Y, Y⟩
  refine .ex Y Y (.nt (.seq (.condT Y (.sk (.block (.sr (.q (.entryE (v := .tuple #[AE x.1, G2 x.2]) Y O Y) Y (.ex Y Y (.ex Y Y (.a Y (.a Y (.nil ?_))))))))))))
  have hxm : x ∈ m := hp3.mem_iff.2 (by simp)
  have hal : AD m x.1 = some x.2 := CE hI.keys hxm
  have hxa := hI.acl ho hal
  refine .bigTake hal O (.ndOpen (x := (x.1, x.2)) O (.then_n (.draw [13, 19, 20] [[0, 1, 2, 3, 4, 5, 6, 7, 8, 9, 10, 11, 12, 14, 15, 16, 17, 13, 18, 19], [20]] mixed kQ (.go [Ad x.2.1 _ _, Ad c _ _] O (.k Y (.move Y) (.k Y (.nilp Y) (.k Y (.fieldAddr Y A9) (.k Y (.ld Y Bp) (.k Y (.move Y) (.k Y (.move Y) (.k Y (.nilp Y) (.k Y (.fieldAddr Y Hq) (.k Y (.ld Y Ak) (.mv Y Y (.nf Y Y Y JY (.kv Y (.ld Y Ft) (.k Y (.move Y) (.k Y (.nilp Y) (.k Y (.fieldAddr Y Eb) (.k Y (.loadAs (vs := B6 x.2.2.2.st) Y Eh O (by simp [Q2]) Y) (.hh Y (.c func134 [_] (CK x.2.2.1 x.2.2.2.acl _ (fun h hp => hp) hxa)) ?_)))))))))))))))))))))
  rintro v L' ⟨⟨a5, c5, rfl⟩, rfl⟩
  refine D.kv Y (.buildN (pl := [(0, 1), (1, 1), (2, 9)]) (us := [(0, AE x.2.2.2.data), (1, .slice a5 x.2.2.2.acl.length c5), (2, .agg (B6 x.2.2.2.st).toArray)]) (cells := Q2 (.slice a5 x.2.2.2.acl.length c5) x.2.2.2) underlying109 kQ M7 Y (IF _ _ _ _ _ _ _ _ _ _ _ _ _)) (.hh Y (.box Y) ?_)
  rintro v L' ⟨tn, rfl, rfl⟩
  refine D.ph (.g0 (.hh Y (.mapSet (m := m2) (enc := G2) (v := ((tn, (.slice a5 x.2.2.2.acl.length c5, x.2.2.2)) : Nm)) (k := x.1) (AV.str underlying9) Y Y Y underlying110 ?he57) ?_))
  case he57 => rfl
  rintro v L' rfl
  refine D.ph (.fin (.blk_n (.then_n ?_)))
  have hl := hp3.length_eq
  simp at hl
  refine .ndFold (x := (x.1, x.2)) O Y Y Y Y (.bigPut (f := Is) (m := m) x.1 x.2 Y O ?_)
  rw [Ce hal]
  refine .toRd (v := .slice a5 x.2.2.2.acl.length c5) O (.ndFold (x := (x.1, ((tn, (.slice a5 x.2.2.2.acl.length c5, x.2.2.2)) : Nm))) O Y Y Y Y ?_)
  have hnx : AD ss x.1 = none := OU hI.keys hp3
  have hn2 : AD m2 x.1 = none := by have h := hm2 x.1; rw [hnx] at h; simpa using h
  have hdel := EM hn2
  refine .bigPut (f := Is) (m := m2) x.1 ((tn, (.slice a5 x.2.2.2.acl.length c5, x.2.2.2)) : Nm) Y (by rw [hdel]; (repeat' constructor)) ?_
  exact .rk ((ss ++ [x], BQ m2 x.1 ((tn, (.slice a5 x.2.2.2.acl.length c5, x.2.2.2)) : Nm))) (⟨⟨Bv hnd2 _ _, NH hm2 hnx Y⟩, _, by simpa using hp3⟩) (by dsimp only; simp; omega) O
 rintro v L' ⟨rs2, rfl, rfl⟩
 refine D.hh Y (.makeMapN underlying110 Y) ?_
 rintro v L' ⟨rn2, rfl, rfl⟩
 refine D.ph (.g0 (.kv Y (.to (v' := .agg ([.map (some rn2), .map (some rs2), AA τ.zx] : List Value).toArray) (.build (us := [(0, _), (1, _), (2, _)]) SS Sv Y Y (by simp [AB])) Y) (.hh Y (.box Y) ?_)))
 rintro v L' ⟨c, rfl, rfl⟩
 refine D.ph (.g0 (.kv Y (.assign Y) (.ph (.fin (.ptCast (b := c) (l' := [.map (some rn2), .map (some rs2), AA τ.zx]) O Y ?_)))))
 refine .fold (p := mapR rn2 []) (.cons (p := pt rn2 (.map #[] 0)) O .nil) (fun h hp => Eo (F6 hp)) (.add (p := Ag Is []) CX (.then_n (.seq (.sm Y (.nf Y A9 (.u (.ld Y Bp) (.oq (.range (f := fun x : Bs × Nm => (AE x.1, G2 x.2)) (m := m) Y underlying110 ?he69) ?_)))))))
 case he69 => rfl
 rintro v L' ⟨it, rfl, rfl⟩
 refine .nt (.block (.loopK (ι := Gu × Gu) (fun q E => E) (fun q => [Em (fun x : Bs × Nm => (AE x.1, G2 x.2)) it rn m q.1, Ag Is m, mapR rn2 (V0 q.2), Ag Is q.2, Ad c [.map (some rn2), .map (some rs2), AA τ.zx] 113]) (fun q => ((q.2.map (·.1)).Nodup ∧ ∀ p, (AD q.2 p).map (fun y : Nm => y.2.2) = (AD q.1 p).map (fun y : Nm => y.2.2)) ∧ ∃ rest, m.Perm (q.1 ++ rest)) (fun q => m.length - q.1.length) ([], []) (ts := [2, 3, 27]) O (⟨⟨by simp, fun p => rfl⟩, m, .refl _⟩) O O ?_))
 rintro ⟨ss, m2⟩ ⟨⟨hnd2, hm2⟩, rest, hm⟩
 dsimp only
 dsimp only at hnd2 hm2 hm
 have hml := hm.length_eq
 rw [length_append] at hml
 refine .sr (.oq (.next Y) ?_)
 rintro v L' (⟨rfl, hp3, rfl⟩ | ⟨x, rest3, rfl, hp3, rfl⟩)
 ·refine .rangeDone O (.ex Y Y (.nt (.seq (.condF Y (.xe (.sm Y (.an Y (.ret ?_))))))))
  have hI2 : Et τ m2 s := ⟨hnd2, fun p => by rw [hm2, ← UN hp3 hI.keys p]; exact hI.look p, hI.skeys, hI.slook⟩
  refine .trFold (t := c) (rn := rn2) (rs := rs2) (τ := τ) hI2 O Y Y Y (.trFold (t := t) (τ := τ) hI O Y Y Y ?_)
  exact .dn Y Y ⟨_, Y, Y⟩
 refine .ex Y Y (.nt (.seq (.condT Y (.sk (.block (.sr (.q (.entryE (v := .tuple #[AE x.1, G2 x.2]) Y O Y) Y (.ex Y Y (.ex Y Y (.a Y (.a Y (.nil ?_))))))))))))
 have hxm : x ∈ m := hp3.mem_iff.2 (by simp)
 have hal : AD m x.1 = some x.2 := CE hI.keys hxm
 have hxa := hI.acl ho hal
 refine .bigTake hal O (.ndOpen (x := (x.1, x.2)) O (.then_n (.draw [13, 19, 20] [[0, 1, 2, 3, 4, 5, 6, 7, 8, 9, 10, 11, 12, 14, 15, 16, 17, 13, 18, 19], [20]] mixed kQ (.go [Ad x.2.1 _ _, Ad c _ _] O (.k Y (.move Y) (.k Y (.nilp Y) (.k Y (.fieldAddr Y A9) (.k Y (.ld Y Bp) (.k Y (.move Y) (.k Y (.move Y) (.k Y (.nilp Y) (.k Y (.fieldAddr Y Hq) (.k Y (.ld Y Ak) (.mv Y Y (.nf Y Y Y JY (.kv Y (.ld Y Ft) (.k Y (.move Y) (.k Y (.nilp Y) (.k Y (.fieldAddr Y Eb) (.k Y (.loadAs (vs := B6 x.2.2.2.st) Y Eh O (by simp [Q2]) Y) (.hh Y (.c func134 [_] (CK x.2.2.1 x.2.2.2.acl _ (fun h hp => hp) hxa)) ?_)))))))))))))))))))))
 rintro v L' ⟨⟨a5, c5, rfl⟩, rfl⟩
 refine D.kv Y (.buildN (pl := [(0, 1), (1, 1), (2, 9)]) (us := [(0, AE x.2.2.2.data), (1, .slice a5 x.2.2.2.acl.length c5), (2, .agg (B6 x.2.2.2.st).toArray)]) (cells := Q2 (.slice a5 x.2.2.2.acl.length c5) x.2.2.2) underlying109 kQ M7 Y (IF _ _ _ _ _ _ _ _ _ _ _ _ _)) (.hh Y (.box Y) ?_)
 rintro v L' ⟨tn, rfl, rfl⟩
 refine D.ph (.g0 (.hh Y (.mapSet (m := m2) (enc := G2) (v := ((tn, (.slice a5 x.2.2.2.acl.length c5, x.2.2.2)) : Nm)) (k := x.1) (AV.str underlying9) Y Y Y underlying110 ?he99) ?_))
 case he99 => rfl
 rintro v L' rfl
 refine D.ph (.fin (.blk_n (.then_n ?_)))
 have hl := hp3.length_eq
 simp at hl
 refine .ndFold (x := (x.1, x.2)) O Y Y Y Y (.bigPut (f := Is) (m := m) x.1 x.2 Y O ?_)
 rw [Ce hal]
 refine .toRd (v := .slice a5 x.2.2.2.acl.length c5) O (.ndFold (x := (x.1, ((tn, (.slice a5 x.2.2.2.acl.length c5, x.2.2.2)) : Nm))) O Y Y Y Y ?_)
 have hnx : AD ss x.1 = none := OU hI.keys hp3
 have hn2 : AD m2 x.1 = none := by have h := hm2 x.1; rw [hnx] at h; simpa using h
 have hdel := EM hn2
 refine .bigPut (f := Is) (m := m2) x.1 ((tn, (.slice a5 x.2.2.2.acl.length c5, x.2.2.2)) : Nm) Y (by rw [hdel]; (repeat' constructor)) ?_
 exact .rk ((ss ++ [x], BQ m2 x.1 ((tn, (.slice a5 x.2.2.2.acl.length c5, x.2.2.2)) : Nm))) (⟨⟨Bv hnd2 _ _, NH hm2 hnx Y⟩, _, by simpa using hp3⟩) (by dsimp only; simp; omega) O
def CA (P : Program) (v : Value) (vs : List Value) (pre : List HP) (post : Value → List HP → Prop) : Prop :=
 ∃ (f : FuncId) (fn : Func) (c : Code) (us ws : List Value), v = .func (.func f) us.toArray ws.toArray ∧ P.funcs[f]? = some fn ∧ fn.body = some c ∧ (fn.name == "runtime.NumGoroutine") = false ∧ Fn P f (us ++ vs ++ ws).toArray pre post
theorem CA.of {P : Program} {f : FuncId} {fn : Func} {c : Code} {us vs ws : List Value} {pre : List HP} {post : Value → List HP → Prop} (hf : P.funcs[f]? = some fn) (hb : fn.body = some c) (hn : (fn.name == "runtime.NumGoroutine") = false) (h : Fn P f (us ++ vs ++ ws).toArray pre post) :
  CA P (.func (.func f) us.toArray ws.toArray) vs pre post := ⟨f, fn, c, us, ws, rfl, hf, hb, hn, h⟩
theorem AP.callD {P : Program} {E : Bx} {x : Operand} {xs : Array Operand} {ts : Array TypeId} {ty : TypeId} {v : Value} {vs : List Value} {pre : List HP} {post : Value → List HP → Prop} (hv : ev E x = some v) (hx : xs.toList.map (ev E) = vs.map some) (h : CA P v vs pre post) :
  AP P ⟨none, .call { callee := .value x, args := xs, argTypes := ts }, ty, "", #[], none⟩ E pre post := by
 obtain ⟨f, fn, c, us, ws, rfl, hf, hb, hn, hF⟩ := h
 exact AP.callV hf hb hn hv hx hF
theorem AK.andNot {P : Program} {E : Bx} {L : List HP} {ty : TypeId} {t t' : TypeId} {x y : Operand} {k : IntKind} {a b : Int} (hx : ev E x = some (.int k a)) (hy : ev E y = some (.int k b)) :
  AK P ⟨none, .binOp .andNot t x y t', ty, "", #[], none⟩ E L (.int k (k.wrap (BitVec.ofInt k.bits a &&& ~~~ BitVec.ofInt k.bits b).toNat)) := by
 intro ρ w ha _
 simp [execOp, ha x _ hx, ha y _ hy, eqGuard, binOp, Op.intBits, Bind.bind, Sem.bind, Pure.pure, Sem.run]
theorem Sg {P : Program} {fv : Value} {vs : List Value} {pre : List HP} {post : Value → List HP → Prop} (h : CA P fv vs pre post) : fv.cells.toList = [fv] := by
 obtain ⟨f, fn, c, us, ws, rfl, -⟩ := h
 rfl
def B1 : List Int → Int
 | [] => 0
 | e :: l => if e ≠ 0 then e else B1 l
theorem Rd : ∀ {es : List Int} {i : Nat} (hi : i < es.length), (∀ j (hj : j < i), es[j]'om = 0) → es[i] ≠ 0 → B1 es = es[i]
 | e :: es, 0, _, _, h => if_pos h
 | e :: es, i + 1, hi, hb, h => by
  have h0 : e = 0 := hb 0 om
  show (if e ≠ 0 then e else B1 es) = es[i]'(by simpa using hi)
  rw [if_neg (fun g => g h0)]
  exact Rd (by simpa using hi) (fun j hj => hb (j + 1) om) h
theorem M6 : ∀ {es : List Int}, (∀ j (hj : j < es.length), es[j] = 0) → B1 es = 0
 | [], _ => rfl
 | e :: es, h => by
  have h0 : e = 0 := h 0 (by simp)
  show (if e ≠ 0 then e else B1 es) = 0
  rw [if_neg (fun g => g h0)]
  exact M6 fun j hj => h (j + 1) (by simpa using hj)
abbrev C3 (n : Int) : Int := IntKind.i64.wrap n
def orI (a b : Int) : Int := IntKind.i64.wrap (BitVec.ofInt 64 a ||| BitVec.ofInt 64 b).toNat
def andI (a b : Int) : Int := IntKind.i64.wrap (BitVec.ofInt 64 a &&& BitVec.ofInt 64 b).toNat
def T2 (a b : Int) : Int := IntKind.i64.wrap (BitVec.ofInt 64 a &&& ~~~ BitVec.ofInt 64 b).toNat
def Dy : Bs := [119, 111, 114, 108, 100]
/-! ### Rows of who may what -/
def Zn (c : UInt8) : Bool := decide (48 ≤ c.toNat) && decide (c.toNat ≤ 57)
def WZ (c : UInt8) : Bool := Zn c || (decide (97 ≤ c.toNat) && decide (c.toNat ≤ 122))
def ZP (c : UInt8) : Bool := Zn c || (decide (97 ≤ c.toNat) && decide (c.toNat ≤ 102))
def Ju (s : Bs) : Bool := !decide (s = []) && decide (s.length ≤ 12) && s.all WZ
def GW : Bs → Bs
 | [] => []
 | c :: s => if c = 58 then [] else c :: GW s
def FU : Bs → Bs
 | [] => []
 | c :: s => if c = 58 then s else FU s
def Nq (s : Bs) : Bool := decide (s = Dy) || (decide ((58 : UInt8) ∈ s) && Ju (GW s) && decide ((FU s).length = 16) && (FU s).all ZP)
def JS (a : Ac) : Bool := decide (a.1 < 1) || decide (a.1 > 31) || !Nq a.2
def FX (l : List Ac) : Bool := decide (0 < l.length) && decide (l.length ≤ 4) && !l.any JS
def Qy (ids : List Bs) (a : Ac) : Bool := decide (a.2 = Dy) || decide (a.2 ∈ ids)
def Dv (ids : List Bs) (l : List Ac) : Int := l.foldl (fun g a => if Qy ids a = true then orI g a.1 else g) 0
def Xb (l : List Ac) (perm : Int) (ids : List Bs) : Bool := decide (0 ≤ perm) && decide (perm ≤ 31) && decide (T2 perm (Dv ids l) = 0)
/-! ### Colons -/
def Gt : Bs → Int
 | [] => -1
 | b :: l => if b = 58 then 0 else if Gt l = -1 then -1 else Gt l + 1
theorem XO (s : Bs) : Go.Lib.indexByte s 58 = Gt s := by
 induction s with
 | nil => rfl
 | cons b l ih =>
  unfold Go.Lib.indexByte Gt
  rw [ih]
  simp
theorem Rc {P : Program} (s : Bs) (w : World) : (Extern.BytealgIndexByte.indexByte #[AE s, .int .u8 58]).run P w = .ok (AA (Gt s)) w := by
 rw [show AE s = .string (bs s) from rfl, Go.Lib.run_indexByteString]
 rw [show (bs s).data.toList = s from rfl, show (58 : Int).toNat.toUInt8 = 58 from rfl, XO]
theorem Qq {s : Bs} (h : (58 : UInt8) ∈ s) : ∃ k : Nat, Gt s = k ∧ k < s.length ∧ GW s = s.take k ∧ FU s = s.drop (k + 1) := by
 induction s with
 | nil => cases h
 | cons b l ih =>
  by_cases hb : b = 58
  ·subst hb
   exact ⟨0, if_pos rfl, by simp, if_pos rfl, if_pos rfl⟩
  ·have hl : (58 : UInt8) ∈ l := by
    rcases mem_cons.1 h with h | h
    ·exact absurd h.symm hb
    ·exact h
   obtain ⟨k, e1, e2, e3, e4⟩ := ih hl
   refine ⟨k + 1, ?_, by rw [length_cons]; omega, ?_, ?_⟩
   ·show (if b = 58 then (0 : Int) else if Gt l = -1 then -1 else Gt l + 1) = _
    rw [if_neg hb, e1, if_neg om]; rfl
   ·show (if b = 58 then [] else b :: GW l) = _
    rw [if_neg hb, e3, take_succ_cons]
   ·show (if b = 58 then l else FU l) = _
    rw [if_neg hb, e4, drop_succ_cons]
theorem X0 {s : Bs} (h : (58 : UInt8) ∉ s) : Gt s = -1 := by
 induction s with
 | nil => rfl
 | cons b l ih =>
  show (if b = 58 then (0 : Int) else if Gt l = -1 then -1 else Gt l + 1) = _
  rw [if_neg (fun e : b = 58 => h (by rw [e]; exact mem_cons_self)), ih (fun g => h (mem_cons_of_mem _ g)), if_pos rfl]
/-! ### Runes -/
structure ABT (T : Int → Bool) : Prop where
 high : ∀ r : Int, 128 ≤ r → T r = false
def PQ (r : Int) : Bool := decide (48 ≤ r) && decide (r ≤ 57)
def Ik (r : Int) : Bool := PQ r || (decide (97 ≤ r) && decide (r ≤ 122))
def Mj (r : Int) : Bool := PQ r || (decide (97 ≤ r) && decide (r ≤ 102))
theorem Uk : ABT Ik := ⟨fun r h => by unfold Ik PQ; simp; omega⟩
theorem XZ : ABT Mj := ⟨fun r h => by unfold Mj PQ; simp; omega⟩
theorem SP (c : UInt8) : Ik (c.toNat : Int) = WZ c := by
 unfold Ik WZ PQ Zn
 congr 1 <;> congr 1 <;> (apply decide_eq_decide.2; omega)
theorem Ui (c : UInt8) : Mj (c.toNat : Int) = ZP c := by
 unfold Mj ZP PQ Zn
 congr 1 <;> congr 1 <;> (apply decide_eq_decide.2; omega)
theorem Mi (s : Bs) : Ju s = (!decide (s = []) && decide (s.length ≤ 12) && s.all fun c : UInt8 => Ik (c.toNat : Int)) := by
 unfold Ju
 congr 2; funext c; rw [SP]
theorem Z0 (s : Bs) : s.all ZP = s.all fun c : UInt8 => Mj (c.toNat : Int) := by
 congr 1; funext c; rw [Ui]
theorem Jz (s : Bs) : Nq s = (decide (s = Dy) || (decide ((58 : UInt8) ∈ s) && Ju (GW s) && decide ((FU s).length = 16) && (FU s).all fun c : UInt8 => Mj (c.toNat : Int))) := by
 unfold Nq; rw [Z0]
theorem Xz {T : UInt8 → Bool} {s : Bs} {pos : Nat} (h : pos < s.length) (ha : (s.take pos).all T = true) (ht : T s[pos] = true) : (s.take (pos + 1)).all T = true := by
 rw [take_succ_eq_append_getElem h, all_append, ha]; simp [ht]
theorem UO {T : UInt8 → Bool} {s : Bs} {pos : Nat} (h : pos < s.length) (ht : T s[pos] = false) : s.all T = false := by
 rw [all_eq_false]; exact ⟨s[pos], getElem_mem h, by rw [ht]; decide⟩
end Go.Proofs.YtmbnebafdhpgpaaGreatDoor
