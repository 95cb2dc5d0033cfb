/- Own work, in part by program, for plainReplays.proved. -/
import Derived.Test.YtmbnebafdhpgpaaGreatDoorCVReplaysP3
import Derived.Test.YtmbnebafdhpgpaaGreatDoorCVReplaysP0
import Derived.Shelf.Spec.TrailingZeros
import Derived.Ground.Names7Prog
import Derived.Test.YtmbnebafdhpgpaaGreatDoorProg
import Derived.Test.YtmbnebafdhpgpaaGreatDoorCVReplaysP2
import Derived.Test.YtmbnebafdhpgpaaGreatDoorCVReplaysP1
set_option maxRecDepth 100000
namespace Go.Proofs.YtmbnebafdhpgpaaGreatDoor
open Go List Go.Proofs.Tryz 
theorem R4 (a b c : Int) (s0 s1 s2 s3 s4 s5 s6 s7 : Value) : Instr.fill (fun i => [(0, 1), (1, 1), (2, 1), (3, 8)].toArray[i]?) (([.int .i64 0, .int .i64 0, .int .i64 0, .int .i64 0, .string (bs []), .string (bs []), .slice none 0 0, .int .i64 0, .int .i64 0, .int .i64 0, .slice none 0 0] : List Value).toArray) [(0, AA a), (1, AA b), (2, AA c), (3, .agg ([s0, s1, s2, s3, s4, s5, s6, s7] : List Value).toArray)] = some (([AA a, AA b, AA c] ++ [s0, s1, s2, s3, s4, s5, s6, s7] : List Value).toArray) := by kernel_rfl
theorem IQ {a b c : Int} {y : Pt} {l : List Pt} (h1 : AB y.aclV = true) (h2 : AB y.subsV = true) : ∀ v ∈ DE ⟨a, b, c, y, l⟩, AB v = true := by
 intro v hv
 simp only [DE, A1, cons_append, nil_append, mem_cons, not_mem_nil, or_false] at hv
 rcases hv with rfl | rfl | rfl | rfl | rfl | rfl | rfl | rfl | rfl | rfl | rfl <;> first | rfl | assumption
theorem NN : Fn prog 8 #[] [] fun v L => ∃ b k, v = AI b ∧ L = [Pq b k Jx] := by
 refine Fn.intro func8 Y Y fun F W => ?_
 refine .sr (.an Y (.sr (.oq (.c func20 [] (TK)) ?_)))
 rintro v L' ⟨t, rfl, rfl⟩
 refine .oq (.c func21 [] (VN)) ?_
 rintro v L' ⟨u, rfl, rfl⟩
 refine .q (.build (us := [(0, _), (1, _)]) ACP ABm Y Y (by simp [AB])) Y (.oq (.makeMap underlying82) ?_)
 rintro v L' ⟨rid, rfl, rfl⟩
 refine .oq (.makeMap underlying83) ?_
 rintro v L' ⟨rev, rfl, rfl⟩
 refine .q (.to (v' := .agg (Vv ⟨t, u, rid, rev⟩ AF 0).toArray) (.buildN (pl := [(0, 2), (2, 1), (3, 1), (4, 1), (5, 1)]) (us := [(0, .agg #[AI t, AI u]), (3, .map (some rid)), (4, .map (some rev))]) (cells := Vv ⟨t, u, rid, rev⟩ AF 0) underlying85 kQ ACI Y Y) Y) Y (.oq (.box Y) ?_)
 rintro v L' ⟨b, rfl, rfl⟩
 refine .a Y (.nil (.pc b (Vv ⟨t, u, rid, rev⟩ AF 0) ?_))
 refine .fold (p := mapR rid []) (.cons (p := pt rid (.map #[] 0)) O .nil) (fun h hp => Eo (F6 hp)) (.fold (p := mapR rev []) (.cons (p := pt rev (.map #[] 0)) O .nil) (fun h hp => Eo (F6 hp)) (.add (p := Py AF []) (AO 62 11) (.add (p := Ag entR []) (fun h => CX h) (.add (p := Ag OE []) (fun h => CX h) (.add (p := Ag SR []) (fun h => CX h) (.plFold (k := ⟨t, u, rid, rev⟩) (ov := AF) Jx (mi := []) (me := []) ⟨nodup_nil, nodup_nil, fun _ => Y, fun _ => Y⟩ O (by rfl) (by rfl) (by rfl) (by rfl) (by rfl) (by rfl) (.then_n (.ret ?_))))))))
 exact .dn Y Y ⟨b, ⟨t, u, rid, rev⟩, Y, Y⟩
theorem J4 (b : Nat) (k : Ve) (π : Pl) (id : Int) : Fn prog 24 #[AI b, AA id] [Pq b k π] fun v L => v = .bool (decide (Cg π.τ id)) ∧ L = [Pq b k π] := by
 refine Fn.intro func24 Y Y fun F W => ?_
 refine .plOpen (π := π) O fun ov mi me hI => (.sr (.an Y (.sm Y (.nf Y DZ (.fa Y E7 (.u (.ld Y C1) (.m Y (.cv func45 [_, _] (Hw k.t π.τ id) ?_))))))))
 refine .m Y (.ex Y Y (.ex Y Y (.ex Y Y (.a Y (.a Y (.a Y (.nil (.plFold (π) hI O (by rfl) (by rfl) (by rfl) (by rfl) (by rfl) (by rfl) (.then_n (.sm Y (.an Y (.ret ?_))))))))))))
 exact .vv
theorem JB (b : Nat) (k : Ve) (π : Pl) (ov : Value) (mi : Sm Bs) (me : Sm Ev) (hI : Lc π mi me) (s x : Int) (y : Pt) (ys : List Pt) {N0 : Nat} (hG : D8 N0 y ys) (hN0 : N0 ≤ 65536) (hc : AB y.aclV = true ∧ ∃ a c, y.subsV = .slice a ys.length c) (hcs : ∀ z ∈ ys, AB z.aclV = true ∧ z.subsV = AF) (hs : Az s) (hx : Az x) (N : Nat) (ho : π.τ.Ok N) (hN : N ≤ 1048576) (hord : π.ord.length ≤ 1048576) (hω : π.ω.length ≤ 4096) (hev : ∀ i, (π.ev i).length ≤ 1099511627776) : Fn prog 23 #[AI b, AA s, AA x, .agg (A1 y).toArray] ([aclR y, Af 60 8 y.subsV ys.length (ys.flatMap A1), Ag aclR ys] ++ [Ad b (Vv k ov π.opened) 85, AZ k.t π.τ, LB k.u π.ω, Py ov π.ord, Ag entR π.ord, mapR k.rid (Ws mi), mapR k.rev (Ws me), Ag SR me]) fun v L => ∃ z : PlX, v = .agg (DE (Bo π s x y ys)).toArray ∧ Lc (Bl π s x y ys) z.mi z.me ∧ z.mi = (if y.kind = 6 then BX mi y.own else mi) ∧ L = [entR (Bo π s x y ys), Ad b (Vv k z.ov (Bl π s x y ys).opened) 85, AZ k.t (Bl π s x y ys).τ, LB k.u (Bl π s x y ys).ω, Py z.ov (Bl π s x y ys).ord, Ag entR π.ord, mapR k.rid (Ws z.mi), mapR k.rev (Ws z.me), Ag SR z.me] := by
 refine Fn.intro func23 Y Y fun F W => ?_
 have hcv : AB y.subsV = true := by obtain ⟨-, a, c, e⟩ := hc; rw [e]; rfl
 refine .slAny (v := ov) O fun ao co eo _ => ?_
 subst eo
 have hys := hG.few om
 have hys2 : ys.length ≤ 65544 := by rcases hG.len with h | ⟨-, h, -⟩ <;> omega
 refine .sr (.oq (.box Y) ?_)
 rintro v L' ⟨b7, rfl, rfl⟩
 refine .oq (.allocA Ey) ?_
 rintro v L' ⟨b8, rfl, rfl⟩
 refine .nil (.pc b7 (A1 y) ?_)
 refine .then_n (.seq (.draw [11, 12] [[0, 1, 2, 3, 4, 5, 6, 7, 8, 9, 10, 11], [12]] mixed kQ (.go [Ad b _ _, Ad b7 _ _] O (.k Y (.move Y) (.k Y (.nilp Y) (.k Y (.fieldAddr Y Lw) (.k Y (.ld Y WO) (.k Y (.slen Y underlying54 Y) (.k Y (.add Y Y om) (.k Y (.add Y Y om) (.k Y (.move Y) (.k Y (.move Y) (.k Y (.la (A1 y) Y Ay) (.k Y (.to (v' := .agg (DE (Bo π s x y ys)).toArray) (.buildN (pl := [(0, 1), (1, 1), (2, 1), (3, 8)]) (us := [(0, AA (Bo π s x y ys).zx), (1, AA (Bo π s x y ys).ses), (2, AA (Bo π s x y ys).xid), (3, .agg (A1 (Bo π s x y ys).x).toArray)]) (cells := DE (Bo π s x y ys)) underlying62 kQ Ey Y (R4 _ _ _ _ _ _ _ _ _ _ _)) Y) ?_))))))))))))))
 refine D.hh Y (.allocA Ey) ?_
 rintro v L' ⟨b9, rfl, rfl⟩
 refine D.ph (.g0 (.sa Y Y Y Ii (by exact IQ hc.1 hcv) ?_))
 refine D.ph (.fin (.pc b9 (DE (Bo π s x y ys)) ?_))
 refine .fold (p := entR (Bo π s x y ys)) (q := [aclR y, Af 60 8 y.subsV ys.length (ys.flatMap A1), Ag aclR ys]) O (fun _ h => h) (.then_n (.seq (.draw [6, 7, 10] [[0, 1, 2, 3, 4, 5, 6, 7], [8, 9, 10]] mixed kQ (.go [Ad b _ _, Ad b9 _ _] O (.k Y (.move Y) (.k Y (.move Y) (.k Y (.nilp Y) (.k Y (.fieldAddr Y Lw) (.k Y (.ld Y WO) (.kv Y (.la (DE (Bo π s x y ys)) Y EL) (.hh Y (.buildSlice (vs := [_]) H5 Ey Y Y Y Y cQ dQ) ?_)))))))))))
 rintro v L' ⟨bs, rfl, rfl⟩
 refine D.hh Y (.append1 Y Y Y H5 Ey Y Y ?c31 ?c32 (Nat.le_refl _) ?c33 dQ) ?_
 case c31 => simp only [map_cons, map_nil, flatten_cons, flatten_nil, append_nil]; simp only [Value.cells]; exact IQ hc.1 hcv
 case c32 => rfl
 case c33 => omega
 rintro v L' ⟨⟨an, cn, rfl⟩, rfl⟩
 refine D.ph (.g0 (.nf Y Y Y Lw (.hh Y (.store Y Y Y ACR ?c38 (Bb _ _)) ?_)))
 case c38 => simp [Vv]
 rintro v L' rfl
 refine D.ph (.fin (.pc b (Vv k (.slice an (π.ord.length + 1) cn) π.opened) ?_))
 refine .slCast (T := 62) (sz := 11) (m' := (π.ord ++ [(Bo π s x y ys)]).length) (xs' := (π.ord ++ [(Bo π s x y ys)]).flatMap DE) O (by rw [length_append]; rfl) (by rw [flatMap_append]; simp [Value.cells]) ?_
 rw [show π.ord.length + 1 = (π.ord ++ [(Bo π s x y ys)]).length from by rw [length_append]; rfl]
 refine .then_n (.seq (.draw [6] [[0, 1, 2, 3, 4, 5, 6], [7, 8, 9, 10, 11]] mixed kQ (.g0 (.mv Y Y (.nf Y Y Y DZ (.kv Y (.fieldAddr Y E7) (.kv Y (.ld Y C1) (.kv Y (.la (DE (Bo π s x y ys)) Y EL) (.hh Y (.call func42 Y Y (vs := [_, _]) Y (Ej k.t π.τ (Cp π) s x y ys (entR (Bo π s x y ys)) (hG.tx om _ _ _ hc hcs) N ho om)) ?_)))))))))
 rintro v L' ⟨ue, ee, rfl, he, ⟨aq, cq, hue⟩, rfl⟩
 refine D.ph (.g0 (.mv Y Y (.kv Y (.extract Y Y) (.kv Y (.extract Y Y) (.kv Y (.assign Y) (.kv Y (.assign Y) (.pf (.seq (.seq ?_)))))))))
 subst hue
 have hel := XL π.τ (Cp π) y ys
 have hfl := MC π.ω (AC π.τ (Cp π) y ys).2.1 (AC π.τ (Cp π) y ys).2.1.length
 have hfl2 : (AC π.τ (Cp π) y ys).2.1.length * π.ω.length ≤ 131090 * 4096 := Nat.mul_le_mul om hω
 have hfl3 : (Be π.ω (AC π.τ (Cp π) y ys).2.1).1.length ≤ π.ω.length ∧ (Be π.ω (AC π.τ (Cp π) y ys).2.1).2.length ≤ (AC π.τ (Cp π) y ys).2.1.length * π.ω.length := hfl
 refine .region (.m Y (.nf Y DZ (.fa Y Lv (.u (.ld Y UC) (.m Y (.oq (.call func43 Y Y (vs := [_, _]) Y (Ry k.u π.ω _ (AC π.τ (Cp π) y ys).2.1 _ (fun h hp => Aa hp) om om)) ?_))))))
 rintro v L' ⟨af, cf, rfl, rfl⟩
 refine .q (.slen Y underlying124 Y) Y (.m Y (.nt (.block ?_)))
 have h0 := hI.tell0 (Be π.ω (AC π.τ (Cp π) y ys).2.1).2
 refine .loopK (ι := Nat × (Sm Ev)) (fun q E => (53, AA q.1) :: E) (fun q => [mapR k.rev (Ws q.2), Ag SR q.2]) (fun q => q.1 ≤ (Be π.ω (AC π.τ (Cp π) y ys).2.1).2.length ∧ (q.2.map (·.1)).Nodup ∧ ∀ j, FQ π.ev ((Be π.ω (AC π.τ (Cp π) y ys).2.1).2.take q.1) j = (BS q.2 j).2) (fun q => (Be π.ω (AC π.τ (Cp π) y ys).2.1).2.length - q.1) (0, me) (ts := [0, 7, 8, 9, 51, 52]) O (⟨Nat.zero_le _, h0.1, h0.2⟩) O O ?_
 rintro ⟨i, me2⟩ ⟨hi, hnd, htl⟩
 dsimp only
 dsimp only at hi hnd htl
 refine .sr (.ui Y Y Y (.nt (.seq (.condD Y (fun h54 => ?_) (fun h54 => ?_)))))
 ·have hi2 : i < (Be π.ω (AC π.τ (Cp π) y ys).2.1).2.length := by omega
  have hle := Oh π.ev ((Be π.ω (AC π.τ (Cp π) y ys).2.1).2.take i) (Be π.ω (AC π.τ (Cp π) y ys).2.1).2[i].1
  have hle2 := hev (Be π.ω (AC π.τ (Cp π) y ys).2.1).2[i].1
  rw [htl, length_take] at hle
  refine .slShape (v := .slice af _ cf) O om fun bf bf' e0 mbf _ => ?_
  simp only [Value.slice.injEq, true_and] at e0
  obtain ⟨rfl, rfl⟩ := e0
  refine .sk (.seq (.block (.sr (.q (.indexAddr Y Y TG om) Y (.q (.loadRdA (sz := 4) (j := i * 4) (k := 4) (p := Af 127 4 _ (Be π.ω (AC π.τ (Cp π) y ys).2.1).2.length ((Be π.ω (AC π.τ (Cp π) y ys).2.1).2.flatMap KO)) (vs := KO (Be π.ω (AC π.τ (Cp π) y ys).2.1).2[i]) Y ABM O (fun h hp => Aa hp) (by simp) om om (A5 (f := KO) (sz := 4) (fun _ _ => Y) om)) Y (.oq (.allocA PL) ?_))))))
  rintro v L' ⟨b13, rfl, rfl⟩
  refine .sa Y Y AAu (by simp [KO, AB]) ?_
  refine .nil (.pc b13 (KO (Be π.ω (AC π.τ (Cp π) y ys).2.1).2[i]) ?_)
  refine .evTakeS (m := me2) (Be π.ω (AC π.τ (Cp π) y ys).2.1).2[i].1 O fun ae ce hse => (.then_n (.draw [15, 16, 17] [[0, 1, 2, 3, 4, 5, 6, 7, 8, 9, 10, 11, 12, 13, 14, 15, 16], [17]] mixed kQ (.go [Ad b _ _, Ad b13 _ _, mapR k.rev _] O (.k Y (.move Y) (.k Y (.nilp Y) (.k Y (.fieldAddr Y HG) (.k Y (.ld Y NT) (.k Y (.fieldAddr Y Pv) (.k Y (.ld Y AR) (.k Y (.move Y) (.k Y (.nilp Y) (.k Y (.fieldAddr Y HG) (.k Y (.ld Y NT) (.k Y (.fieldAddr Y Pv) (.k Y (.ld Y AR) (.k Y (.to (v' := .slice ae (BS me2 (Be π.ω (AC π.τ (Cp π) y ys).2.1).2[i].1).2.length ce) (.lookupV (m := me2) (enc := SV) (AV.int underlying3) (v := (BS me2 (Be π.ω (AC π.τ (Cp π) y ys).2.1).2[i].1).1) (fun b hb => Fl b hb) (fun hb => Fo hb) Y Y underlying83 YP O Y) hse) (.kv Y (.fieldAddr Y Wd) (.kv Y (.la (BV (Be π.ω (AC π.τ (Cp π) y ys).2.1).2[i].2) Y EK) ?_))))))))))))))))))
  refine D.hh Y (.buildSlice (vs := [_]) DP Bt Y Y Y Y cQ dQ) ?_
  rintro v L' ⟨bv, rfl, rfl⟩
  refine D.hh Y (.append1 Y Y Y DP Bt Y Y ?c87 ?c88 (Nat.le_refl _) ?c89 dQ) ?_
  case c87 => simp only [map_cons, map_nil, flatten_cons, flatten_nil, append_nil]; simp [Value.cells, BV, AB]
  case c88 => rfl
  case c89 => omega
  rintro v L' ⟨⟨a7, c7, rfl⟩, rfl⟩
  refine D.ph (.g0 (.hh Y (.mapSet (m := me2) (enc := SV) (v := (.slice a7 ((BS me2 (Be π.ω (AC π.τ (Cp π) y ys).2.1).2[i].1).2.length + 1) c7, (BS me2 (Be π.ω (AC π.τ (Cp π) y ys).2.1).2[i].1).2 ++ [(Be π.ω (AC π.τ (Cp π) y ys).2.1).2[i].2])) (k := (Be π.ω (AC π.τ (Cp π) y ys).2.1).2[i].1) (AV.int underlying3) Y Y Y underlying83 ?he92) ?_))
  case he92 => rfl
  rintro v L' rfl
  refine D.ph (.fin (.evPut (m := me2) (Be π.ω (AC π.τ (Cp π) y ys).2.1).2[i].1 (v := .slice a7 ((BS me2 (Be π.ω (AC π.τ (Cp π) y ys).2.1).2[i].1).2.length + 1) c7) ((BS me2 (Be π.ω (AC π.τ (Cp π) y ys).2.1).2[i].1).2 ++ [(Be π.ω (AC π.τ (Cp π) y ys).2.1).2[i].2]) O (by rw [length_append]; rfl) (by rw [flatMap_append]; simp [Value.cells]) (.blk_n (.then_n (.region (.q (.add Y Y om) Y (.m Y (.nt ?_))))))))
  have ht2 := Z2 hi2 hnd htl (.slice a7 ((BS me2 (Be π.ω (AC π.τ (Cp π) y ys).2.1).2[i].1).2.length + 1) c7)
  exact .rk ((i + 1, BQ me2 (Be π.ω (AC π.τ (Cp π) y ys).2.1).2[i].1 (.slice a7 ((BS me2 (Be π.ω (AC π.τ (Cp π) y ys).2.1).2[i].1).2.length + 1) c7, (BS me2 (Be π.ω (AC π.τ (Cp π) y ys).2.1).2[i].1).2 ++ [(Be π.ω (AC π.τ (Cp π) y ys).2.1).2[i].2]))) (⟨by dsimp only; omega, ht2.1, ht2.2⟩) (by dsimp only; omega) O
 have hie : i = (Be π.ω (AC π.τ (Cp π) y ys).2.1).2.length := by omega
 subst hie
 rw [take_length] at htl
 refine .xe (.seq (.sr (.fa Y Bz (.u (.ld Y AR) (.ui Y Y Y (.nt (.condD Y (fun h77 => ?_) (fun h77 => ?_))))))))
 ·refine .seq (.tbCast (t := k.u) (ω' := (Be π.ω (AC π.τ (Cp π) y ys).2.1).1) O Y (.draw [7] [[0, 1, 2, 3, 4, 5, 6, 7]] mixed kQ (.g0 (.mv Y Y (.nf Y Y Y DZ (.kv Y (.fieldAddr Y Lv) (.kv Y (.ld Y UC) (.kv Y (.fieldAddr Y CV) (.kv Y (.ld Y AR) (.hh Y (.c func44 [_, _] (SJ k.u (Be π.ω (AC π.τ (Cp π) y ys).2.1).1 y.own om)) ?_))))))))))
  rintro v L' ⟨rfl, rfl⟩
  refine D.pf (.seq (.draw [6] [[0, 1, 2, 3, 4, 5, 6]] mixed kQ (.g0 (.mv Y Y (.nf Y Y Y Jp (.kv Y (.ld Y Rk) (.kv Y (.fieldAddr Y CV) (.kv Y (.ld Y AR) (.hh Y (.mapDel (m := mi) (enc := SV) (k := y.own) (AV.int underlying3) Y Y Y underlying82 ?he113) ?_)))))))))
  case he113 => rfl
  rintro v L' rfl
  refine D.pf (.draw [6] [[0, 1, 2, 3, 4, 5, 6]] mixed kQ (.g0 (.mv Y Y (.nf Y Y Y HG (.kv Y (.ld Y NT) (.kv Y (.fieldAddr Y CV) (.kv Y (.ld Y AR) (.hh Y (.mapDel (m := me2) (enc := SV) (k := y.own) (AV.int underlying3) Y Y Y underlying83 ?he121) ?_))))))))
  case he121 => rfl
  rintro v L' rfl
  refine D.ph (.fin (.evTake (m := me2) y.own O (.then_n (.seq (.tbCast (t := k.u) (ω' := (Bl π s x y ys).ω) O (by show (if y.kind = 6 then _ else _) = _; rw [if_pos h77]) (.region (.q (.la (DE (Bo π s x y ys)) Y EL) Y (.sa Y Y Ii (by exact IQ hc.1 hcv) ?_))))))))
  refine .nil (.pc b8 (DE (Bo π s x y ys)) ?_)
  refine .then_n (.ret ?_)
  exact .d1 Y (.cellA Y EL O (by simp [DT, AW, DE, A1]) Y) ⟨⟨_, BX mi y.own, BX me2 y.own⟩, Y, hI.put6 s x y ys hnd h77 htl, (if_pos h77).symm, Y⟩
 refine .sk (.seq (.tbCast (t := k.u) (ω' := (Bl π s x y ys).ω) O (by show (if y.kind = 6 then _ else _) = _; rw [if_neg h77]) (.region (.q (.la (DE (Bo π s x y ys)) Y EL) Y (.sa Y Y Ii (by exact IQ hc.1 hcv) ?_)))))
 refine .nil (.pc b8 (DE (Bo π s x y ys)) ?_)
 refine .then_n (.ret ?_)
 exact .d1 Y (.cellA Y EL O (by simp [DT, AW, DE, A1]) Y) ⟨⟨_, mi, me2⟩, Y, hI.put s x y ys hnd h77 htl, (if_neg h77).symm, Y⟩
end Go.Proofs.YtmbnebafdhpgpaaGreatDoor
/-
 DERIVED: THE SHELF's CONTRACTS AT THIS DUMP, IN PLAIN WORDS (tools/lay-plain.mjs out of 'YtmbnebafdhpgpaaGreatDoorLayQ.lean', which tools/lay-shelf.mjs wrote): THE SAME DECLARATIONS UNDER THE SAME NAMES: 'import', 'namespace', 'open', 'def', 'theorem' AND NOTHING ELSE: no command of the shelf's: FOR A HAND-IN. Each laying: the table of numbers ('.._ren') and one theorem, a field a fact of the dump's own or the kernel's comparison; each Fy: ONE APPLICATION.
-/
namespace Go.Proofs
open Go List Go.Proofs.Tryz Go.Shelf
def Tryz.tzA_ren : Go.Shelf.Ren := ⟨fun | 27 => 259 | 28 => 282 | 29 => 283 | n => n, fun | 25 => 160 | 3 => 3 | 27 => 219 | 22 => 180 | 4 => 4 | 53 => 326 | 0 => 0 | 5 => 5 | 54 => 327 | n => n, fun | 0 => 2 | 1 => 3 | n => n⟩
theorem Tryz.tzA : Go.Proofs.Lays7.n27 prog Tryz.tzA_ren := {
 mixed := by kernel_rfl
 f27 := func259.trans (congrArg some (by kernel_rfl))
 f28 := func282.trans (congrArg some (by kernel_rfl))
 f29 := func283.trans (congrArg some (by kernel_rfl))
 t0 := underlying0
 a0 := Tryz.isAgg0
 z0 := Tryz.sizeOf0
 v0 := Tryz.zeroValue0
 i0 := by kernel_rfl
 t3 := underlying3
 a3 := Tryz.isAgg3
 z3 := Tryz.sizeOf3
 v3 := Tryz.zeroValue3
 i3 := by kernel_rfl
 t4 := underlying4
 a4 := Tryz.isAgg4
 z4 := Tryz.sizeOf4
 v4 := Tryz.zeroValue4
 i4 := by kernel_rfl
 t5 := underlying5
 a5 := Tryz.isAgg5
 z5 := Tryz.sizeOf5
 v5 := Tryz.zeroValue5
 i5 := by kernel_rfl
 t22 := underlying180
 a22 := Tryz.isAgg180
 z22 := Tryz.sizeOf180
 v22 := Tryz.zeroValue180
 i22 := by kernel_rfl
 t25 := underlying160
 a25 := Tryz.isAgg160
 z25 := Tryz.sizeOf160
 v25 := Tryz.zeroValue160
 i25 := by kernel_rfl
 t27 := underlying219
 a27 := Tryz.isAgg219
 z27 := Tryz.sizeOf219
 v27 := Tryz.zeroValue219
 i27 := by kernel_rfl
 t53 := underlying326
 a53 := Tryz.isAgg326
 z53 := Tryz.sizeOf326
 v53 := Tryz.zeroValue326
 i53 := by kernel_rfl
 t54 := underlying327
 a54 := Tryz.isAgg327
 z54 := Tryz.sizeOf327
 g0 := by kernel_rfl
 g1 := by kernel_rfl }
end Go.Proofs
namespace Go.Proofs.YtmbnebafdhpgpaaGreatDoor
open Go List Go.Proofs.Tryz Go.RowKit Go.Sort Go.Shelf
def La (d : Nat) : UInt8 := if d < 10 then (48 + d).toUInt8 else (87 + d).toUInt8
def EW (u : Nat) : Bs := if u < 16 then [La u] else EW (u / 16) ++ [La (u % 16)]
termination_by u
def AB7 (h : Int) (c : UInt8) : Int := IntKind.u64.wrap (IntKind.u64.wrap (BitVec.ofInt IntKind.u64.bits h ^^^ BitVec.ofInt IntKind.u64.bits (IntKind.u64.wrap (c.toNat : Int))).toNat * 1099511628211)
def M3 (l : Bs) : Int := l.foldl AB7 14695981039346656037
def KS (l : Bs) : Nat := (M3 l).toNat
def ACC (name secret : Bs) : Bs := name ++ [58] ++ List.replicate (16 - (EW (KS (name ++ [58] ++ secret))).length) 48 ++ EW (KS (name ++ [58] ++ secret))
def BT (name secret : Bs) : Bs × Int := if Ju name = true then (ACC name secret, 0) else ([], 50)
theorem Lu {u : Nat} (h : u < 16) : EW u = [La u] := by rw [EW, if_pos h]
theorem Tl {u : Nat} (h : ¬ u < 16) : EW u = EW (u / 16) ++ [La (u % 16)] := by rw [EW, if_neg h]
theorem Mv {u : Nat} (h : u < 18446744073709551616) : 1 ≤ (EW u).length ∧ (EW u).length ≤ 16 := by
 have key : ∀ (k u : Nat), u < 16 ^ (k + 1) → 1 ≤ (EW u).length ∧ (EW u).length ≤ k + 1 := by
  intro k
  induction k with
  | zero => intro u h; rw [Lu om]; simp
  | succ k ih =>
   intro u h
   rcases Nat.lt_or_ge u 16 with g | g
   ·rw [Lu g]; simp
   ·rw [Tl om, length_append, length_singleton]
    have := ih (u / 16) (by rw [Nat.div_lt_iff_lt_mul dQ]; rw [Nat.pow_succ] at h; exact h)
    omega
 exact key 15 u h
theorem Oq (n : Int) : 0 ≤ IntKind.u64.wrap n ∧ IntKind.u64.wrap n < 18446744073709551616 := by
 rw [IntKind.wrap_u64]; omega
theorem T0 (l : Bs) : 0 ≤ M3 l ∧ M3 l < 18446744073709551616 := by
 unfold M3
 rcases eq_nil_or_concat l with rfl | ⟨l, c, rfl⟩
 ·exact ⟨by decide, by decide⟩
 ·rw [concat_eq_append, foldl_append]; exact Oq _
theorem Wx (l : Bs) : ((KS l : Nat) : Int) = M3 l := by
 have := T0 l
 unfold KS; omega
theorem Zk (l : Bs) : KS l < 18446744073709551616 := by
 have := T0 l
 unfold KS; omega
theorem Ys {l : Bs} {i : Nat} (h : i < l.length) : M3 (l.take (i + 1)) = AB7 (M3 (l.take i)) l[i] := by
 unfold M3
 rw [take_succ_eq_append_getElem h, foldl_append]; rfl
def ABR : Bs := [48, 49, 50, 51, 52, 53, 54, 55, 56, 57, 97, 98, 99, 100, 101, 102, 103, 104, 105, 106, 107, 108, 109, 110, 111, 112, 113, 114, 115, 116, 117, 118, 119, 120, 121, 122]
theorem RZ : ∀ d : Nat, d < 16 → ABR[d]? = some (La d) := by decide
theorem ACH {u : Nat} (h : u < 18446744073709551616) : IntKind.u64.wrap ((BitVec.ofInt IntKind.u64.bits (u : Int) &&& BitVec.ofInt IntKind.u64.bits 15).toNat : Int) = ((u % 16 : Nat) : Int) := by
 have e1 : (BitVec.ofInt IntKind.u64.bits (u : Int)).toNat = u := by
  show (BitVec.ofInt 64 (u : Int)).toNat = u
  rw [BitVec.ofInt_natCast, BitVec.toNat_ofNat]; exact Nat.mod_eq_of_lt h
 have e2 : (BitVec.ofInt IntKind.u64.bits 15).toNat = 15 := by decide
 rw [BitVec.toNat_and, e1, e2, show (15 : Nat) = 2 ^ 4 - 1 from rfl, Nat.and_two_pow_sub_one_eq_mod, IntKind.wrap_u64]
 omega
theorem ACy (u : Nat) : (u : Int).fdiv (2 ^ min (4 : Int).toNat IntKind.u64.bits) = ((u / 16 : Nat) : Int) := by
 rw [show (2 : Int) ^ min (4 : Int).toNat IntKind.u64.bits = 16 from rfl, Int.fdiv_eq_ediv_of_nonneg _ dQ]
 omega
theorem QR {xs ys : List Value} {v : Value} (h : 0 < xs.length) : (xs ++ ys).set (xs.length - 1) v = xs.dropLast ++ v :: ys := by
 rw [set_append_left _ _ om]
 have : xs.set (xs.length - 1) v = xs.dropLast ++ [v] := by
  rcases eq_nil_or_concat xs with rfl | ⟨l, c, rfl⟩
  ·simp at h
  ·rw [concat_eq_append]
   simp
 rw [this, append_assoc]; rfl
theorem W3 {u : Nat} {ys zs : Bs} (h : EW u ++ ys = zs) (hu : ¬ u < 16) : EW (u / 16) ++ La (u % 16) :: ys = zs := by
 rw [Tl hu, append_assoc] at h; exact h
section
variable {P : Program} {E : Bx} {L R : List HP} {ty : TypeId} {w : World}
theorem AK.indexArr {t : TypeId} {x y : Operand} {b off n e sz : Nat} {k : IntKind} {i : Int} (hx : ev E x = some (.pointer (some ⟨b, off, none⟩))) (hy : ev E y = some (.int k i)) (ht : RG P t = some (n, e, sz))
  (h0 : 0 ≤ i ∧ i < n) : AK P ⟨none, .indexAddr t x y, ty, "", #[], none⟩ E L (.pointer (some ⟨b, off + i.toNat * sz, none⟩)) := by
 intro ρ w ha _
 unfold RG at ht
 split at ht <;> (try cases ht)
 rename_i n' e' hu
 split at ht <;> (try cases ht)
 rename_i inf hin
 simp [execOp, ha x _ hx, ha y _ hy, Instr.indexAt, asIntOf, underlying, program, hu, h0, sizeOf, typeInfo, hin, Addr.add_eq, Instr.sureAddr, Bind.bind, Sem.bind, Pure.pure, Sem.run]
end
def Pp (p : HP) : Prop := ∀ (h : Hp) (w : World), p h → (∀ b o, h b = some o → w.heap[b]? = some o) → Lib.TabIs prog w "math/bits.deBruijn64tab" .u8 (Lib.deBruijn64tab.map fun n : Nat => (n : Int))
theorem Z9 (p : HP) (hT : Pp p) : Fn prog 259 #[.int .u64 16] [p] fun v L => v = AA 4 ∧ L = [p] := by
 intro F w hs
 obtain ⟨h1, hle, hp⟩ := Ao (show CD (p :: F) _ from hs)
 have hT := hT h1 w hp hle
 refine (Any7.bits_TrailingZeros Tryz.tzA 16 dQ w fun _ j hj => ?_).mono ?_
 ·have := hT.cell (g := Tryz.tzA_ren.g 1) kQ j (by rw [length_map]; exact hj)
  rw [show ((Lib.deBruijn64tab.map fun n : Nat => (n : Int)).getD j 0) = ((Lib.deBruijn64tab.getD j 0 : Nat) : Int) from by simp [List.getD, hj]] at this
  exact this
 ·rintro e w' ⟨rfl, rfl⟩
  exact ⟨_, _, ⟨by kernel_rfl, rfl⟩, rfl, hs, At.refl _⟩
theorem PU (k : Nat) (hk : k ≤ 16) : Fn prog 96 #[AE [48], AA k] [] fun v L => v = AE (List.replicate k 48) ∧ L = [] := by
 intro F w hs
 refine (Any.strings_Repeat Tryz.repeatA Tx (bs [48]) k w om (by simp [Ba]; omega)).mono ?_
 rintro e w' ⟨rfl, hb⟩
 have q : ∀ k : Nat, k < 17 → Lib.repeatL ([48] : Bs) k = List.replicate k 48 := by decide +kernel
 have e : (Value.string ⟨(Lib.repeatL (bs [48]).data.toList k).toArray⟩ : Value) = AE (List.replicate k 48) := by
  rw [show (bs [48]).data.toList = ([48] : Bs) from rfl, q k om]
 exact ⟨_, _, ⟨e, rfl⟩, rfl, hs.below hb, At.below hb⟩
/-! ### Tables of watches, shrunk -/
theorem M9 (ω : List Wt) (es : List Ev) : ∀ i, (AY ω es i).1.Sublist ω
 | 0 => List.Sublist.refl _
 | i + 1 => by
  rw [Fq rfl]
  exact filter_sublist.trans (M9 ω es i)
theorem Qi (ω : List Wt) (es : List Ev) : (Be ω es).1.Sublist ω := M9 ω es es.length
theorem Xq (ω : List Wt) (s : Int) : (Qj ω s).Sublist ω := filter_sublist
theorem Y8 {ω υ : List Wt} (h : υ.Sublist ω) (s : Int) : B5 υ s ≤ B5 ω s := (h.filter _).length_le
theorem XH : ∀ {ω : List Wt}, (∀ w ∈ ω, 1 ≤ w.1 ∧ w.1 ≤ 5) → ω.length ≤ B5 ω 1 + B5 ω 2 + B5 ω 3 + B5 ω 4 + B5 ω 5
 | [], _ => Nat.zero_le _
 | w :: ω, h => by
  have ih := XH (ω := ω) fun x hx => h x (mem_cons_of_mem _ hx)
  have hw := h w mem_cons_self
  have key : ∀ s : Int, B5 (w :: ω) s = (if w.1 = s then 1 else 0) + B5 ω s := fun s => by
   unfold B5
   rw [filter_cons]
   by_cases g : w.1 = s
   ·rw [if_pos (decide_eq_true g), if_pos g, length_cons]; omega
   ·rw [if_neg (by simpa using g), if_neg g]; omega
  rw [key, key, key, key, key, length_cons]
  have : w.1 = 1 ∨ w.1 = 2 ∨ w.1 = 3 ∨ w.1 = 4 ∨ w.1 = 5 := by omega
  rcases this with e | e | e | e | e <;> (simp [e]; omega)
/-! ### Transactions of a service -/
def Dz (o t : Int) : Pt := ⟨5, [], [], AF, [], o, min (max t 4) 60, 0, AF⟩
theorem Lr {o t : Int} (ho : Az o) (N : Nat) : D8 N (Dz o t) [] := by
 have hn : Az (min (max t 4) 60) := ⟨by omega, by omega⟩
 exact ⟨⟨⟨⟨⟨by show (-9223372036854775808 : Int) ≤ 5; decide, by show (5 : Int) ≤ 9223372036854775807; decide⟩, ho, hn, Az.zero, by show 0 < FS; decide, by show 0 < FS; decide, by show 0 < FS; decide, fun a ha => by cases ha⟩, CN.long, Nat.zero_le _, Nat.zero_le _, Nat.zero_le _⟩, ho, hn, Nat.zero_le _, CN⟩, (fun _ h => by cases h), .inl (Nat.zero_le _)⟩
def Gz (π : Pl) : Pl := ⟨π.τ, π.ω, π.ord, π.opened + 1, π.ids, π.ev⟩
def JN (π : Pl) (t : Int) : Pl × (Int × Int) := if 16 ≤ π.τ.sess.length then (π, (0, 91)) else (Bl (Gz π) (π.opened + 1) 0 (Dz (π.opened + 1) t) [], (π.opened + 1, 0))
def M4 : Rq := ⟨8, 0, [], [], AF, [], 0, 0, false, AF, AF⟩
/-! ### BW of a service -/
def NR (π : Pl) (s : Int) (r : Rq) : Pl × Int :=
 if (BT r.path r.data).2 ≠ 0 then (π, (BT r.path r.data).2) else if (BT r.path r.data).1 ∈ π.ids s then (π, 0) else if 16 ≤ (π.ids s).length then (π, 1)
 else (⟨π.τ, π.ω, π.ord, π.opened, ET π.ids s (π.ids s ++ [(BT r.path r.data).1]), π.ev⟩, 0)
def Wo (π : Pl) (s : Int) (l : List If) : Pl := ⟨π.τ, (Bg π.τ s π.ω l).1, π.ord, π.opened, π.ids, ET π.ev s (π.ev s ++ (Bg π.τ s π.ω l).2)⟩
def Rx (π : Pl) (s : Int) (r : Rq) : Pl × Int :=
 if B7 r (BK π.τ (π.ids s) r) = 0 then (π, BK π.τ (π.ids s) r)
 else (⟨π.τ, (addW π.ω s (B7 r (BK π.τ (π.ids s) r)) r.path).1, π.ord, π.opened, π.ids, π.ev⟩, if (addW π.ω s (B7 r (BK π.τ (π.ids s) r)) r.path).2 ≠ 0 then (addW π.ω s (B7 r (BK π.τ (π.ids s) r)) r.path).2 else BK π.τ (π.ids s) r)
def B9 (π : Pl) (s : Int) (r : Rq) (l : List If) : Pl × Int := if r.kind = 13 then NR π s r else if r.kind = 14 then (Wo π s l, 0) else if r.kind = 15 then (π, 0) else Rx π s r
def VO (π : Pl) (s : Int) : Pl := ⟨π.τ, π.ω, π.ord, π.opened, π.ids, ET π.ev s []⟩
structure AAX (π : Pl) (s : Int) (r : Rq) (l : List If) (x : Rp) (kids : List Bs) : Prop where
 err : x.err = (B9 π s r l).2
 cells : ∀ v ∈ BH x, AB v = true
 shape : ∃ a c, x.kidsV = .slice a kids.length c
 told : r.watch = false → B3 r.kind → ∃ av kv, x = DL π.τ (π.ids s) r av kv ∧ kids = BU π.τ (π.ids s) r
structure MI (π : Pl) (s : Int) (r : Rq) (subs : List Rq) (l : List If) (π' : Pl) (x : Rp) (kids : List Bs) (e : Int) : Prop where
 gone : ¬ Cg π.τ s → e = 67 ∧ π' = π ∧ x = Ul ∧ kids = []
 chg : Cg π.τ s → Bw r.kind = true → e = 0 ∧ kids = [] ∧ ∃ y ys, y.pl = (CP π.τ ⟨s, π.ids s⟩ r subs).1 ∧ ys.map Pt.pl = (CP π.τ ⟨s, π.ids s⟩ r subs).2 ∧ AB y.aclV = true ∧ (∃ a c, y.subsV = .slice a ys.length c) ∧ (∀ z ∈ ys, AB z.aclV = true ∧ z.subsV = AF) ∧ π' = Bl π s r.xid y ys ∧ x.err = if y.kind = 8 then y.err else 0
 rd : Cg π.τ s → ¬ Bw r.kind = true → e = 0 ∧ π' = (B9 π s r l).1 ∧ ∃ x0, AAX π s r l x0 kids ∧ x = ⟨r.xid, π'.τ.zx, x0.err, x0.path, x0.data, x0.st, x0.aclV, x0.kidsV, x0.subsV⟩
 stamp : Cg π.τ s → x.xid = r.xid ∧ x.zx = π'.τ.zx
 cells : ∀ v ∈ BH x, AB v = true
 shape : ∃ a c, x.kidsV = .slice a kids.length c
structure H3 (q : HP) (s : Int) (r : Rq) (subs : List Rq) (l : List If) : Prop where
 d : WiD q ⟨s, []⟩ AF r subs
 tz : Pp q
 arm : Tz q r.armV l
/-! ### Bounds -/
structure Hf (π : Pl) (n : Nat) : Prop where
 ok : π.τ.Ok (1 + 9 * n)
 w : LR π.τ
 ord : π.ord.length ≤ n
 ws : ∀ w ∈ π.ω, 1 ≤ w.1 ∧ w.1 ≤ 5
 wn : ∀ s, B5 π.ω s ≤ 64
 ev : ∀ i, (π.ev i).length ≤ n * 67108864
 ids : ∀ s, (π.ids s).length ≤ 16
 op : 0 ≤ π.opened ∧ π.opened ≤ n
 ses : ∀ x ∈ π.τ.sess, 1 ≤ x.1 ∧ x.1 ≤ π.opened
theorem Hf.few {π : Pl} {n : Nat} (h : Hf π n) : π.ω.length ≤ 320 := by
 have h1 := XH h.ws
 have := h.wn 1
 have := h.wn 2
 have := h.wn 3
 have := h.wn 4
 have := h.wn 5
 omega
theorem Jv : Hf Jx 0 := by
 refine ⟨Lg, LR.new, Nat.le_refl _, (fun w hw => by cases hw), fun s => Nat.zero_le _, fun i => Nat.zero_le _, fun s => Nat.zero_le _, ⟨Int.le_refl _, Int.le_refl _⟩, fun x hx => by cases hx⟩
theorem Hf.more {π : Pl} {n m : Nat} (h : Hf π n) (hm : n ≤ m) : Hf π m := by
 have := h.op
 exact ⟨h.ok.more om, h.w, by have := h.ord; omega, h.ws, h.wn, fun i => Nat.le_trans (h.ev i) (Nat.mul_le_mul_right _ hm), h.ids, ⟨by omega, by omega⟩, h.ses⟩
theorem OT {τ : Tr} {z : Int} {y : Pt} {ys : List Pt} : ∀ x ∈ (AC τ z y ys).1.sess, x ∈ τ.sess ∨ (y.kind = 5 ∧ x.1 = y.own ∧ 0 < y.own) := by
 have hp : ∀ l : List Pt, (AH (zxT τ z) z l).1.sess = τ.sess := fun l => by
  unfold AH
  have H : ∀ (l : List Pt) (r : Tr × List Ev), (l.foldl (fun r x => ((AJ r.1 x z).1, r.2 ++ (AJ r.1 x z).2)) r).1.sess = r.1.sess := by
   intro l
   induction l with
   | nil => intro r; rfl
   | cons x l ih => intro r; rw [foldl_cons, ih]; exact Fp _ _ _
  exact H l (zxT τ z, [])
 intro x hx
 unfold AC at hx
 dsimp only at hx
 split at hx
 ·rename_i h5
  split at hx
  ·rename_i h0
   rcases FM (show x ∈ sset τ.sess y.own (y.num, y.data) from hx) with e | e
   ·exact .inr ⟨h5, by rw [e], h0⟩
   ·exact .inl e
  ·exact .inl hx
 split at hx
 ·have := (mem_filter.1 (show x ∈ (AH (zxT τ z) z (ys.filter Ai)).1.sess.filter _ from hx)).1
  rw [hp] at this
  exact .inl this
 split at hx
 ·have hx : x ∈ (AH (zxT τ z) z ys).1.sess := hx
  rw [hp] at hx
  exact .inl hx
 split at hx
 ·exact .inl hx
 ·have hx : x ∈ (AJ (zxT τ z) y z).1.sess := hx
  rw [Fp] at hx
  exact .inl hx
theorem Hf.put {π : Pl} {n : Nat} (h : Hf π n) (hn : n ≤ 65536) (s x : Int) {y : Pt} {ys : List Pt} {N0 : Nat} (hG : D8 N0 y ys) (hN0 : N0 ≤ 65536) (h5 : y.kind = 5 → 1 ≤ y.own ∧ y.own ≤ π.opened) : Hf (Bl π s x y ys) (n + 1) := by
 have hsub : (Bl π s x y ys).ω.Sublist π.ω := by
  show (if y.kind = 6 then _ else _ : List Wt).Sublist _
  split
  ·exact (Xq _ _).trans (Qi _ _)
  ·exact Qi _ _
 have hz : Az (Cp π) := by
  have := h.ord
  unfold Cp
  exact ⟨by omega, by omega⟩
 have hys : ys.length ≤ 65544 := by rcases hG.len with g | ⟨-, g, -⟩ <;> omega
 have hel := XL π.τ (Cp π) y ys
 have hfl : (Be π.ω (AC π.τ (Cp π) y ys).2.1).2.length ≤ (AC π.τ (Cp π) y ys).2.1.length * π.ω.length := (MC π.ω (AC π.τ (Cp π) y ys).2.1 (AC π.τ (Cp π) y ys).2.1.length).2
 have hfl2 : (AC π.τ (Cp π) y ys).2.1.length * π.ω.length ≤ 131090 * 320 := Nat.mul_le_mul om h.few
 have hop := h.op
 refine ⟨(hG.ok h.ok _).more om, hG.w h.w hz, ?_, fun w hw => h.ws w (hsub.subset hw), fun i => Nat.le_trans (Y8 hsub i) (h.wn i), fun i => ?_, fun i => ?_, ⟨hop.1, by show π.opened ≤ _; omega⟩, fun z hz => ?_⟩
 ·show (π.ord ++ [_]).length ≤ n + 1
  have := h.ord
  rw [length_append, length_singleton]; omega
 ·have h1 := Oh π.ev (Be π.ω (AC π.τ (Cp π) y ys).2.1).2 i
  have h2 := h.ev i
  have e : (n + 1) * 67108864 = n * 67108864 + 67108864 := by omega
  show ((if y.kind = 6 then ET (FQ π.ev _) y.own [] else FQ π.ev _) i).length ≤ _
  rw [e]
  split
  ·unfold ET
   split
   ·exact Nat.zero_le _
   ·omega
  ·omega
 ·show ((if y.kind = 6 then ET π.ids y.own [] else π.ids) i).length ≤ 16
  have := h.ids i
  split
  ·unfold ET
   split
   ·exact Nat.zero_le _
   ·omega
  ·exact this
 ·rcases OT z hz with g | ⟨g1, g2, -⟩
  ·exact h.ses z g
  ·have := h5 g1
   show 1 ≤ z.1 ∧ z.1 ≤ π.opened
   omega
theorem Hf.opn {π : Pl} {n : Nat} (h : Hf π n) (hn : n ≤ 4096) (t : Int) : Hf (JN π t).1 (n + 1) := by
 unfold JN
 split
 ·exact h.more om
 ·have hop := h.op
  have hM : Hf (Gz π) (n + 1) := ⟨h.ok.more om, h.w, by have := h.ord; show π.ord.length ≤ _; omega, h.ws, h.wn, fun i => Nat.le_trans (h.ev i) (Nat.mul_le_mul_right _ om), h.ids, ⟨by show 0 ≤ π.opened + 1; omega, by show π.opened + 1 ≤ ((n + 1 : Nat) : Int); omega⟩, fun x hx => by have := h.ses x hx; show 1 ≤ x.1 ∧ x.1 ≤ π.opened + 1; omega⟩
  have hP := hM.put om (π.opened + 1) 0 (Lr (o := π.opened + 1) (t := t) ⟨by omega, by omega⟩ 0) dQ (fun _ => ⟨by show 1 ≤ π.opened + 1; omega, Int.le_refl _⟩)
  have hz : Az (Cp π) := by
   have := h.ord
   unfold Cp
   exact ⟨by omega, by omega⟩
  refine ⟨?_, hP.w, ?_, hP.ws, hP.wn, ?_, hP.ids, ⟨hP.op.1, by show π.opened + 1 ≤ _; omega⟩, hP.ses⟩
  ·exact ((Lr (o := π.opened + 1) (t := t) ⟨by omega, by omega⟩ 0).ok (τ := π.τ) h.ok _).more om
  ·show (π.ord ++ [_]).length ≤ n + 1
   have := h.ord
   rw [length_append, length_singleton]; omega
  ·intro i
   have e2 : (Bl (Gz π) (π.opened + 1) 0 (Dz (π.opened + 1) t) []).ev = π.ev := by
    unfold Bl
    dsimp only
    rw [if_neg (by show ¬ (5 : Int) = 6; decide)]; rfl
   dsimp only
   rw [e2]
   exact Nat.le_trans (h.ev i) (Nat.mul_le_mul_right _ om)
theorem AAW {ω : List Wt} {s k : Int} {p : Bs} (hs : 1 ≤ s ∧ s ≤ 5) (h : ∀ w ∈ ω, 1 ≤ w.1 ∧ w.1 ≤ 5) (hn : ∀ i, B5 ω i ≤ 64) : (∀ w ∈ (addW ω s k p).1, 1 ≤ w.1 ∧ w.1 ≤ 5) ∧ ∀ i, B5 (addW ω s k p).1 i ≤ 64 := by
 unfold addW
 split
 ·exact ⟨h, hn⟩
 split
 ·exact ⟨h, hn⟩
 split
 ·exact ⟨h, hn⟩
 ·rename_i g
  refine ⟨fun w hw => ?_, fun i => ?_⟩
  ·rcases mem_append.1 hw with hw | hw
   ·exact h w hw
   ·rw [mem_singleton] at hw
    rw [hw]; exact hs
  ·show B5 (ω ++ [(s, (k, p))]) i ≤ 64
   rw [JL]
   split
   ·rename_i e
    have e : s = i := e
    subst e
    have := hn s
    omega
   ·have := hn i
    omega
theorem AAa {τ : Tr} {s : Int} (hs : 1 ≤ s ∧ s ≤ 5) : ∀ (l : List If) (r : List Wt × List Ev), (∀ w ∈ r.1, 1 ≤ w.1 ∧ w.1 ≤ 5) → (∀ i, B5 r.1 i ≤ 64) → (∀ w ∈ (l.foldl (KJ τ s) r).1, 1 ≤ w.1 ∧ w.1 ≤ 5) ∧ ∀ i, B5 (l.foldl (KJ τ s) r).1 i ≤ 64
 | [], _, h, hn => ⟨h, hn⟩
 | a :: l, r, h, hn => by
  rw [foldl_cons]
  have hA : (∀ w ∈ (KJ τ s r a).1, 1 ≤ w.1 ∧ w.1 ≤ 5) ∧ ∀ i, B5 (KJ τ s r a).1 i ≤ 64 := by
   unfold KJ
   split
   ·exact ⟨h, hn⟩
   split
   ·exact AAW hs h hn
   split <;> exact ⟨h, hn⟩
  exact AAa hs l _ hA.1 hA.2
theorem Hf.read {π : Pl} {n : Nat} (h : Hf π n) {s : Int} (hs : 1 ≤ s ∧ s ≤ 5) (r : Rq) {l : List If} (hl : l.length ≤ 1048576) : Hf (B9 π s r l).1 (n + 1) := by
 have hM := h.more (Nat.le_succ n)
 unfold B9
 split
 ·unfold NR
  split
  ·exact hM
  split
  ·exact hM
  split
  ·exact hM
  ·rename_i g
   refine ⟨hM.ok, hM.w, hM.ord, hM.ws, hM.wn, hM.ev, fun i => ?_, hM.op, hM.ses⟩
   show (ET π.ids s (π.ids s ++ [_]) i).length ≤ 16
   unfold ET
   split
   ·rw [length_append, length_singleton]; omega
   ·exact h.ids i
 split
 ·have hA := AAa (τ := π.τ) hs l (π.ω, []) h.ws h.wn
  refine ⟨hM.ok, hM.w, hM.ord, hA.1, hA.2, fun i => ?_, hM.ids, hM.op, hM.ses⟩
  show (ET π.ev s (π.ev s ++ (Bg π.τ s π.ω l).2) i).length ≤ _
  have h1 := Jg π.τ s π.ω l l.length (Nat.le_refl _)
  rw [take_length] at h1
  have h2 := h.ev s
  have h3 := hM.ev i
  have e : (n + 1) * 67108864 = n * 67108864 + 67108864 := by omega
  unfold ET
  split
  ·rw [length_append, e]; omega
  ·exact h3
 split
 ·exact hM
 ·unfold Rx
  split
  ·exact hM
  ·have hA := AAW (k := B7 r (BK π.τ (π.ids s) r)) (p := r.path) hs h.ws h.wn
   exact ⟨hM.ok, hM.w, hM.ord, hA.1, hA.2, hM.ev, hM.ids, hM.op, hM.ses⟩
theorem Hf.evs {π : Pl} {n : Nat} (h : Hf π n) (s : Int) : Hf (VO π s) n := by
 refine ⟨h.ok, h.w, h.ord, h.ws, h.wn, fun i => ?_, h.ids, h.op, h.ses⟩
 show (ET π.ev s [] i).length ≤ _
 unfold ET
 split
 ·exact Nat.zero_le _
 ·exact h.ev i
theorem D8.up {N M : Nat} {y : Pt} {ys : List Pt} (h : D8 N y ys) (hM : N ≤ M) : D8 M y ys :=
 ⟨h.x, h.each, h.len.imp id fun ⟨a, b, c⟩ => ⟨a, by omega, c⟩⟩
theorem Jn (τ : Tr) (u : B4) (r : Rq) (subs : List Rq) : (CP τ u r subs).1.kind ≠ 5 := by
 unfold CP
 split
 ·show (8 : Int) ≠ 5; decide
 split
 ·show (8 : Int) ≠ 5; decide
 split
 ·unfold A3
  split
  ·show (8 : Int) ≠ 5; decide
  ·split
   ·show (8 : Int) ≠ 5; decide
   ·show (7 : Int) ≠ 5; decide
 split
 ·show (0 : Int) ≠ 5; decide
 split
 ·show (6 : Int) ≠ 5; decide
 split
 ·show (8 : Int) ≠ 5; decide
 ·exact (HL τ u r).1
theorem Hf.call {π : Pl} {n : Nat} (h : Hf π n) (hn : n ≤ 4096) {q : HP} {s : Int} (hs : Cg π.τ s → 1 ≤ s ∧ s ≤ 5) {r : Rq} {subs : List Rq} {l : List If} (hA : H3 q s r subs l) {π' : Pl} {x : Rp} {kids : List Bs} {e : Int} (hC : MI π s r subs l π' x kids e) : Hf π' (n + 1) := by
 by_cases hse : Cg π.τ s
 ·by_cases hk : Bw r.kind = true
  ·obtain ⟨-, -, y, ys, hy, hys, -, -, -, rfl, -⟩ := hC.chg hse hk
   have hG0 : D8 (1 + 9 * n) (CP π.τ ⟨s, π.ids s⟩ r subs).1 (CP π.τ ⟨s, π.ids s⟩ r subs).2 := Ro h.ok (hA.d.more (a := Af 9 1 (.slice (some ⟨0, 0, none⟩) (π.ids s).length (π.ids s).length) (π.ids s).length (A6 (π.ids s))) (fun _ hp => Aa hp) (by have := h.ids s; omega) ⟨_, _, _, rfl⟩)
   have hG := hG0.of hy hys
   refine h.put om _ _ hG om fun h5 => ?_
   have hk5 := congrArg Pt.kind hy
   exact absurd (hk5.symm.trans (show y.pl.kind = 5 from h5)) (Jn _ _ _ _)
  ·obtain ⟨-, rfl, -⟩ := hC.rd hse hk
   exact h.read (hs hse) r hA.arm.len
 ·obtain ⟨-, rfl, -⟩ := hC.gone hse
  exact h.more om
theorem U2 : Fn prog 258 #[AA 16] [] fun v L => v = .bool true ∧ L = [] := by
 refine Fn.intro func258 Y Y fun F W => ?_
 refine .sr (.an Y (.sm Y (.m Y (.q (.sub Y Y om) Y (.q (.as (v' := AA 0) (by rfl) (.and Y Y)) Y (.ui Y Y Y (.an Y (.ret ?_))))))))
 exact .vv
theorem S9 (p : HP) (hT : Pp p) (u0 : Nat) (hu : u0 < 18446744073709551616) : Fn prog 227 #[AF, .int .u64 (u0 : Int), AA 16, .bool false, .bool false] [p] fun v L => v = .tuple #[AF, AE (EW u0)] ∧ L = [p] := by
 refine Fn.intro func227 Y Y fun F W => ?_
 have hl0 := Mv hu
 refine .sr (.a Y (.an Y (.seq (.sm Y (.q (.as (v' := .bool false) (by rfl) (.int Y Y Y)) Y (.m Y (.gr (.m Y (.gr (.q (.as (v' := .bool false) (by rfl) (.int Y Y Y)) Y (.pF Y Y (.m Y (.gr (.m Y (.gr (.q (.as (v' := .bool false) (by rfl) (.int Y Y Y)) Y (.pF Y Y (.nt (.condF Y (.sk (.sr (.oq (.allocA AA5) ?_))))))))))))))))))))))
 rintro v L' ⟨ba, rfl, rfl⟩
 refine .nt (.seq (.pc ba ((List.replicate 65 (0 : UInt8)).map Cw) ?_))
 refine .region (.an Y (.seq (.sm Y (.nt (.condF Y (.sk (.seq (.sm Y (.cv func258 [_] (U2) ?_)))))))))
 refine .nt (.condT Y (.sm Y (.q (.as (v' := .int .u64 16) (by rfl) (.conv Y underlying3 underlying160)) Y (.cv func259 [_] (Z9 p hT) ?_))))
 refine .q (.as (v' := .int .u64 4) (by rfl) (.conv Y underlying3 underlying160)) Y (.an Y (.sm Y (.q (.as (v' := .int .u64 16) (by rfl) (.conv Y underlying3 underlying180)) Y (.an Y (.sm Y (.q (.as (v' := .int .u64 16) (by rfl) (.conv Y underlying3 underlying160)) Y (.q (.as (v' := .int .u64 15) (by rfl) (.int Y Y Y)) Y (.an Y (.seq (.block (.loopK (ι := Nat × (List Value) × Bs) (fun q E => (1, .int .u64 (q.1 : Int)) :: (13, AA q.2.1.length) :: E) (fun q => [Ad ba (q.2.1 ++ q.2.2.map Cw) 307]) (fun q => q.1 < 18446744073709551616 ∧ EW q.1 ++ q.2.2 = EW u0 ∧ q.2.1.length + q.2.2.length = 65) (fun q => q.1) (u0, (List.replicate 65 (0 : UInt8)).map Cw, []) (ts := [0, 3, 4, 10, 11, 12, 14, 15, 16]) O (⟨hu, append_nil _, Y⟩) O O ?_)))))))))))
 rintro ⟨u, xs, ys⟩ ⟨hu1, hex, hxl⟩
 dsimp only
 dsimp only at hu1 hex hxl
 have hel := congrArg List.length hex
 rw [length_append] at hel
 have hl1 := Mv hu1
 refine .seq (.sm Y (.m Y (.ui Y Y Y (.nt (.condD Y (fun h46 => ?_) (fun h46 => ?_))))))
 ·refine .sk (.block (.sm Y (.q (.as (v' := AA (xs.dropLast.length : Nat)) (by exact congrArg (fun z : Int => AA z) (by rw [length_dropLast]; omega)) (.sub Y Y om)) Y (.an Y (.sm Y (.m Y (.m Y (.q (.as (v' := .int .u64 ((u % 16 : Nat) : Int)) (by exact congrArg (Value.int .u64) (ACH hu1)) (.and Y Y)) Y (.q (.strIndex (c := La (u % 16)) Y Y underlying9 om (by rw [Int.toNat_natCast]; exact RZ _ om)) Y (.q (.indexArr Y Y TU (by rw [length_dropLast]; omega)) Y (.oq (.store Y Y Y AB9 ?c36 (Bb _ _)) ?_)))))))))))
  case c36 => simp; omega
  rintro v L' rfl
  refine .nil (.ptCast (b := ba) (l' := xs.dropLast ++ (La (u % 16) :: ys).map Cw) O (by rw [show ((0 : Nat) + ((xs.dropLast.length : Nat) : Int).toNat * 1) = xs.length - 1 from by rw [Int.toNat_natCast, length_dropLast]; omega]; exact QR om) ?_)
  refine .then_n (.region (.m Y (.m Y (.q (.as (v' := .int .u64 ((u / 16 : Nat) : Int)) (by exact congrArg (Value.int .u64) (ACy u)) (.shr Y Y (by first | decide | omega))) Y (.a Y (.nil (.blk_n (.then_n ?_))))))))
  exact .rk ((u / 16, xs.dropLast, La (u % 16) :: ys)) (⟨by dsimp only; omega, W3 hex om, by rw [length_dropLast, length_cons]; omega⟩) (by dsimp only; omega) O
 refine .xe (.sm Y (.q (.as (v' := AA (xs.dropLast.length : Nat)) (by exact congrArg (fun z : Int => AA z) (by rw [length_dropLast]; omega)) (.sub Y Y om)) Y (.an Y (.region (.m Y (.m Y (.q (.strIndex (c := La u) Y Y underlying9 om (by rw [Int.toNat_natCast]; exact RZ _ om)) Y (.q (.indexArr Y Y TU (by rw [length_dropLast]; omega)) Y (.oq (.store Y Y Y AB9 ?c47 (Bb _ _)) ?_)))))))))
 case c47 => simp; omega
 rintro v L' rfl
 refine .nil (.ptCast (b := ba) (l' := xs.dropLast ++ (La u :: ys).map Cw) O (by rw [show ((0 : Nat) + ((xs.dropLast.length : Nat) : Int).toNat * 1) = xs.length - 1 from by rw [Int.toNat_natCast, length_dropLast]; omega]; exact QR om) ?_)
 have hul : (EW u).length = 1 := by rw [Lu om]; rfl
 have hfin : La u :: ys = EW u0 := by rw [← hex, Lu om]; rfl
 rw [hfin]
 have hdl : xs.dropLast.length = xs.length - 1 := length_dropLast
 refine .then_n (.seq (.sm Y (.nt (.condF Y (.sk (.seq (.sm Y (.nt (.condF Y (.sk (.sm Y (.q (.to (v' := .slice (some ⟨ba, xs.length - 1, none⟩) (EW u0).length (EW u0).length) (.arrSlice (i := ((xs.dropLast.length : Nat) : Int)) (j := 65) Y TU Y Y om) (by rw [if_neg om]; congr 3 <;> omega)) Y (.q (.bytesPt (cs := EW u0) Y underlying181 underlying5 underlying9 O (by rw [show xs.length - 1 = xs.dropLast.length from hdl.symm, drop_left, take_of_length_le (by rw [length_map]; exact Nat.le_refl _)]) (by rw [length_append, length_map, hdl]; omega) (Nat.le_refl _)) Y (.an Y (.ret ?_)))))))))))))))
 exact .vv
theorem P3 (p : HP) (hT : Pp p) (u0 : Nat) (hu : u0 < 18446744073709551616) : Fn prog 174 #[.int .u64 (u0 : Int), AA 16] [p] fun v L => v = AE (EW u0) ∧ L = [p] := by
 refine Fn.intro func174 Y Y fun F W => ?_
 refine .sr (.an Y (.seq (.sm Y (.q (.as (v' := .bool false) (by rfl) (.int Y Y Y)) Y (.nt (.condF Y (.sk (.sm Y (.m Y (.cv func227 [_, _, _, _, _] (S9 p hT u0 hu) ?_))))))))))
 refine .m Y (.ex Y Y (.ex Y Y (.a Y (.an Y (.sm Y (.an Y (.ret ?_)))))))
 exact .vv
theorem SH (p : HP) (hT : Pp p) (u0 : Nat) (hu : u0 < 18446744073709551616) : Fn prog 95 #[.int .u64 (u0 : Int), AA 16] [p] fun v L => v = AE (EW u0) ∧ L = [p] := by
 refine Fn.intro func95 Y Y fun F W => ?_
 refine .sr (.an Y (.sm Y (.m Y (.cv func174 [_, _] (P3 p hT u0 hu) ?_))))
 refine .an Y (.ret ?_)
 exact .vv
theorem Rl (p : HP) (hT : Pp p) (name secret : Bs) (hn : name.length ≤ 1048576) (hs : secret.length ≤ 1048576) : Fn prog 52 #[AE name, AE secret] [p] fun v L => v = .tuple #[AE (BT name secret).1, AA (BT name secret).2] ∧ L = [p] := by
 refine Fn.intro func52 Y Y fun F W => ?_
 refine .sr (.a Y (.an Y (.seq (.sm Y (.cv func94 [_] (MB name) ?_)))))
 refine .u (.not Y) (.nt (.condB Y (fun h12 => ?_) (fun h12 => ?_)))
 ·refine .sr (.a Y (.an Y (.rt ?_)))
  exact .dn Y Y ⟨by have hu : ¬ Ju name = true := (by simpa using h12); unfold BT; rw [if_neg hu], rfl⟩
 refine .sk (.sr (.an Y (.seq (.seq ?_))))
 have hnl : (name ++ [58] ++ secret).length = name.length + 1 + secret.length := by rw [length_append, length_append, length_singleton]
 have hf := Zk (name ++ [58] ++ secret)
 have hxl := Mv hf
 have hfc := Wx (name ++ [58] ++ secret)
 have h58 : ([58] : Bs).length = 1 := rfl
 have hn58 : (name ++ [58]).length = name.length + 1 := by rw [length_append, h58]
 refine .region (.m Y (.q (.concat Y Y om) Y (.m Y (.q (.concat Y Y om) Y (.oq (.strBytes Y underlying9 underlying181 underlying5) ?_)))))
 rintro v L' ⟨rfl, b17, c17, rfl⟩
 refine .q (.slen Y underlying181 Y) Y (.m Y (.nil ?_))
 obtain ⟨m, hm⟩ : ∃ m, m = name ++ [58] ++ secret := ⟨_, rfl⟩
 rw [← hm] at hnl hf hxl hfc ⊢
 refine .then_n (.block (.loopK (ι := Nat) (fun q E => (19, AA q) :: (6, .int .u64 (M3 (m.take q))) :: E) (fun q => []) (fun q => q ≤ m.length) (fun q => m.length - q) (0) (ts := [0, 4, 5, 17, 18]) O (Nat.zero_le _) O O ?_))
 rintro i hi
 refine .sr (.ui Y Y Y (.nt (.seq (.condD Y (fun h20 => ?_) (fun h20 => ?_)))))
 ·have hi2 : i < m.length := by omega
  refine .sk (.seq (.block (.sr (.q (.indexAddr Y Y Kl om) Y (.q (.loadEl (p := Af 5 1 _ m.length (m.map Cw)) (i := i * 1) (v := Cw m[i]) Y ABy O (fun h hp => Aa hp) (by simp [hi2])) Y (.an Y (.region (.m Y (.m Y (.q (.conv Y underlying5 underlying180) Y (.u (.xor Y Y) (.ui Y Y Y (.a Y (.nil (.blk_n (.then_n (.region (.q (.add Y Y om) Y (.m Y (.nt ?_))))))))))))))))))))
  rw [show IntKind.u64.wrap (IntKind.u64.wrap (BitVec.ofInt IntKind.u64.bits (M3 (m.take i)) ^^^ BitVec.ofInt IntKind.u64.bits (IntKind.u64.wrap (m[i].toNat : Int))).toNat * 1099511628211) = M3 (m.take (i + 1)) from (Ys hi2).symm]
  exact .rk (i + 1) om om O
 have hie : i = m.length := by omega
 subst hie
 rw [take_length, ← hfc]
 have hrl : (List.replicate (16 - (EW (KS m)).length) (48 : UInt8)).length = 16 - (EW (KS m)).length := length_replicate
 have hcl : (name ++ [58] ++ List.replicate (16 - (EW (KS m)).length) (48 : UInt8)).length = name.length + 1 + (16 - (EW (KS m)).length) := by rw [length_append, hn58, hrl]
 refine .xe (.sm Y (.cv func95 [_, _] (SH p hT (KS m) hf) ?_))
 refine .an Y (.sm Y (.q (.concat Y Y om) Y (.m Y (.q (.strlen Y underlying9 Y) Y (.q (.to (v' := AA ((16 - (EW (KS m)).length : Nat) : Int)) (.sub Y Y om) (by congr 1; omega)) Y (.cv func96 [_, _] (PU (16 - (EW (KS m)).length) om) ?_))))))
 refine .q (.concat Y Y om) Y (.m Y (.q (.concat Y Y om) Y (.a Y (.an Y (.ret ?_)))))
 exact .dn Y Y ⟨by have hu : Ju name = true := (by simpa using h12); unfold BT ACC; rw [if_pos hu, ← hm], rfl⟩
theorem Ye (b : Nat) (c : Prop) [Decidable c] : Fn prog 101 #[AI b] [Ad b [.bool (decide c)] 4] fun v L => v = AA (Ah (¬ c) 110) ∧ L = [Ad b [.bool (decide c)] 4] := by
 refine Fn.intro func101 Y Y fun F W => ?_
 refine .sr (.an Y (.sr (.u (.ld Y X4) (.u (.not Y) (.cv func90 [_, _] (Ax _ _) ?_)))))
 refine .an Y (.ret ?_)
 exact .dn Y Y ⟨by congr 1; unfold Ah; first | (simp_all; done) | (simp_all; omega) | (split <;> simp_all; done) | (split <;> simp_all <;> omega), rfl⟩
theorem Xy (t : Nat) (τ : Tr) (ids : List Bs) (iv : Value) (r : Rq) (p : HP) (hA : Di p ⟨0, ids⟩ iv r) (N : Nat) (ho : τ.Ok N) (hN : N ≤ 1099511627776) (b5 : Nat) : Fn prog 102 #[AI b5] [Ad b5 (Eu r) 33] fun v L => v = AA (BG r.path) ∧ L = [Ad b5 (Eu r) 33] := by
 refine Fn.intro func102 Y Y fun F W => ?_
 have hpl := hA.rq.path
 have hpl2 : r.path.length ≤ 1048576 := by omega
 refine .sr (.an Y (.sr (.fa Y Bh (.u (.ld Y Ak) (.cv func87 [_] (EI r.path hpl2) ?_)))))
 refine .an Y (.ret ?_)
 exact .vv
theorem Xo (t : Nat) (τ : Tr) (ids : List Bs) (iv : Value) (r : Rq) (p : HP) (hA : Di p ⟨0, ids⟩ iv r) (N : Nat) (ho : τ.Ok N) (hN : N ≤ 1099511627776) (b8 b5 : Nat) : Fn prog 103 #[AI b8, AI b5] [Ad b8 (CL t (⟨0, ids⟩ : B4) iv r) 134, Ad b5 (Eu r) 33, AZ t τ, p] fun v L => v = AA (Ah (¬ AQ τ r.path) 60) ∧ L = [Ad b8 (CL t (⟨0, ids⟩ : B4) iv r) 134, Ad b5 (Eu r) 33, AZ t τ, p] := by
 refine Fn.intro func103 Y Y fun F W => ?_
 refine .sr (.an Y (.sr (.q (.la (CL t (⟨0, ids⟩ : B4) iv r) Y E5) Y (.fa Y Bh (.u (.ld Y Ak) (.cv func104 [_, _] (K0 t τ ⟨0, ids⟩ iv r p hA N ho hN r.path) ?_))))))
 refine .u (.not Y) (.cv func90 [_, _] (Ax _ _) ?_)
 refine .an Y (.ret ?_)
 exact .dn Y Y ⟨by congr 1; unfold Ah; first | (simp_all; done) | (simp_all; omega) | (split <;> simp_all; done) | (split <;> simp_all <;> omega), rfl⟩
theorem Xv (t : Nat) (τ : Tr) (ids : List Bs) (iv : Value) (r : Rq) (p : HP) (hA : Di p ⟨0, ids⟩ iv r) (N : Nat) (ho : τ.Ok N) (hN : N ≤ 1099511627776) (b5 b8 : Nat) : Fn prog 105 #[AI b5, AI b8] [Ad b5 (Eu r) 33, Ad b8 (CL t (⟨0, ids⟩ : B4) iv r) 134, AZ t τ, p] fun v L => v = AA (Ah (r.kind ≠ 10 ∧ ¬ He τ ids r.path 1) 65) ∧ L = [Ad b5 (Eu r) 33, Ad b8 (CL t (⟨0, ids⟩ : B4) iv r) 134, AZ t τ, p] := by
 refine Fn.intro func105 Y Y fun F W => ?_
 refine .sr (.an Y (.sr (.fa Y Bm (.u (.ld Y AR) (.ui Y Y Y (.m Y (.ndec (t := 6) Y (fun h1_6 => ?_) (fun h1_6 => ?_))))))))
 ·refine .kNT (t := 5) Y h1_6 (.gr (.q (.la (CL t (⟨0, ids⟩ : B4) iv r) Y E5) Y (.gr (.fa Y Bh (.gr (.u (.ld Y Ak) (.gr (.cv func92 [_, _, _] (IY t τ ⟨0, ids⟩ iv r p hA N ho hN r.path 1) ?_))))))))
  refine .gr (.u (.not Y) (.pT Y Y (.cv func90 [_, _] (Ax _ _) ?_)))
  refine .an Y (.ret ?_)
  exact .dn Y Y ⟨by congr 1; unfold Ah; first | (simp_all; done) | (simp_all; omega) | (split <;> simp_all; done) | (split <;> simp_all <;> omega), rfl⟩
 refine .kNF (t := 5) Y h1_6 (.gk (.gk (.gk (.gk (.gk (.pF Y Y (.cv func90 [_, _] (Ax _ _) ?_)))))))
 refine .an Y (.ret ?_)
 exact .dn Y Y ⟨by congr 1; unfold Ah; first | (simp_all; done) | (simp_all; omega) | (split <;> simp_all; done) | (split <;> simp_all <;> omega), rfl⟩
theorem T1 (t : Nat) (τ : Tr) (ids : List Bs) (iv : Value) (r : Rq) (p : HP) (hA : Di p ⟨0, ids⟩ iv r) (N : Nat) (ho : τ.Ok N) (hN : N ≤ 1099511627776) (b5 b8 b9 : Nat) (va : Value) (p0 : HP) (hr : ∀ h : Hp, p0 h → Cx 1 h va 4 [.func (.func 101) #[] #[AI b9], .func (.func 102) #[] #[AI b5], .func (.func 103) #[] #[AI b8, AI b5], .func (.func 105) #[] #[AI b5, AI b8]]) : Fn prog 85 #[va] [p0, Ad b9 [.bool (decide (B3 r.kind))] 4, Ad b5 (Eu r) 33, Ad b8 (CL t (⟨0, ids⟩ : B4) iv r) 134, AZ t τ, p] fun v L => v = AA (BK τ ids r) ∧ L = [p0, Ad b9 [.bool (decide (B3 r.kind))] 4, Ad b5 (Eu r) 33, Ad b8 (CL t (⟨0, ids⟩ : B4) iv r) 134, AZ t τ, p] := by
 refine Fn.unpack (GU [.func (.func 101) #[] #[AI b9], .func (.func 102) #[] #[AI b5], .func (.func 103) #[] #[AI b8, AI b5], .func (.func 105) #[] #[AI b5, AI b8]] (P4 τ ids r) va p0 _ rfl (by show 4 ≤ _; decide) hr ?_)
 intro i hi hz
 have hi2 : i < 4 := hi
 have hc : i = 0 ∨ i = 1 ∨ i = 2 ∨ i = 3 := by omega
 rcases hc with rfl | rfl | rfl | rfl
 ·exact CA.share (us := []) (vs := []) (ws := [AI b9]) func101 rfl rfl O (Ye b9 _)
 ·exact CA.share (us := []) (vs := []) (ws := [AI b5]) func102 rfl rfl O (Xy t τ ids iv r p hA N ho hN b5)
 ·exact CA.share (us := []) (vs := []) (ws := [AI b8, AI b5]) func103 rfl rfl O (Xo t τ ids iv r p hA N ho hN b8 b5)
 ·exact CA.share (us := []) (vs := []) (ws := [AI b5, AI b8]) func105 rfl rfl O (Xv t τ ids iv r p hA N ho hN b5 b8)
theorem TB (t : Nat) (τ : Tr) (ids : List Bs) (iv : Value) (r : Rq) (p : HP) (hA : Di p ⟨0, ids⟩ iv r) (N : Nat) (ho : τ.Ok N) (hN : N ≤ 1099511627776) : Fn prog 55 #[AI t, iv, .agg (Eu r).toArray] [AZ t τ, p] fun v L =>
    ∃ av kv : Value, v = .agg (BH (DL τ ids r av kv)).toArray ∧ (∃ a c, av = .slice a (Bc τ ids r).length c) ∧ (∃ a c, kv = .slice a (BU τ ids r).length c) ∧ L = [AZ t τ, p, Af 75 2 av (Bc τ ids r).length ((Bc τ ids r).flatMap CO), Af 9 1 kv (BU τ ids r).length (A6 (BU τ ids r))] := by
 refine Fn.intro func55 Y Y fun F W => ?_
 have hrq := hA.rqcells
 have hcl := hA.cells t
 refine .sr (.oq (.box Y) ?_)
 rintro v L' ⟨b5, rfl, rfl⟩
 refine .oq (.allocA Ca) ?_
 rintro v L' ⟨b6, rfl, rfl⟩
 refine .nil (.pc b5 (Eu r) ?_)
 refine .then_n (.seq (.sm Y (.q (.ptreq Y Y underlying76) Y (.nt (.condF Y (.sk (.seq (.draw [3, 5, 6] [[0, 1, 2, 3, 4, 5], [6]] mixed kQ (.go [Ad b5 _ _] O (.k Y (.fieldAddr Y Lz) (.k Y (.ld Y AR) (.k Y (.move Y) (.h2 (k := 5) Y Y kQ Y (.c func29 [_] (Cb t τ)) O (.allocA Ca) O ?_ ?_)))))))))))))
 ·rintro v L' ⟨rfl, rfl⟩
  refine D.k Y (.to (v' := .agg (BH ⟨r.xid, τ.zx, 0, [], [], st0, AF, AF, AF⟩).toArray) (.buildN (pl := [(0, 1), (1, 1), (2, 1), (3, 1), (4, 1), (5, 9), (14, 1), (15, 1), (16, 1)]) (us := [(0, AA r.xid), (1, AA τ.zx)]) (cells := BH ⟨r.xid, τ.zx, 0, [], [], st0, AF, AF, AF⟩) underlying41 kQ Ca Y Y) Y) (.hh Y (.allocA Ca) ?_)
  rintro v L' ⟨b7, rfl, rfl⟩
  refine D.ph (.g0 (.sa Y Y Y Bn (by exact BM rfl rfl rfl) ?_))
  refine D.ph (.fin (.pc b7 (BH ⟨r.xid, τ.zx, 0, [], [], st0, AF, AF, AF⟩) ?_))
  refine .then_n (.sm Y (.m Y (.q (.la (Eu r) Y Ij) Y (.q (.to (v' := .agg (CL t (⟨0, ids⟩ : B4) iv r).toArray) (.buildN (pl := [(0, 1), (1, 1), (2, 1), (3, 10)]) (us := [(0, AI t), (1, AA (⟨0, ids⟩ : B4).ses), (2, iv), (3, .agg (Eu r).toArray)]) (cells := CL t (⟨0, ids⟩ : B4) iv r) underlying134 kQ JM Y (IE t (⟨0, ids⟩ : B4) iv hA.shape r)) Y) Y (.oq (.allocA JM) ?_)))))
  rintro v L' ⟨b8, rfl, rfl⟩
  refine .sa Y Y TJ (by exact fun v hv => all_eq_true.1 hcl v hv) ?_
  refine .nil (.pc b8 (CL t (⟨0, ids⟩ : B4) iv r) ?_)
  refine .then_n (.seq (.joinK (ι := Nat) (fun q E => (9, AI q) :: E) (fun q => [Ad q [.bool (decide (B3 r.kind))] 4]) (fun q => True) (pre := []) (ts := [0, 5, 6, 7, 8]) O O ?_ ?_))
  ·refine .region (.fa Y Bm (.u (.ld Y AR) (.ui Y Y Y (.m Y (.dec (t := 25) Y (fun h5_25 => ?_) (fun h5_25 => ?_))))))
   ·refine .kDT (t := 24) Y h5_25 (.gk (.gk (.gk (.pT Y Y (.m Y (.gk (.gk (.gk (.pT Y Y (.m Y (.gk (.gk (.gk (.q (.as (v' := .bool (decide (B3 r.kind))) (by simp [B3, h5_25]) (.pickT Y Y)) Y (.oq (.alloc MG) ?_)))))))))))))))
    rintro v L' ⟨b9, rfl, rfl⟩
    refine .st Y Y Y My ?_
    refine .nt ?_
    exact .mk (b9) (trivial) O
   refine .kDF (t := 24) Y h5_25 (.gr (.fa Y Bm (.gr (.u (.ld Y AR) (.gr (.ui Y Y Y (.pF Y Y (.m Y (.dec (t := 30) Y (fun h5_30 => ?_) (fun h5_30 => ?_))))))))))
   ·refine .kDT (t := 28) Y h5_30 (.kDT (t := 29) Y h5_30 (.gk (.gk (.gk (.pT Y Y (.m Y (.gk (.gk (.gk (.q (.as (v' := .bool (decide (B3 r.kind))) (by simp [B3, h5_25, h5_30]) (.pickT Y Y)) Y (.oq (.alloc MG) ?_)))))))))))
    rintro v L' ⟨b9, rfl, rfl⟩
    refine .st Y Y Y My ?_
    refine .nt ?_
    exact .mk (b9) (trivial) O
   refine .kDF (t := 28) Y h5_30 (.kDF (t := 29) Y h5_30 (.gr (.fa Y Bm (.gr (.u (.ld Y AR) (.gr (.ui Y Y Y (.pF Y Y (.m Y (.dec (t := 35) Y (fun h5_35 => ?_) (fun h5_35 => ?_)))))))))))
   ·refine .kDT (t := 33) Y h5_35 (.kDT (t := 34) Y h5_35 (.gk (.gk (.gk (.q (.as (v' := .bool (decide (B3 r.kind))) (by simp [B3, h5_25, h5_30, h5_35]) (.pickT Y Y)) Y (.oq (.alloc MG) ?_))))))
    rintro v L' ⟨b9, rfl, rfl⟩
    refine .st Y Y Y My ?_
    refine .nt ?_
    exact .mk (b9) (trivial) O
   refine .kDF (t := 33) Y h5_35 (.kDF (t := 34) Y h5_35 (.gr (.fa Y Bm (.gr (.u (.ld Y AR) (.gr (.ui Y Y Y (.q (.as (v' := .bool (decide (B3 r.kind))) (by simp [B3, h5_25, h5_30, h5_35]) (.pickF Y Y)) Y (.oq (.alloc MG) ?_)))))))))
   rintro v L' ⟨b9, rfl, rfl⟩
   refine .st Y Y Y My ?_
   refine .nt ?_
   exact .mk (b9) (trivial) O
  rintro b9 _
  refine .sr (.q (.func (us := []) (vs := [_]) Y Y) Y (.q (.func (us := []) (vs := [_]) Y Y) Y (.q (.func (us := []) (vs := [_, _]) Y Y) Y (.q (.func (us := []) (vs := [_, _]) Y Y) Y (.oq (.buildSlice1 (vs := [_, _, _, _]) JP Km Y Y Y Y Y dQ) ?_)))))
  rintro v L' ⟨bf, rfl, rfl⟩
  refine .slMake (b := bf) (n := 4) (c := 4) (xs := [.func (.func 101) #[] #[AI b9], .func (.func 102) #[] #[AI b5], .func (.func 103) #[] #[AI b8, AI b5], .func (.func 105) #[] #[AI b5, AI b8]]) O dQ (by exact Nat.le_refl 4) Y (.cv func85 [_] (T1 t τ ids iv r p hA N ho hN b5 b8 b9 _ _ (fun _ => Aa)) ?_)
  refine .fa Y Ek (.oq (.store Y Y Y ME ?c79 (Bb _ _)) ?_)
  case c79 => simp
  rintro v L' rfl
  refine .nil (.pc b7 (BH ⟨r.xid, τ.zx, BK τ ids r, [], [], st0, AF, AF, AF⟩) ?_)
  refine .then_n (.seq (.sr (.fa Y Ek (.u (.ld Y Fd) (.ui Y Y Y (.nt (.condN Y (fun h49 => ?_) (fun h49 => ?_))))))))
  ·refine .sr (.q (.la (BH (⟨r.xid, τ.zx, BK τ ids r, [], [], st0, AF, AF, AF⟩ : Rp)) Y BB) Y (.sa Y Y Bn (by exact BM rfl rfl rfl) ?_))
   refine .nil ?_
   have hAl : Bc τ ids r = [] := ES (fun g => h49 g.1)
   have hKl : BU τ ids r = [] := EP (fun g => h49 g.1)
   refine .add (AO 75 2) (.as (q := Af 75 2 AF (Bc τ ids r).length ((Bc τ ids r).flatMap CO)) (p := Af 75 2 AF 0 []) O (by rw [hAl]; rfl) (.add (AO 9 1) (.as (q := Af 9 1 AF (BU τ ids r).length (A6 (BU τ ids r))) (p := Af 9 1 AF 0 []) O (by rw [hKl]; rfl) (.ptCast (b := b6) (l' := BH (DL τ ids r AF AF)) O (by rw [OH h49]; rfl) ?_))))
   refine .then_n (.rt ?_)
   exact .d1 Y (.cellA Y BB O (by simp) Y) ⟨AF, AF, Y, ⟨_, _, congrArg (fun l : List Ac => Value.slice _ l.length _) hAl.symm⟩, ⟨_, _, congrArg (fun l : List Bs => Value.slice _ l.length _) hKl.symm⟩, Y⟩
  have hx : BK τ ids r = 0 := by omega
  obtain ⟨hrk, hth⟩ := Mo hx
  rw [hx]
  refine .sk (.sm Y (.fa Y Bh (.u (.ld Y Ak) (.cv func76 [_, _] (BY t τ r.path N ho hN) ?_))))
  refine .m Y (.ex Y Y (.ex Y Y (.fa Y HO (.sa Y Y DB (by intro v hv; simp only [B6, mem_cons, not_mem_nil, or_false] at hv; rcases hv with rfl | rfl | rfl | rfl | rfl | rfl | rfl | rfl | rfl <;> rfl) ?_))))
  refine .nil (.pc b7 (BH ⟨r.xid, τ.zx, 0, [], [], AS τ r.path, AF, AF, AF⟩) ?_)
  refine .then_n (.seq (.sr (.fa Y Bm (.u (.ld Y AR) (.nt (.block (.sr (.ui Y Y Y (.an Y (.condD Y (fun h61 => ?_) (fun h61 => ?_)))))))))))
  ·refine .region (.m Y (.fa Y Bh (.u (.ld Y Ak) (.cv func106 [_, _] (Mp t τ r.path N ho hN) ?_))))
   refine .m Y (.ex Y Y (.ex Y Y (.ex Y Y (.fa Y Tg (.oq (.store Y Y Y KP ?c116 (Bb _ _)) ?_)))))
   case c116 => simp
   rintro v L' rfl
   refine .nil (.pc b7 (BH ⟨r.xid, τ.zx, 0, [], Ha τ r.path, AS τ r.path, AF, AF, AF⟩) ?_)
   refine .blk_n (.then_n (.sr (.q (.la (BH (⟨r.xid, τ.zx, 0, [], Ha τ r.path, AS τ r.path, AF, AF, AF⟩ : Rp)) Y BB) Y (.sa Y Y Bn (by exact BM rfl rfl rfl) ?_))))
   refine .nil ?_
   have hAl : Bc τ ids r = [] := ES (fun g => by have := g.2; omega)
   have hKl : BU τ ids r = [] := EP (fun g => by have := g.2; omega)
   refine .add (AO 75 2) (.as (q := Af 75 2 AF (Bc τ ids r).length ((Bc τ ids r).flatMap CO)) (p := Af 75 2 AF 0 []) O (by rw [hAl]; rfl) (.add (AO 9 1) (.as (q := Af 9 1 AF (BU τ ids r).length (A6 (BU τ ids r))) (p := Af 9 1 AF 0 []) O (by rw [hKl]; rfl) (.ptCast (b := b6) (l' := BH (DL τ ids r AF AF)) O (by rw [N2 hx h61]; rfl) ?_))))
   refine .then_n (.ret ?_)
   exact .d1 Y (.cellA Y BB O (by simp) Y) ⟨AF, AF, Y, ⟨_, _, congrArg (fun l : List Ac => Value.slice _ l.length _) hAl.symm⟩, ⟨_, _, congrArg (fun l : List Bs => Value.slice _ l.length _) hKl.symm⟩, Y⟩
  refine .sr (.ui Y Y Y (.an Y (.condD Y (fun h72 => ?_) (fun h72 => ?_))))
  ·refine .region (.m Y (.fa Y Bh (.u (.ld Y Ak) (.oq (.c func107 [_, _] (LD t τ r.path N ho hN)) ?_))))
   rintro v L' ⟨uk, lk, rfl, -, hlk, ⟨ak, ck, rfl⟩, rfl⟩; rw [if_pos hth] at hlk; subst hlk
   refine .m Y (.ex Y Y (.ex Y Y (.fa Y Td (.oq (.store Y Y Y AAU ?c134 (Bb _ _)) ?_))))
   case c134 => simp
   rintro v L' rfl
   refine .nil (.pc b7 (BH ⟨r.xid, τ.zx, 0, [], [], AS τ r.path, AF, (.slice ak (Bf τ r.path).length ck), AF⟩) ?_)
   refine .blk_n (.then_n (.sr (.q (.la (BH (⟨r.xid, τ.zx, 0, [], [], AS τ r.path, (AF), (.slice ak (Bf τ r.path).length ck), AF⟩ : Rp)) Y BB) Y (.sa Y Y Bn (by exact BM rfl rfl rfl) ?_))))
   refine .nil ?_
   have hAl : Bc τ ids r = [] := ES (fun g => by have := g.2; omega)
   have hKl : BU τ ids r = Bf τ r.path := MQ hx h72
   refine .add (AO 75 2) (.as (q := Af 75 2 AF (Bc τ ids r).length ((Bc τ ids r).flatMap CO)) (p := Af 75 2 AF 0 []) O (by rw [hAl]; rfl) (.as (q := Af 9 1 (.slice ak (Bf τ r.path).length ck) (BU τ ids r).length (A6 (BU τ ids r))) (p := Af 9 1 (.slice ak (Bf τ r.path).length ck) (Bf τ r.path).length (A6 (Bf τ r.path))) O (by rw [hKl]) (.ptCast (b := b6) (l' := BH (DL τ ids r AF (.slice ak (Bf τ r.path).length ck))) O (by rw [ER hx h61]; rfl) ?_)))
   refine .then_n (.ret ?_)
   exact .d1 Y (.cellA Y BB O (by simp) Y) ⟨AF, .slice ak (Bf τ r.path).length ck, Y, ⟨_, _, congrArg (fun l : List Ac => Value.slice _ l.length _) hAl.symm⟩, ⟨_, _, congrArg (fun l : List Bs => Value.slice _ l.length _) hKl.symm⟩, Y⟩
  refine .sr (.ui Y Y Y (.an Y (.condD Y (fun h82 => ?_) (fun h82 => ?_))))
  ·refine .region (.m Y (.fa Y Bh (.u (.ld Y Ak) (.oq (.c func108 [_, _] (I8 t τ r.path N ho)) ?_))))
   rintro v L' ⟨ua, rfl, ⟨aa, ca, rfl⟩, rfl⟩
   refine .m Y (.ex Y Y (.ex Y Y (.fa Y UB (.oq (.store Y Y Y P6 ?c152 (Bb _ _)) ?_))))
   case c152 => simp
   rintro v L' rfl
   refine .nil (.pc b7 (BH ⟨r.xid, τ.zx, 0, [], [], AS τ r.path, (.slice aa (Do τ r.path).length ca), AF, AF⟩) ?_)
   refine .blk_n (.then_n (.sr (.q (.la (BH (⟨r.xid, τ.zx, 0, [], [], AS τ r.path, (.slice aa (Do τ r.path).length ca), (AF), AF⟩ : Rp)) Y BB) Y (.sa Y Y Bn (by exact BM rfl rfl rfl) ?_))))
   refine .nil ?_
   have hAl : Bc τ ids r = Do τ r.path := NG hx h82
   have hKl : BU τ ids r = [] := EP (fun g => by have := g.2; omega)
   refine .add (AO 9 1) (.as (q := Af 9 1 AF (BU τ ids r).length (A6 (BU τ ids r))) (p := Af 9 1 AF 0 []) O (by rw [hKl]; rfl) (.as (q := Af 75 2 (.slice aa (Do τ r.path).length ca) (Bc τ ids r).length ((Bc τ ids r).flatMap CO)) (p := Af 75 2 (.slice aa (Do τ r.path).length ca) (Do τ r.path).length ((Do τ r.path).flatMap CO)) O (by rw [hAl]) (.ptCast (b := b6) (l' := BH (DL τ ids r (.slice aa (Do τ r.path).length ca) AF)) O (by rw [ER hx h61]; rfl) ?_)))
   refine .then_n (.ret ?_)
   exact .d1 Y (.cellA Y BB O (by simp) Y) ⟨.slice aa (Do τ r.path).length ca, AF, Y, ⟨_, _, congrArg (fun l : List Ac => Value.slice _ l.length _) hAl.symm⟩, ⟨_, _, congrArg (fun l : List Bs => Value.slice _ l.length _) hKl.symm⟩, Y⟩
  refine .skip (.blk_n (.then_n (.sr (.q (.la (BH (⟨r.xid, τ.zx, 0, [], [], AS τ r.path, (AF), (AF), AF⟩ : Rp)) Y BB) Y (.sa Y Y Bn (by exact BM rfl rfl rfl) ?_)))))
  refine .nil ?_
  have hAl : Bc τ ids r = [] := ES (fun g => h82 g.2)
  have hKl : BU τ ids r = [] := EP (fun g => h72 g.2)
  refine .add (AO 75 2) (.as (q := Af 75 2 AF (Bc τ ids r).length ((Bc τ ids r).flatMap CO)) (p := Af 75 2 AF 0 []) O (by rw [hAl]; rfl) (.add (AO 9 1) (.as (q := Af 9 1 AF (BU τ ids r).length (A6 (BU τ ids r))) (p := Af 9 1 AF 0 []) O (by rw [hKl]; rfl) (.ptCast (b := b6) (l' := BH (DL τ ids r AF AF)) O (by rw [ER hx h61]; rfl) ?_))))
  refine .then_n (.ret ?_)
  exact .d1 Y (.cellA Y BB O (by simp) Y) ⟨AF, AF, Y, ⟨_, _, congrArg (fun l : List Ac => Value.slice _ l.length _) hAl.symm⟩, ⟨_, _, congrArg (fun l : List Bs => Value.slice _ l.length _) hKl.symm⟩, Y⟩
 rintro v L' ⟨b7, rfl, rfl⟩
 refine D.hh Y (.c func29 [_] (Cb t τ)) ?_
 rintro v L' ⟨rfl, rfl⟩
 refine D.kv Y (.to (v' := .agg (BH ⟨r.xid, τ.zx, 0, [], [], st0, AF, AF, AF⟩).toArray) (.buildN (pl := [(0, 1), (1, 1), (2, 1), (3, 1), (4, 1), (5, 9), (14, 1), (15, 1), (16, 1)]) (us := [(0, AA r.xid), (1, AA τ.zx)]) (cells := BH ⟨r.xid, τ.zx, 0, [], [], st0, AF, AF, AF⟩) underlying41 kQ Ca Y Y) Y) (.ph (.g0 (.sa Y Y Y Bn (by exact BM rfl rfl rfl) ?_)))
 refine D.ph (.fin (.pc b7 (BH ⟨r.xid, τ.zx, 0, [], [], st0, AF, AF, AF⟩) ?_))
 refine .then_n (.sm Y (.m Y (.q (.la (Eu r) Y Ij) Y (.q (.to (v' := .agg (CL t (⟨0, ids⟩ : B4) iv r).toArray) (.buildN (pl := [(0, 1), (1, 1), (2, 1), (3, 10)]) (us := [(0, AI t), (1, AA (⟨0, ids⟩ : B4).ses), (2, iv), (3, .agg (Eu r).toArray)]) (cells := CL t (⟨0, ids⟩ : B4) iv r) underlying134 kQ JM Y (IE t (⟨0, ids⟩ : B4) iv hA.shape r)) Y) Y (.oq (.allocA JM) ?_)))))
 rintro v L' ⟨b8, rfl, rfl⟩
 refine .sa Y Y TJ (by exact fun v hv => all_eq_true.1 hcl v hv) ?_
 refine .nil (.pc b8 (CL t (⟨0, ids⟩ : B4) iv r) ?_)
 refine .then_n (.seq (.joinK (ι := Nat) (fun q E => (9, AI q) :: E) (fun q => [Ad q [.bool (decide (B3 r.kind))] 4]) (fun q => True) (pre := []) (ts := [0, 5, 6, 7, 8]) O O ?_ ?_))
 ·refine .region (.fa Y Bm (.u (.ld Y AR) (.ui Y Y Y (.m Y (.dec (t := 25) Y (fun h5_25 => ?_) (fun h5_25 => ?_))))))
  ·refine .kDT (t := 24) Y h5_25 (.gk (.gk (.gk (.pT Y Y (.m Y (.gk (.gk (.gk (.pT Y Y (.m Y (.gk (.gk (.gk (.q (.as (v' := .bool (decide (B3 r.kind))) (by simp [B3, h5_25]) (.pickT Y Y)) Y (.oq (.alloc MG) ?_)))))))))))))))
   rintro v L' ⟨b9, rfl, rfl⟩
   refine .st Y Y Y My ?_
   refine .nt ?_
   exact .mk (b9) (trivial) O
  refine .kDF (t := 24) Y h5_25 (.gr (.fa Y Bm (.gr (.u (.ld Y AR) (.gr (.ui Y Y Y (.pF Y Y (.m Y (.dec (t := 30) Y (fun h5_30 => ?_) (fun h5_30 => ?_))))))))))
  ·refine .kDT (t := 28) Y h5_30 (.kDT (t := 29) Y h5_30 (.gk (.gk (.gk (.pT Y Y (.m Y (.gk (.gk (.gk (.q (.as (v' := .bool (decide (B3 r.kind))) (by simp [B3, h5_25, h5_30]) (.pickT Y Y)) Y (.oq (.alloc MG) ?_)))))))))))
   rintro v L' ⟨b9, rfl, rfl⟩
   refine .st Y Y Y My ?_
   refine .nt ?_
   exact .mk (b9) (trivial) O
  refine .kDF (t := 28) Y h5_30 (.kDF (t := 29) Y h5_30 (.gr (.fa Y Bm (.gr (.u (.ld Y AR) (.gr (.ui Y Y Y (.pF Y Y (.m Y (.dec (t := 35) Y (fun h5_35 => ?_) (fun h5_35 => ?_)))))))))))
  ·refine .kDT (t := 33) Y h5_35 (.kDT (t := 34) Y h5_35 (.gk (.gk (.gk (.q (.as (v' := .bool (decide (B3 r.kind))) (by simp [B3, h5_25, h5_30, h5_35]) (.pickT Y Y)) Y (.oq (.alloc MG) ?_))))))
   rintro v L' ⟨b9, rfl, rfl⟩
   refine .st Y Y Y My ?_
   refine .nt ?_
   exact .mk (b9) (trivial) O
  refine .kDF (t := 33) Y h5_35 (.kDF (t := 34) Y h5_35 (.gr (.fa Y Bm (.gr (.u (.ld Y AR) (.gr (.ui Y Y Y (.q (.as (v' := .bool (decide (B3 r.kind))) (by simp [B3, h5_25, h5_30, h5_35]) (.pickF Y Y)) Y (.oq (.alloc MG) ?_)))))))))
  rintro v L' ⟨b9, rfl, rfl⟩
  refine .st Y Y Y My ?_
  refine .nt ?_
  exact .mk (b9) (trivial) O
 rintro b9 _
 refine .sr (.q (.func (us := []) (vs := [_]) Y Y) Y (.q (.func (us := []) (vs := [_]) Y Y) Y (.q (.func (us := []) (vs := [_, _]) Y Y) Y (.q (.func (us := []) (vs := [_, _]) Y Y) Y (.oq (.buildSlice1 (vs := [_, _, _, _]) JP Km Y Y Y Y Y dQ) ?_)))))
 rintro v L' ⟨bf, rfl, rfl⟩
 refine .slMake (b := bf) (n := 4) (c := 4) (xs := [.func (.func 101) #[] #[AI b9], .func (.func 102) #[] #[AI b5], .func (.func 103) #[] #[AI b8, AI b5], .func (.func 105) #[] #[AI b5, AI b8]]) O dQ (by exact Nat.le_refl 4) Y (.cv func85 [_] (T1 t τ ids iv r p hA N ho hN b5 b8 b9 _ _ (fun _ => Aa)) ?_)
 refine .fa Y Ek (.oq (.store Y Y Y ME ?c234 (Bb _ _)) ?_)
 case c234 => simp
 rintro v L' rfl
 refine .nil (.pc b7 (BH ⟨r.xid, τ.zx, BK τ ids r, [], [], st0, AF, AF, AF⟩) ?_)
 refine .then_n (.seq (.sr (.fa Y Ek (.u (.ld Y Fd) (.ui Y Y Y (.nt (.condN Y (fun h49 => ?_) (fun h49 => ?_))))))))
 ·refine .sr (.q (.la (BH (⟨r.xid, τ.zx, BK τ ids r, [], [], st0, AF, AF, AF⟩ : Rp)) Y BB) Y (.sa Y Y Bn (by exact BM rfl rfl rfl) ?_))
  refine .nil ?_
  have hAl : Bc τ ids r = [] := ES (fun g => h49 g.1)
  have hKl : BU τ ids r = [] := EP (fun g => h49 g.1)
  refine .add (AO 75 2) (.as (q := Af 75 2 AF (Bc τ ids r).length ((Bc τ ids r).flatMap CO)) (p := Af 75 2 AF 0 []) O (by rw [hAl]; rfl) (.add (AO 9 1) (.as (q := Af 9 1 AF (BU τ ids r).length (A6 (BU τ ids r))) (p := Af 9 1 AF 0 []) O (by rw [hKl]; rfl) (.ptCast (b := b6) (l' := BH (DL τ ids r AF AF)) O (by rw [OH h49]; rfl) ?_))))
  refine .then_n (.rt ?_)
  exact .d1 Y (.cellA Y BB O (by simp) Y) ⟨AF, AF, Y, ⟨_, _, congrArg (fun l : List Ac => Value.slice _ l.length _) hAl.symm⟩, ⟨_, _, congrArg (fun l : List Bs => Value.slice _ l.length _) hKl.symm⟩, Y⟩
 have hx : BK τ ids r = 0 := by omega
 obtain ⟨hrk, hth⟩ := Mo hx
 rw [hx]
 refine .sk (.sm Y (.fa Y Bh (.u (.ld Y Ak) (.cv func76 [_, _] (BY t τ r.path N ho hN) ?_))))
 refine .m Y (.ex Y Y (.ex Y Y (.fa Y HO (.sa Y Y DB (by intro v hv; simp only [B6, mem_cons, not_mem_nil, or_false] at hv; rcases hv with rfl | rfl | rfl | rfl | rfl | rfl | rfl | rfl | rfl <;> rfl) ?_))))
 refine .nil (.pc b7 (BH ⟨r.xid, τ.zx, 0, [], [], AS τ r.path, AF, AF, AF⟩) ?_)
 refine .then_n (.seq (.sr (.fa Y Bm (.u (.ld Y AR) (.nt (.block (.sr (.ui Y Y Y (.an Y (.condD Y (fun h61 => ?_) (fun h61 => ?_)))))))))))
 ·refine .region (.m Y (.fa Y Bh (.u (.ld Y Ak) (.cv func106 [_, _] (Mp t τ r.path N ho hN) ?_))))
  refine .m Y (.ex Y Y (.ex Y Y (.ex Y Y (.fa Y Tg (.oq (.store Y Y Y KP ?c271 (Bb _ _)) ?_)))))
  case c271 => simp
  rintro v L' rfl
  refine .nil (.pc b7 (BH ⟨r.xid, τ.zx, 0, [], Ha τ r.path, AS τ r.path, AF, AF, AF⟩) ?_)
  refine .blk_n (.then_n (.sr (.q (.la (BH (⟨r.xid, τ.zx, 0, [], Ha τ r.path, AS τ r.path, AF, AF, AF⟩ : Rp)) Y BB) Y (.sa Y Y Bn (by exact BM rfl rfl rfl) ?_))))
  refine .nil ?_
  have hAl : Bc τ ids r = [] := ES (fun g => by have := g.2; omega)
  have hKl : BU τ ids r = [] := EP (fun g => by have := g.2; omega)
  refine .add (AO 75 2) (.as (q := Af 75 2 AF (Bc τ ids r).length ((Bc τ ids r).flatMap CO)) (p := Af 75 2 AF 0 []) O (by rw [hAl]; rfl) (.add (AO 9 1) (.as (q := Af 9 1 AF (BU τ ids r).length (A6 (BU τ ids r))) (p := Af 9 1 AF 0 []) O (by rw [hKl]; rfl) (.ptCast (b := b6) (l' := BH (DL τ ids r AF AF)) O (by rw [N2 hx h61]; rfl) ?_))))
  refine .then_n (.ret ?_)
  exact .d1 Y (.cellA Y BB O (by simp) Y) ⟨AF, AF, Y, ⟨_, _, congrArg (fun l : List Ac => Value.slice _ l.length _) hAl.symm⟩, ⟨_, _, congrArg (fun l : List Bs => Value.slice _ l.length _) hKl.symm⟩, Y⟩
 refine .sr (.ui Y Y Y (.an Y (.condD Y (fun h72 => ?_) (fun h72 => ?_))))
 ·refine .region (.m Y (.fa Y Bh (.u (.ld Y Ak) (.oq (.c func107 [_, _] (LD t τ r.path N ho hN)) ?_))))
  rintro v L' ⟨uk, lk, rfl, -, hlk, ⟨ak, ck, rfl⟩, rfl⟩; rw [if_pos hth] at hlk; subst hlk
  refine .m Y (.ex Y Y (.ex Y Y (.fa Y Td (.oq (.store Y Y Y AAU ?c289 (Bb _ _)) ?_))))
  case c289 => simp
  rintro v L' rfl
  refine .nil (.pc b7 (BH ⟨r.xid, τ.zx, 0, [], [], AS τ r.path, AF, (.slice ak (Bf τ r.path).length ck), AF⟩) ?_)
  refine .blk_n (.then_n (.sr (.q (.la (BH (⟨r.xid, τ.zx, 0, [], [], AS τ r.path, (AF), (.slice ak (Bf τ r.path).length ck), AF⟩ : Rp)) Y BB) Y (.sa Y Y Bn (by exact BM rfl rfl rfl) ?_))))
  refine .nil ?_
  have hAl : Bc τ ids r = [] := ES (fun g => by have := g.2; omega)
  have hKl : BU τ ids r = Bf τ r.path := MQ hx h72
  refine .add (AO 75 2) (.as (q := Af 75 2 AF (Bc τ ids r).length ((Bc τ ids r).flatMap CO)) (p := Af 75 2 AF 0 []) O (by rw [hAl]; rfl) (.as (q := Af 9 1 (.slice ak (Bf τ r.path).length ck) (BU τ ids r).length (A6 (BU τ ids r))) (p := Af 9 1 (.slice ak (Bf τ r.path).length ck) (Bf τ r.path).length (A6 (Bf τ r.path))) O (by rw [hKl]) (.ptCast (b := b6) (l' := BH (DL τ ids r AF (.slice ak (Bf τ r.path).length ck))) O (by rw [ER hx h61]; rfl) ?_)))
  refine .then_n (.ret ?_)
  exact .d1 Y (.cellA Y BB O (by simp) Y) ⟨AF, .slice ak (Bf τ r.path).length ck, Y, ⟨_, _, congrArg (fun l : List Ac => Value.slice _ l.length _) hAl.symm⟩, ⟨_, _, congrArg (fun l : List Bs => Value.slice _ l.length _) hKl.symm⟩, Y⟩
 refine .sr (.ui Y Y Y (.an Y (.condD Y (fun h82 => ?_) (fun h82 => ?_))))
 ·refine .region (.m Y (.fa Y Bh (.u (.ld Y Ak) (.oq (.c func108 [_, _] (I8 t τ r.path N ho)) ?_))))
  rintro v L' ⟨ua, rfl, ⟨aa, ca, rfl⟩, rfl⟩
  refine .m Y (.ex Y Y (.ex Y Y (.fa Y UB (.oq (.store Y Y Y P6 ?c307 (Bb _ _)) ?_))))
  case c307 => simp
  rintro v L' rfl
  refine .nil (.pc b7 (BH ⟨r.xid, τ.zx, 0, [], [], AS τ r.path, (.slice aa (Do τ r.path).length ca), AF, AF⟩) ?_)
  refine .blk_n (.then_n (.sr (.q (.la (BH (⟨r.xid, τ.zx, 0, [], [], AS τ r.path, (.slice aa (Do τ r.path).length ca), (AF), AF⟩ : Rp)) Y BB) Y (.sa Y Y Bn (by exact BM rfl rfl rfl) ?_))))
  refine .nil ?_
  have hAl : Bc τ ids r = Do τ r.path := NG hx h82
  have hKl : BU τ ids r = [] := EP (fun g => by have := g.2; omega)
  refine .add (AO 9 1) (.as (q := Af 9 1 AF (BU τ ids r).length (A6 (BU τ ids r))) (p := Af 9 1 AF 0 []) O (by rw [hKl]; rfl) (.as (q := Af 75 2 (.slice aa (Do τ r.path).length ca) (Bc τ ids r).length ((Bc τ ids r).flatMap CO)) (p := Af 75 2 (.slice aa (Do τ r.path).length ca) (Do τ r.path).length ((Do τ r.path).flatMap CO)) O (by rw [hAl]) (.ptCast (b := b6) (l' := BH (DL τ ids r (.slice aa (Do τ r.path).length ca) AF)) O (by rw [ER hx h61]; rfl) ?_)))
  refine .then_n (.ret ?_)
  exact .d1 Y (.cellA Y BB O (by simp) Y) ⟨.slice aa (Do τ r.path).length ca, AF, Y, ⟨_, _, congrArg (fun l : List Ac => Value.slice _ l.length _) hAl.symm⟩, ⟨_, _, congrArg (fun l : List Bs => Value.slice _ l.length _) hKl.symm⟩, Y⟩
 refine .skip (.blk_n (.then_n (.sr (.q (.la (BH (⟨r.xid, τ.zx, 0, [], [], AS τ r.path, (AF), (AF), AF⟩ : Rp)) Y BB) Y (.sa Y Y Bn (by exact BM rfl rfl rfl) ?_)))))
 refine .nil ?_
 have hAl : Bc τ ids r = [] := ES (fun g => h82 g.2)
 have hKl : BU τ ids r = [] := EP (fun g => h72 g.2)
 refine .add (AO 75 2) (.as (q := Af 75 2 AF (Bc τ ids r).length ((Bc τ ids r).flatMap CO)) (p := Af 75 2 AF 0 []) O (by rw [hAl]; rfl) (.add (AO 9 1) (.as (q := Af 9 1 AF (BU τ ids r).length (A6 (BU τ ids r))) (p := Af 9 1 AF 0 []) O (by rw [hKl]; rfl) (.ptCast (b := b6) (l' := BH (DL τ ids r AF AF)) O (by rw [ER hx h61]; rfl) ?_))))
 refine .then_n (.ret ?_)
 exact .d1 Y (.cellA Y BB O (by simp) Y) ⟨AF, AF, Y, ⟨_, _, congrArg (fun l : List Ac => Value.slice _ l.length _) hAl.symm⟩, ⟨_, _, congrArg (fun l : List Bs => Value.slice _ l.length _) hKl.symm⟩, Y⟩
theorem Hf.pre {π : Pl} {n : Nat} (h : Hf π n) (hn : n ≤ 4097) : π.τ.Ok 65536 ∧ π.ord.length ≤ 1048576 ∧ π.ω.length ≤ 4096 ∧ ∀ i, (π.ev i).length ≤ 1099511627776 := by
 have h1 := h.ord
 have h2 := h.few
 refine ⟨h.ok.more om, by omega, by omega, fun i => ?_⟩
 have h3 := h.ev i
 have h4 : n * 67108864 ≤ 4097 * 67108864 := Nat.mul_le_mul_right _ hn
 omega
theorem Cf {x : Rp} (h1 : AB x.aclV = true) (h2 : AB x.kidsV = true) (h3 : AB x.subsV = true) : ∀ v ∈ BH x, AB v = true := by
 intro v hv
 simp only [BH, B6, cons_append, nil_append, mem_cons, not_mem_nil, or_false] at hv
 rcases hv with rfl | rfl | rfl | rfl | rfl | rfl | rfl | rfl | rfl | rfl | rfl | rfl | rfl | rfl | rfl | rfl | rfl <;> first | rfl | assumption
theorem H3.rqc {q : HP} {s : Int} {r : Rq} {subs : List Rq} {l : List If} (h : H3 q s r subs l) : ∀ v ∈ Eu r, AB v = true := h.d.w.rqcells
theorem AAQ {q : HP} (hT : GD q) {s : Int} (hs : Az s) : WiD q ⟨s, []⟩ AF M4 [] :=
 ⟨AAs hs hT ⟨none, 0, 0, rfl⟩ ⟨⟨by decide, by decide⟩, Az.zero, Az.zero⟩ ⟨by decide, by decide⟩, CN, fun _ _ => .inl ⟨rfl, rfl, none, 0, rfl⟩, (fun _ h => by cases h), fun _ h => by cases h⟩
theorem Hr (b : Nat) (k : Ve) (π : Pl) (t : Int) (n : Nat) (hB : Hf π n) (hn : n ≤ 4096) : Fn prog 9 #[AI b, AA t] [Pq b k π] fun v L => v = .tuple #[AA (JN π t).2.1, AA (JN π t).2.2] ∧ L = [Pq b k (JN π t).1] := by
 refine Fn.intro func9 Y Y fun F W => ?_
 refine .plOpen (π := π) O fun ov mi me hI => ?_
 have hop := hB.op
 have hiz : (Qf π.τ).length = π.τ.sess.length := length_map _
 have hP := hB.pre om
 refine .sr (.a Y (.an Y (.seq (.sm Y (.nf Y DZ (.fa Y E7 (.u (.ld Y C1) (.oq (.call func22 Y Y (vs := [_]) Y (LX k.t π.τ _ hP.1 (fun x hx => by have := hB.ses x hx; omega) om)) ?_))))))))
 rintro v L' ⟨⟨as1, cs1, rfl⟩, rfl⟩; rw [hiz]
 refine .q (.slen Y underlying86 Y) Y (.ui Y Y Y (.nt (.condD Y (fun h13 => ?_) (fun h13 => ?_))))
 ·have hp : JN π t = (π, (0, 91)) := if_pos om
  rw [hp]
  refine .plFold (π) hI O (by rfl) (by rfl) (by rfl) (by rfl) (by rfl) (by rfl) (.sr (.a Y (.an Y (.rt ?_))))
  exact .vv
 have hp : JN π t = ((Bl (Gz π) (π.opened + 1) 0 (Dz (π.opened + 1) t) []), (π.opened + 1, 0)) := if_neg om
 rw [hp]
 refine .sk (.sm Y (.nf Y Jc (.u (.ld Y AR) (.q (.add Y Y om) Y (.nf Y Jc (.oq (.store Y Y Y CC ?c21 (Bb _ _)) ?_))))))
 case c21 => simp [Vv]
 rintro v L' rfl
 refine .nil (.pc b (Vv k ov (Gz π).opened) ?_)
 refine .add (p := aclR (Dz (π.opened + 1) t)) (AO _ _) (.add (p := Af 60 8 (Dz (π.opened + 1) t).subsV ([] : List Pt).length (([] : List Pt).flatMap A1)) (AO _ _) (.add (p := Ag aclR []) (fun h => CX h) ?_))
 have hI0 : Lc (Gz π) mi me := ⟨hI.i1, hI.e1, hI.i2, hI.e2⟩
 have hs1 : Az (π.opened + 1) := ⟨by omega, by omega⟩
 refine .then_n (.seq (.draw [13] [[0, 1, 2, 3, 4, 5, 6, 7, 8, 9, 10, 11, 12, 13]] mixed kQ (.g0 (.mv Y Y (.mv Y Y (.nf Y Y Y Jc (.kv Y (.ld Y AR) (.mv Y Y (.nf Y Y Y Jc (.kv Y (.ld Y AR) (.mv Y Y (.kv Y (.max2 Y Y) (.kv Y (.min2 Y Y) (.kv Y (.to (v' := .agg (A1 (Dz (π.opened + 1) t)).toArray) (.build (us := [(0, _), (4, _), (5, _)]) FF BL Y Y (by simp [AB])) Y) (.hh Y (.call func23 Y Y (vs := [_, _, _, _]) Y (JB b k (Gz π) ov mi me hI0 (π.opened + 1) 0 (Dz (π.opened + 1) t) [] (N0 := 0) (Lr hs1 0) dQ ⟨Y, none, 0, Y⟩ (fun _ h => by cases h) hs1 Az.zero 65536 hP.1 dQ hP.2.1 hP.2.2.1 hP.2.2.2)) ?_)))))))))))))))
 rintro v L' ⟨z, rfl, hz, hzm, rfl⟩
 refine D.pf (.sm Y (.nf Y Jc (.u (.ld Y AR) (.a Y (.a Y (.nil (.idPost hzm O (.bigAdd (f := entR) (l := (Gz π).ord) (Bo (Gz π) (π.opened + 1) 0 (Dz (π.opened + 1) t) []) (p := entR (Bo (Gz π) (π.opened + 1) 0 (Dz (π.opened + 1) t) [])) Y O (.plFold (k := k) (Bl (Gz π) (π.opened + 1) 0 (Dz (π.opened + 1) t) []) hz O (by rfl) (by rfl) (by rfl) (by rfl) (by rfl) (by rfl) (.then_n (.ret ?_)))))))))))
 exact .vv
theorem Sx (b : Nat) (k : Ve) (π : Pl) (s : Int) (hs : Az s) (q : HP) (hT : GD q) (n : Nat) (hB : Hf π n) (hn : n ≤ 4096) : Fn prog 18 #[AI b, AA s] [Pq b k π, q] fun v L => ∃ π' e, v = AA e ∧ ((¬ Cg π.τ s ∧ e = 67 ∧ π' = π) ∨ (Cg π.τ s ∧ e = 0 ∧ ∃ y ys, y.pl = (CP π.τ ⟨s, []⟩ M4 []).1 ∧ ys.map Pt.pl = (CP π.τ ⟨s, []⟩ M4 []).2 ∧ (AB y.aclV = true ∧ ∃ a c, y.subsV = .slice a ys.length c) ∧ (∀ z ∈ ys, AB z.aclV = true ∧ z.subsV = AF) ∧ π' = Bl π s 0 y ys)) ∧ L = [Pq b k π', q] := by
 refine Fn.intro func18 Y Y fun F W => ?_
 have hP := hB.pre om
 have hW := AAQ hT hs
 refine .sr (.an Y (.seq (.sm Y (.m Y (.cv func24 [_, _] (J4 b k π s) ?_)))))
 refine .u (.not Y) (.nt (.condN Y (fun h8 => ?_) (fun h8 => ?_)))
 ·refine .sr (.an Y (.rt ?_))
  exact .dn Y Y ⟨π, 67, Y, .inl ⟨h8, Y, Y⟩, Y⟩
 refine .sk (.seq (.plOpen (π := π) O fun ov mi me hI => (.region (.m Y (.m Y (.m Y (.nf Y DZ (.fa Y E7 (.u (.ld Y C1) (.m Y (.q (.to (v' := .agg (Eu M4).toArray) (.build (us := [(0, _)]) QK OM Y Y (by simp [AB])) Y) Y (.oq (.call func27 Y Y (vs := [_, _, _, _]) Y (NB k.t π.τ ⟨s, []⟩ AF M4 q hW.w _ hP.1 om hB.w om [] hW.rd hW.each hW.acls om)) ?_))))))))))))
 rintro v L' ⟨y, ys, rfl, hy, hys, hc, hcs, rfl⟩
 have hG := (Ro hB.ok hW).of hy hys
 refine .oq (.c func23 [_, _, _, _] (JB b k π ov mi me hI s 0 y ys hG om hc hcs hs Az.zero 65536 hP.1 dQ hP.2.1 hP.2.2.1 hP.2.2.2)) ?_
 rintro v L' ⟨z, rfl, hz, hzm, rfl⟩
 refine .nt (.sr (.a Y (.nil (.idPost hzm O (.bigAdd (f := entR) (l := π.ord) (Bo π s 0 y ys) (p := entR (Bo π s 0 y ys)) Y O (.plFold (k := k) (Bl π s 0 y ys) hz O (by rfl) (by rfl) (by rfl) (by rfl) (by rfl) (by rfl) (.then_n (.ret ?_))))))))
 exact .dn Y Y ⟨Bl π s 0 y ys, 0, Y, .inr ⟨h8, Y, y, ys, hy, hys, hc, hcs, Y⟩, Y⟩
theorem Q9 (r : Rq) (hr : ∀ v ∈ Eu r, AB v = true) (e : Int) : Fn prog 56 #[.agg (Eu r).toArray, AA e] [] fun v L => v = AA (B7 r e) ∧ L = [] := by
 refine Fn.intro func56 Y Y fun F W => ?_
 refine .sr (.oq (.box Y) ?_)
 rintro v L' ⟨b2, rfl, rfl⟩
 refine .a Y (.nil (.pc b2 (Eu r) ?_))
 refine .then_n (.seq (.block (.sr (.fa Y Zv (.u (.ld Y X4) (.u (.not Y) (.an Y (.condB Y (fun h5 => ?_) (fun h5 => ?_)))))))))
 ·refine .skip (.blk_n (.then_n (.sr (.an Y (.ret ?_)))))
  have hq : True := trivial
  exact .dn Y Y ⟨by unfold B7; simp_all, rfl⟩
 refine .sr (.fa Y Bm (.u (.ld Y AR) (.ui Y Y Y (.m Y (.dec (t := 13) Y (fun h2_13 => ?_) (fun h2_13 => ?_))))))
 ·refine .kDT (t := 12) Y h2_13 (.gr (.m Y (.gr (.ui Y Y Y (.pT Y Y (.an Y (.condD Y (fun h9 => ?_) (fun h9 => ?_))))))))
  ·refine .sr (.an Y (.ret (.blk_r (.then_r ?_))))
   have hq : True := trivial
   exact .dn Y Y ⟨by unfold B7; simp_all, rfl⟩
  refine .sm Y (.ui Y Y Y (.an Y (.condN Y (fun h17 => ?_) (fun h17 => ?_))))
  ·refine .skip (.blk_n (.then_n (.sr (.an Y (.ret ?_)))))
   have hq : True := trivial
   exact .dn Y Y ⟨by unfold B7; simp_all, rfl⟩
  refine .sr (.fa Y Bm (.u (.ld Y AR) (.ui Y Y Y (.m Y (.dec (t := 24) Y (fun h5_24 => ?_) (fun h5_24 => ?_))))))
  ·refine .kDT (t := 23) Y h5_24 (.gk (.gk (.gk (.pT Y Y (.an Y (.condT Y (.sr (.an Y (.ret (.blk_r (.then_r ?_)))))))))))
   have hq : True := trivial
   exact .dn Y Y ⟨by unfold B7; simp_all, rfl⟩
  refine .kDF (t := 23) Y h5_24 (.gr (.fa Y Bm (.gr (.u (.ld Y AR) (.gr (.ui Y Y Y (.pF Y Y (.an Y (.condD Y (fun h20 => ?_) (fun h20 => ?_))))))))))
  ·refine .sr (.an Y (.ret (.blk_r (.then_r ?_))))
   have hq : True := trivial
   exact .dn Y Y ⟨by unfold B7; simp_all, rfl⟩
  refine .sr (.fa Y Bm (.u (.ld Y AR) (.ui Y Y Y (.an Y (.condD Y (fun h29 => ?_) (fun h29 => ?_))))))
  ·refine .sr (.an Y (.ret (.blk_r (.then_r ?_))))
   have hq : True := trivial
   exact .dn Y Y ⟨by unfold B7; simp_all, rfl⟩
  refine .skip (.blk_n (.then_n (.sr (.an Y (.ret ?_)))))
  have hq : True := trivial
  exact .dn Y Y ⟨by unfold B7; simp_all, rfl⟩
 refine .kDF (t := 12) Y h2_13 (.gk (.gk (.pF Y Y (.an Y (.condF Y (.sm Y (.ui Y Y Y (.an Y (.condN Y (fun h17 => ?_) (fun h17 => ?_))))))))))
 ·refine .skip (.blk_n (.then_n (.sr (.an Y (.ret ?_)))))
  have hq : True := trivial
  exact .dn Y Y ⟨by unfold B7; simp_all, rfl⟩
 refine .sr (.fa Y Bm (.u (.ld Y AR) (.ui Y Y Y (.m Y (.dec (t := 24) Y (fun h5_24 => ?_) (fun h5_24 => ?_))))))
 ·refine .kDT (t := 23) Y h5_24 (.gk (.gk (.gk (.pT Y Y (.an Y (.condT Y (.sr (.an Y (.ret (.blk_r (.then_r ?_)))))))))))
  have hq : True := trivial
  exact .dn Y Y ⟨by unfold B7; simp_all, rfl⟩
 refine .kDF (t := 23) Y h5_24 (.gr (.fa Y Bm (.gr (.u (.ld Y AR) (.gr (.ui Y Y Y (.pF Y Y (.an Y (.condD Y (fun h20 => ?_) (fun h20 => ?_))))))))))
 ·refine .sr (.an Y (.ret (.blk_r (.then_r ?_))))
  have hq : True := trivial
  exact .dn Y Y ⟨by unfold B7; simp_all, rfl⟩
 refine .sr (.fa Y Bm (.u (.ld Y AR) (.ui Y Y Y (.an Y (.condD Y (fun h29 => ?_) (fun h29 => ?_))))))
 ·refine .sr (.an Y (.ret (.blk_r (.then_r ?_))))
  have hq : True := trivial
  exact .dn Y Y ⟨by unfold B7; simp_all, rfl⟩
 refine .skip (.blk_n (.then_n (.sr (.an Y (.ret ?_)))))
 have hq : True := trivial
 exact .dn Y Y ⟨by unfold B7; simp_all, rfl⟩
section
variable {W : World} {n : Nat} {ds : List Deferred} {E : Bx} {L R : List HP} {X : Act → World → Prop}
theorem G.idTakeP {m : Sm Bs} (s : Int) {ids : List Bs} (hids : ids = (BS m s).2) (hL : BJ (Ag OE m) L R)
  (h : ∀ a c, (BS m s).1 = .slice a ids.length c → G W n ds E (Af 9 1 (.slice a ids.length c) ids.length (A6 ids) :: Ag OE (BX m s) :: R) X) : G W n ds E L X := by
 subst hids; exact G.idTakeS s hL h
theorem G.idBackP {m : Sm Bs} (s : Int) {ids : List Bs} {v : Value} (hids : ids = (BS m s).2) (hv : (BS m s).1 = v) (hL : BC [Af 9 1 v ids.length (A6 ids), Ag OE (BX m s)] L R)
  (h : G W n ds E (Ag OE m :: R) X) : G W n ds E L X := by
 subst hids; subst hv; exact G.idBack s hL h
end
theorem R3 {r : Rq} {e : Int} (h : B7 r e ≠ 0) : r.watch = true := by
 unfold B7 at h
 split at h
 ·exact absurd rfl h
 ·rename_i g; simpa using g
theorem Lc.ids {π : Pl} {mi : Sm Bs} {me : Sm Ev} (h : Lc π mi me) (s : Int) (v : Value) (l : List Bs) : Lc ⟨π.τ, π.ω, π.ord, π.opened, ET π.ids s l, π.ev⟩ (BQ mi s (v, l)) me :=
 ⟨Bv h.i1 _ _, h.e1, fun i => Ki h.i2 s (v, l) i, h.e2⟩
theorem Lc.evs {π : Pl} {mi : Sm Bs} {me : Sm Ev} (h : Lc π mi me) (s : Int) (v : Value) (ω : List Wt) (l : List Ev) : Lc ⟨π.τ, ω, π.ord, π.opened, π.ids, ET π.ev s l⟩ mi (BQ me s (v, l)) :=
 ⟨h.i1, Bv h.e1 _ _, h.i2, fun i => Ki h.e2 s (v, l) i⟩
theorem Lc.evd {π : Pl} {mi : Sm Bs} {me : Sm Ev} (h : Lc π mi me) (s : Int) : Lc (VO π s) mi (BX me s) :=
 ⟨h.i1, DF h.e1 _, h.i2, fun i => Kf h.e1 h.e2 s i⟩
theorem Bu (e : Int) : ∀ v ∈ BH (CU e), AB v = true := Cf rfl rfl rfl
theorem RP (b : Nat) (k : Ve) (π : Pl) (s : Int) (r : Rq) (subs : List Rq) (l : List If) (q : HP) (hA : H3 q s r subs l) (hs : 1 ≤ s ∧ s ≤ 5) (n : Nat) (hB : Hf π n) (hn : n ≤ 4096) : Fn prog 28 #[AI b, AA s, .agg (Eu r).toArray] [Pq b k π, q] fun v L => ∃ x kids, AAX π s r l x kids ∧ v = .agg (BH x).toArray ∧ L = [Pq b k (B9 π s r l).1, q, Af 9 1 x.kidsV kids.length (A6 kids)] := by
 refine Fn.intro func28 Y Y fun F W => ?_
 have hP := hB.pre om
 have hrc := hA.rqc
 have hid16 := hB.ids s
 have hrq := hA.d.w.rq
 have hpl := hrq.path
 have hdl := hrq.data
 refine .plOpen (π := π) O fun ov mi me hI => ?_
 have hi2 := hI.i2 s
 have hevl := hP.2.2.2 s
 refine .sr (.oq (.box Y) ?_)
 rintro v L' ⟨b5, rfl, rfl⟩
 refine .oq (.allocA Ca) ?_
 rintro v L' ⟨b6, rfl, rfl⟩
 refine .nil (.pc b5 (Eu r) ?_)
 refine .then_n (.sr (.oq (.allocA Ca) ?_))
 rintro v L' ⟨b7, rfl, rfl⟩
 refine .nil (.pc b7 (BH (CU 0)) ?_)
 refine .then_n (.seq (.sr (.fa Y Bm (.u (.ld Y AR) (.nt (.block (.sr (.ui Y Y Y (.an Y (.condD Y (fun h48 => ?_) (fun h48 => ?_)))))))))))
 ·refine .sr (.fa Y Bh (.u (.ld Y Ak) (.fa Y II (.u (.ld Y Ak) (.cv func52 [_, _] (Rl q hA.tz r.path r.data om om) ?_)))))
  refine .m Y (.ex Y Y (.ex Y Y (.a Y (.an Y (.sm Y (.fa Y Ek (.oq (.store Y Y Y ME ?c19 (Bb _ _)) ?_)))))))
  case c19 => simp
  rintro v L' rfl
  refine .nil (.pc b7 (BH (CU (BT r.path r.data).2)) ?_)
  refine .then_n (.seq (.idTakeP s hi2 O fun ai ci hsi => (.region (.m Y (.nf Y Jp (.u (.ld Y Rk) (.m Y (.q (.to (v' := .slice ai (π.ids s).length ci) (.lookupV (m := mi) (enc := SV) (AV.int underlying3) (v := (BS mi s).1) (fun b hb => Fl b hb) (fun hb => Fo hb) Y Y underlying82 WR O Y) hsi) Y (.an Y (.block (.sm Y (.ui Y Y Y (.m Y (.ndec (t := 78) Y (fun h14_78 => ?_) (fun h14_78 => ?_)))))))))))))))
  ·refine .kNT (t := 77) Y h14_78 (.gk (.gk (.gk (.pT Y Y (.an Y (.condT Y (.skip (.blk_n (.blk_n (.then_n (.seq ?_)))))))))))
   have hcd : (BT r.path r.data).2 ≠ 0 ∨ (BT r.path r.data).1 ∈ (π.ids s) := by first | exact .inl (by assumption) | exact .inr (by assumption)
   have hp : B9 π s r l = (π, (BT r.path r.data).2) := by unfold B9; rw [if_pos h48]; unfold NR; rcases hcd with g | g; exact if_pos g; by_cases g2 : (BT r.path r.data).2 = 0; rw [if_neg (fun z => z g2), if_pos g, g2]; rw [if_pos g2]
   refine .idBackP s (hI.i2 s) hsi O (.plFold (k := k) π hI O (by rfl) (by rfl) (by rfl) (by rfl) (by rfl) (by rfl) (.add (p := Af 9 1 AF ([] : List Bs).length (A6 [])) (AO _ _) (.region (.q (.la (BH (CU (BT r.path r.data).2)) Y BB) Y (.sa Y Y Bn (by exact Bu _) ?_)))))
   refine .nil (.pc b6 (BH (CU (BT r.path r.data).2)) ?_)
   refine .then_n (.ret ?_)
   exact .d1 Y (.cellA Y BB O (by simp) Y) ⟨CU (BT r.path r.data).2, [], ⟨by rw [hp]; rfl, Bu _, ⟨none, 0, rfl⟩, (fun _ hk => absurd hk (by unfold B3; omega))⟩, rfl, by rw [hp]⟩
  refine .kNF (t := 77) Y h14_78 (.gr (.m Y (.gr (.m Y (.gr (.oq (.call func53 Y Y (vs := [_, _]) Y (K1 _ (π.ids s) (Af 9 1 (.slice ai (π.ids s).length ci) (π.ids s).length (A6 (π.ids s))) (fun h hp => Aa hp) om (BT r.path r.data).1)) ?_))))))
  rintro v L' ⟨rfl, rfl⟩
  refine .pF Y Y (.an Y (.condD Y (fun h75 => ?_) (fun h75 => ?_)))
  ·refine .skip (.blk_n (.blk_n (.then_n (.seq ?_))))
   have hcd : (BT r.path r.data).2 ≠ 0 ∨ (BT r.path r.data).1 ∈ (π.ids s) := by first | exact .inl (by assumption) | exact .inr (by assumption)
   have hp : B9 π s r l = (π, (BT r.path r.data).2) := by unfold B9; rw [if_pos h48]; unfold NR; rcases hcd with g | g; exact if_pos g; by_cases g2 : (BT r.path r.data).2 = 0; rw [if_neg (fun z => z g2), if_pos g, g2]; rw [if_pos g2]
   refine .idBackP s (hI.i2 s) hsi O (.plFold (k := k) π hI O (by rfl) (by rfl) (by rfl) (by rfl) (by rfl) (by rfl) (.add (p := Af 9 1 AF ([] : List Bs).length (A6 [])) (AO _ _) (.region (.q (.la (BH (CU (BT r.path r.data).2)) Y BB) Y (.sa Y Y Bn (by exact Bu _) ?_)))))
   refine .nil (.pc b6 (BH (CU (BT r.path r.data).2)) ?_)
   refine .then_n (.ret ?_)
   exact .d1 Y (.cellA Y BB O (by simp) Y) ⟨CU (BT r.path r.data).2, [], ⟨by rw [hp]; rfl, Bu _, ⟨none, 0, rfl⟩, (fun _ hk => absurd hk (by unfold B3; omega))⟩, rfl, by rw [hp]⟩
  have hc0 : (BT r.path r.data).2 = 0 := by first | assumption | omega
  have hno : (BT r.path r.data).1 ∉ (π.ids s) := by assumption
  refine .sm Y (.q (.slen Y underlying38 Y) Y (.ui Y Y Y (.an Y (.condD Y (fun h83 => ?_) (fun h83 => ?_)))))
  ·refine .region (.fa Y Ek (.oq (.store Y Y Y ME ?c47 (Bb _ _)) ?_))
   case c47 => simp
   rintro v L' rfl
   refine .nil (.pc b7 (BH (CU 1)) ?_)
   refine .blk_n (.blk_n (.then_n (.seq ?_)))
   have hp : B9 π s r l = (π, 1) := by unfold B9; rw [if_pos h48]; unfold NR; rw [if_neg (fun z => z hc0), if_neg hno]; exact if_pos om
   refine .idBackP s (hI.i2 s) hsi O (.plFold (k := k) π hI O (by rfl) (by rfl) (by rfl) (by rfl) (by rfl) (by rfl) (.add (p := Af 9 1 AF ([] : List Bs).length (A6 [])) (AO _ _) (.region (.q (.la (BH (CU 1)) Y BB) Y (.sa Y Y Bn (by exact Bu _) ?_)))))
   refine .nil (.pc b6 (BH (CU 1)) ?_)
   refine .then_n (.ret ?_)
   exact .d1 Y (.cellA Y BB O (by simp) Y) ⟨CU 1, [], ⟨by rw [hp]; rfl, Bu _, ⟨none, 0, rfl⟩, (fun _ hk => absurd hk (by unfold B3; omega))⟩, rfl, by rw [hp]⟩
  refine .draw [7, 8, 9] [[0, 1, 2, 3, 4, 5, 6, 7, 8], [9]] mixed kQ (.go [Ad b _ _] O (.k Y (.move Y) (.k Y (.nilp Y) (.k Y (.fieldAddr Y Jp) (.k Y (.ld Y Rk) (.k Y (.move Y) (.k Y (.move Y) (.mv Y Y (.hh Y (.buildSlice1 (vs := [_]) Dr J6 Y Y Y Y Y dQ) ?_)))))))))
  rintro v L' ⟨bw, rfl, rfl⟩
  refine D.hh Y (.append1 Y Y Y Dr J6 Y Y ?c63 ?c64 (Nat.le_refl _) ?c65 dQ) ?_
  case c63 => simp [Value.cells, AB]
  case c64 => rfl
  case c65 => omega
  rintro v L' ⟨⟨a13, c13, rfl⟩, rfl⟩
  refine D.ph (.g0 (.hh Y (.mapSet (m := mi) (enc := SV) (v := (.slice a13 ((π.ids s).length + 1) c13, (π.ids s) ++ [(BT r.path r.data).1])) (k := s) (AV.int underlying3) Y Y Y underlying82 ?he68) ?_))
  case he68 => rfl
  rintro v L' rfl
  refine D.ph (.fin (.idPut (m := mi) s (v := .slice a13 ((π.ids s).length + 1) c13) ((π.ids s) ++ [(BT r.path r.data).1]) O (by rw [length_append]; rfl) (by simp [A6, Value.cells]) ?_))
  have hc02 : (BT r.path r.data).2 = 0 := hc0
  refine .ptCast (b := b7) (l' := BH (CU 0)) O (by rw [hc02]) ?_
  refine .blk_n (.blk_n (.then_n (.seq ?_)))
  have hp : B9 π s r l = (⟨π.τ, π.ω, π.ord, π.opened, ET π.ids s ((π.ids s) ++ [(BT r.path r.data).1]), π.ev⟩, 0) := by unfold B9; rw [if_pos h48]; unfold NR; rw [if_neg (fun z => z hc0), if_neg hno]; exact if_neg om
  refine .plFold (k := k) ⟨π.τ, π.ω, π.ord, π.opened, ET π.ids s ((π.ids s) ++ [(BT r.path r.data).1]), π.ev⟩ (hI.ids s (.slice a13 ((π.ids s).length + 1) c13) _) O (by rfl) (by rfl) (by rfl) (by rfl) (by rfl) (by rfl) (.add (p := Af 9 1 AF ([] : List Bs).length (A6 [])) (AO _ _) (.region (.q (.la (BH (CU 0)) Y BB) Y (.sa Y Y Bn (by exact Bu _) ?_))))
  refine .nil (.pc b6 (BH (CU 0)) ?_)
  refine .then_n (.ret ?_)
  exact .d1 Y (.cellA Y BB O (by simp) Y) ⟨CU 0, [], ⟨by rw [hp]; rfl, Bu _, ⟨none, 0, rfl⟩, (fun _ hk => absurd hk (by unfold B3; omega))⟩, rfl, by rw [hp]⟩
 refine .sr (.ui Y Y Y (.an Y (.condD Y (fun h88 => ?_) (fun h88 => ?_))))
 ·refine .evTake (m := me) s O ?_
  have hal := Jg π.τ s π.ω l l.length (Nat.le_refl _)
  rw [take_length] at hal
  have hal2 := hA.arm.len
  have he2 := hI.e2 s
  refine .draw [24, 25, 26] [[0, 1, 2, 3, 4, 5, 6, 7, 8, 9, 10, 11, 12, 13, 14, 15, 16, 17, 18, 19, 20, 21, 22, 23, 24, 25], [26]] mixed kQ (.go [Ad b _ _, mapR k.rev _, Ad b5 _ _] O (.k Y (.move Y) (.k Y (.nilp Y) (.k Y (.fieldAddr Y HG) (.k Y (.ld Y NT) (.k Y (.move Y) (.k Y (.move Y) (.k Y (.nilp Y) (.k Y (.fieldAddr Y HG) (.k Y (.ld Y NT) (.k Y (.move Y) (.k Y ((.lookupV (m := me) (enc := SV) (AV.int underlying3) (v := (BS me s).1) (fun b hb => Fl b hb) (fun hb => Fo hb) Y Y underlying83 YP O Y)) (.mv Y Y (.nf Y Y Y DZ (.kv Y (.fieldAddr Y Lv) (.kv Y (.ld Y UC) (.mv Y Y (.mv Y Y (.nf Y Y Y DZ (.kv Y (.fieldAddr Y E7) (.kv Y (.ld Y C1) (.kv Y (.fieldAddr Y Z3) ?_))))))))))))))))))))))
  refine D.kv Y (.ld Y ACD) (.hh Y (.call func54 Y Y (vs := [_, _, _, _]) Y (Vl k.u k.t π.ω π.τ s r.armV l q hA.arm _ hP.1 om hs.1 om)) ?_)
  rintro v L' ⟨aw, cw, rfl, rfl⟩
  refine D.hh Y (.append (n := (BS me s).2.length) (m := (Bg π.τ s π.ω l).2.length) (ys := (Bg π.τ s π.ω l).2.flatMap BV) (p := Af 50 3 (.slice aw (Bg π.τ s π.ω l).2.length cw) (Bg π.τ s π.ω l).2.length ((Bg π.τ s π.ω l).2.flatMap BV)) Y Y Y DP (.inl ⟨_, underlying47⟩) Bt Y Y ?hc103 (fun h hp => Aa hp) ?hb104 dQ) ?_
  case hc103 => intro y hy; obtain ⟨z, _, hz⟩ := mem_flatMap.1 hy; simp only [BV, mem_cons, not_mem_nil, or_false] at hz; rcases hz with rfl | rfl | rfl <;> rfl
  case hb104 => rw [← he2]; omega
  rintro v L' ⟨⟨a18, c18, rfl⟩, rfl⟩
  refine D.ph (.g0 (.hh Y (.mapSet (m := me) (enc := SV) (v := (.slice a18 ((BS me s).2.length + (Bg π.τ s π.ω l).2.length) c18, (BS me s).2 ++ (Bg π.τ s π.ω l).2)) (k := s) (AV.int underlying3) Y Y Y underlying83 ?he107) ?_))
  case he107 => rfl
  rintro v L' rfl
  refine D.ph (.fin (.evPut (m := me) s (v := .slice a18 ((BS me s).2.length + (Bg π.τ s π.ω l).2.length) c18) ((BS me s).2 ++ (Bg π.τ s π.ω l).2) O (by rw [length_append]) (by rw [flatMap_append]) ?_))
  have hIa : Lc (Wo π s l) mi (BQ me s (.slice a18 ((BS me s).2.length + (Bg π.τ s π.ω l).2.length) c18, (BS me s).2 ++ (Bg π.τ s π.ω l).2)) := by have h := hI.evs s (.slice a18 ((BS me s).2.length + (Bg π.τ s π.ω l).2.length) c18) (Bg π.τ s π.ω l).1 (π.ev s ++ (Bg π.τ s π.ω l).2); rw [he2] at h; unfold Wo; rw [he2]; exact h
  refine .blk_n (.then_n (.seq ?_))
  have hp : B9 π s r l = (Wo π s l, 0) := by unfold B9; rw [if_neg h48, if_pos h88]
  refine .plFold (k := k) (Wo π s l) hIa O (by rfl) (by rfl) (by rfl) (by rfl) (by rfl) (by rfl) (.add (p := Af 9 1 AF ([] : List Bs).length (A6 [])) (AO _ _) (.region (.q (.la (BH (CU 0)) Y BB) Y (.sa Y Y Bn (by exact Bu _) ?_))))
  refine .nil (.pc b6 (BH (CU 0)) ?_)
  refine .then_n (.ret ?_)
  exact .d1 Y (.cellA Y BB O (by simp) Y) ⟨CU 0, [], ⟨by rw [hp]; rfl, Bu _, ⟨none, 0, rfl⟩, (fun _ hk => absurd hk (by unfold B3; omega))⟩, rfl, by rw [hp]⟩
 refine .sr (.ui Y Y Y (.an Y (.condD Y (fun h116 => ?_) (fun h116 => ?_))))
 ·refine .skip (.blk_n (.then_n (.seq ?_)))
  have hp : B9 π s r l = (π, 0) := by unfold B9; rw [if_neg h48, if_neg h88, if_pos h116]
  refine .plFold (k := k) π hI O (by rfl) (by rfl) (by rfl) (by rfl) (by rfl) (by rfl) (.add (p := Af 9 1 AF ([] : List Bs).length (A6 [])) (AO _ _) (.region (.q (.la (BH (CU 0)) Y BB) Y (.sa Y Y Bn (by exact Bu _) ?_))))
  refine .nil (.pc b6 (BH (CU 0)) ?_)
  refine .then_n (.ret ?_)
  exact .d1 Y (.cellA Y BB O (by simp) Y) ⟨CU 0, [], ⟨by rw [hp]; rfl, Bu _, ⟨none, 0, rfl⟩, (fun _ hk => absurd hk (by unfold B3; omega))⟩, rfl, by rw [hp]⟩
 refine .seq (.idTakeP s hi2 O fun ai ci hsi => (.fold (p := (CD [Af 9 1 (.slice ai (π.ids s).length ci) (π.ids s).length (A6 (π.ids s)), q])) (q := [Af 9 1 (.slice ai (π.ids s).length ci) (π.ids s).length (A6 (π.ids s)), q]) O (fun _ h => h) ?_))
 have hW : Di (CD [Af 9 1 (.slice ai (π.ids s).length ci) (π.ids s).length (A6 (π.ids s)), q]) ⟨0, (π.ids s)⟩ (.slice ai (π.ids s).length ci) r := (hA.d.more (a := Af 9 1 (.slice ai (π.ids s).length ci) (π.ids s).length (A6 (π.ids s))) (fun _ hp => Aa hp) om ⟨_, _, _, rfl⟩).w.z
 refine .draw [12, 13] [[0, 1, 2, 3, 4, 5, 6, 7, 8, 9, 10, 11, 12], [13]] mixed kQ (.g0 (.mv Y Y (.nf Y Y Y DZ (.kv Y (.fieldAddr Y E7) (.kv Y (.ld Y C1) (.mv Y Y (.nf Y Y Y Jp (.kv Y (.ld Y Rk) (.mv Y Y (.kv Y (.to (v' := .slice ai (π.ids s).length ci) (.lookupV (m := mi) (enc := SV) (AV.int underlying3) (v := (BS mi s).1) (fun b hb => Fl b hb) (fun hb => Fo hb) Y Y underlying82 WR O Y) hsi) (.kv Y (.la (Eu r) Y Ij) (.hh Y (.call func55 Y Y (vs := [_, _, _]) Y (TB k.t π.τ (π.ids s) (.slice ai (π.ids s).length ci) r (CD [Af 9 1 (.slice ai (π.ids s).length ci) (π.ids s).length (A6 (π.ids s)), q]) hW _ hP.1 om)) ?_))))))))))))
 rintro v L' ⟨av, kv, rfl, ⟨aa, ca, ha⟩, ⟨ak, ck, hk⟩, rfl⟩
 refine D.ph (.g0 (.sa Y Y Y Bn (by exact Cf (by rw [ha]; rfl) (by rw [hk]; rfl) rfl) ?_))
 refine D.ph (.fin (.pc b7 (BH (DL π.τ (π.ids s) r av kv)) ?_))
 refine .focus (p := (CD [Af 9 1 (.slice ai (π.ids s).length ci) (π.ids s).length (A6 (π.ids s)), q])) O (.unfold (q := [Af 9 1 (.slice ai (π.ids s).length ci) (π.ids s).length (A6 (π.ids s)), q]) (fun _ h => h) (.idBackP s hi2 hsi O (.then_n (.sr (.q (.la (Eu r) Y Ij) Y (.fa Y Ek (.q (.as (v' := AA (BK π.τ (π.ids s) r)) (by rfl) (.ld Y Fd)) Y (.cv func56 [_, _] (Q9 r hrc (BK π.τ (π.ids s) r)) ?_))))))))
 refine .an Y (.sm Y (.ui Y Y Y (.nt (.condN Y (fun h33 => ?_) (fun h33 => ?_)))))
 ·have h33n : ¬ (B7 r (BK π.τ (π.ids s) r)) = 0 := by simpa using h33
  refine .seq (.draw [9] [[0, 1, 2, 3, 4, 5, 6, 7, 8, 9], [10]] mixed kQ (.g0 (.mv Y Y (.nf Y Y Y DZ (.kv Y (.fieldAddr Y Lv) (.kv Y (.ld Y UC) (.mv Y Y (.mv Y Y (.kv Y (.fieldAddr Y Bh) (.kv Y (.ld Y Ak) (.hh Y (.c func57 [_, _, _, _] (N9 k.u π.ω s (B7 r (BK π.τ (π.ids s) r)) r.path om om)) ?_)))))))))))
  rintro v L' ⟨rfl, rfl⟩
  refine D.ph (.g0 (.kv Y (.assign Y) (.pf (.sm Y (.ui Y Y Y (.nt (.condN Y (fun h45 => ?_) (fun h45 => ?_))))))))
  ·have h45n : (addW π.ω s (B7 r (BK π.τ (π.ids s) r)) r.path).2 ≠ 0 := by simpa using h45
   refine .region (.m Y (.q (.to (v' := .agg (BH (CU (addW π.ω s (B7 r (BK π.τ (π.ids s) r)) r.path).2)).toArray) (.buildN (pl := [(0, 1), (1, 1), (2, 1), (3, 1), (4, 1), (5, 9), (14, 1), (15, 1), (16, 1)]) (us := [(2, AA (addW π.ω s (B7 r (BK π.τ (π.ids s) r)) r.path).2)]) (cells := BH (CU (addW π.ω s (B7 r (BK π.τ (π.ids s) r)) r.path).2)) underlying41 kQ Ca Y Y) Y) Y (.sa Y Y Bn (by exact Bu _) ?_)))
   refine .nil (.ptCast (b := b7) (l' := BH (CU (addW π.ω s (B7 r (BK π.τ (π.ids s) r)) r.path).2)) O (by exact rfl) ?_)
   refine .blk_n (.then_n (.seq ?_))
   have hp : B9 π s r l = (⟨π.τ, (addW π.ω s (B7 r (BK π.τ (π.ids s) r)) r.path).1, π.ord, π.opened, π.ids, π.ev⟩, (addW π.ω s (B7 r (BK π.τ (π.ids s) r)) r.path).2) := by unfold B9; rw [if_neg h48, if_neg h88, if_neg h116]; unfold Rx; rw [if_neg h33n, if_pos h45n]
   refine .plFold (k := k) ⟨π.τ, (addW π.ω s (B7 r (BK π.τ (π.ids s) r)) r.path).1, π.ord, π.opened, π.ids, π.ev⟩ ⟨hI.i1, hI.e1, hI.i2, hI.e2⟩ O (by rfl) (by rfl) (by rfl) (by rfl) (by rfl) (by rfl) (.add (p := Af 9 1 AF ([] : List Bs).length (A6 [])) (AO _ _) (.region (.q (.to (v' := .agg (BH (CU (addW π.ω s (B7 r (BK π.τ (π.ids s) r)) r.path).2)).toArray) (.loadA Y BB O (by simp)) (by rfl)) Y (.sa Y Y Bn (by exact Bu _) ?_))))
   refine .nil (.ptCast (b := b6) (l' := BH (CU (addW π.ω s (B7 r (BK π.τ (π.ids s) r)) r.path).2)) O (by exact rfl) ?_)
   refine .then_n (.ret ?_)
   exact .d1 Y (.cellA Y BB O (by simp) Y) ⟨CU (addW π.ω s (B7 r (BK π.τ (π.ids s) r)) r.path).2, [], ⟨by rw [hp]; rfl, Bu _, ⟨none, 0, rfl⟩, (fun hw _ => absurd (R3 h33n) (by rw [hw]; decide))⟩, rfl, by rw [hp]⟩
  have h45n : ¬ (addW π.ω s (B7 r (BK π.τ (π.ids s) r)) r.path).2 ≠ 0 := by simpa using h45
  refine .skip (.blk_n (.then_n (.seq ?_)))
  have hp : B9 π s r l = (⟨π.τ, (addW π.ω s (B7 r (BK π.τ (π.ids s) r)) r.path).1, π.ord, π.opened, π.ids, π.ev⟩, BK π.τ (π.ids s) r) := by unfold B9; rw [if_neg h48, if_neg h88, if_neg h116]; unfold Rx; rw [if_neg h33n, if_neg h45n]
  refine .plFold (k := k) ⟨π.τ, (addW π.ω s (B7 r (BK π.τ (π.ids s) r)) r.path).1, π.ord, π.opened, π.ids, π.ev⟩ ⟨hI.i1, hI.e1, hI.i2, hI.e2⟩ O (by rfl) (by rfl) (by rfl) (by rfl) (by rfl) (by rfl) (.region (.q (.la (BH ((DL π.τ (π.ids s) r av kv))) Y BB) Y (.sa Y Y Bn (by exact Cf (by rw [ha]; rfl) (by rw [hk]; rfl) rfl) ?_)))
  refine .nil (.pc b6 (BH ((DL π.τ (π.ids s) r av kv))) ?_)
  refine .then_n (.ret ?_)
  exact .d1 Y (.cellA Y BB O (by simp) Y) ⟨(DL π.τ (π.ids s) r av kv), BU π.τ (π.ids s) r, ⟨by rw [hp]; rfl, Cf (by rw [ha]; rfl) (by rw [hk]; rfl) rfl, ⟨ak, ck, hk⟩, (fun _ _ => ⟨av, kv, rfl, rfl⟩)⟩, rfl, by rw [hp]⟩
 refine .skip (.blk_n (.then_n (.seq ?_)))
 have h33 : (B7 r (BK π.τ (π.ids s) r)) = 0 := by simpa using h33
 have hp : B9 π s r l = (π, BK π.τ (π.ids s) r) := by unfold B9; rw [if_neg h48, if_neg h88, if_neg h116]; unfold Rx; exact if_pos h33
 refine .plFold (k := k) π hI O (by rfl) (by rfl) (by rfl) (by rfl) (by rfl) (by rfl) (.region (.q (.la (BH ((DL π.τ (π.ids s) r av kv))) Y BB) Y (.sa Y Y Bn (by exact Cf (by rw [ha]; rfl) (by rw [hk]; rfl) rfl) ?_)))
 refine .nil (.pc b6 (BH ((DL π.τ (π.ids s) r av kv))) ?_)
 refine .then_n (.ret ?_)
 exact .d1 Y (.cellA Y BB O (by simp) Y) ⟨(DL π.τ (π.ids s) r av kv), BU π.τ (π.ids s) r, ⟨by rw [hp]; rfl, Cf (by rw [ha]; rfl) (by rw [hk]; rfl) rfl, ⟨ak, ck, hk⟩, (fun _ _ => ⟨av, kv, rfl, rfl⟩)⟩, rfl, by rw [hp]⟩
theorem ABQ {x : Rp} (h : ∀ v ∈ BH x, AB v = true) : AB x.aclV = true ∧ AB x.kidsV = true ∧ AB x.subsV = true :=
 ⟨h _ (by simp [BH]), h _ (by simp [BH]), h _ (by simp [BH])⟩
theorem FI (b : Nat) (k : Ve) (π : Pl) (s : Int) (r : Rq) (subs : List Rq) (l : List If) (q : HP) (hA : H3 q s r subs l) (hs : Cg π.τ s → 1 ≤ s ∧ s ≤ 5) (n : Nat) (hB : Hf π n) (hn : n ≤ 4096) : Fn prog 10 #[AI b, AA s, .agg (Eu r).toArray] [Pq b k π, q] fun v L => ∃ π' x kids e, MI π s r subs l π' x kids e ∧ v = .tuple #[.agg (BH x).toArray, AA e] ∧ L = [Pq b k π', q, Af 9 1 x.kidsV kids.length (A6 kids)] := by
 refine Fn.intro func10 Y Y fun F W => ?_
 have hP := hB.pre om
 have hrc := hA.rqc
 have hid16 := hB.ids s
 have hrq := hA.d.w.rq
 refine .sr (.oq (.box Y) ?_)
 rintro v L' ⟨b5, rfl, rfl⟩
 refine .oq (.allocA Ca) ?_
 rintro v L' ⟨b6, rfl, rfl⟩
 refine .a Y (.nil (.pc b5 (Eu r) ?_))
 refine .then_n (.seq (.sm Y (.m Y (.cv func24 [_, _] (J4 b k π s) ?_))))
 refine .u (.not Y) (.nt (.condN Y (fun h12 => ?_) (fun h12 => ?_)))
 ·refine .sr (.q (.to (v' := .agg (BH Ul).toArray) (.buildN (pl := [(0, 1), (1, 1), (2, 1), (3, 1), (4, 1), (5, 9), (14, 1), (15, 1), (16, 1)]) (us := []) (cells := BH Ul) underlying41 kQ Ca Y Y) Y) Y (.sa Y Y Bn (by exact Cf rfl rfl rfl) ?_))
  refine .a Y (.nil (.pc b6 (BH Ul) ?_))
  refine .add (p := Af 9 1 AF ([] : List Bs).length (A6 [])) (AO _ _) (.then_n (.rt ?_))
  exact .d2 Y (.cellA Y BB O (by simp) Y) (.tmp Y) ⟨π, Ul, [], 67, ⟨fun _ => ⟨Y, Y, Y, Y⟩, fun g => absurd g h12, fun g => absurd g h12, fun g => absurd g h12, Cf Y Y Y, ⟨none, 0, Y⟩⟩, Y, Y⟩
 have hse : Cg π.τ s := by simpa using h12
 refine .sk (.sr (.oq (.allocA Ca) ?_))
 rintro v L' ⟨b8, rfl, rfl⟩
 refine .nil (.pc b8 (BH Ul) ?_)
 refine .then_n (.seq (.sr (.fa Y Bm (.u (.ld Y AR) (.cv func25 [_] (Il r.kind) ?_)))))
 refine .nt (.condB Y (fun h16 => ?_) (fun h16 => ?_))
 ·refine .plOpen (π := π) O fun ov mi me hI => (.idTakeP s (hI.i2 s) O fun ai ci hsi => (.fold (p := (CD [Af 9 1 (.slice ai (π.ids s).length ci) (π.ids s).length (A6 (π.ids s)), q])) (q := [Af 9 1 (.slice ai (π.ids s).length ci) (π.ids s).length (A6 (π.ids s)), q]) O (fun _ h => h) ?_))
  have hW : WiD (CD [Af 9 1 (.slice ai (π.ids s).length ci) (π.ids s).length (A6 (π.ids s)), q]) ⟨s, (π.ids s)⟩ (.slice ai (π.ids s).length ci) r subs := hA.d.more (a := Af 9 1 (.slice ai (π.ids s).length ci) (π.ids s).length (A6 (π.ids s))) (fun _ hp => Aa hp) om ⟨_, _, _, rfl⟩
  refine .draw [22, 23, 24, 25] [[0, 1, 2, 3, 4, 5, 6, 7, 8, 9, 10, 11, 12, 13, 14, 15, 16, 17, 18, 19, 20, 21, 22, 23], [24], [25]] mixed kQ (.goI (X8 b 85 0 (AI k.t)) [Ad b5 _ _] O (.k Y (.move Y) (.k Y (.nilp Y) (.k Y (.fieldAddr Y DZ) (.k Y (.fieldAddr Y E7) (.stL Y kQ Y C1 O Y (.k Y (.move Y) (.k Y (.move Y) (.k Y (.fieldAddr Y Lz) (.k Y (.ld Y AR) (.mv Y Y (.nf Y Y Y DZ (.kv Y (.fieldAddr Y E7) (.kv Y (.ld Y C1) (.mv Y Y (.mv Y Y (.nf Y Y Y Jp (.kv Y (.ld Y Rk) (.mv Y Y (.kv Y (.to (v' := .slice ai (π.ids s).length ci) (.lookupV (m := mi) (enc := SV) (AV.int underlying3) (v := (BS mi s).1) (fun b hb => Fl b hb) (fun hb => Fo hb) Y Y underlying82 WR O Y) hsi) ?_))))))))))))))))))))
  refine D.kv Y (.la (Eu r) Y Ij) (.hI Y kQ (.call func27 Y Y (vs := [_, _, _, _]) Y (NB k.t π.τ ⟨s, (π.ids s)⟩ (.slice ai (π.ids s).length ci) r (CD [Af 9 1 (.slice ai (π.ids s).length ci) (π.ids s).length (A6 (π.ids s)), q]) hW.w _ hP.1 om hB.w om subs hW.rd hW.each hW.acls om)) O ?ivnx46 ?_)
  case ivnx46 => rintro v L' ⟨y, ys, rfl, hy, hys, hc, hcs, rfl⟩; exact ⟨_, _, O, rfl⟩
  rintro v L' ⟨y, ys, rfl, hy, hys, hc, hcs, rfl⟩
  have hG := (Ro hB.ok hW).of hy hys
  have hys2 := hG.few om
  have hGo := hG.ok hP.1 (Cp π)
  refine D.hI Y kQ (.c func23 [_, _, _, _] (JB b k π ov mi me hI s r.xid y ys hG om hc hcs hA.d.w.ses hrq.xid 65536 hP.1 dQ hP.2.1 hP.2.2.1 hP.2.2.2)) O ?ivnx48 ?_
  case ivnx48 => rintro v L' ⟨z, rfl, hz, hzm, rfl⟩; exact ⟨_, _, O, rfl⟩
  rintro v L' ⟨z, rfl, hz, hzm, rfl⟩
  refine D.ph (.g0 (.hh Y (.call func26 Y Y (vs := [_, _]) Y (Rj k.t (Bl π s r.xid y ys).τ (Bo π s r.xid y ys) _ hGo om (entR (Bo π s r.xid y ys)) (fun _ hp => H2 hp) hys2 hc.1 (by obtain ⟨-, a, c, e⟩ := hc; show AB y.subsV = true; rw [e]; rfl) (fun z hz => ⟨(hcs z hz).1, by rw [(hcs z hz).2]; rfl⟩))) ?_))
  rintro v L' ⟨w, rfl, ⟨aw, cw, hw⟩, rfl⟩
  refine D.ph (.g0 (.sa Y Y Y Bn (by exact Cf rfl rfl (by show AB w = true; rw [hw]; rfl)) ?_))
  refine D.ph (.fin (.pc b8 (BH ((BI (Bl π s r.xid y ys).τ (Bo π s r.xid y ys)).ws w)) ?_))
  refine .focus (p := (CD [Af 9 1 (.slice ai (π.ids s).length ci) (π.ids s).length (A6 (π.ids s)), q])) O (.unfold (q := [Af 9 1 (.slice ai (π.ids s).length ci) (π.ids s).length (A6 (π.ids s)), q]) (fun _ h => h) (.idBackP s (hI.i2 s) hsi O (.idPost hzm O (.bigAdd (f := entR) (l := π.ord) (Bo π s r.xid y ys) (p := entR (Bo π s r.xid y ys)) Y O (.plFold (k := k) (Bl π s r.xid y ys) hz O (by rfl) (by rfl) (by rfl) (by rfl) (by rfl) (by rfl) (.add (p := Af 9 1 AF ([] : List Bs).length (A6 [])) (AO _ _) (.then_n (.seq (.plOpen (π := (Bl π s r.xid y ys)) O fun ov2 mi2 me2 hI2 => (.draw [7, 9, 11] [[0, 1, 2, 3, 4, 5, 6, 8, 7], [9], [10, 11]] mixed kQ (.go [Ad b5 _ _] O ?_)))))))))))
  refine D.k Y (.fieldAddr Y Lz) (.k Y (.ld Y AR) (.mv Y Y (.nf Y Y Y DZ (.kv Y (.fieldAddr Y E7) (.kv Y (.ld Y C1) (.k Y (.fieldAddr Y Lj) (.hh Y (.c func29 [_] (Cb k.t (Bl π s r.xid y ys).τ)) ?_)))))))
  rintro v L' ⟨rfl, rfl⟩
  refine D.ph (.g0 (.hh Y (.store Y Y Y CC ?c67 (Bb _ _)) ?_))
  case c67 => simp
  rintro v L' rfl
  refine D.ph (.g0 (.kv Y (.fieldAddr Y Id) (.hh Y (.store Y Y Y CC ?c71 (Bb _ _)) ?_)))
  case c71 => simp
  rintro v L' rfl
  refine D.ph (.fin (.pc b8 (BH (⟨r.xid, (Bl π s r.xid y ys).τ.zx, ((BI (Bl π s r.xid y ys).τ (Bo π s r.xid y ys)).ws w).err, ((BI (Bl π s r.xid y ys).τ (Bo π s r.xid y ys)).ws w).path, ((BI (Bl π s r.xid y ys).τ (Bo π s r.xid y ys)).ws w).data, ((BI (Bl π s r.xid y ys).τ (Bo π s r.xid y ys)).ws w).st, ((BI (Bl π s r.xid y ys).τ (Bo π s r.xid y ys)).ws w).aclV, ((BI (Bl π s r.xid y ys).τ (Bo π s r.xid y ys)).ws w).kidsV, ((BI (Bl π s r.xid y ys).τ (Bo π s r.xid y ys)).ws w).subsV⟩ : Rp)) ?_))
  refine .plFold (k := k) (Bl π s r.xid y ys) hI2 O (by rfl) (by rfl) (by rfl) (by rfl) (by rfl) (by rfl) (.then_n (.sr (.q (.to (v' := .agg (BH (⟨r.xid, (Bl π s r.xid y ys).τ.zx, ((BI (Bl π s r.xid y ys).τ (Bo π s r.xid y ys)).ws w).err, ((BI (Bl π s r.xid y ys).τ (Bo π s r.xid y ys)).ws w).path, ((BI (Bl π s r.xid y ys).τ (Bo π s r.xid y ys)).ws w).data, ((BI (Bl π s r.xid y ys).τ (Bo π s r.xid y ys)).ws w).st, ((BI (Bl π s r.xid y ys).τ (Bo π s r.xid y ys)).ws w).aclV, ((BI (Bl π s r.xid y ys).τ (Bo π s r.xid y ys)).ws w).kidsV, ((BI (Bl π s r.xid y ys).τ (Bo π s r.xid y ys)).ws w).subsV⟩ : Rp)).toArray) (.loadA Y BB O (by simp)) (by rfl)) Y (.sa Y Y Bn (by exact Cf rfl rfl (by show AB w = true; rw [hw]; rfl)) ?_))))
  refine .a Y (.nil (.pc b6 (BH (⟨r.xid, (Bl π s r.xid y ys).τ.zx, ((BI (Bl π s r.xid y ys).τ (Bo π s r.xid y ys)).ws w).err, ((BI (Bl π s r.xid y ys).τ (Bo π s r.xid y ys)).ws w).path, ((BI (Bl π s r.xid y ys).τ (Bo π s r.xid y ys)).ws w).data, ((BI (Bl π s r.xid y ys).τ (Bo π s r.xid y ys)).ws w).st, ((BI (Bl π s r.xid y ys).τ (Bo π s r.xid y ys)).ws w).aclV, ((BI (Bl π s r.xid y ys).τ (Bo π s r.xid y ys)).ws w).kidsV, ((BI (Bl π s r.xid y ys).τ (Bo π s r.xid y ys)).ws w).subsV⟩ : Rp)) ?_))
  refine .then_n (.ret ?_)
  exact .d2 Y (.cellA Y BB O (by simp) Y) (.tmp Y) ⟨(Bl π s r.xid y ys), (⟨r.xid, (Bl π s r.xid y ys).τ.zx, ((BI (Bl π s r.xid y ys).τ (Bo π s r.xid y ys)).ws w).err, ((BI (Bl π s r.xid y ys).τ (Bo π s r.xid y ys)).ws w).path, ((BI (Bl π s r.xid y ys).τ (Bo π s r.xid y ys)).ws w).data, ((BI (Bl π s r.xid y ys).τ (Bo π s r.xid y ys)).ws w).st, ((BI (Bl π s r.xid y ys).τ (Bo π s r.xid y ys)).ws w).aclV, ((BI (Bl π s r.xid y ys).τ (Bo π s r.xid y ys)).ws w).kidsV, ((BI (Bl π s r.xid y ys).τ (Bo π s r.xid y ys)).ws w).subsV⟩ : Rp), [], 0, ⟨(fun g => absurd hse g), fun _ _ => ⟨Y, Y, y, ys, hy, hys, hc.1, hc.2, hcs, Y, Y⟩, fun _ g => absurd h16 g, fun _ => ⟨Y, Y⟩, Cf Y Y (by show AB w = true; rw [hw]; rfl), ⟨none, 0, Y⟩⟩, Y, Y⟩
 refine .region (.m Y (.m Y (.q (.la (Eu r) Y Ij) Y (.oq (.c func28 [_, _, _] (RP b k π s r subs l q hA (hs hse) n hB hn)) ?_))))
 rintro v L' ⟨x, kids, hR, rfl, rfl⟩
 refine .sa Y Y Bn (by exact hR.cells) ?_
 refine .nil (.pc b8 (BH x) ?_)
 have hRc := ABQ hR.cells
 refine .then_n (.seq (.plOpen (π := (B9 π s r l).1) O fun ov2 mi2 me2 hI2 => (.draw [7, 9, 11] [[0, 1, 2, 3, 4, 5, 6, 8, 7], [9], [10, 11]] mixed kQ (.go [Ad b5 _ _] O (.k Y (.fieldAddr Y Lz) (.k Y (.ld Y AR) (.mv Y Y (.nf Y Y Y DZ (.kv Y (.fieldAddr Y E7) (.kv Y (.ld Y C1) (.k Y (.fieldAddr Y Lj) (.hh Y (.c func29 [_] (Cb k.t (B9 π s r l).1.τ)) ?_))))))))))))
 rintro v L' ⟨rfl, rfl⟩
 refine D.ph (.g0 (.hh Y (.store Y Y Y CC ?c101 (Bb _ _)) ?_))
 case c101 => simp
 rintro v L' rfl
 refine D.ph (.g0 (.kv Y (.fieldAddr Y Id) (.hh Y (.store Y Y Y CC ?c105 (Bb _ _)) ?_)))
 case c105 => simp
 rintro v L' rfl
 refine D.ph (.fin (.pc b8 (BH (⟨r.xid, (B9 π s r l).1.τ.zx, x.err, x.path, x.data, x.st, x.aclV, x.kidsV, x.subsV⟩ : Rp)) ?_))
 refine .plFold (k := k) (B9 π s r l).1 hI2 O (by rfl) (by rfl) (by rfl) (by rfl) (by rfl) (by rfl) (.then_n (.sr (.q (.la (BH (⟨r.xid, (B9 π s r l).1.τ.zx, x.err, x.path, x.data, x.st, x.aclV, x.kidsV, x.subsV⟩ : Rp)) Y BB) Y (.sa Y Y Bn (by exact Cf hRc.1 hRc.2.1 hRc.2.2) ?_))))
 refine .a Y (.nil (.pc b6 (BH (⟨r.xid, (B9 π s r l).1.τ.zx, x.err, x.path, x.data, x.st, x.aclV, x.kidsV, x.subsV⟩ : Rp)) ?_))
 refine .then_n (.ret ?_)
 exact .d2 Y (.cellA Y BB O (by simp) Y) (.tmp Y) ⟨(B9 π s r l).1, (⟨r.xid, (B9 π s r l).1.τ.zx, x.err, x.path, x.data, x.st, x.aclV, x.kidsV, x.subsV⟩ : Rp), kids, 0, ⟨(fun g => absurd hse g), fun _ g => absurd g (by rw [h16]; decide), fun _ _ => ⟨Y, Y, x, hR, Y⟩, fun _ => ⟨Y, Y⟩, Cf hRc.1 hRc.2.1 hRc.2.2, hR.shape⟩, Y, Y⟩
theorem PG : Fn prog 31 #[.slice none 0 0] [Af 50 3 (.slice none 0 0) 0 []] fun u L => u = .slice none 0 0 ∧ L = [Af 50 3 u 0 []] := by
 refine Fn.intro func31 Y Y fun F W => ?_
 refine .sr (.an Y (.sm Y (.m Y (.q (.slen Y underlying47 Y) Y (.m Y (.q (.slen Y underlying47 Y) Y (.q (.clip (n := 0) Y DP Y Y (Nat.le_refl _) (.inl Y)) Y (.an Y (.ret ?_)))))))))
 exact .dn Y Y ⟨Y, Y⟩
theorem Pb (b n c : Nat) (hc : n ≤ c) (xs : List Value) : Fn prog 31 #[.slice (some ⟨b, 0, none⟩) n c] [Af 50 3 (.slice (some ⟨b, 0, none⟩) n c) n xs] fun u L => u = .slice (some ⟨b, 0, none⟩) n n ∧ L = [Af 50 3 u n xs] := by
 refine Fn.intro func31 Y Y fun F W => ?_
 refine .sr (.an Y (.sm Y (.m Y (.q (.slen Y underlying47 Y) Y (.m Y (.q (.slen Y underlying47 Y) Y (.q (.clip (n := n) Y DP Y Y hc (.inr ⟨_, _, Y⟩)) Y (.an Y (.ret (.slClip O ?_))))))))))
 exact .dn Y Y ⟨Y, Y⟩
theorem Q5 (v : Value) (n : Nat) (xs : List Value) : Fn prog 31 #[v] [Af 50 3 v n xs] fun u L => (∃ a c, u = .slice a n c) ∧ L = [Af 50 3 u n xs] := by
 intro F w hs
 obtain ⟨g1, -, hp⟩ := Ao hs
 rcases hp with ⟨rfl, rfl, rfl⟩ | ⟨b, cap, rest, fr, rfl, -, -, -, h4, -⟩
 ·exact (PG F w hs).mono fun e w' ⟨u, L, ⟨h1, h2⟩, h3⟩ => ⟨u, L, ⟨⟨_, _, h1⟩, h2⟩, h3⟩
 ·exact (Pb b n cap h4 xs F w hs).mono fun e w' ⟨u, L, ⟨h1, h2⟩, h3⟩ => ⟨u, L, ⟨⟨_, _, h1⟩, h2⟩, h3⟩
theorem VE (b : Nat) (k : Ve) (π : Pl) (s : Int) : Fn prog 13 #[AI b, AA s] [Pq b k π] fun v L => ∃ a c, v = .slice a (π.ev s).length c ∧ L = [Pq b k (VO π s), Af 50 3 v (π.ev s).length ((π.ev s).flatMap BV)] := by
 refine Fn.intro func13 Y Y fun F W => ?_
 refine .plOpen (π := π) O fun ov mi me hI => ?_
 have he2 := hI.e2 s
 refine .sr (.an Y (.sm Y (.nf Y HG (.u (.ld Y NT) (.m Y (.q ((.lookupV (m := me) (enc := SV) (AV.int underlying3) (v := (BS me s).1) (fun b hb => Fl b hb) (fun hb => Fo hb) Y Y underlying83 YP O Y)) Y (.an Y (.sm Y (.nf Y HG (.u (.ld Y NT) (.m Y (.oq (.mapDel (m := me) (enc := SV) (k := s) (AV.int underlying3) Y Y Y underlying83 ?he13) ?_))))))))))))
 case he13 => rfl
 rintro v L' rfl
 refine .nil (.evTake (m := me) s O (.slCast (T := 50) (sz := 3) (m' := (π.ev s).length) (xs' := (π.ev s).flatMap BV) O (by rw [he2]) (by rw [he2]) (.then_n (.sm Y (.oq (.c func31 [_] (Q5 (BS me s).1 (π.ev s).length ((π.ev s).flatMap BV))) ?_)))))
 rintro v L' ⟨⟨ac, cc, rfl⟩, rfl⟩
 refine .a Y (.nil (.plFold (k := k) (VO π s) (hI.evd s) O (by rfl) (by rfl) (by rfl) (by rfl) (by rfl) (by rfl) (.then_n (.ret ?_))))
 exact .dn Y Y ⟨ac, cc, Y, Y⟩
/-! ### Tables that are read -/
theorem Pp.up {a p : HP} (hT : Pp p) : Pp (CD [a, p]) := by
 intro h w hp hle
 obtain ⟨h1, h2, _, a1, a2, _, h3⟩ := hp
 obtain ⟨h4, a4, hp4⟩ := Ao (p := p) (L := []) h3
 exact hT h4 w hp4 (fun b o e => hle b o (a2 b o (a4 b o e)))
theorem RE {q : HP} : Tz q AF [] := ⟨fun _ _ => .inl ⟨rfl, rfl, none, 0, rfl⟩, Nat.zero_le _, fun _ h => by cases h⟩
def Hh (k : Int) (p : Bs) : Rq := ⟨k, 0, p, [], AF, [], 0, 0, false, AF, AF⟩
theorem Y2 {q : HP} (hT : GD q) {s k : Int} (hs : Az s) (hk : Az k) {p : Bs} (hp : p.length ≤ 1048566) : Di q ⟨s, []⟩ AF (Hh k p) :=
 ⟨⟨hk, Az.zero, Az.zero, Az.zero, hp, Nat.zero_le _, fun _ _ => .inl ⟨rfl, rfl, none, 0, rfl⟩, Nat.zero_le _, (fun _ h => by cases h), ⟨none, 0, 0, rfl⟩, ⟨none, 0, 0, rfl⟩⟩, hs, fun _ _ => .inl ⟨rfl, rfl, none, 0, rfl⟩, by show 0 ≤ _; decide, ⟨none, 0, 0, rfl⟩, ⟨none, 0, 0, rfl⟩, hT⟩
theorem Pe {q : HP} (hT : GD q) (hZ : Pp q) {s k : Int} (hs : Az s) (hk : Az k) {p : Bs} (hp : p.length ≤ 1048566) : H3 q s (Hh k p) [] [] :=
 ⟨⟨Y2 hT hs hk hp, CN, fun _ _ => .inl ⟨rfl, rfl, none, 0, rfl⟩, (fun _ h => by cases h), fun _ h => by cases h⟩, hZ, RE⟩
/-! ### The first calls -/
def FG : Pl := (JN Jx 10).1
def FB (v : Value) : Rq := ⟨1, 4, [47, 97], [], v, DY, 0, 0, false, AF, AF⟩
theorem Wm : Hf FG 1 := Jv.opn dQ 10
theorem MF : Cg FG.τ 1 := by decide +kernel
theorem YJ (v : Value) : AU FG.τ ⟨1, []⟩ (FB v) = (⟨1, [47, 97], [], AF, DY, 0, 1, 0, AF⟩, 0) := by
 rw [Gv rfl]
 have e : B1 (Dl FG.τ ⟨1, []⟩ (FB v)) = 0 := (by decide +kernel : B1 (Dl FG.τ ⟨1, []⟩ (FB AF)) = 0)
 rw [e]
 have e2 : Aq FG.τ ⟨1, []⟩ (FB v) = Aq FG.τ ⟨1, []⟩ (FB AF) := rfl
 rw [e2]
 show ((⟨1, B2 FG.τ (FB AF), [], AF, DY, if andI 0 1 ≠ 0 then 1 else 0, C3 ((JE FG.τ (FB AF)).cver + 1), 0, AF⟩ : Pt), (0 : Int)) = _
 rw [show (JE FG.τ (FB AF)).cver = 0 by decide +kernel, show B2 FG.τ (FB AF) = [47, 97] by decide +kernel, show C3 (0 + 1) = 1 by decide, if_neg dQ]
theorem AAB (v : Value) : (CP FG.τ ⟨1, FG.ids 1⟩ (FB v) []).1.kind = 1 := by
 show (CP FG.τ ⟨1, []⟩ (FB v) []).1.kind = 1
 unfold CP
 rw [if_neg (by show ¬ ¬ Bw 1 = true; decide), if_neg (fun g => g MF), if_neg (by show ¬ (1 : Int) = 6; decide), if_neg (by show ¬ (1 : Int) = 7; decide), if_neg (by show ¬ (1 : Int) = 8; decide), YJ, if_neg dQ]
theorem UX {v : Value} {π : Pl} {x : Rp} {kids : List Bs} {e : Int} (h : MI FG 1 (FB v) [] [] π x kids e) : e = 0 ∧ x.err = 0 ∧ x.xid = 4 ∧ x.zx = 4294967298 ∧ ¬ Cg π.τ 9 := by
 have hk : Bw (FB v).kind = true := by show Bw 1 = true; decide
 obtain ⟨he, -, y, ys, hy, hys, -, -, -, rfl, hx⟩ := h.chg MF hk
 obtain ⟨h1, h2⟩ := h.stamp MF
 have hk1 := congrArg Pt.kind hy
 rw [AAB] at hk1
 have hk1 : y.kind = 1 := hk1
 refine ⟨he, by rw [hx, if_neg om], h1, ?_, fun g => ?_⟩
 ·rw [h2]
  show (AC FG.τ (Cp FG) y ys).1.zx = _
  have := ABY FG.τ ⟨Cp FG, 0, 0, y, ys⟩
  exact this.trans (by show Cp FG = _; decide +kernel)
 ·have hs : (AC FG.τ (Cp FG) y ys).1.sess = FG.τ.sess := by
   unfold AC
   dsimp only
   rw [if_neg om, if_neg om, if_neg om, if_neg om]
   exact Fp _ _ _
  have g : (AD (AC FG.τ (Cp FG) y ys).1.sess 9).isSome = true := g
  rw [hs] at g
  exact absurd g (by decide +kernel)
/-! ### Sessions stay -/
theorem SI (τ : Tr) (u : B4) (l : List Rq) : (A3 τ u l).1.kind = 7 ∨ (A3 τ u l).1.kind = 8 := by
 unfold A3
 split
 ·exact .inr rfl
 ·split
  ·exact .inr rfl
  ·exact .inl rfl
theorem Z7 {τ : Tr} {u : B4} {r : Rq} {subs : List Rq} (h : (CP τ u r subs).1.kind = 6) : r.kind = 8 := by
 unfold CP at h
 split at h
 ·exact absurd h (by show ¬ (8 : Int) = 6; decide)
 split at h
 ·exact absurd h (by show ¬ (8 : Int) = 6; decide)
 split at h
 ·have := SI τ u subs; omega
 split at h
 ·exact absurd h (by show ¬ (0 : Int) = 6; decide)
 split at h
 ·assumption
 split at h
 ·exact absurd h (by show ¬ (8 : Int) = 6; decide)
 ·exact absurd h (HL τ u r).2.1
theorem KN {τ : Tr} {z : Int} {y : Pt} {ys : List Pt} (h5 : y.kind ≠ 5) (h6 : y.kind ≠ 6) : (AC τ z y ys).1.sess = τ.sess := by
 have hp : ∀ l : List Pt, (AH (zxT τ z) z l).1.sess = τ.sess := fun l => by
  unfold AH
  have H : ∀ (l : List Pt) (r : Tr × List Ev), (l.foldl (fun r x => ((AJ r.1 x z).1, r.2 ++ (AJ r.1 x z).2)) r).1.sess = r.1.sess := by
   intro l
   induction l with
   | nil => intro r; rfl
   | cons x l ih => intro r; rw [foldl_cons, ih]; exact Fp _ _ _
  exact H l (zxT τ z, [])
 unfold AC
 dsimp only
 rw [if_neg h5, if_neg h6]
 split
 ·exact hp _
 split
 ·rfl
 ·exact Fp _ _ _
theorem Kr (π : Pl) (s : Int) (r : Rq) (l : List If) : (B9 π s r l).1.τ = π.τ ∧ (B9 π s r l).1.ord = π.ord := by
 unfold B9
 split
 ·unfold NR
  split
  ·exact ⟨rfl, rfl⟩
  split
  ·exact ⟨rfl, rfl⟩
  split <;> exact ⟨rfl, rfl⟩
 split
 ·exact ⟨rfl, rfl⟩
 split
 ·exact ⟨rfl, rfl⟩
 ·unfold Rx
  split <;> exact ⟨rfl, rfl⟩
/-! ### Looks -/
theorem VD {π : Pl} {s : Int} {r : Rq} {l : List If} (hw : r.watch = false) (hk : B3 r.kind) : B9 π s r l = (π, BK π.τ (π.ids s) r) := by
 unfold B3 at hk
 unfold B9
 rw [if_neg om, if_neg om, if_neg om]
 unfold Rx
 exact if_pos (if_pos hw)
theorem N7 {π : Pl} {s : Int} {r : Rq} {subs : List Rq} {l : List If} {π' : Pl} {x : Rp} {kids : List Bs} {e : Int} (h : MI π s r subs l π' x kids e) (hs : Cg π.τ s) (hw : r.watch = false) (hk : B3 r.kind) :
  e = 0 ∧ π = π' ∧ x.xid = r.xid ∧ x.zx = π.τ.zx ∧ x.err = BK π.τ (π.ids s) r ∧ x.data = (if BK π.τ (π.ids s) r = 0 ∧ r.kind = 9 then Ha π.τ r.path else []) ∧ x.st = (if BK π.τ (π.ids s) r = 0 then AS π.τ r.path else st0) ∧ kids = BU π.τ (π.ids s) r := by
 have hc : ¬ Bw r.kind = true := by
  have hk2 := hk
  unfold B3 at hk2
  rcases hk2 with g | g | g | g <;> rw [g] <;> decide
 obtain ⟨he, hp, x0, hR, hx⟩ := h.rd hs hc
 rw [VD hw hk] at hp
 subst hp
 obtain ⟨av, kv, rfl, hkids⟩ := hR.told hw hk
 exact ⟨he, rfl, by rw [hx], by rw [hx], by rw [hx]; rfl, by rw [hx]; rfl, by rw [hx]; rfl, hkids⟩
/-! ### Two services that do the same -/
theorem ABa {τ : Tr} {z : Int} {y y' : Pt} {ys ys' : List Pt} (h : y.pl = y'.pl) (hs : ys.map Pt.pl = ys'.map Pt.pl) : AC τ z y ys = AC τ z y' ys' := by
 rw [← Gj, h, hs, Gj]
structure Nj where
 what : Int
 ses : Int
 tmo : Int
 r : Rq
 subs : List Rq
 arm : List If
 far : Bool
def Yu (x : Nj) : List Value := [AA x.what, AA x.ses, AA x.tmo] ++ Eu x.r ++ [.bool x.far]
structure StA (p : HP) (v : Value) (xs : List Nj) : Prop where
 cells : ∀ h : Hp, p h → Cx 14 h v xs.length (xs.flatMap Yu)
 len : xs.length ≤ 1048576
 nums : ∀ x ∈ xs, Az x.what ∧ Az x.ses ∧ Az x.tmo
 each : ∀ x ∈ xs, ∀ s, Az s → H3 p s x.r x.subs x.arm
/-! ### A multi -/
theorem AAv {q : HP} (hT : GD q) (hZ : Pp q) {v : Value} (hv : ∃ a n c, v = .slice a n c) (ha : ∀ h : Hp, q h → Cx 2 h v DY.length (DY.flatMap CO)) : H3 q 1 (FB v) [] [] := by
 have i1 : Az 1 := ⟨by decide, by decide⟩
 have i4 : Az 4 := ⟨by decide, by decide⟩
 refine ⟨⟨Di.mk0 i1 hT ⟨i1, i4, Az.zero, Az.zero⟩ ⟨by show 2 ≤ 64; decide, by show 0 ≤ 64; decide⟩ ha ⟨by show 1 ≤ 8; decide, fun a h => ?_⟩ hv ⟨none, 0, 0, rfl⟩ ⟨none, 0, 0, rfl⟩, Zw, fun _ _ => .inl ⟨rfl, rfl, none, 0, rfl⟩, (fun _ h => by cases h), fun _ h => by cases h⟩, hZ, RE⟩
 obtain rfl := mem_singleton.1 (show a ∈ DY from h)
 exact ⟨⟨by decide, by decide⟩, by decide⟩
theorem K9  (c n : Int) (hc : -9223372036854775808 ≤ c ∧ c ≤ 9223372036854775807) (hn : 0 < n) : Fn prog 11 #[AA c, AA n] [] fun v L => v = AA (LK c n) ∧ L = [] := by
 refine Fn.intro func11 Y Y fun F W => ?_
 refine .sr (.an Y (.seq (.sm Y (.ui Y Y Y (.nt (.condD Y (fun h6 => ?_) (fun h6 => ?_)))))))
 ·refine .region (.m Y (.q (.add Y Y om) Y (.q (.neg Y om) Y (.an Y (.sm Y (.m Y (.q (.remE Y Y om om) Y (.an Y (.ret ?_)))))))))
  have e : LK c n = (-(c + 1)) % n := by unfold LK; rw [if_pos h6]
  rw [e]
  exact .vv
 refine .sk (.sm Y (.m Y (.q (.remE Y Y om om) Y (.an Y (.ret ?_)))))
 have e : LK c n = (c) % n := by unfold LK; rw [if_neg h6]
 rw [e]
 exact .vv
theorem Pj (q : HP) (hT : GD q) (hZ : Pp q) : Fn prog 7 #[] [q] fun v L => v = .bool true ∧ L = [q] := by
 refine Fn.intro func7 Y Y fun F W => ?_
 refine .sr (.an Y (.sr (.oq (.c func8 [] (NN)) ?_)))
 rintro v L' ⟨b, k, rfl, rfl⟩
 refine .an Y (.seq (.sm Y (.q (.ptreq Y Y underlying25) Y (.nt (.condF Y (.sk (.sm Y (.cv func9 [_, _] (Hr b k Jx 10 0 Jv dQ) ?_))))))))
 refine .m Y (.q (.as (v' := AA 1) (by rfl) (.extract Y Y)) Y (.q (.as (v' := AA 0) (by rfl) (.extract Y Y)) Y (.a Y (.an Y (.sm Y (.m Y (.q (.build (us := [(0, _), (1, _)]) UA Fv Y Y (by simp [AB])) Y (.oq (.buildSlice (vs := [_]) Gw Fv Y Y Y Y cQ dQ) ?_))))))))
 rintro v L' ⟨ba, rfl, rfl⟩
 refine .q (.to (v' := .agg (Eu (FB (.slice (some ⟨ba, 0, none⟩) 1 1))).toArray) (.build (us := [(0, _), (2, _), (1, _), (4, _)]) QK OM Y Y (by simp [AB])) Y) Y (.slMakeN 2 1 (b := ba) (xs := DY.flatMap CO) O Y Y (.fold (p := (CD [Af 75 2 (.slice (some ⟨ba, 0, none⟩) 1 1) 1 (DY.flatMap CO), q])) (q := [Af 75 2 (.slice (some ⟨ba, 0, none⟩) 1 1) 1 (DY.flatMap CO), q]) O (fun _ h => h) ?_))
 have hT1 : GD (CD [Af 75 2 (.slice (some ⟨ba, 0, none⟩) 1 1) 1 (DY.flatMap CO), q]) := hT.up
 have hZ1 : Pp (CD [Af 75 2 (.slice (some ⟨ba, 0, none⟩) 1 1) 1 (DY.flatMap CO), q]) := hZ.up
 have hra : ∀ h : Hp, (CD [Af 75 2 (.slice (some ⟨ba, 0, none⟩) 1 1) 1 (DY.flatMap CO), q]) h → Cx 2 h (.slice (some ⟨ba, 0, none⟩) 1 1) DY.length (DY.flatMap CO) := ABE (fun _ => Aa)
 have hA1 : H3 (CD [Af 75 2 (.slice (some ⟨ba, 0, none⟩) 1 1) 1 (DY.flatMap CO), q]) 1 (FB (.slice (some ⟨ba, 0, none⟩) 1 1)) [] [] := AAv hT1 hZ1 ⟨_, _, _, rfl⟩ hra
 refine .oq (.call func10 Y Y (vs := [_, _, _]) Y (FI b k FG 1 (FB (.slice (some ⟨ba, 0, none⟩) 1 1)) [] [] (CD [Af 75 2 (.slice (some ⟨ba, 0, none⟩) 1 1) 1 (DY.flatMap CO), q]) hA1 (fun _ => ⟨by decide, by decide⟩) 1 Wm dQ)) ?_
 rintro v L' ⟨π, x, kids, e, hC, rfl, rfl⟩
 refine .m Y (.ex Y Y (.ex Y Y (.oq (.allocA Ca) ?_)))
 rintro v L' ⟨b4, rfl, rfl⟩
 refine .sa Y Y Bn (by exact hC.cells) ?_
 refine .a Y (.nil (.pc b4 (BH x) ?_))
 have hx := UX hC
 have hB2 := Wm.call dQ (fun _ => ⟨by decide, by decide⟩) hA1 hC
 refine .then_n (.sm Y (.q (.to (v' := .agg (Eu (Hh 7 [])).toArray) (.build (us := [(0, _)]) QK OM Y Y (by simp [AB])) Y) Y (.oq (.call func10 Y Y (vs := [_, _, _]) Y (FI b k π 9 (Hh 7 []) [] [] (CD [Af 75 2 (.slice (some ⟨ba, 0, none⟩) 1 1) 1 (DY.flatMap CO), q]) (Pe hT1 hZ1 ⟨by decide, by decide⟩ ⟨by decide, by decide⟩ (Nat.zero_le _)) (fun g => absurd g hx.2.2.2.2) 2 hB2 dQ)) ?_)))
 rintro v L' ⟨π2, x2, kids2, e2, hD, rfl, rfl⟩
 refine .m Y (.ex Y Y (.ex Y Y (.oq (.allocA Ca) ?_)))
 rintro v L' ⟨b6, rfl, rfl⟩
 refine .sa Y Y Bn (by exact hD.cells) ?_
 refine .a Y (.nil (.pc b6 (BH x2) ?_))
 have h67 := (hD.gone hx.2.2.2.2).1
 refine .then_n (.sm Y (.q (.as (v' := .bool true) (by rfl) (.int Y Y Y)) Y (.m Y (.gr (.m Y (.gr (.q (.as (v' := .bool true) (by rfl) (.int Y Y Y)) Y (.pT Y Y (.m Y (.gr (.m Y (.gr (.q (.as (v' := .bool true) (by exact congrArg Value.bool (decide_eq_true (hx.1))) (.int Y Y Y)) Y (.pT Y Y (.m Y (.gr (.fa Y Ek (.gr (.u (.ld Y Fd) (.gr (.q (.as (v' := .bool true) (by exact congrArg Value.bool (decide_eq_true (hx.2.1))) (.int Y Y Y)) Y (.pT Y Y (.m Y (.gr (.fa Y Lj (.gr ?_))))))))))))))))))))))))))
 refine .u (.ld Y AR) (.gr (.q (.as (v' := .bool true) (by exact congrArg Value.bool (decide_eq_true (hx.2.2.1))) (.int Y Y Y)) Y (.pT Y Y (.m Y (.gr (.fa Y Id (.gr (.u (.ld Y AR) (.gr (.q (.as (v' := .bool true) (by exact congrArg Value.bool (decide_eq_true (hx.2.2.2.1))) (.int Y Y Y)) Y (.pT Y Y (.m Y (.gr (.m Y (.gr (.q (.as (v' := .bool true) (by exact congrArg Value.bool (decide_eq_true (h67))) (.int Y Y Y)) Y (.pT Y Y (.a Y (.nil (.focus (p := (CD [Af 75 2 (.slice (some ⟨ba, 0, none⟩) 1 1) 1 (DY.flatMap CO), q])) O (.unfold (q := [Af 75 2 (.slice (some ⟨ba, 0, none⟩) 1 1) 1 (DY.flatMap CO), q]) (fun _ h => h) ?_)))))))))))))))))))))
 refine .then_n (.ret ?_)
 exact .vv
/-! ### Events have their entry's zxid -/
/-! ### Counting -/
/-! ### What stays so -/
/-! ### Two sessions -/
/-! ### Numbered names -/
theorem Wr : ∀ (u : Nat), ∀ c ∈ Lib.decDigits u, c ≠ (47 : UInt8) := by
 intro u
 induction u using Nat.strongRecOn with
 | ind u ih =>
  intro c hc
  rw [Lib.decDigits] at hc
  have key : ∀ k, k < 10 → UInt8.ofNat (48 + k) ≠ (47 : UInt8) := by decide
  split at hc
  ·rename_i h
   rw [mem_singleton] at hc
   subst hc; exact key u h
  ·rcases mem_append.1 hc with hc | hc
   ·exact ih (u / 10) om c hc
   ·rw [mem_singleton] at hc
    subst hc; exact key _ om
theorem Xw (p : Bs) (n : Int) : ∃ d : Bs, F7 p n = p ++ d ∧ (47 : UInt8) ∉ d ∧ d ≠ [] := by
 refine ⟨_, rfl, fun hm => ?_, fun h => ?_⟩
 ·have hm := mem_of_mem_drop hm
  rcases mem_append.1 hm with hm | hm
  ·exact absurd (eq_of_mem_replicate hm) dQ
  ·unfold Lib.itoa at hm
   rw [if_neg om] at hm
   exact Wr _ _ hm rfl
 ·have := congrArg List.length h
  simp only [length_drop, length_append, length_replicate, length_nil] at this
  omega
theorem SF (a b : Bs) : ∀ n, n ≤ a.length → CI (a ++ b) n = CI a n := by
 intro n
 induction n with
 | zero => intro _; rfl
 | succ n ih =>
  intro h
  unfold CI
  rw [ih om]
  have : (a ++ b).getD n 0 = a.getD n 0 := by
   rw [getD_eq_getElem?_getD, getD_eq_getElem?_getD, List.getElem?_append_left om]
  rw [this]
theorem RQ {a b : Bs} (h : (47 : UInt8) ∉ b) : B8 (a ++ b) = B8 a := by
 have key : ∀ k, k ≤ b.length → CI (a ++ b) (a.length + k) = CI (a ++ b) a.length := by
  intro k
  induction k with
  | zero => intro _; rfl
  | succ k ih =>
   intro hk
   show CI (a ++ b) (a.length + k + 1) = _
   rw [CI]
   have : ¬ (a ++ b).getD (a.length + k) 0 = 47 := by
    rw [getD_eq_getElem?_getD, List.getElem?_append_right om, show a.length + k - a.length = k by omega, List.getElem?_eq_getElem om]
    intro e
    exact h (e ▸ getElem_mem _)
   rw [if_neg this, ih om]
 unfold B8
 rw [length_append, key _ (Nat.le_refl _), SF a b _ (Nat.le_refl _)]
theorem TP {p : Bs} (hp : p ≠ [47]) (n : Int) : AL (F7 p n) = AL p := by
 obtain ⟨d, e, hd, hne⟩ := Xw p n
 rw [e]
 have hr := EG p
 by_cases h0 : B8 p < 0
 ·unfold AL
  rw [RQ hd, if_pos (.inl h0), if_pos (.inl h0)]
 ·have h1 : p ++ d ≠ [47] := fun g => by
   have h2 := congrArg List.length g
   have h3 : 0 < d.length := length_pos_iff.2 hne
   simp only [length_append, length_singleton] at h2
   have h4 : p = [] := eq_nil_of_length_eq_zero om
   subst h4
   simp at hr; omega
  have e1 : AL (p ++ d) = if B8 p = 0 then [47] else (p ++ d).take (B8 p).toNat := by
   unfold AL
   rw [RQ hd, if_neg (fun g => g.elim h0 h1)]
  have e2 : AL p = if B8 p = 0 then [47] else p.take (B8 p).toNat := by
   unfold AL
   rw [if_neg (fun g => g.elim h0 hp)]
  rw [e1, e2]
  split
  ·rfl
  ·rw [take_append_of_le_length om]
/-! ### What wishes keep -/
structure WI (τ : Tr) : Prop where
 ok : τ.Ok 64
 root : ∃ n, AD τ.nodes [47] = some n ∧ n.st.own = 0
 closed : ∀ q, AQ τ q → q ≠ [47] → AQ τ (AL q)
 data : ∀ q n, AD τ.nodes q = some n → n.data.length ≤ 100
 bare : ∀ q n, AD τ.nodes q = some n → n.st.own ≠ 0 → ∀ c, AQ τ c → c ≠ [47] → AL c ≠ q
 few : ∀ s, (AG τ s).length ≤ 32
 ids : ∀ i s, AD τ.sess i = some s → 1 ≤ i ∧ i ≤ 5
theorem WI.able {τ : Tr} (h : WI τ) {q : Bs} (ht : AQ τ q) (hq : q ≠ [47]) : Cn q := by
 obtain ⟨n, hn⟩ := EE.1 ht
 exact (h.ok.able _ (EB hn)).resolve_left hq
theorem WI.rootT {τ : Tr} (h : WI τ) : AQ τ [47] := by
 obtain ⟨n, hn, -⟩ := h.root
 exact EE.2 ⟨n, hn⟩
theorem WI.zx {τ : Tr} (h : WI τ) (z : Int) : WI (zxT τ z) := ⟨h.ok.zx z, h.root, h.closed, h.data, h.bare, h.few, h.ids⟩
theorem WI.new : WI Du := by
 have key : ∀ q n, AD Du.nodes q = some n → q = [47] ∧ n = ⟨[], [(31, AB4)], st0⟩ := by
  intro q n h
  have := EB h
  simp only [Du, mem_singleton, Prod.mk.injEq] at this
  exact this
 refine ⟨Lg.more dQ, ⟨_, rfl, rfl⟩, fun q hq hne => ?_, fun q n h => ?_, fun q n h hn => ?_, fun s => ?_, fun i s h => by cases h⟩
 ·obtain ⟨n, hn⟩ := EE.1 hq
  exact absurd (key q n hn).1 hne
 ·obtain ⟨-, rfl⟩ := key q n h; decide
 ·obtain ⟨-, rfl⟩ := key q n h; exact absurd rfl hn
 ·have := E0 Du s
  have h2 : Du.nodes.length = 1 := rfl
  omega
/-! ### How many are whose -/
def Gc (s : Int) (y : PN) : Bool := !decide (s = 0) && decide (y.2.st.own = s)
theorem Od (τ : Tr) (s : Int) : (AG τ s).length = (τ.nodes.filter (Gc s)).length := by
 unfold AG
 rw [length_map]; rfl
theorem Xl (s : Int) (p : Bs) (n : Nd) : ∀ l : List PN, ((sset l p n).filter (Gc s)).length ≤ (l.filter (Gc s)).length + (if s ≠ 0 ∧ n.st.own = s then 1 else 0) := by
 have one : ∀ l : List PN, ((p, n) :: l).filter (Gc s) |>.length |> (· ≤ (l.filter (Gc s)).length + (if s ≠ 0 ∧ n.st.own = s then 1 else 0)) := by
  intro l
  show (((p, n) :: l).filter (Gc s)).length ≤ _
  by_cases g : s ≠ 0 ∧ n.st.own = s
  ·rw [if_pos g]
   rw [filter_cons]
   split <;> simp
  ·rw [if_neg g, filter_cons, if_neg (by simp only [Gc, Bool.and_eq_true, Bool.not_eq_true', decide_eq_false_iff_not, decide_eq_true_eq]; exact g)]
   omega
 intro l
 induction l with
 | nil => exact one []
 | cons y l ih =>
  have h1 := one l
  have hc : (l.filter (Gc s)).length ≤ ((y :: l).filter (Gc s)).length := by
   rw [filter_cons]; split <;> simp
  unfold sset
  split
  ·exact Nat.le_trans h1 om
  split
  ·exact one (y :: l)
  ·rw [filter_cons, filter_cons]
   split
   ·rw [length_cons, length_cons]; omega
   ·exact ih
theorem KF (s : Int) (p : Bs) {f : Nd → Nd} (hf : ∀ n, (f n).st.own = n.st.own) (l : List PN) : ((amod l p f).filter (Gc s)).length = (l.filter (Gc s)).length := by
 unfold amod
 rw [filter_map, length_map]
 congr 1
 apply filter_congr
 intro y _
 show Gc s (if y.1 = p then (y.1, f y.2) else y) = Gc s y
 split
 ·unfold Gc
  rw [hf]
 ·rfl
theorem ZN (s : Int) (g : PN → Bool) (l : List PN) : ((l.filter g).filter (Gc s)).length ≤ (l.filter (Gc s)).length := (filter_sublist.filter (Gc s)).length_le
theorem XF (τ : Tr) (y : Pt) (zx s : Int) : (AG (AJ τ y zx).1 s).length ≤ (AG τ s).length + (if y.kind = 1 ∧ s ≠ 0 ∧ y.own = s then 1 else 0) := by
 rw [Od, Od, FL]
 split
 ·rename_i h1
  split
  ·show ((amod (sset τ.nodes y.path (DU y zx)) (AL y.path) (kidN y.num zx)).filter (Gc s)).length ≤ _
   rw [KF (f := kidN y.num zx) s _ (fun n => rfl)]
   refine Nat.le_trans (Xl s _ _ _) ?_
   have e : (DU y zx).st.own = y.own := rfl
   rw [e]
   by_cases g : s ≠ 0 ∧ y.own = s
   ·rw [if_pos g, if_pos ⟨h1, g⟩]; exact Nat.le_refl _
   ·rw [if_neg g]; omega
  ·omega
 split
 ·split
  ·show ((amod (FH τ y.path).nodes (AL y.path) (kidN y.num zx)).filter (Gc s)).length ≤ _
   rw [KF (f := kidN y.num zx) s _ (fun n => rfl)]
   exact Nat.le_trans (ZN s _ _) om
  ·omega
 split
 ·show ((amod τ.nodes y.path (F0 y.data y.num zx)).filter (Gc s)).length ≤ _
  rw [KF (f := F0 y.data y.num zx) s _ (fun n => rfl)]; omega
 split
 ·show ((amod τ.nodes y.path (FT y.acl y.num)).filter (Gc s)).length ≤ _
  rw [KF (f := FT y.acl y.num) s _ (fun n => rfl)]; omega
 ·omega
/-! ### A part -/
structure QQ (τ : Tr) (y : Pt) : Prop where
 kind : 0 ≤ y.kind ∧ y.kind ≤ 4
 finds : y.kind = 0 ∨ Ds τ y = true
 data : y.data.length ≤ 100
 acl : y.acl.length ≤ 1048576
 room : y.kind = 1 → τ.nodes.length < 64 ∧ (y.own ≠ 0 → (AG τ y.own).length < 32) ∧ ∀ n, AD τ.nodes (AL y.path) = some n → n.st.own = 0
structure ACf (τ : Tr) (y : Pt) (zx : Int) (υ : Tr) : Prop where
 nodes : ∀ q n, AD υ.nodes q = some n → ∃ n0, (AD τ.nodes q = some n0 ∨ (n0 = DU y zx ∧ q = y.path ∧ y.kind = 1)) ∧ (n = n0 ∨ n = kidN y.num zx n0 ∨ n = F0 y.data y.num zx n0 ∨ n = FT y.acl y.num n0)
 root : AQ υ [47]
 closed : ∀ q, AQ υ q → q ≠ [47] → AQ υ (AL q)
 there : ∀ q, AQ υ q → AQ τ q ∨ (q = y.path ∧ y.kind = 1)
 len : υ.nodes.length ≤ τ.nodes.length + (if y.kind = 1 then 1 else 0)
theorem WI.left {τ : Tr} (h : WI τ) {y : Pt} {zx : Int} (hs : Ds τ y = true) : ACf τ y zx (AJ τ y zx).1 := by
 unfold Ds at hs
 split at hs
 ·rename_i h1
  obtain ⟨ha, hnt, hu⟩ := of_decide_eq_true hs
  have hth : ∀ r, AQ (AJ τ y zx).1 r ↔ r = y.path ∨ AQ τ r := by
   intro r
   unfold AQ
   rw [Oi h1 ha hu]
   by_cases e2 : r = y.path
   ·rw [if_pos e2]; split <;> simp [e2]
   ·rw [if_neg e2]; split <;> simp [e2]
  refine ⟨fun q n hq => ?_, (hth _).2 (.inr h.rootT), fun q hq hne => ?_, fun q hq => ?_, ?_⟩
  ·rw [Oi h1 ha hu] at hq
   by_cases e1 : q = AL y.path
   ·rw [if_pos e1] at hq
    obtain ⟨n0, g, rfl⟩ := map_some hq
    by_cases e2 : q = y.path
    ·rw [if_pos e2] at g; cases g
     exact ⟨_, .inr ⟨rfl, e2, h1⟩, .inr (.inl rfl)⟩
    ·rw [if_neg e2] at g
     exact ⟨_, .inl g, .inr (.inl rfl)⟩
   ·rw [if_neg e1] at hq
    by_cases e2 : q = y.path
    ·rw [if_pos e2] at hq; cases hq
     exact ⟨_, .inr ⟨rfl, e2, h1⟩, .inl rfl⟩
    ·rw [if_neg e2] at hq
     exact ⟨_, .inl hq, .inl rfl⟩
  ·rw [hth] at hq ⊢
   right
   rcases hq with rfl | hq
   ·exact hu
   ·exact h.closed q hq hne
  ·rcases (hth q).1 hq with e | e
   ·exact .inr ⟨e, h1⟩
   ·exact .inl e
  ·rw [if_pos h1]
   unfold AJ Ab
   rw [if_pos h1]
   split
   ·show (amod (sset _ _ _) _ _).length ≤ _
    rw [Hv]
    exact (NC τ.nodes y.path (DU y zx)).1
   ·show τ.nodes.length ≤ _
    omega
 ·rename_i h1
  split at hs
  ·rename_i h2
   obtain ⟨hr, ht, hk⟩ := of_decide_eq_true hs
   have ha := h.able ht hr
   have hth : ∀ r, AQ (AJ τ y zx).1 r ↔ AQ τ r ∧ Bj r y.path = false := by
    intro r
    unfold AQ
    rw [J3 h2 ha]
    cases e : Bj r y.path <;> split <;> simp
   refine ⟨fun q n hq => ?_, ?_, fun q hq hne => ?_, fun q hq => .inl ((hth q).1 hq).1, ?_⟩
   ·rw [J3 h2 ha] at hq
    by_cases e1 : q = AL y.path
    ·rw [if_pos e1] at hq
     obtain ⟨n0, g, rfl⟩ := map_some hq
     split at g
     ·cases g
     ·exact ⟨_, .inl g, .inr (.inl rfl)⟩
    ·rw [if_neg e1] at hq
     split at hq
     ·cases hq
     ·exact ⟨_, .inl hq, .inl rfl⟩
   ·rw [hth]
    refine ⟨h.rootT, ?_⟩
    cases e : Bj [47] y.path with
    | false => rfl
    | true =>
     obtain ⟨r, e2⟩ := Tu e
     have := congrArg List.length e2
     simp at this
     cases hy : y.path with
     | nil => exact absurd (h.able ht hr) (by rw [hy]; decide)
     | cons c r2 =>
      rw [hy] at e2
      simp at e2
      exact absurd (by rw [hy, ← e2.1, e2.2.1]) hr
   ·rw [hth] at hq ⊢
    refine ⟨h.closed q hq.1 hne, ?_⟩
    cases e : Bj (AL q) y.path with
    | false => rfl
    | true => rw [TN (h.able hq.1 hne) hr e] at hq; exact absurd hq.2 dQ
   ·unfold AJ As
    rw [if_neg h1, if_pos h2, if_pos ha, if_neg h1]
    show (amod (FH τ y.path).nodes _ _).length ≤ _
    rw [Hv]
    exact Y5 τ y.path
  ·rename_i h2
   split at hs
   ·rename_i h3
    have ht := of_decide_eq_true hs
    have hth : ∀ r, AQ (AJ τ y zx).1 r ↔ AQ τ r := by
     intro r
     unfold AQ
     rcases h3 with h3 | h4
     ·rw [Xu h3 ht]; split <;> simp
     ·rw [WL h4 ht]; split <;> simp
    refine ⟨fun q n hq => ?_, (hth _).2 h.rootT, fun q hq hne => (hth _).2 (h.closed q ((hth q).1 hq) hne), fun q hq => .inl ((hth q).1 hq), ?_⟩
    ·rcases h3 with h3 | h4
     ·rw [Xu h3 ht] at hq
      split at hq
      ·obtain ⟨n0, g, rfl⟩ := map_some hq
       exact ⟨_, .inl g, .inr (.inr (.inl rfl))⟩
      ·exact ⟨_, .inl hq, .inl rfl⟩
     ·rw [WL h4 ht] at hq
      split at hq
      ·obtain ⟨n0, g, rfl⟩ := map_some hq
       exact ⟨_, .inl g, .inr (.inr (.inr rfl))⟩
      ·exact ⟨_, .inl hq, .inl rfl⟩
    ·unfold AJ
     rw [if_neg h1, if_neg h2, if_neg h1]
     split
     ·show (amod _ _ _).length ≤ _
      rw [Hv]; omega
     ·split
      ·show (amod _ _ _).length ≤ _
       rw [Hv]; omega
      ·show τ.nodes.length ≤ _
       omega
   ·cases hs
theorem WI.part {τ : Tr} (h : WI τ) {y : Pt} (zx : Int) (hp : QQ τ y) : WI (AJ τ y zx).1 := by
 rcases hp.finds with h0 | hs
 ·rw [Gf h0]; exact h
 have hL := h.left (zx := zx) hs
 have hok := h.ok.part y zx hp.acl
 have hses := Fp τ y zx
 have hne : y.kind = 1 → y.path ≠ [47] := fun h1 => by
  unfold Ds at hs
  rw [if_pos h1] at hs
  exact (of_decide_eq_true hs).1.1
 have hown : ∀ q n, AD (AJ τ y zx).1.nodes q = some n → (∃ n0, AD τ.nodes q = some n0 ∧ n0.st.own = n.st.own ∧ (n.data = n0.data ∨ n.data = y.data)) ∨ (q = y.path ∧ y.kind = 1 ∧ n.st.own = y.own ∧ n.data = y.data) := fun q n hq => by
  obtain ⟨n0, g, e⟩ := hL.nodes q n hq
  have e2 : n.st.own = n0.st.own ∧ (n.data = n0.data ∨ n.data = y.data) := by rcases e with rfl | rfl | rfl | rfl <;> first | exact ⟨rfl, .inl rfl⟩ | exact ⟨rfl, .inr rfl⟩
  rcases g with g | ⟨rfl, g, g'⟩
  ·exact .inl ⟨n0, g, e2.1.symm, e2.2⟩
  ·exact .inr ⟨g, g', e2.1, e2.2.elim id id⟩
 refine ⟨⟨hok.sorted, hok.ssorted, ?_, hok.able, hok.ids, hok.acls, by rw [hses]; exact h.ok.sfew⟩, ?_, hL.closed, fun q n hq => ?_, fun q n hq hn c hc hcr hpc => ?_, fun s => ?_, by rw [hses]; exact h.ids⟩
 ·have h1 := hL.len
  have h2 := h.ok.few
  split at h1
  ·rename_i h3
   have := (hp.room h3).1
   omega
  ·omega
 ·obtain ⟨n, hn⟩ := EE.1 hL.root
  refine ⟨n, hn, ?_⟩
  obtain ⟨r, hr, hr0⟩ := h.root
  rcases hown _ _ hn with ⟨n0, g, e, -⟩ | ⟨g, g', -⟩
  ·rw [hr] at g; cases g; exact e.symm.trans hr0
  ·exact absurd g.symm (hne g')
 ·rcases hown q n hq with ⟨n0, g, -, e | e⟩ | ⟨-, -, -, e⟩
  ·rw [e]; exact h.data q n0 g
  ·rw [e]; exact hp.data
  ·rw [e]; exact hp.data
 ·
  rcases hown q n hq with ⟨n0, g, e, -⟩ | ⟨g, g', -, -⟩
  ·rcases hL.there c hc with hc0 | ⟨rfl, h1⟩
   ·exact h.bare q n0 g (by rw [e]; exact hn) c hc0 hcr hpc
   ·have := (hp.room h1).2.2 n0 (by rw [hpc]; exact g)
    exact hn (e.symm.trans this)
  ·
   subst g
   unfold Ds at hs
   rw [if_pos g'] at hs
   obtain ⟨ha, hnt, hu⟩ := of_decide_eq_true hs
   rcases hL.there c hc with hc0 | ⟨rfl, -⟩
   ·exact hnt (hpc ▸ h.closed c hc0 hcr)
   ·rw [hpc] at hu; exact hnt hu
 ·have h1 := XF τ y zx s
  have h2 := h.few s
  split at h1
  ·rename_i g
   obtain ⟨g1, g2, rfl⟩ := g
   have := (hp.room g1).2.1 g2
   omega
  ·omega
theorem DX {b : Prop} [Decidable b] {e : Int} (h : Ah b e = 0) (he : e ≠ 0) : ¬ b := fun g => by
 have h2 : (if b then e else 0) = 0 := h
 rw [if_pos g] at h2
 exact he h2
theorem Nz : ∀ {s : Bs}, (58 : UInt8) ∈ s → s.length = (GW s).length + 1 + (FU s).length
 | [], h => by cases h
 | c :: s, h => by
  unfold GW FU
  by_cases e : c = 58
  ·rw [if_pos e, if_pos e]; simp only [length_cons, length_nil]; omega
  ·rw [if_neg e, if_neg e]
   have := Nz (s := s) ((mem_cons.1 h).resolve_left (fun g => e g.symm))
   simp only [length_cons]; omega
theorem AA8 {s : Bs} (h : Nq s = true) : s.length ≤ 29 := by
 unfold Nq at h
 rw [Bool.or_eq_true] at h
 rcases h with h | h
 ·rw [of_decide_eq_true h]; decide
 ·simp only [Bool.and_eq_true, decide_eq_true_eq] at h
  obtain ⟨⟨⟨h1, h2⟩, h3⟩, -⟩ := h
  have h4 := Nz h1
  unfold Ju at h2
  simp only [Bool.and_eq_true, decide_eq_true_eq] at h2
  have h5 := h2.1.2
  omega
theorem Og {l : List Ac} (h : FX l = true) : l.length ≤ 4 ∧ ∀ a ∈ l, (1 ≤ a.1 ∧ a.1 ≤ 31) ∧ a.2.length ≤ 29 := by
 unfold FX at h
 simp only [Bool.and_eq_true, decide_eq_true_eq, Bool.not_eq_true'] at h
 obtain ⟨⟨-, h1⟩, h2⟩ := h
 refine ⟨h1, fun a ha => ?_⟩
 have h3 := any_eq_false.1 h2 a ha
 unfold JS at h3
 simp only [Bool.or_eq_true, decide_eq_true_eq, Bool.not_eq_true', not_or, Bool.not_eq_false] at h3
 exact ⟨by omega, AA8 h3.2⟩
theorem GG {n : Int} (h : Az n) : (EV n).length ≤ 10 := Hi h
theorem Kx {s : Bs} (h : s.length < 128) : (FK s).length = s.length + 1 := by
 unfold FK Ct
 rw [length_append, DS, if_pos h]; simp; omega
theorem Xd {a : Ac} (h : (1 ≤ a.1 ∧ a.1 ≤ 31) ∧ a.2.length ≤ 29) : (Ln a).length ≤ 40 := by
 unfold Ln
 have h1 := GG (n := a.1) ⟨by omega, by omega⟩
 rw [length_append, Kx om]; omega
theorem Uv {l : List Ac} (h : l.length ≤ 4) (h2 : ∀ a ∈ l, (1 ≤ a.1 ∧ a.1 ≤ 31) ∧ a.2.length ≤ 29) : (Fh l).length ≤ 161 := by
 unfold Fh Ct
 have h3 := NO (f := Ln) (c := 40) (l := l) (fun a ha => Xd (h2 a ha))
 rw [length_append, DS, if_pos om]
 simp only [length_singleton]
 have : l.length * 40 ≤ 160 := by omega
 omega
structure Cs (y : Pt) : Prop where
 kind : Az y.kind
 own : Az y.own
 num : Az y.num
 err : Az y.err
 path : y.path.length ≤ 60
 data : y.data.length ≤ 100
 acl : y.acl.length ≤ 4 ∧ ∀ a ∈ y.acl, (1 ≤ a.1 ∧ a.1 ≤ 31) ∧ a.2.length ≤ 29
theorem Cs.len {y : Pt} (h : Cs y) : (Ia y).length ≤ 42 + y.path.length + y.data.length + (Fh y.acl).length := by
 have h1 := GG h.kind
 have h2 := GG h.own
 have h3 := GG h.num
 have h4 := GG h.err
 have h5 := Kx (s := y.path) (by have := h.path; omega)
 have h6 := Kx (s := y.data) (by have := h.data; omega)
 unfold Ia
 simp only [flatMap_cons, flatMap_nil, length_append, length_nil]
 omega
theorem Cs.some {y : Pt} (h : Cs y) : (Ia y).length ≤ 363 := by
 have := h.len
 have := h.path
 have := h.data
 have := Uv h.acl.1 h.acl.2
 omega
theorem L7 {p : Bs} (h : BG p = 0) : p.length ≤ 60 := by
 by_cases e : p = [47]
 ·rw [e]; decide
 ·exact Ee (.inr ⟨e, h⟩)
theorem Yp {τ : Tr} (h : WI τ) : ¬ AQ τ [] := fun g => by
 have := h.able g dQ
 exact absurd this dQ
theorem Ra {τ : Tr} {p : Bs} {n : Nd} (h : AD τ.nodes p = some n) : (AS τ p).own = n.st.own ∧ (AS τ p).kids = ((Bf τ p).length : Int) := by
 unfold AS Ht
 rw [h]; exact ⟨rfl, rfl⟩
theorem H7 (n : Int) : Az (C3 n) := wrap_i64 n
theorem Tw {τ : Tr} (h : WI τ) {u : B4} (hu : 1 ≤ u.ses ∧ u.ses ≤ 5) {r : Rq} (h0 : (AU τ u r).2 = 0) : QQ τ (AU τ u r).1 ∧ Cs (AU τ u r).1 := by
 have I0 := Az.zero
 have noop : QQ τ FN ∧ Cs FN := ⟨⟨⟨Int.le_refl _, by decide⟩, .inl rfl, Nat.zero_le _, Nat.zero_le _, fun g => absurd g dQ⟩, ⟨I0, I0, I0, I0, Nat.zero_le _, Nat.zero_le _, Nat.zero_le _, fun a ha => by cases ha⟩⟩
 unfold AU at h0 ⊢
 by_cases k1 : r.kind = 1
 ·rw [if_pos k1] at h0 ⊢
  have all := E3 _ h0
  dsimp only at all ⊢
  simp only [Dl, mem_cons, forall_eq_or_imp, not_mem_nil, false_implies, implies_true, and_true] at all
  obtain ⟨a1, a2, a3, a4, a5, a6, a7, a8, a9, a10⟩ := all
  have b2 := DX a2 dQ
  have b3 := Og (Decidable.not_not.1 (DX a3 dQ))
  have b4 := Decidable.not_not.1 (DX a4 dQ)
  have b5 := DX a5 dQ
  have b7 := Decidable.not_not.1 (DX a7 dQ)
  have b8 := DX a8 dQ
  have b9 := DX a9 dQ
  have b10 := DX a10 dQ
  have hne : B2 τ r ≠ [47] := fun e => b8 (by rw [e]; exact h.rootT)
  have hpr : r.path ≠ [47] := fun e => by
   rw [e] at b4
   exact Yp h b4
  have hpar : AL (B2 τ r) = AL r.path := by
   unfold B2
   split
   ·exact TP hpr _
   ·rfl
  have hown : Az (Aq τ u r).own := by
   show Az (if andI r.flags 1 ≠ 0 then u.ses else 0)
   split
   ·exact ⟨by omega, by omega⟩
   ·exact I0
  refine ⟨⟨⟨by show (0 : Int) ≤ 1; decide, by show (1 : Int) ≤ 4; decide⟩, .inr ?_, by show r.data.length ≤ 100; omega, by show r.acl.length ≤ _; omega, fun _ => ⟨?_, fun ho => ?_, fun n hn => ?_⟩⟩, ⟨⟨by show (-9223372036854775808 : Int) ≤ 1; decide, by show (1 : Int) ≤ 9223372036854775807; decide⟩, hown, H7 _, I0, L7 b7, by show r.data.length ≤ 100; omega, b3⟩⟩
  ·unfold Ds
   rw [if_pos (show (Aq τ u r).kind = 1 from rfl)]
   exact decide_eq_true ⟨⟨hne, b7⟩, b8, by show AQ τ (AL (B2 τ r)); rw [hpar]; exact b4⟩
  ·have : (AX τ).length = τ.nodes.length := by unfold AX; rw [length_map]
   omega
  ·have ho : (if andI r.flags 1 ≠ 0 then u.ses else 0) ≠ 0 := ho
   by_cases hf : andI r.flags 1 ≠ 0
   ·show (AG τ (if andI r.flags 1 ≠ 0 then u.ses else 0)).length < 32
    rw [if_pos hf]
    exact Nat.lt_of_not_le fun g => b10 ⟨hf, g⟩
   ·rw [if_neg hf] at ho; exact absurd rfl ho
  ·have hn : AD τ.nodes (AL (B2 τ r)) = some n := hn
   rw [hpar] at hn
   have := (Ra hn).1
   unfold JE at b5
   omega
 rw [if_neg k1] at h0 ⊢
 by_cases k2 : r.kind = 2
 ·rw [if_pos k2] at h0 ⊢
  have all := E3 _ h0
  dsimp only at all ⊢
  simp only [Gb, mem_cons, forall_eq_or_imp, not_mem_nil, false_implies, implies_true, and_true] at all
  obtain ⟨a1, a2, a3, a4, a5, a6⟩ := all
  have b2 := DX a2 dQ
  have b3 := Decidable.not_not.1 (DX a3 dQ)
  have b6 := DX a6 dQ
  refine ⟨⟨⟨by show (0 : Int) ≤ 2; decide, by show (2 : Int) ≤ 4; decide⟩, .inr ?_, Nat.zero_le _, Nat.zero_le _, fun g => absurd g (by show ¬ (2 : Int) = 1; decide)⟩, ⟨⟨by show (-9223372036854775808 : Int) ≤ 2; decide, by show (2 : Int) ≤ 9223372036854775807; decide⟩, I0, H7 _, I0, L7 a1, Nat.zero_le _, Nat.zero_le _, fun a ha => by cases ha⟩⟩
  obtain ⟨n, hn⟩ := EE.1 b3
  have := (Ra hn).2
  unfold Ds
  rw [if_neg (by show ¬ (2 : Int) = 1; decide), if_pos (show (EH τ r).kind = 2 from rfl)]
  exact decide_eq_true ⟨b2, b3, by show (Bf τ r.path).length = 0; omega⟩
 rw [if_neg k2] at h0 ⊢
 by_cases k3 : r.kind = 3 ∨ r.kind = 4 ∨ r.kind = 5
 ·rw [if_pos k3] at h0 ⊢
  have all := E3 _ h0
  dsimp only at all ⊢
  simp only [Je, mem_cons, forall_eq_or_imp, not_mem_nil, false_implies, implies_true, and_true] at all
  obtain ⟨a1, a2, a3, a4, a5⟩ := all
  have b3 := Decidable.not_not.1 (DX a3 dQ)
  unfold FJ
  split
  ·rename_i e
   have b2 : ¬ r.data.length > 100 := by
    unfold Ed at a2
    rw [if_pos e] at a2
    exact DX a2 dQ
   refine ⟨⟨⟨by show (0 : Int) ≤ 3; decide, by show (3 : Int) ≤ 4; decide⟩, .inr ?_, by show r.data.length ≤ 100; omega, Nat.zero_le _, fun g => absurd g (by show ¬ (3 : Int) = 1; decide)⟩, ⟨⟨by show (-9223372036854775808 : Int) ≤ 3; decide, by show (3 : Int) ≤ 9223372036854775807; decide⟩, I0, H7 _, I0, L7 a1, by show r.data.length ≤ 100; omega, Nat.zero_le _, fun a ha => by cases ha⟩⟩
   unfold Ds
   rw [if_neg (by show ¬ (3 : Int) = 1; decide), if_neg (by show ¬ (3 : Int) = 2; decide), if_pos (.inl rfl)]
   exact decide_eq_true b3
  ·split
   ·rename_i e' e
    have b2 : FX r.acl = true := by
     unfold Ed at a2
     rw [if_neg e', if_pos e] at a2
     exact Decidable.not_not.1 (DX a2 dQ)
    have b3' := Og b2
    refine ⟨⟨⟨by show (0 : Int) ≤ 4; decide, by show (4 : Int) ≤ 4; decide⟩, .inr ?_, Nat.zero_le _, by show r.acl.length ≤ _; omega, fun g => absurd g (by show ¬ (4 : Int) = 1; decide)⟩, ⟨⟨by show (-9223372036854775808 : Int) ≤ 4; decide, by show (4 : Int) ≤ 9223372036854775807; decide⟩, I0, H7 _, I0, L7 a1, Nat.zero_le _, b3'⟩⟩
    unfold Ds
    rw [if_neg (by show ¬ (4 : Int) = 1; decide), if_neg (by show ¬ (4 : Int) = 2; decide), if_pos (.inr rfl)]
    exact decide_eq_true b3
   ·exact noop
 ·rw [if_neg k3] at h0
  exact absurd h0 (by show ¬ (110 : Int) = 0; decide)
/-! ### A multi -/
def Fb (y : Pt) : Bool := !decide (y.kind = 0)
theorem LI (zx : Int) (cl : Bool) : ∀ (l : List Pt) (τ : Tr), DK τ zx cl (l.filter Fb) = true ↔ ∀ i (hi : i < l.length), l[i].kind ≠ 0 → Ds (AH τ zx (l.take i)).1 l[i] = true ∧ (cl = true → l[i].kind = 2)
 | [], τ => ⟨(fun _ i hi => by simp at hi), fun _ => rfl⟩
 | x :: l, τ => by
  have ih := LI zx cl l (AJ τ x zx).1
  have e : ∀ i, (AH τ zx ((x :: l).take (i + 1))).1 = (AH (AJ τ x zx).1 zx (l.take i)).1 := fun i => by
   rw [take_succ_cons]
   unfold AH
   rw [foldl_cons]
   have H : ∀ (l : List Pt) (r r' : Tr × List Ev), r.1 = r'.1 → (l.foldl (fun r x => ((AJ r.1 x zx).1, r.2 ++ (AJ r.1 x zx).2)) r).1 = (l.foldl (fun r x => ((AJ r.1 x zx).1, r.2 ++ (AJ r.1 x zx).2)) r').1 := by
    intro l
    induction l with
    | nil => intro r r' h; exact h
    | cons y l ih => intro r r' h; rw [foldl_cons, foldl_cons]; exact ih _ _ (by dsimp only; rw [h])
   exact H _ _ _ rfl
  constructor
  ·intro h i hi hk
   rw [filter_cons] at h
   cases i with
   | zero =>
    have hx : Fb x = true := by simpa [Fb] using hk
    rw [if_pos hx, DK, Bool.and_eq_true, Bool.and_eq_true] at h
    refine ⟨h.1.1, fun hc => ?_⟩
    have := h.1.2
    rw [hc] at this
    simpa using this
   | succ i =>
    have h2 : DK (AJ τ x zx).1 zx cl (l.filter Fb) = true := by
     split at h
     ·rw [DK, Bool.and_eq_true] at h; exact h.2
     ·rename_i g
      have h0 : x.kind = 0 := by simpa [Fb] using g
      rw [Gf h0]; exact h
    rw [e i]
    exact ih.1 h2 i (by simpa using hi) hk
  ·intro h
   have h2 := ih.2 fun i hi hk => by
    have := h (i + 1) (by simpa using hi) hk
    rw [e i] at this
    exact this
   rw [filter_cons]
   split
   ·rename_i g
    have h3 := h 0 (by simp) (by simpa [Fb] using g)
    rw [DK, h2, Bool.and_true, Bool.and_eq_true]
    refine ⟨h3.1, ?_⟩
    cases cl with
    | false => rfl
    | true => simpa using h3.2 rfl
   ·rename_i g
    have h0 : x.kind = 0 := by simpa [Fb] using g
    rw [Gf h0] at h2; exact h2
theorem Nl (zx : Int) : ∀ (l : List Pt) (r r' : Tr × List Ev), r.1 = r'.1 → (l.foldl (fun r x => ((AJ r.1 x zx).1, r.2 ++ (AJ r.1 x zx).2)) r).1 = (l.foldl (fun r x => ((AJ r.1 x zx).1, r.2 ++ (AJ r.1 x zx).2)) r').1
 | [], _, _, h => h
 | y :: l, r, r', h => by rw [foldl_cons, foldl_cons]; exact Nl zx l _ _ (by dsimp only; rw [h])
theorem GH (τ : Tr) (zx : Int) (x : Pt) (l : List Pt) : (AH τ zx (x :: l)).1 = (AH (AJ τ x zx).1 zx l).1 := by
 unfold AH
 rw [foldl_cons]
 exact Nl zx l _ _ rfl
theorem Iv {u : B4} (hu : 1 ≤ u.ses ∧ u.ses ≤ 5) (zx : Int) : ∀ {l : List Rq} {σ υ : Tr}, zT σ = zT υ → WI υ → (Bd u l σ).2.2 = none → DK υ zx false ((Bd u l σ).2.1.filter Fb) = true ∧ WI (AH υ zx (Bd u l σ).2.1).1 ∧ ∀ x ∈ (Bd u l σ).2.1, Cs x
 | [], σ, υ, _, hW, _ => ⟨rfl, hW, fun _ h => by cases h⟩
 | r :: l, σ, υ, hz, hW, hn => by
  rw [C0] at hn ⊢
  have e : AU σ u r = AU υ u r := by rw [← Tf σ, hz, Tf]
  split at hn
  ·cases hn
  ·rename_i g
   rw [if_neg g]
   dsimp only at hn ⊢
   have h0 : (AU υ u r).2 = 0 := by rw [← e]; exact Decidable.not_not.1 g
   obtain ⟨hP, hB⟩ := Tw hW hu h0
   have hn2 := Option.map_eq_none_iff.1 hn
   have hz2 : zT (AC σ σ.zx (AU σ u r).1 []).1 = zT (AJ υ (AU σ u r).1 zx).1 := by
    rw [NK (HL σ u r)]
    exact Xj (by rw [ACB]; exact hz) _ _ _
   have hW2 : WI (AJ υ (AU σ u r).1 zx).1 := by rw [e]; exact hW.part zx hP
   obtain ⟨i1, i2, i3⟩ := Iv hu zx (l := l) hz2 hW2 hn2
   refine ⟨?_, by rw [GH]; exact i2, fun x hx => ?_⟩
   ·rw [filter_cons]
    split
    ·rename_i hr
     have hk : (AU σ u r).1.kind ≠ 0 := by simpa [Fb] using hr
     have hf : Ds υ (AU σ u r).1 = true := by rw [e] at hk ⊢; exact hP.finds.resolve_left hk
     rw [DK, hf, i1]; rfl
    ·rename_i hr
     have hk : (AU σ u r).1.kind = 0 := by simpa [Fb] using hr
     rw [Gf hk] at i1; exact i1
   ·rcases mem_cons.1 hx with rfl | hx
    ·rw [e]; exact hB
    ·exact i3 x hx
/-! ### A session's end -/
theorem JX : ∀ (l : List Bs) (τ : Tr), (A0 l τ).map (·.path) = l
 | [], _ => rfl
 | p :: l, τ => by
  show (CJ τ p).path :: (A0 l _).map (·.path) = p :: l
  rw [JX l]; rfl
theorem M2 : ∀ {l : List Bs} {τ : Tr}, (∀ p ∈ l, p.length ≤ 60) → ∀ y ∈ A0 l τ, Cs y ∧ y.data = [] ∧ y.acl = []
 | [], _, _, _, h => by cases h
 | p :: l, τ, h, y, hy => by
  rcases mem_cons.1 (show y ∈ CJ τ p :: A0 l _ from hy) with rfl | hy
  ·exact ⟨⟨⟨by show (-9223372036854775808 : Int) ≤ 2; decide, by show (2 : Int) ≤ 9223372036854775807; decide⟩, Az.zero, H7 _, Az.zero, h p mem_cons_self, Nat.zero_le _, Nat.zero_le _, fun a ha => by cases ha⟩, rfl, rfl⟩
  ·exact M2 (fun x hx => h x (mem_cons_of_mem _ hx)) y hy
structure I9 (τ : Tr) (s : Int) (l : List Pt) : Prop where
 paths : l.map (·.path) = (AG τ s).reverse
 kinds : ∀ y ∈ l, y.kind = 2
 acl : ∀ y ∈ l, y.acl = [] ∧ y.data = []
theorem WI.owned {τ : Tr} (h : WI τ) {s : Int} {q : Bs} (hq : q ∈ AG τ s) : Cn q ∧ AQ τ q ∧ q ≠ [47] ∧ (s ≠ 0 ∧ ∃ n, AD τ.nodes q = some n ∧ n.st.own = s) := by
 have h1 := (IT (h.ok.sorted.nodup EC)).1 hq
 obtain ⟨h0, n, h2, h3⟩ := h1
 have ht : AQ τ q := EE.2 ⟨n, h2⟩
 have hne : q ≠ [47] := fun e => by
  subst e
  obtain ⟨r, g1, g2⟩ := h.root
  rw [h2] at g1; cases g1
  exact h0 (h3.symm.trans g2)
 exact ⟨h.able ht hne, ht, hne, h0, n, h2, h3⟩
theorem I9.at {τ : Tr} {s : Int} {l : List Pt} (h : I9 τ s l) {i : Nat} (hi : i < l.length) : l[i].path ∈ AG τ s := by
 have : l[i].path ∈ l.map (·.path) := mem_map_of_mem (getElem_mem hi)
 rw [h.paths] at this
 simpa using this
theorem I9.lt {τ : Tr} {s : Int} {l : List Pt} (h : I9 τ s l) {N : Nat} (ho : τ.Ok N) {i j : Nat} (hi : i < l.length) (hj : j < i) : l[i].path < l[j].path := by
 have hs := Ol ho s
 have hp : (l.map (·.path)).Pairwise (fun a b => b < a) := by rw [h.paths]; exact pairwise_reverse.2 hs
 have := pairwise_iff_getElem.1 hp j i (by rw [length_map]; omega) (by rw [length_map]; exact hi) hj
 simpa using this
theorem I9.able {τ : Tr} (hW : WI τ) {s : Int} {l : List Pt} (h : I9 τ s l) : ∀ y ∈ l, y.kind = 2 ∧ Cn y.path := fun y hy => by
 obtain ⟨i, hi, rfl⟩ := mem_iff_getElem.1 hy
 exact ⟨h.kinds _ hy, (hW.owned (h.at hi)).1⟩
theorem I9.finds {τ : Tr} (hW : WI τ) {s : Int} {l : List Pt} (h : I9 τ s l) (zx : Int) {i : Nat} (hi : i < l.length) : Ds (AH τ zx (l.take i)).1 l[i] = true := by
 obtain ⟨ha, ht, hne, h0, n, hn, ho⟩ := hW.owned (h.at hi)
 have hk := h.kinds _ (getElem_mem hi)
 have hab : ∀ y ∈ l.take i, y.kind = 2 ∧ Cn y.path := fun y hy => h.able hW y (mem_of_mem_take hy)
 have hth : AQ (AH τ zx (l.take i)).1 l[i].path := by
  rw [NL _ hab]
  refine ⟨ht, fun y hy => ?_⟩
  obtain ⟨j, hj, rfl⟩ := mem_iff_getElem.1 hy
  have hj2 : j < i := by rw [length_take] at hj; omega
  rw [getElem_take]
  cases e : Bj l[i].path l[j].path with
  | false => rfl
  | true => exact absurd (h.lt hW.ok hi hj2) (AAo e)
 have hkid : (Bf (AH τ zx (l.take i)).1 l[i].path).length = 0 := by
  have : Bf (AH τ zx (l.take i)).1 l[i].path = [] := by
   unfold Bf
   rw [map_eq_nil_iff, filter_eq_nil_iff]
   rintro ⟨c, m⟩ hm
   simp only [Bool.and_eq_true, Bool.not_eq_true', decide_eq_false_iff_not, decide_eq_true_eq, not_and]
   intro hc hp
   have hct : AQ (AH τ zx (l.take i)).1 c := (Cq).2 (mem_map_of_mem (f := (·.1)) hm)
   have hct2 := ((NL _ hab).1 hct).1
   exact hW.bare _ n hn (by rw [ho]; exact h0) c hct2 hc hp
  rw [this]; rfl
 unfold Ds
 rw [if_neg om, if_pos hk]
 exact decide_eq_true ⟨hne, hth, hkid⟩
theorem I9.wi {τ : Tr} (hW : WI τ) {s : Int} {l : List Pt} (h : I9 τ s l) (zx : Int) : ∀ i, i ≤ l.length → WI (AH τ zx (l.take i)).1 := by
 intro i
 induction i with
 | zero => intro _; exact hW
 | succ i ih =>
  intro hi
  have hk := h.kinds _ (getElem_mem (show i < l.length by omega))
  have ha := h.acl _ (getElem_mem (show i < l.length by omega))
  rw [Qs om]
  exact (ih om).part zx ⟨by omega, .inr (h.finds hW zx om), by rw [ha.2]; exact Nat.zero_le _, by rw [ha.1]; exact Nat.zero_le _, fun g => by omega⟩
theorem I9.sound {τ : Tr} (hW : WI τ) {s : Int} {l : List Pt} (h : I9 τ s l) (zx : Int) : DK τ zx true (l.filter Fb) = true :=
 (LI zx true l τ).2 fun i hi _ => ⟨h.finds hW zx hi, fun _ => h.kinds _ (getElem_mem hi)⟩
theorem I9.none {τ : Tr} (hW : WI τ) {s : Int} (h0 : s ≠ 0) {l : List Pt} (h : I9 τ s l) (zx : Int) : ∀ q n, AD (AH τ zx l).1.nodes q = some n → n.st.own ≠ s := by
 intro q n hq e
 have ha : ∀ j (hj : j < l.length), j < l.length → Cn l[j].path := fun j hj _ => (h.able hW _ (getElem_mem hj)).2
 have hq' : AD (AH τ zx (l.take l.length)).1.nodes q = some n := by rw [take_length]; exact hq
 obtain ⟨⟨n0, g1, g2⟩, g3⟩ := VL h.kinds l.length (Nat.le_refl _) ha q n hq'
 have hm : q ∈ AG τ s := (IT (hW.ok.sorted.nodup EC)).2 ⟨h0, n0, g1, g2.trans e⟩
 have hm2 : q ∈ l.map (·.path) := by rw [h.paths]; simpa using hm
 obtain ⟨y, hy, rfl⟩ := mem_map.1 hm2
 obtain ⟨j, hj, rfl⟩ := mem_iff_getElem.1 hy
 have := g3 j hj hj
 rw [WJ] at this; cases this
theorem WI.drop {τ : Tr} (h : WI τ) (id : Int) : WI (dropS τ id) := by
 refine ⟨h.ok.dropS id, h.root, h.closed, h.data, h.bare, h.few, fun i s hi => ?_⟩
 have hm := EB hi
 have hm2 := (mem_filter.1 hm).1
 exact h.ids i s (CE (h.ok.ssorted.nodup Vf) hm2)
/-! ### An entry -/
theorem PV {τ : Tr} {N : Nat} (ho : τ.Ok N) {s : Int} (h : ∀ q n, AD τ.nodes q = some n → n.st.own ≠ s) : AG τ s = [] := by
 rw [eq_nil_iff_forall_not_mem]
 intro q hq
 obtain ⟨-, n, h1, h2⟩ := (IT (ho.sorted.nodup EC)).1 hq
 exact h q n h1 h2
theorem Iy {u : B4} : ∀ {l : List Rq} {τ : Tr}, (Bd u l τ).2.1.length ≤ l.length
 | [], _ => Nat.le_refl _
 | r :: l, τ => by
  rw [C0]
  split
  ·exact Nat.zero_le _
  ·exact Nat.succ_le_succ (Iy (l := l))
theorem Hl {z s i : Int} (hz : Az z) (hs : Az s) (hi : Az i) {x : Pt} {l : List Pt} {c d : Nat} (hx : (Ia x).length ≤ c) (hl : ∀ y ∈ l, (Ia y).length ≤ d) (hn : l.length < 128) : (NV ⟨z, s, i, x, l⟩).length ≤ 31 + c + l.length * d := by
 have h1 := GG hz
 have h2 := GG hs
 have h3 := GG hi
 have h4 := NO (f := Ia) (c := d) (l := l) hl
 rw [UE]
 unfold Jo Ct
 rw [length_append, DS, if_pos hn]
 simp only [flatMap_cons, flatMap_nil, length_append, length_nil, length_singleton]
 omega
theorem O5 {k o n e : Int} (hk : Az k) (ho : Az o) (hn : Az n) (he : Az e) : (Ia ⟨k, [], [], AF, [], o, n, e, AF⟩).length ≤ 43 := by
 have hB : Cs ⟨k, [], [], AF, [], o, n, e, AF⟩ := ⟨hk, ho, hn, he, Nat.zero_le _, Nat.zero_le _, Nat.zero_le _, fun a ha => by cases ha⟩
 have h1 := hB.len
 have h2 : (Fh ([] : List Ac)).length ≤ 1 := by simp [Fh, Ct, DS]
 have h1 : (Ia ⟨k, [], [], AF, [], o, n, e, AF⟩).length ≤ 42 + 0 + 0 + (Fh ([] : List Ac)).length := h1
 omega
structure RJ (τ : Tr) (z s i : Int) (x : Pt) (l : List Pt) : Prop where
 sound : HB τ z x (l.filter Fb) = true
 wi : WI (AC τ z x l).1
 len : (NV ⟨z, s, i, x, l⟩).length ≤ 4000
 same : x.kind = 8 ∨ x.kind = 0 → (AC τ z x l).1 = zxT τ z
 shut : x.kind = 6 → AG (AC τ z x l).1 s = []
theorem Xx {τ : Tr} (h : WI τ) {z s i : Int} (hz : Az z) (hs : Az s) (hi : Az i) {e n : Int} (he : Az e) (hn : Az n) : RJ τ z s i (Aw e n) [] := by
 have hb := O5 (k := 8) ⟨by decide, by decide⟩ Az.zero hn he
 have ha : (AC τ z (Aw e n) []).1 = zxT τ z := by
  unfold AC
  dsimp only
  rw [if_neg (by show ¬ (8 : Int) = 5; decide), if_neg (by show ¬ (8 : Int) = 6; decide), if_neg (by show ¬ (8 : Int) = 7; decide), if_pos (by rfl)]
 refine ⟨?_, by rw [ha]; exact h.zx z, ?_, fun _ => ha, fun g => absurd g (by show ¬ (8 : Int) = 6; decide)⟩
 ·unfold HB
  rw [if_neg (by show ¬ ((8 : Int) = 1 ∨ (8 : Int) = 2 ∨ (8 : Int) = 3 ∨ (8 : Int) = 4); decide), if_neg (by show ¬ ((8 : Int) = 6 ∨ (8 : Int) = 7); decide)]
 ·have := Hl (x := Aw e n) (l := []) (d := 0) hz hs hi hb (fun _ g => by cases g) dQ
  simp only [length_nil] at this
  omega
theorem Yh {τ : Tr} (h : WI τ) {z s i : Int} (hz : Az z) (hs : Az s) (hi : Az i) {x : Pt} (hW : QQ τ x) (hB : Cs x) : RJ τ z s i x [] := by
 have hk := hW.kind
 have hp : KT x := by unfold KT; omega
 have ha : (AC τ z x []).1 = zxT (AJ τ x z).1 z := by rw [NK hp, P8]
 refine ⟨?_, by rw [ha]; exact (h.part z hW).zx z, ?_, fun g => ?_, fun g => by omega⟩
 ·unfold HB
  split
  ·rename_i g
   exact hW.finds.resolve_left om
  ·rw [if_neg om]
 ·have := Hl (x := x) (l := []) (d := 0) hz hs hi hB.some (fun _ g => by cases g) dQ
  simp only [length_nil] at this
  omega
 ·rw [ha, Gf om]
theorem AAA {τ : Tr} (h : WI τ) {u : B4} (hu : 1 ≤ u.ses ∧ u.ses ≤ 5) {z s i : Int} (hz : Az z) (hs : Az s) (hi : Az i) (l : List Rq) : RJ τ z s i (A3 τ u l).1 (A3 τ u l).2 := by
 have hm : Az (-1) := ⟨by decide, by decide⟩
 unfold A3
 split
 ·exact Xx h hz hs hi ⟨by decide, by decide⟩ hm
 ·rename_i hl
  split
  ·rename_i j e he
   have := Eg he
   exact Xx h hz hs hi ⟨by omega, by omega⟩ ⟨by omega, by omega⟩
  ·rename_i hn
   obtain ⟨h1, h2, h3⟩ := Iv hu z (l := l) (σ := τ) (υ := τ) rfl h hn
   have hlen : (Bd u l τ).2.1.length ≤ l.length := Iy
   have ha : (AC τ z ⟨7, [], [], AF, [], 0, 0, 0, AF⟩ (Bd u l τ).2.1).1 = zxT (AH τ z (Bd u l τ).2.1).1 z := by
    unfold AC
    dsimp only
    rw [if_neg dQ, if_neg dQ, if_pos rfl, Oe]
   dsimp only
   refine ⟨?_, by rw [ha]; exact h2.zx z, ?_, fun g => absurd g (by show ¬ ((7 : Int) = 8 ∨ (7 : Int) = 0); decide), fun g => absurd g (by show ¬ (7 : Int) = 6; decide)⟩
   ·unfold HB
    rw [if_neg (by show ¬ ((7 : Int) = 1 ∨ (7 : Int) = 2 ∨ (7 : Int) = 3 ∨ (7 : Int) = 4); decide), if_pos (by show (7 : Int) = 6 ∨ (7 : Int) = 7; decide)]
    exact h1
   ·have hb := O5 (k := 7) (o := 0) (n := 0) (e := 0) ⟨by decide, by decide⟩ Az.zero Az.zero Az.zero
    have := Hl hz hs hi hb (fun y hy => (h3 y hy).some) (l := (Bd u l τ).2.1) om
    have h8 : (Bd u l τ).2.1.length * 363 ≤ 8 * 363 := Nat.mul_le_mul_right _ om
    omega
theorem ZB {τ : Tr} (h : WI τ) {s : Int} (h0 : 1 ≤ s ∧ s ≤ 5) {z i : Int} (hz : Az z) (hi : Az i) : RJ τ z s i (Cy τ s).1 (Cy τ s).2 := by
 have hs : Az s := ⟨by omega, by omega⟩
 have hB := M2 (l := (AG τ s).reverse) (τ := τ) (fun p hp => GT h.ok (mem_reverse.1 hp))
 have hN := fun y hy => (Hm (l := (AG τ s).reverse) (τ := τ) y hy).2
 have hD : I9 τ s (A0 (AG τ s).reverse τ) := ⟨JX _ _, hN, fun y hy => ⟨(hB y hy).2.2, (hB y hy).2.1⟩⟩
 have hlen : (A0 (AG τ s).reverse τ).length ≤ 32 := by
  rw [Ch, length_reverse]; exact h.few s
 have hf : (A0 (AG τ s).reverse τ).filter Ai = A0 (AG τ s).reverse τ := Sh hN
 have ha : (AC τ z (Cy τ s).1 (Cy τ s).2).1 = dropS (zxT (AH τ z (A0 (AG τ s).reverse τ)).1 z) s := by
  unfold AC Cy
  dsimp only
  rw [if_neg dQ, if_pos rfl, hf, Oe]
 have hw := hD.wi h z _ (Nat.le_refl _)
 rw [take_length] at hw
 refine ⟨?_, by rw [ha]; exact (hw.zx z).drop s, ?_, fun g => absurd g (by show ¬ ((6 : Int) = 8 ∨ (6 : Int) = 0); decide), fun _ => ?_⟩
 ·unfold HB
  rw [if_neg (by show ¬ ((6 : Int) = 1 ∨ (6 : Int) = 2 ∨ (6 : Int) = 3 ∨ (6 : Int) = 4); decide), if_pos (by show (6 : Int) = 6 ∨ (6 : Int) = 7; decide)]
  exact hD.sound h z
 ·have hb := O5 (k := 6) (o := s) (n := 0) (e := 0) ⟨by decide, by decide⟩ hs Az.zero Az.zero
  have := Hl hz hs hi hb (d := 103) (fun y hy => ?_) (l := A0 (AG τ s).reverse τ) om
  ·have h8 : (A0 (AG τ s).reverse τ).length * 103 ≤ 32 * 103 := Nat.mul_le_mul_right _ hlen
   show (NV ⟨z, s, i, ⟨6, [], [], AF, [], s, 0, 0, AF⟩, A0 (AG τ s).reverse τ⟩).length ≤ 4000
   omega
  ·obtain ⟨h1, h2, h3⟩ := hB y hy
   have h4 := h1.len
   have h5 := h1.path
   have h6 : (Fh ([] : List Ac)).length ≤ 1 := by simp [Fh, Ct, DS]
   rw [h2, h3] at h4
   simp only [length_nil] at h4
   omega
 ·rw [ha]
  have := PV hw.ok (hD.none h om z)
  exact this
theorem RJ.of {τ : Tr} {z s i : Int} {x y : Pt} {l ys : List Pt} (h : RJ τ z s i x l) (hy : y.pl = x) (hys : ys.map Pt.pl = l) : RJ τ z s i y ys := by
 subst hy; subst hys
 have hf : (ys.map Pt.pl).filter Fb = (ys.filter Fb).map Pt.pl := by rw [filter_map]; rfl
 have hL : ∀ (cl : Bool) (l : List Pt) (τ : Tr), DK τ z cl (l.map Pt.pl) = DK τ z cl l := by
  intro cl l
  induction l with
  | nil => intro τ; rfl
  | cons x l ih =>
   intro τ
   rw [map_cons, DK, DK, ih]; rfl
 have h1 := h.sound
 rw [hf] at h1
 have e1 : HB τ z y.pl ((ys.filter Fb).map Pt.pl) = HB τ z y (ys.filter Fb) := by
  unfold HB
  rw [hL]; rfl
 have h2 := h.wi
 have h4 := h.same
 have h5 := h.shut
 rw [Gj] at h2 h4 h5
 refine ⟨e1 ▸ h1, h2, ?_, h4, h5⟩
 have h3 := h.len
 rw [← ABZ]
 exact h3
/-! ### What is laid within limits is read -/
def Cc {α : Type} (f : Rn α) (b : Bs) (x : α) : Prop := ∀ r, f (some (b ++ r)) = (x, some r)
theorem Cc.bind {α β : Type} {f : Rn α} {g : α → Rn β} {b c : Bs} {x : α} {y : β} (hf : Cc f b x) (hg : Cc (g x) c y) : Cc (Er f g) (b ++ c) y := fun r => by
 rw [append_assoc]; unfold Er; rw [hf]; exact hg r
theorem Cc.end_ {α β : Type} {f : Rn α} {g : α → β} {b : Bs} {x : α} (hf : Cc f b x) : Cc (Er f fun x => Xi (g x)) b (g x) := fun r => by
 unfold Er Xi; rw [hf]
theorem FD {n : Int} (h : Az n) : Cc Ae (EV n) n := fun r => by unfold Ae CM; dsimp only; rw [Yr h]
theorem Ma {s : Bs} (h : s.length ≤ 4096) : Cc Bi (FK s) s := fun r => by unfold Bi CM; dsimp only; rw [V5 h dQ]
theorem Wc {n : Nat} (h : n ≤ 256) : Cc PD (Ct n) n := fun r => by unfold PD CM; dsimp only; rw [QL h dQ]
theorem OD {α : Type} {f : Rn α} {E : α → Bs} {l : List α} (h : ∀ x ∈ l, Cc f (E x) x) : ∀ i, i ≤ l.length → Cc (A4 f i) ((l.take i).flatMap E) (l.take i)
 | 0, _ => by rw [take_zero]; exact fun r => rfl
 | i + 1, hi => by
  have ih := OD h i om
  rw [take_succ_eq_append_getElem om, flatMap_append]
  intro r
  rw [append_assoc]
  have hx := h l[i] (getElem_mem om)
  have e : [l[i]].flatMap E = E l[i] := by simp
  show ((A4 f i _).1 ++ [(f (A4 f i _).2).1], (f (A4 f i _).2).2) = _
  rw [ih, e, hx]
theorem OP {α : Type} {f : Rn α} {E : α → Bs} {l : List α} (hl : l.length ≤ 256) (h : ∀ x ∈ l, Cc f (E x) x) : Cc (CQ f) (Ct l.length ++ l.flatMap E) l := by
 have := OD h l.length (Nat.le_refl _)
 rw [take_length] at this
 exact Cc.bind (Wc hl) this
theorem Z4 {a : Ac} (h1 : Az a.1) (h2 : a.2.length ≤ 4096) : Cc HR (Ln a) a := Cc.bind (FD h1) (Cc.end_ (g := fun s => (a.1, s)) (Ma h2))
theorem UL {y : Pt} (h : Cs y) : Cc Lh (Ia y) y.pl := by
 have e : Ia y = EV y.kind ++ (FK y.path ++ (FK y.data ++ (Fh y.acl ++ (EV y.own ++ (EV y.num ++ EV y.err))))) := by
  unfold Ia; simp [append_assoc]
 have hp := h.path
 have hd := h.data
 rw [e]
 refine Cc.bind (FD h.kind) (Cc.bind (Ma om) (Cc.bind (Ma om) (Cc.bind (OP (by have := h.acl.1; omega) fun a ha => ?_) (Cc.bind (FD h.own) (Cc.bind (FD h.num) (Cc.end_ (g := fun x => (⟨y.kind, y.path, y.data, AF, y.acl, y.own, y.num, x, AF⟩ : Pt)) (FD h.err)))))))
 have := h.acl.2 a ha
 exact Z4 ⟨by omega, by omega⟩ om
theorem Cs.pl {y : Pt} (h : Cs y) : Cs y.pl := ⟨h.kind, h.own, h.num, h.err, h.path, h.data, h.acl⟩
theorem Cs.of {y z : Pt} (e : y.pl = z.pl) (h : Cs z) : Cs y := by
 have h1 := h.pl
 rw [← e] at h1
 exact ⟨h1.kind, h1.own, h1.num, h1.err, h1.path, h1.data, h1.acl⟩
structure ZL (e : En) : Prop where
 zx : Az e.zx
 ses : Az e.ses
 xid : Az e.xid
 x : Cs e.x
 subs : ∀ y ∈ e.subs, Cs y
 few : e.subs.length ≤ 64
 len : (NV e).length ≤ 4000
theorem ZL.get {e : En} (h : ZL e) : QS (NV e) = some e.pl := by
 have e1 : NV e = EV e.zx ++ (EV e.ses ++ (EV e.xid ++ (Ia e.x ++ (Ct (e.subs.map Pt.pl).length ++ (e.subs.map Pt.pl).flatMap Ia)))) := by
  have : Ct (e.subs.map Pt.pl).length ++ (e.subs.map Pt.pl).flatMap Ia = Jo e.subs := RU e.subs
  rw [this]
  unfold NV; simp [append_assoc]
 have hF : Cc Yv (NV e) e.pl := by
  rw [e1]
  refine Cc.bind (FD h.zx) (Cc.bind (FD h.ses) (Cc.bind (FD h.xid) (Cc.bind (UL h.x) (Cc.end_ (g := fun l => (⟨e.zx, e.ses, e.xid, e.x.pl, l⟩ : En)) (OP (by rw [length_map]; have := h.few; omega) fun y hy => ?_)))))
  obtain ⟨z, hz, rfl⟩ := mem_map.1 hy
  exact UL (h.subs z hz).pl
 have := hF []
 rw [append_nil] at this
 unfold QS
 rw [this]; rfl
/-! ### A tree without its sessions -/
def HZ (τ : Tr) : Tr := ⟨τ.nodes, [], τ.zx⟩
theorem RS (τ : Tr) (x : Pt) (z : Int) : (AJ (HZ τ) x z).1 = HZ (AJ τ x z).1 := by
 rw [FL, FL]
 have key : ∀ {c d : Prop} [Decidable c] [Decidable d] {a b a' b' : Tr}, (c ↔ d) → a = HZ a' → b = HZ b' → (if c then a else b) = HZ (if d then a' else b') := by
  intro c d _ _ a b a' b' h h1 h2
  by_cases g : c
  ·rw [if_pos g, if_pos (h.1 g)]; exact h1
  ·rw [if_neg g, if_neg (fun k => g (h.2 k))]; exact h2
 exact key Iff.rfl (key Iff.rfl rfl rfl) (key Iff.rfl (key Iff.rfl rfl rfl) (key Iff.rfl rfl (key Iff.rfl rfl rfl)))
theorem Kd (z : Int) : ∀ (l : List Pt) (τ : Tr), (AH (HZ τ) z l).1 = HZ (AH τ z l).1
 | [], _ => rfl
 | x :: l, τ => by rw [GH, GH, RS, Kd z l]
theorem Lo {τ : Tr} {z : Int} {x : Pt} {l : List Pt} (h5 : x.kind ≠ 5) : (AC (HZ τ) z x l).1 = HZ (AC τ z x l).1 := by
 have hz : zxT (HZ τ) z = HZ (zxT τ z) := rfl
 unfold AC
 dsimp only
 rw [if_neg h5, if_neg h5, hz]
 split
 ·show dropS (AH (HZ (zxT τ z)) z _).1 x.own = HZ (dropS (AH (zxT τ z) z _).1 x.own)
  rw [Kd]; rfl
 split
 ·exact Kd z l _
 split
 ·rfl
 ·exact RS _ _ _
theorem KK (τ : Tr) (u : B4) (r : Rq) : AU (HZ τ) u r = AU τ u r := rfl
theorem G8 (u : B4) : ∀ (l : List Rq) (τ : Tr), (Bd u l (HZ τ)).2 = (Bd u l τ).2
 | [], _ => rfl
 | r :: l, τ => by
  rw [C0, C0, KK]
  split
  ·rfl
  ·have e : (AC (HZ τ) (HZ τ).zx (AU τ u r).1 []).1 = HZ (AC τ τ.zx (AU τ u r).1 []).1 := Lo (HL τ u r).1
   dsimp only
   rw [e, G8 u l]
theorem Sl (τ : Tr) (u : B4) (l : List Rq) : A3 (HZ τ) u l = A3 τ u l := by
 unfold A3
 rw [G8]
theorem Md : ∀ (l : List Bs) (τ : Tr), A0 l (HZ τ) = A0 l τ
 | [], _ => rfl
 | p :: l, τ => by
  show CJ (HZ τ) p :: A0 l (AC (HZ τ) (HZ τ).zx (CJ (HZ τ) p) []).1 = CJ τ p :: A0 l (AC τ τ.zx (CJ τ p) []).1
  have e0 : CJ (HZ τ) p = CJ τ p := rfl
  have e : (AC (HZ τ) (HZ τ).zx (CJ τ p) []).1 = HZ (AC τ τ.zx (CJ τ p) []).1 := Lo (by show (2 : Int) ≠ 5; decide)
  rw [e0, e, Md l]
theorem SE (τ : Tr) (s : Int) : Cy (HZ τ) s = Cy τ s := by
 unfold Cy
 rw [Md]; rfl
/-! ### A transaction of the service -/
structure AA6 (τ : Tr) (z s i : Int) (x : Pt) (l : List Pt) : Prop where
 e : RJ (HZ τ) z s i x l
 x : Cs x
 subs : ∀ y ∈ l, Cs y
 few : l.length ≤ 64
theorem Xn {e n : Int} (he : Az e) (hn : Az n) : Cs (Aw e n) := ⟨⟨by show (-9223372036854775808 : Int) ≤ 8; decide, by show (8 : Int) ≤ 9223372036854775807; decide⟩, Az.zero, hn, he, Nat.zero_le _, Nat.zero_le _, Nat.zero_le _, fun a ha => by cases ha⟩
theorem ABr {τ : Tr} (hW : WI (HZ τ)) {u : B4} (hu : 1 ≤ u.ses ∧ u.ses ≤ 5) (r : Rq) (subs : List Rq) {z i : Int} (hz : Az z) (hi : Az i) : AA6 τ z u.ses i (CP τ u r subs).1 (CP τ u r subs).2 := by
 have hs : Az u.ses := ⟨by omega, by omega⟩
 have hm : Az (-1) := ⟨by decide, by decide⟩
 have ref : ∀ e n : Int, Az e → Az n → AA6 τ z u.ses i (Aw e n) [] := fun e n he hn => ⟨Xx hW hz hs hi he hn, Xn he hn, (fun _ h => by cases h), Nat.zero_le _⟩
 have bare : ∀ k o : Int, Az k → Az o → Cs ⟨k, [], [], AF, [], o, 0, 0, AF⟩ := fun k o hk ho => ⟨hk, ho, Az.zero, Az.zero, Nat.zero_le _, Nat.zero_le _, Nat.zero_le _, fun a ha => by cases ha⟩
 unfold CP
 split
 ·exact ref 110 (-1) ⟨by decide, by decide⟩ hm
 split
 ·exact ref 67 (-1) ⟨by decide, by decide⟩ hm
 split
 ·have hE := AAA hW hu hz hs hi subs
  rw [Sl] at hE
  have hlim : Cs (A3 τ u subs).1 ∧ (∀ y ∈ (A3 τ u subs).2, Cs y) ∧ (A3 τ u subs).2.length ≤ 64 := by
   unfold A3
   split
   ·exact ⟨Xn ⟨by decide, by decide⟩ hm, (fun _ h => by cases h), Nat.zero_le _⟩
   ·rename_i hl
    split
    ·rename_i j e he
     have := Eg he
     exact ⟨Xn ⟨by omega, by omega⟩ ⟨by omega, by omega⟩, (fun _ h => by cases h), Nat.zero_le _⟩
    ·rename_i hn
     have h3 := Iv hu z (l := subs) (σ := HZ τ) (υ := HZ τ) rfl hW (by rw [G8]; exact hn)
     rw [G8] at h3
     have hlen : (Bd u subs τ).2.1.length ≤ subs.length := Iy
     exact ⟨bare 7 0 ⟨by decide, by decide⟩ Az.zero, h3.2.2, by dsimp only; omega⟩
  exact ⟨hE, hlim.1, hlim.2.1, hlim.2.2⟩
 split
 ·have noop : QQ (HZ τ) FN ∧ Cs FN := ⟨⟨⟨Int.le_refl _, by decide⟩, .inl rfl, Nat.zero_le _, Nat.zero_le _, fun g => absurd g dQ⟩, bare 0 0 Az.zero Az.zero⟩
  exact ⟨Yh hW hz hs hi noop.1 noop.2, noop.2, (fun _ h => by cases h), Nat.zero_le _⟩
 split
 ·have hE := ZB hW hu hz hi
  rw [SE] at hE
  have hB := M2 (l := (AG τ u.ses).reverse) (τ := τ) (fun p hp => GT hW.ok (mem_reverse.1 hp))
  have hlen : (A0 (AG τ u.ses).reverse τ).length ≤ 64 := by
   rw [Ch, length_reverse]
   have := hW.few u.ses
   exact Nat.le_trans this dQ
  exact ⟨hE, bare 6 u.ses ⟨by decide, by decide⟩ hs, fun y hy => (hB y hy).1, hlen⟩
 split
 ·have := Kq τ u r
  exact ref _ (-1) ⟨by omega, by omega⟩ hm
 ·rename_i g
  have := Tw hW (u := u) hu (r := r) (by rw [KK]; omega)
  rw [KK] at this
  exact ⟨Yh hW hz hs hi this.1 this.2, this.2, (fun _ h => by cases h), Nat.zero_le _⟩
/-! ### Owners -/
def GX (τ : Tr) (Q : Int → Prop) : Prop := ∀ y ∈ τ.nodes, Q y.2.st.own
theorem GX.amod {l : List PN} {Q : Int → Prop} (h : ∀ y ∈ l, Q y.2.st.own) (p : Bs) {f : Nd → Nd} (hf : ∀ n, (f n).st.own = n.st.own) : ∀ y ∈ amod l p f, Q y.2.st.own := fun y hy => by
 obtain ⟨x, hx, -, e | ⟨-, e⟩⟩ := KD hy
 ·rw [e]; exact h x hx
 ·rw [e, hf]; exact h x hx
theorem GX.part {τ : Tr} {Q : Int → Prop} (h : GX τ Q) {x : Pt} (hx : x.kind = 1 → Q x.own) (z : Int) : GX (AJ τ x z).1 Q := by
 rw [FL]
 split
 ·rename_i h1
  split
  ·refine GX.amod (fun y hy => ?_) _ (f := kidN x.num z) fun n => rfl
   rcases FM (show y ∈ sset τ.nodes x.path (DU x z) from hy) with rfl | hy
   ·exact hx h1
   ·exact h y hy
  ·exact h
 split
 ·split
  ·exact GX.amod (fun y hy => h y (mem_filter.1 hy).1) _ (f := kidN x.num z) fun n => rfl
  ·exact h
 split
 ·exact GX.amod h _ (f := F0 x.data x.num z) fun n => rfl
 split
 ·exact GX.amod h _ (f := FT x.acl x.num) fun n => rfl
 ·exact h
theorem GX.parts {Q : Int → Prop} (z : Int) : ∀ {l : List Pt} {τ : Tr}, GX τ Q → (∀ x ∈ l, x.kind = 1 → Q x.own) → GX (AH τ z l).1 Q
 | [], _, h, _ => h
 | x :: l, τ, h, hl => by
  rw [GH]
  exact GX.parts z (h.part (hl x mem_cons_self) z) fun y hy => hl y (mem_cons_of_mem _ hy)
theorem GX.app {τ : Tr} {Q : Int → Prop} (h : GX τ Q) {x : Pt} {l : List Pt} (hx : x.kind = 1 → Q x.own) (hl : ∀ y ∈ l, y.kind = 1 → Q y.own) (z : Int) : GX (AC τ z x l).1 Q := by
 unfold AC
 dsimp only
 split
 ·split <;> exact h
 split
 ·exact GX.parts z (τ := zxT τ z) h fun y hy => hl y (mem_filter.1 hy).1
 split
 ·exact GX.parts z (τ := zxT τ z) h hl
 split
 ·exact h
 ·exact GX.part (τ := zxT τ z) h hx z
theorem OX (τ : Tr) (u : B4) (r : Rq) : (AU τ u r).1.own = 0 ∨ (AU τ u r).1.own = u.ses := by
 unfold AU
 split
 ·show (if andI r.flags 1 ≠ 0 then u.ses else 0) = 0 ∨ (if andI r.flags 1 ≠ 0 then u.ses else 0) = u.ses
  split
  ·exact .inr rfl
  ·exact .inl rfl
 split
 ·exact .inl rfl
 split
 ·unfold FJ
  split
  ·exact .inl rfl
  split <;> exact .inl rfl
 ·exact .inl rfl
theorem Mg {u : B4} : ∀ {l : List Rq} {τ : Tr}, ∀ y ∈ (Bd u l τ).2.1, y.own = 0 ∨ y.own = u.ses
 | [], _, _, h => by cases h
 | r :: l, τ, y, hy => by
  rw [C0] at hy
  split at hy
  ·cases hy
  ·rcases mem_cons.1 hy with rfl | hy
   ·exact OX τ u r
   ·exact Mg y hy
theorem Zr (τ : Tr) (u : B4) (r : Rq) (subs : List Rq) : ((CP τ u r subs).1.kind = 1 → (CP τ u r subs).1.own = 0 ∨ (CP τ u r subs).1.own = u.ses) ∧ ∀ y ∈ (CP τ u r subs).2, y.kind = 1 → y.own = 0 ∨ y.own = u.ses := by
 unfold CP
 split
 ·exact ⟨fun _ => .inl rfl, fun _ h => by cases h⟩
 split
 ·exact ⟨fun _ => .inl rfl, fun _ h => by cases h⟩
 split
 ·unfold A3
  split
  ·exact ⟨fun _ => .inl rfl, fun _ h => by cases h⟩
  ·split
   ·exact ⟨fun _ => .inl rfl, fun _ h => by cases h⟩
   ·exact ⟨fun _ => .inl rfl, fun y hy _ => Mg y hy⟩
 split
 ·exact ⟨fun _ => .inl rfl, fun _ h => by cases h⟩
 split
 ·exact ⟨fun _ => .inr rfl, fun y hy hk => absurd ((Hm y hy).2.symm.trans hk) dQ⟩
 split
 ·exact ⟨fun _ => .inl rfl, fun _ h => by cases h⟩
 ·exact ⟨fun _ => OX τ u r, fun _ h => by cases h⟩
structure Lx (π : Pl) : Prop where
 wi : WI (HZ π.τ)
 own : GX π.τ fun o => o = 0 ∨ Cg π.τ o
 rep : HS Du π.ord = π.τ
 zx : ∀ i (hi : i < π.ord.length), π.ord[i].zx = 4294967296 + (i : Int) + 1
 each : ∀ e ∈ π.ord, ZL e ∧ Vw (entR e) e ∧ D8 65536 e.x e.subs
 few : ∀ x ∈ π.τ.sess, 1 ≤ x.1
theorem ZA : Lx Jx := by
 refine ⟨WI.new, fun y hy => ?_, rfl, (fun i hi => by cases hi), (fun e he => by cases he), fun x hx => by cases hx⟩
 have hy : y ∈ [(([47] : Bs), (⟨[], [(31, [119, 111, 114, 108, 100])], st0⟩ : Nd))] := hy
 rw [mem_singleton] at hy
 rw [hy]; exact .inl rfl
theorem WS {e : En} (h : ZL e) (hc : AB e.x.aclV = true ∧ ∃ a c, e.x.subsV = .slice a e.subs.length c) (hcs : ∀ z ∈ e.subs, AB z.aclV = true ∧ z.subsV = AF) : Vw (entR e) e := by
 have hu : FS = 18446744073709551616 := rfl
 have hf := h.few
 have hl := h.len
 obtain ⟨h1, a, c, h2⟩ := hc
 have hP : ∀ y : Pt, Cs y → PtI y := fun y hy => by
  have h3 := hy.path
  have h4 := hy.data
  have h5 := hy.acl.1
  refine ⟨hy.kind, hy.own, hy.num, hy.err, by omega, by omega, by omega, fun a ha => ?_⟩
  have := hy.acl.2 a ha
  exact ⟨⟨by omega, by omega⟩, by omega⟩
 refine ⟨⟨⟨h.zx, h.ses, h.xid, hP _ h.x, by omega, fun y hy => hP _ (h.subs y hy)⟩, fun _ hp => L8 hp, fun _ hp => H2 hp, fun z hz _ hp => Jh hp hz⟩, by omega, ⟨by omega, by have := h.x.acl.1; omega, fun z hz => by have := (h.subs z hz).acl.1; omega⟩, ⟨h1, by rw [h2]; rfl⟩, fun z hz => ⟨(hcs z hz).1, by rw [(hcs z hz).2]; rfl⟩⟩
theorem AAT {π : Pl} {s x : Int} {y : Pt} {ys : List Pt} (hz : Az (Cp π)) (hs : Az s) (hx : Az x) (h : AA6 π.τ (Cp π) s x y.pl (ys.map Pt.pl)) : ZL (Bo π s x y ys) := by
 refine ⟨hz, hs, hx, Cs.of (z := y.pl) rfl h.x, fun z hz => Cs.of (z := z.pl) rfl (h.subs _ (mem_map_of_mem hz)), by have := h.few; rw [length_map] at this; exact this, ?_⟩
 have := (h.e.of rfl rfl).len
 exact this
theorem LC {τ : Tr} {u : B4} {r : Rq} {subs : List Rq} (h : (CP τ u r subs).1.kind = 6) : (CP τ u r subs).1.own = u.ses := by
 have h8 := Z7 h
 unfold CP at h ⊢
 split at h
 ·exact absurd h (by show ¬ (8 : Int) = 6; decide)
 split at h
 ·exact absurd h (by show ¬ (8 : Int) = 6; decide)
 rename_i g1 g2
 rw [if_neg g1, if_neg g2, if_neg om, if_neg om, if_pos h8]
 rfl
theorem Uy {α : Type} (l : List (Int × α)) (s o : Int) : AD (l.filter fun y => !decide (y.1 = s)) o = if o = s then none else AD l o := by
 rw [G5 (fun k => !decide (k = s))]
 by_cases e : o = s <;> simp [e]
theorem OK {τ : Tr} {z : Int} {y : Pt} {ys : List Pt} (h6 : y.kind = 6) {o : Int} (ho : o ≠ y.own) (h : Cg τ o) : Cg (AC τ z y ys).1 o := by
 have hp : (AH (zxT τ z) z (ys.filter Ai)).1.sess = τ.sess := by
  have := KN (τ := τ) (z := z) (y := ⟨7, [], [], AF, [], 0, 0, 0, AF⟩) (ys := ys.filter Ai) (by show (7 : Int) ≠ 5; decide) (by show (7 : Int) ≠ 6; decide)
  unfold AC at this
  dsimp only at this
  rw [if_neg dQ, if_neg dQ, if_pos rfl] at this
  exact this
 have e : (AC τ z y ys).1.sess = τ.sess.filter fun x => !decide (x.1 = y.own) := by
  unfold AC
  dsimp only
  rw [if_neg om, if_pos h6]
  show (AH (zxT τ z) z (ys.filter Ai)).1.sess.filter _ = _
  rw [hp]
 unfold Cg at h ⊢
 rw [e, Uy, if_neg ho]; exact h
theorem Lx.same {π ρ : Pl} (h : Lx π) (h1 : ρ.τ = π.τ) (h2 : ρ.ord = π.ord) : Lx ρ := by
 obtain ⟨a, b, c, d, e, f⟩ := h
 refine ⟨by rw [h1]; exact a, ?_, by rw [h1, h2]; exact c, ?_, by rw [h2]; exact e, by rw [h1]; exact f⟩
 ·rw [h1]; exact b
 ·rw [h2]; exact d
theorem T5 {π : Pl} (h : HS Du π.ord = π.τ) (s x : Int) (y : Pt) (ys : List Pt) : HS Du (Bl π s x y ys).ord = (Bl π s x y ys).τ := by
 show HS Du (π.ord ++ [Bo π s x y ys]) = _
 rw [KI, h]; rfl
theorem YG {π : Pl} (h : ∀ i (hi : i < π.ord.length), π.ord[i].zx = 4294967296 + (i : Int) + 1) (s x : Int) (y : Pt) (ys : List Pt) : ∀ i (hi : i < (Bl π s x y ys).ord.length), (Bl π s x y ys).ord[i].zx = 4294967296 + (i : Int) + 1 := by
 intro i hi
 have hi2 : i < (π.ord ++ [Bo π s x y ys]).length := hi
 show ((π.ord ++ [Bo π s x y ys])[i]'hi2).zx = _
 by_cases g : i < π.ord.length
 ·rw [getElem_append_left g]; exact h i g
 ·have hl : (π.ord ++ [Bo π s x y ys]).length = π.ord.length + 1 := by rw [length_append]; rfl
  have e : i = π.ord.length := by omega
  subst e
  rw [getElem_append_right (Nat.le_refl _)]
  simp only [Nat.sub_self, getElem_cons_zero]
  rfl
theorem Ru {π : Pl} {Q : En → Prop} (h : ∀ e ∈ π.ord, Q e) (s x : Int) (y : Pt) (ys : List Pt) (hq : Q (Bo π s x y ys)) : ∀ e ∈ (Bl π s x y ys).ord, Q e := by
 intro e he
 rcases mem_append.1 (show e ∈ π.ord ++ [Bo π s x y ys] from he) with g | g
 ·exact h e g
 ·rw [mem_singleton] at g
  rw [g]; exact hq
theorem Lx.txn {π : Pl} (h : Lx π) {u : B4} (hu : 1 ≤ u.ses ∧ u.ses ≤ 5) (hs : Cg π.τ u.ses) {r : Rq} {subs : List Rq} {x : Int} (hz : Az (Cp π)) (hx : Az x) {y : Pt} {ys : List Pt} (hy : y.pl = (CP π.τ u r subs).1) (hys : ys.map Pt.pl = (CP π.τ u r subs).2) (hG : D8 65536 y ys)
  (hc : AB y.aclV = true ∧ ∃ a c, y.subsV = .slice a ys.length c) (hcs : ∀ z ∈ ys, AB z.aclV = true ∧ z.subsV = AF) : Lx (Bl π u.ses x y ys) := by
 have hT := ABr h.wi hu r subs hz hx
 rw [← hy, ← hys] at hT
 have h5 : y.kind ≠ 5 := by
  have := Jn π.τ u r subs
  rw [← hy] at this; exact this
 have hO := Zr π.τ u r subs
 rw [← hy, ← hys] at hO
 have hQ : ∀ o : Int, o = 0 ∨ o = u.ses → o = 0 ∨ Cg π.τ o := fun o g => g.imp id fun e => by rw [e]; exact hs
 have hA : GX (AC π.τ (Cp π) y ys).1 fun o => o = 0 ∨ Cg π.τ o :=
  GX.app h.own (fun k => hQ _ (hO.1 k)) (fun z hz k => hQ _ (hO.2 z.pl (mem_map_of_mem hz) k)) _
 have hwi : WI (HZ (AC π.τ (Cp π) y ys).1) := by
  have := hT.e.wi
  rw [Gj, Lo h5] at this
  exact this
 have hs64 : Az u.ses := ⟨by omega, by omega⟩
 refine ⟨hwi, ?_, T5 h.rep _ _ _ _, YG h.zx _ _ _ _, Ru h.each _ _ _ _ ⟨AAT hz hs64 hx hT, WS (AAT hz hs64 hx hT) hc hcs, hG⟩, fun w hw => ?_⟩
 ·by_cases h6 : y.kind = 6
  ·have ho : y.own = u.ses := by
    have := LC (τ := π.τ) (u := u) (r := r) (subs := subs) (by rw [← hy]; exact h6)
    rw [← hy] at this; exact this
   intro n hn
   have hn : n ∈ (AC π.τ (Cp π) y ys).1.nodes := hn
   refine (hA n hn).imp id fun g => OK h6 (fun e => ?_) g
   have hsh := hT.e.shut h6
   rw [Gj, Lo h5] at hsh
   have hm : n.1 ∈ AG (HZ (AC π.τ (Cp π) y ys).1) u.ses :=
    (IT (hwi.ok.sorted.nodup EC)).2 ⟨by omega, n.2, CE (hwi.ok.sorted.nodup EC) hn, by rw [e, ho]⟩
   rw [hsh] at hm
   cases hm
  ·intro n hn
   refine (hA n hn).imp id fun g => ?_
   show (AD (AC π.τ (Cp π) y ys).1.sess _).isSome = true
   rw [KN h5 h6]; exact g
 ·rcases OT w hw with g | ⟨g, -⟩
  ·exact h.few w g
  ·exact absurd g h5
theorem Lx.opn {π : Pl} (h : Lx π) {n : Nat} (hB : Hf π n) (hn : n ≤ 4096) (t : Int) : Lx (JN π t).1 := by
 unfold JN
 split
 ·exact h
 ·have hop := hB.op
  have hlen := hB.ord
  have ho : Az (π.opened + 1) := ⟨by omega, by omega⟩
  have hz : Az (Cp π) := by unfold Cp; exact ⟨by omega, by omega⟩
  have hN : Az (min (max t 4) 60) := ⟨by omega, by omega⟩
  have e5 : (AC π.τ (Cp π) (Dz (π.opened + 1) t) []).1 = ⟨π.τ.nodes, sset π.τ.sess (π.opened + 1) (min (max t 4) 60, []), Cp π⟩ := by
   unfold AC
   dsimp only
   rw [if_pos (by rfl), if_pos (by show 0 < π.opened + 1; omega)]
   rfl
  have hb := O5 (k := 5) ⟨by decide, by decide⟩ ho hN Az.zero
  have hE : ZL (Bo (Gz π) (π.opened + 1) 0 (Dz (π.opened + 1) t) []) := by
   refine ⟨hz, ho, Az.zero, ⟨⟨by show (-9223372036854775808 : Int) ≤ 5; decide, by show (5 : Int) ≤ 9223372036854775807; decide⟩, ho, hN, Az.zero, Nat.zero_le _, Nat.zero_le _, Nat.zero_le _, fun a ha => by cases ha⟩, (fun _ h => by cases h), Nat.zero_le _, ?_⟩
   have := Hl (x := Dz (π.opened + 1) t) (l := []) (d := 0) hz ho Az.zero hb (fun _ g => by cases g) dQ
   simp only [length_nil] at this
   show (NV ⟨Cp π, π.opened + 1, 0, Dz (π.opened + 1) t, []⟩).length ≤ 4000
   omega
  have hM : Lx (Gz π) := h.same rfl rfl
  refine ⟨?_, ?_, T5 hM.rep _ _ _ _, YG hM.zx _ _ _ _, Ru hM.each _ _ _ _ ⟨hE, WS hE ⟨rfl, none, 0, rfl⟩ (fun _ h => by cases h), Lr ho _⟩, fun w hw => ?_⟩
  ·show WI (HZ (AC π.τ (Cp π) (Dz (π.opened + 1) t) []).1)
   rw [e5]
   exact h.wi.zx (Cp π)
  ·intro y hy
   have hy : y ∈ (AC π.τ (Cp π) (Dz (π.opened + 1) t) []).1.nodes := hy
   rw [e5] at hy
   refine (h.own y hy).imp id fun g => ?_
   show (AD (AC π.τ (Cp π) (Dz (π.opened + 1) t) []).1.sess _).isSome = true
   rw [e5]
   dsimp only
   rw [GF]
   split
   ·rfl
   ·exact g
  ·have hw : w ∈ (AC π.τ (Cp π) (Dz (π.opened + 1) t) []).1.sess := hw
   rw [e5] at hw
   rcases FM hw with g | g
   ·rw [g]; show 1 ≤ π.opened + 1; omega
   ·exact h.few w g
theorem Lx.read {π : Pl} (h : Lx π) (s : Int) (r : Rq) (l : List If) : Lx (B9 π s r l).1 := h.same (Kr π s r l).1 (Kr π s r l).2
theorem Lx.call {π : Pl} (h : Lx π) {n : Nat} (hB : Hf π n) (hn : n ≤ 4096) {q : HP} {s : Int} (hs : Cg π.τ s → 1 ≤ s ∧ s ≤ 5) {r : Rq} {subs : List Rq} {l : List If} (hA : H3 q s r subs l) {π' : Pl} {x : Rp} {kids : List Bs} {e : Int} (hC : MI π s r subs l π' x kids e) : Lx π' := by
 by_cases hse : Cg π.τ s
 ·by_cases hk : Bw r.kind = true
  ·obtain ⟨-, -, y, ys, hy, hys, hc1, hc2, hcs, rfl, -⟩ := hC.chg hse hk
   have hG0 : D8 (1 + 9 * n) (CP π.τ ⟨s, π.ids s⟩ r subs).1 (CP π.τ ⟨s, π.ids s⟩ r subs).2 := Ro hB.ok (hA.d.more (a := Af 9 1 (.slice (some ⟨0, 0, none⟩) (π.ids s).length (π.ids s).length) (π.ids s).length (A6 (π.ids s))) (fun _ hp => Aa hp) (by have := hB.ids s; omega) ⟨_, _, _, rfl⟩)
   have hG := (hG0.of hy hys).up (M := 65536) om
   have hz : Az (Cp π) := by
    have := hB.ord
    unfold Cp; exact ⟨by omega, by omega⟩
   exact h.txn (u := ⟨s, π.ids s⟩) (hs hse) hse hz hA.d.w.rq.xid hy hys hG ⟨hc1, hc2⟩ hcs
  ·obtain ⟨-, rfl, -⟩ := hC.rd hse hk
   exact h.read s r l
 ·obtain ⟨-, rfl, -⟩ := hC.gone hse
  exact h
/-! ### Trees of entries that are read again -/
theorem M1 : ∀ {l l' : List En} {τ : Tr}, l.map En.pl = l'.map En.pl → HS τ l = HS τ l'
 | [], [], _, _ => rfl
 | [], _ :: _, _, h => by cases h
 | _ :: _, [], _, h => by cases h
 | e :: l, e' :: l', τ, h => by
  have h : e.pl :: l.map En.pl = e'.pl :: l'.map En.pl := h
  injection h with h1 h2
  have g1 := congrArg En.zx h1
  have g2 := congrArg En.x h1
  have g3 := congrArg En.subs h1
  have hz : e.zx = e'.zx := g1
  have hx : e.x.pl = e'.x.pl := g2
  have hs : e.subs.map Pt.pl = e'.subs.map Pt.pl := g3
  show HS (Ld τ e) l = HS (Ld τ e') l'
  have ha : Ld τ e = Ld τ e' := by
   show (AC τ e.zx e.x e.subs).1 = (AC τ e'.zx e'.x e'.subs).1
   rw [hz, ABa hx hs]
  rw [ha]
  exact M1 h2
theorem Jr {τ : Tr} {N : Nat} (ho : τ.Ok N) {ids : List Bs} {p : Bs} (ht : AQ τ p) : BK τ ids (Hh 10 p) = 0 := by
 obtain ⟨n, hn⟩ := EE.1 ht
 have hc : BG p = 0 := by
  rcases ho.able _ (EB hn) with e | e
  ·rw [show p = [47] from e]; rfl
  ·exact e.2
 unfold BK P4
 show B1 [Ah (¬ B3 10) 110, BG p, Ah (¬ AQ τ p) 60, Ah ((10 : Int) ≠ 10 ∧ ¬ He τ ids p 1) 65] = 0
 rw [hc]
 unfold Ah
 rw [if_neg dQ, if_neg (fun g => g ht), if_neg (fun g => g.1 rfl)]
 rfl
theorem X1 {l : List En} (h : ∀ e ∈ l, D8 65536 e.x e.subs) : ∀ {τ : Tr} {M : Nat}, τ.Ok M → ∀ i, (HS τ (l.take i)).Ok (M + 9 * i) := by
 induction l with
 | nil => intro τ M ho i; rw [take_nil]; exact ho.more om
 | cons e l ih =>
  intro τ M ho i
  cases i with
  | zero => exact ho.more om
  | succ i =>
   have h1 := (h e mem_cons_self).ok ho e.zx
   have h2 := ih (fun x hx => h x (mem_cons_of_mem _ hx)) h1 i
   rw [take_succ_cons]
   exact (show (HS (Ld τ e) (l.take i)).Ok (M + 9 + 9 * i) from h2).more om
theorem Tq {l m : List En} (h : l.map En.pl = m.map En.pl) (hm : ∀ e ∈ m, D8 65536 e.x e.subs) : ∀ e ∈ l, D8 65536 e.x e.subs := by
 intro e he
 have h1 : e.pl ∈ m.map En.pl := by rw [← h]; exact mem_map_of_mem he
 obtain ⟨z, hz, hze⟩ := mem_map.1 h1
 have g1 := congrArg En.x hze
 have g2 := congrArg En.subs hze
 have hG := hm z hz
 have hG2 : D8 65536 z.x.pl (z.subs.map Pt.pl) := by
  refine ⟨Le.of (z := z.x) rfl hG.x, fun w hw => ?_, ?_⟩
  ·obtain ⟨v, hv, rfl⟩ := mem_map.1 hw
   exact Le.of (z := v) rfl (hG.each v hv)
  ·rcases hG.len with q | ⟨q1, q2, q3⟩
   ·exact .inl (by rwa [length_map])
   ·exact .inr ⟨q1, by rwa [length_map], fun w hw => by obtain ⟨v, hv, rfl⟩ := mem_map.1 hw; exact q3 v hv⟩
 exact hG2.of (x := z.x.pl) (l := z.subs.map Pt.pl) g1.symm g2.symm
def Ni (m0 m1 m2 : Int) : List Value := [AA m0, AA m1, AA m2, AA 0, AE [], AE [], AF, AA 0, AA 0, AA 0, AF]
def Yi (b3 : Nat) (n0 n1 n2 : Int) : Nat → HP
 | 0 => Ad b3 (Ni 0 0 0) 62
 | 1 => Ad b3 (Ni n0 0 0) 62
 | 2 => Ad b3 (Ni n0 n1 0) 62
 | _ => Ad b3 (Ni n0 n1 n2) 62
theorem Wq (b3 : Nat) (st : Rs) :
  ∀ j (hj : j < [(b3, 0), (b3, 1), (b3, 2)].length) (E : Bx) (x y : Operand) (ty : TypeId), ev E x = some (KB [(b3, 0), (b3, 1), (b3, 2)][j]) → ev E y = some (AA (Ae (A4 Ae j st).2).1) →
  AP prog ⟨none, .store 3 x y, ty, "", #[], none⟩ E [Yi b3 (Ae (A4 Ae 0 st).2).1 (Ae (A4 Ae 1 st).2).1 (Ae (A4 Ae 2 st).2).1 j]
   fun _ L' => L' = [Yi b3 (Ae (A4 Ae 0 st).2).1 (Ae (A4 Ae 1 st).2).1 (Ae (A4 Ae 2 st).2).1 (j + 1)] := by
 intro j hj E x y ty hx hy
 match j, hj with
 | 0, _ => exact AP.store (off := 0) hx hy rfl CC (by simp [Ni]) (Bb _ _)
 | 1, _ => exact AP.store (off := 1) hx hy rfl CC (by simp [Ni]) (Bb _ _)
 | 2, _ => exact AP.store (off := 2) hx hy rfl CC (by simp [Ni]) (Bb _ _)
def Io (v0 : Int) (v1 v2 : Bs) (v3 : Value) (m0 m1 : Int) : List Value := [AA v0, AE v1, AE v2, v3, AA m0, AA m1, AA 0, AF]
def RL (b3 b4 : Nat) (v0 : Int) (v1 v2 : Bs) (v3 : Value) (n0 n1 n2 : Int) : Nat → HP
 | 0 => CD [Ad b3 (Io v0 v1 v2 v3 0 0) 60, Ad b4 [AA 0] 3]
 | 1 => CD [Ad b3 (Io v0 v1 v2 v3 n0 0) 60, Ad b4 [AA 0] 3]
 | 2 => CD [Ad b3 (Io v0 v1 v2 v3 n0 n1) 60, Ad b4 [AA 0] 3]
 | _ => CD [Ad b3 (Io v0 v1 v2 v3 n0 n1) 60, Ad b4 [AA n2] 3]
theorem VG (b3 b4 : Nat) (v0 : Int) (v1 v2 : Bs) (v3 : Value) (st : Rs) :
  ∀ j (hj : j < [(b3, 4), (b3, 5), (b4, 0)].length) (E : Bx) (x y : Operand) (ty : TypeId), ev E x = some (KB [(b3, 4), (b3, 5), (b4, 0)][j]) → ev E y = some (AA (Ae (A4 Ae j st).2).1) →
  AP prog ⟨none, .store 3 x y, ty, "", #[], none⟩ E [RL b3 b4 v0 v1 v2 v3 (Ae (A4 Ae 0 st).2).1 (Ae (A4 Ae 1 st).2).1 (Ae (A4 Ae 2 st).2).1 j]
   fun _ L' => L' = [RL b3 b4 v0 v1 v2 v3 (Ae (A4 Ae 0 st).2).1 (Ae (A4 Ae 1 st).2).1 (Ae (A4 Ae 2 st).2).1 (j + 1)] := by
 intro j hj E x y ty hx hy
 match j, hj with
 | 0, _ => exact AP.inL (AP.store (off := 4) hx hy rfl CC (by simp [Io]) (Bb _ _))
 | 1, _ => exact AP.inL (AP.store (off := 5) hx hy rfl CC (by simp [Io]) (Bb _ _))
 | 2, _ => exact AP.inR (AP.store (off := 0) hx hy rfl CC (by simp) (Bb _ _))
theorem S1 (e : En) (p : HP) (he : Vw p e) : Fn prog 62 #[.agg (DE e).toArray, .func (.func 63) #[] #[]] [p] fun v L => v = AE (NV e) ∧ L = [p] := by
 refine Fn.intro func62 Y Y fun F W => ?_
 refine .sr (.oq (.box Y) ?_)
 rintro v L' ⟨b2, rfl, rfl⟩
 refine .a Y (.nil (.pc b2 (DE e) ?_))
 refine .then_n (.sr (.oq (.c func119 [] (VV)) ?_))
 rintro v L' ⟨cw, rfl, rfl⟩
 refine .an Y (.sm Y (.m Y (.q (.loadAs (vs := DE e) Y EL O (by simp [DE, A1]) Y) Y (.oq (.callV func63 Y Y (us := []) (vs := [_, _]) (ws := []) Y Y (QM cw e p he)) ?_))))
 rintro v L' ⟨rfl, rfl⟩
 refine .nt (.sm Y (.cv func120 [_] (Qd _ _) ?_))
 refine .an Y (.ret ?_)
 exact .vv
theorem Uu (e : En) (p : HP) (he : Vw p e) : Fn prog 33 #[.agg (DE e).toArray] [p] fun v L => v = AE (NV e) ∧ L = [p] := by
 refine Fn.intro func33 Y Y fun F W => ?_
 refine .sr (.oq (.box Y) ?_)
 rintro v L' ⟨b1, rfl, rfl⟩
 refine .a Y (.nil (.pc b1 (DE e) ?_))
 refine .then_n (.sr (.q (.loadAs (vs := DE e) Y EL O (by simp [DE, A1]) Y) Y (.cv func62 [_, _] (S1 e p he) ?_)))
 refine .an Y (.ret ?_)
 exact .vv
theorem I7 (r : Nat) (st : Rs) : Fn prog 186 #[AI r] [IH r st] fun v L => v = AE (Bi st).1 ∧ L = [IH r (Bi st).2] := by
 refine Fn.intro func186 Y Y fun F W => ?_
 refine .sr (.an Y (.sm Y (.cv func234 [_, _] (R9 r 4096 dQ st) ?_)))
 refine .an Y (.ret ?_)
 exact .vv
theorem Kp (r : Nat) (st : Rs) : Fn prog 185 #[AI r] [IH r st] fun v L => v = AA (Ae st).1 ∧ L = [IH r (Ae st).2] := UU r st
theorem M5 (r : Nat) (st : Rs) (va : Value) (ad : List (Nat × Nat)) (q : HP) (hq : ∀ h : Hp, q h → Cx 1 h va ad.length (ad.map KB)) (B : Nat → HP)
    (hB : ∀ j (hj : j < ad.length) (E : Bx) (x y : Operand) (ty : TypeId), ev E x = some (KB ad[j]) → ev E y = some (AA (Ae (A4 Ae j st).2).1) → AP prog ⟨none, .store 3 x y, ty, "", #[], none⟩ E [B j] fun _ L' => L' = [B (j + 1)]) (hn : ad.length ≤ 1048576) :
    Fn prog 116 #[AI r, va] [IH r st, q, B 0] fun v L => v = .tuple #[] ∧ L = [IH r (A4 Ae ad.length st).2, q, B ad.length] := by
 refine Fn.intro func116 Y Y fun F W => ?_
 refine .rdAny (p := q) hq O fun aa ca e0 _ => ?_
 subst e0
 refine .sm Y (.q (.slen Y underlying247 Y) Y (.m Y (.nt (.block (.loopK (ι := Nat) (fun q E => (8, AA q) :: E) (fun q => [IH r (A4 Ae q st).2, B q]) (fun q => q ≤ ad.length) (fun q => ad.length - q) (0) (ts := [0, 6, 7]) O (Nat.zero_le _) O O ?_)))))
 rintro j hj
 refine .sr (.ui Y Y Y (.nt (.seq (.condD Y (fun h9 => ?_) (fun h9 => ?_)))))
 ·have hj2 : j < ad.length := by omega
  refine .rdShape (p := q) hq O om fun ba oa e => ?_
  subst e
  refine .sk (.seq (.block (.sr (.q (.indexAddr Y Y TA om) Y (.q (.loadEl (p := q) (i := j * 1) (v := KB ad[j]) Y ABW O hq (by simp [hj2])) Y (.an Y (.region (.m Y (.m Y (.cv func185 [_] (Kp r _) ?_))))))))))
  refine .u (.nilp Y) (.oq (hB j hj2 _ _ _ _ Y Y) ?_)
  rintro v L' rfl
  refine .nil (.blk_n (.then_n (.region (.q (.add Y Y om) Y (.m Y (.nt ?_))))))
  exact .rk (j + 1) om om O
 have hjj : j = ad.length := by omega
 rw [hjj]
 refine .exit (.then_e (.then_e (.blk_e (.done_n ?_))))
 exact .vv
theorem TC (r : Nat) (st : Rs) : Fn prog 188 #[AI r] [IH r st] fun v L => v = .agg (CO (HR st).1).toArray ∧ L = [IH r (HR st).2] := by
 refine Fn.intro func188 Y Y fun F W => ?_
 refine .sr (.oq (.allocA Fv) ?_)
 rintro v L' ⟨b2, rfl, rfl⟩
 refine .nt (.sm Y (.cv func185 [_] (Kp r st) ?_))
 refine .an Y (.sm Y (.m Y (.cv func186 [_] (I7 r _) ?_)))
 refine .q (.to (v' := .agg (CO (HR st).1).toArray) (.build (us := [(0, _), (1, _)]) UA Fv Y Y (by simp [AB])) Y) Y (.sa Y Y XW (by simp [CO, AB]) ?_)
 refine .nt (.ret (.pc b2 (CO (HR st).1) ?_))
 exact .d1 Y (.cellA Y Qw O (by simp [CO]) Y) ⟨Y, Y⟩
theorem Sb (r : Nat) (st : Rs) : Fn prog 187 #[AI r, .func (.func 188) #[] #[]] [IH r st] fun v L => ∃ a c, v = .slice a (CQ HR st).1.length c ∧ L = [IH r (CQ HR st).2, Af 75 2 v (CQ HR st).1.length ((CQ HR st).1.flatMap CO)] := by
 refine Fn.intro func187 Y Y fun F W => ?_
 obtain ⟨m, hm⟩ : ∃ m, m = (PD st).1 := ⟨_, rfl⟩
 obtain ⟨st1, hst1⟩ : ∃ s, s = (PD st).2 := ⟨_, rfl⟩
 have hm2 := Tn st
 have hrow : CQ HR st = A4 HR m st1 := by rw [hm, hst1]; rfl
 have hml := NI HR st1 m
 rw [hrow, hml]
 refine .sr (.an Y (.seq (.add (AO 75 2) (.region (.an Y (.seq (.sm Y (.oq (.c func189 [_, _] (LL r 256 dQ st)) ?_))))))))
 rintro v L' ⟨rfl, rfl⟩; rw [show (CM 0 (FP 256) st).1 = m from hm.symm, show (CM 0 (FP 256) st).2 = st1 from hst1.symm]
 refine .m Y (.nt (.block (.loopK (ι := Nat × Value) (fun q E => (8, AA q.1) :: (5, q.2) :: E) (fun q => [IH r (A4 HR q.1 st1).2, Af 75 2 q.2 q.1 ((A4 HR q.1 st1).1.flatMap CO)]) (fun q => q.1 ≤ m ∧ ∃ a c, q.2 = .slice a q.1 c) (fun q => m - q.1) (0, .slice none 0 0) (ts := [0, 1, 4, 7]) O (⟨Nat.zero_le _, none, 0, Y⟩) O O ?_)))
 rintro ⟨j, u⟩ ⟨hj, au, cu, hu⟩
 dsimp only
 dsimp only at hj hu
 subst hu
 refine .sr (.ui Y Y Y (.nt (.seq (.condD Y (fun h9 => ?_) (fun h9 => ?_)))))
 ·have hj2 : j < m := by omega
  refine .sk (.seq (.block (.region (.m Y (.m Y (.m Y (.oq (.callV func188 Y Y (us := []) (vs := [_]) (ws := []) Y Y (TC r _)) ?_)))))))
  rintro v L' ⟨rfl, rfl⟩
  refine .oq (.buildSlice (vs := [_]) Gw Fv Y Y Y Y cQ dQ) ?_
  rintro v L' ⟨b4, rfl, rfl⟩
  refine .oq (.append1 Y Y Y Gw Fv Y Y ?c15 ?c16 (Nat.le_refl _) ?c17 dQ) ?_
  case c15 => simp only [map_cons, map_nil, flatten_cons, flatten_nil, append_nil]; simp [Value.cells, CO, AB]
  case c16 => rfl
  case c17 => omega
  rintro v L' ⟨⟨a5, c5, rfl⟩, rfl⟩
  refine .a Y (.nil (.blk_n (.then_n (.region (.q (.add Y Y om) Y (.m Y (.nt (.slCast (T := 75) (sz := 2) (m' := j + 1) (xs' := (A4 HR (j + 1) st1).1.flatMap CO) O (by exact rfl) (by show _ = ((A4 HR j st1).1 ++ [_]).flatMap CO; rw [flatMap_append]; simp [Value.cells, CO]) ?_))))))))
  exact .rk ((j + 1, .slice a5 (j + 1) c5)) (⟨by dsimp only; omega, _, _, rfl⟩) (by dsimp only; omega) O
 have hjj : j = m := by omega
 subst hjj
 refine .xe (.sm Y (.an Y (.ret ?_)))
 exact .dn Y Y ⟨_, _, Y, Y⟩
theorem LJ (r : Nat) (st : Rs) : Fn prog 117 #[AI r] [IH r st] fun v L => ∃ aa ca, v = .agg (A1 ((Lh st).1.wa (.slice aa (Lh st).1.acl.length ca))).toArray ∧ L = [IH r (Lh st).2, aclR ((Lh st).1.wa (.slice aa (Lh st).1.acl.length ca))] := by
 refine Fn.intro func117 Y Y fun F W => ?_
 refine .sr (.oq (.allocA BL) ?_)
 rintro v L' ⟨b2, rfl, rfl⟩
 refine .nt (.sr (.oq (.allocA BL) ?_))
 rintro v L' ⟨b3, rfl, rfl⟩
 refine .nt (.sm Y (.cv func185 [_] (Kp r st) ?_))
 refine .fa Y Bz (.st Y Y Y CC ?_)
 refine .nt (.sm Y (.cv func186 [_] (I7 r _) ?_))
 refine .fa Y A7 (.st Y Y Y KP ?_)
 refine .nt (.sm Y (.cv func186 [_] (I7 r _) ?_))
 refine .fa Y E9 (.st Y Y Y KP ?_)
 refine .nt (.sm Y (.oq (.c func187 [_, _] (Sb r _)) ?_))
 rintro v L' ⟨aa, ca, rfl, rfl⟩
 refine .fa Y GN (.st Y Y Y P6 ?_)
 refine .nt (.sr (.oq (.alloc F8) ?_))
 rintro v L' ⟨b4, rfl, rfl⟩
 refine .nt (.sm Y (.fa Y CV (.fa Y Cl (.oq (.buildSlice1 (vs := [_, _, _]) TA X9 Y Y Y Y Y dQ) ?_))))
 rintro v L' ⟨b5, rfl, rfl⟩
 refine .slMake (b := b5) (n := 3) (c := 3) (xs := [(b3, 4), (b3, 5), (b4, 0)].map KB) O dQ (by simp) Y (.ptCast (b := b3) (l' := Io (Ae st).1 (Bi (Ae st).2).1 (Bi (Bi (Ae st).2).2).1 (.slice aa (CQ HR (Bi (Bi (Ae st).2).2).2).1.length ca) 0 0) O (by exact rfl) ?_)
 refine .fold (p := RL b3 b4 (Ae st).1 (Bi (Ae st).2).1 (Bi (Bi (Ae st).2).2).1 (.slice aa (CQ HR (Bi (Bi (Ae st).2).2).2).1.length ca) (Ae (A4 Ae 0 (CQ HR (Bi (Bi (Ae st).2).2).2).2).2).1 (Ae (A4 Ae 1 (CQ HR (Bi (Bi (Ae st).2).2).2).2).2).1 (Ae (A4 Ae 2 (CQ HR (Bi (Bi (Ae st).2).2).2).2).2).1 0) (q := [Ad b3 (Io (Ae st).1 (Bi (Ae st).2).1 (Bi (Bi (Ae st).2).2).1 (.slice aa (CQ HR (Bi (Bi (Ae st).2).2).2).1.length ca) 0 0) 60, Ad b4 [AA 0] 3]) O (fun _ hp => hp) (.oq (.call func116 Y Y (vs := [_, _]) Y (M5 r (CQ HR (Bi (Bi (Ae st).2).2).2).2 _ [(b3, 4), (b3, 5), (b4, 0)] (Af 204 1 (.slice (some ⟨b5, 0, none⟩) 3 3) 3 ([(b3, 4), (b3, 5), (b4, 0)].map KB)) (fun h hp => Aa hp) (RL b3 b4 (Ae st).1 (Bi (Ae st).2).1 (Bi (Bi (Ae st).2).2).1 (.slice aa (CQ HR (Bi (Bi (Ae st).2).2).2).1.length ca) (Ae (A4 Ae 0 (CQ HR (Bi (Bi (Ae st).2).2).2).2).2).1 (Ae (A4 Ae 1 (CQ HR (Bi (Bi (Ae st).2).2).2).2).2).1 (Ae (A4 Ae 2 (CQ HR (Bi (Bi (Ae st).2).2).2).2).2).1) ?hB40 (by simp))) ?_)
 case hB40 => exact VG b3 b4 _ _ _ _ _
 rintro v L' ⟨rfl, rfl⟩
 refine .nil (.focus (p := RL b3 b4 (Ae st).1 (Bi (Ae st).2).1 (Bi (Bi (Ae st).2).2).1 (.slice aa (CQ HR (Bi (Bi (Ae st).2).2).2).1.length ca) (Ae (A4 Ae 0 (CQ HR (Bi (Bi (Ae st).2).2).2).2).2).1 (Ae (A4 Ae 1 (CQ HR (Bi (Bi (Ae st).2).2).2).2).2).1 (Ae (A4 Ae 2 (CQ HR (Bi (Bi (Ae st).2).2).2).2).2).1 3) O (.unfold (q := [Ad b3 (Io (Ae st).1 (Bi (Ae st).2).1 (Bi (Bi (Ae st).2).2).1 (.slice aa (CQ HR (Bi (Bi (Ae st).2).2).2).1.length ca) (Ae (A4 Ae 0 (CQ HR (Bi (Bi (Ae st).2).2).2).2).2).1 (Ae (A4 Ae 1 (CQ HR (Bi (Bi (Ae st).2).2).2).2).2).1) 60, Ad b4 [AA (Ae (A4 Ae 2 (CQ HR (Bi (Bi (Ae st).2).2).2).2).2).1] 3]) (fun _ hp => hp) ?_))
 simp only [cons_append, nil_append]
 refine .then_n (.sr (.u (.ld Y AR) (.fa Y IZ (.oq (.store Y Y Y ME ?c45 (Bb _ _)) ?_))))
 case c45 => simp [Io]
 rintro v L' rfl
 refine .nil (.ptCast (b := b3) (l' := A1 ((Lh st).1.wa (.slice aa (CQ HR (Bi (Bi (Ae st).2).2).2).1.length ca))) O (by exact rfl) ?_)
 refine .then_n (.sr (.q (.loadAs (vs := A1 ((Lh st).1.wa (.slice aa (CQ HR (Bi (Bi (Ae st).2).2).2).1.length ca))) Y Ay O (by simp [A1]) Y) Y (.sa Y Y BO (by exact CG rfl rfl) ?_)))
 refine .nt (.ret (.ptCast (b := b2) (l' := A1 ((Lh st).1.wa (.slice aa (CQ HR (Bi (Bi (Ae st).2).2).2).1.length ca))) O (by exact rfl) ?_))
 exact .d1 Y (.cellA Y Ay O (by simp [A1]) Y) ⟨_, _, Y, Y⟩
structure Yx (e : En) : Prop where
 x : AB e.x.aclV = true ∧ AB e.x.subsV = true
 subs : ∀ y ∈ e.subs, AB y.aclV = true ∧ y.subsV = AF
theorem Yx.cells {e : En} (h : Yx e) : ∀ v ∈ DE e, AB v = true := by
 intro v hv
 unfold DE at hv
 rcases mem_append.1 hv with hv | hv
 ·simp at hv; rcases hv with rfl | rfl | rfl <;> rfl
 ·exact CG h.x.1 h.x.2 v hv
def pt0 : Pt := ⟨0, [], [], AF, [], 0, 0, 0, AF⟩
def en0 : En := ⟨0, 0, 0, pt0, []⟩
theorem AAx : ∀ h, entR en0 h := fun h => ⟨fun _ => none, h, fun _ => .inl rfl, fun _ _ e => (by cases e), fun _ _ e => e, AO _ _ _, fun _ => none, h, fun _ => .inl rfl, fun _ _ e => (by cases e), fun _ _ e => e, AO _ _ _, fun _ => none, h, fun _ => .inl rfl, fun _ _ e => (by cases e), fun _ _ e => e, trivial, trivial⟩
def W4 (s : Bs) (e : En) (er : Int) : Prop := (er = 0 ∧ QS s = some e.pl ∧ Yx e) ∨ (er = 120 ∧ QS s = none ∧ e = en0)
theorem Rm (r : Nat) (st : Rs) : Fn prog 118 #[AI r, .func (.func 117) #[] #[]] [IH r st] fun v L => ∃ a c, ∃ ys : List Pt, ys.map Pt.pl = (CQ Lh st).1 ∧ (∀ y ∈ ys, AB y.aclV = true ∧ y.subsV = AF) ∧ v = .slice a ys.length c ∧ L = [IH r (CQ Lh st).2, Af 60 8 v ys.length (ys.flatMap A1), Ag aclR ys] := by
 refine Fn.intro func118 Y Y fun F W => ?_
 obtain ⟨m, hm⟩ : ∃ m, m = (PD st).1 := ⟨_, rfl⟩
 obtain ⟨st1, hst1⟩ : ∃ s, s = (PD st).2 := ⟨_, rfl⟩
 have hm2 := Tn st
 have hrow : CQ Lh st = A4 Lh m st1 := by rw [hm, hst1]; rfl
 rw [hrow]
 refine .sr (.an Y (.seq (.add (AO 60 8) (.add (p := Ag aclR []) (fun h => CX h) (.region (.an Y (.seq (.sm Y (.oq (.c func189 [_, _] (LL r 256 dQ st)) ?_)))))))))
 rintro v L' ⟨rfl, rfl⟩; rw [show (CM 0 (FP 256) st).1 = m from hm.symm, show (CM 0 (FP 256) st).2 = st1 from hst1.symm]
 refine .m Y (.nt (.block (.loopK (ι := Nat × Value × (List Pt)) (fun q E => (8, AA q.1) :: (5, q.2.1) :: E) (fun q => [IH r (A4 Lh q.1 st1).2, Af 60 8 q.2.1 q.1 (q.2.2.flatMap A1), Ag aclR q.2.2]) (fun q => q.1 ≤ m ∧ (∃ a c, q.2.1 = .slice a q.1 c) ∧ q.2.2.map Pt.pl = (A4 Lh q.1 st1).1 ∧ ∀ y ∈ q.2.2, AB y.aclV = true ∧ y.subsV = AF) (fun q => m - q.1) (0, .slice none 0 0, []) (ts := [0, 1, 4, 7]) O (⟨Nat.zero_le _, ⟨none, 0, Y⟩, Y, fun y hy => by cases hy⟩) O O ?_)))
 rintro ⟨j, u, ys⟩ ⟨hj, ⟨au, cu, hu⟩, hys, hyc⟩
 dsimp only
 dsimp only at hj hu hys hyc
 subst hu
 refine .sr (.ui Y Y Y (.nt (.seq (.condD Y (fun h9 => ?_) (fun h9 => ?_)))))
 ·have hj2 : j < m := by omega
  refine .sk (.seq (.block (.region (.m Y (.m Y (.m Y (.oq (.callV func117 Y Y (us := []) (vs := [_]) (ws := []) Y Y (LJ r _)) ?_)))))))
  rintro v L' ⟨ab, cb, rfl, rfl⟩; obtain ⟨y, hy⟩ : ∃ y : Pt, y = ((Lh (A4 Lh j st1).2).1.wa (.slice ab (Lh (A4 Lh j st1).2).1.acl.length cb)) := ⟨_, rfl⟩; rw [← hy]; have hyk : AB y.aclV = true ∧ y.subsV = AF := by (rw [hy]; exact ⟨rfl, rfl⟩)
  refine .oq (.buildSlice (vs := [_]) EO BL Y Y Y Y cQ dQ) ?_
  rintro v L' ⟨b4, rfl, rfl⟩
  refine .oq (.append1 Y Y Y EO BL Y Y ?c15 ?c16 (Nat.le_refl _) ?c17 dQ) ?_
  case c15 => simp only [map_cons, map_nil, flatten_cons, flatten_nil, append_nil]; simp only [Value.cells]; intro z hz; exact CG (y := y) hyk.1 (by rw [hyk.2]; rfl) z (by simpa using hz)
  case c16 => rfl
  case c17 => omega
  rintro v L' ⟨⟨a5, c5, rfl⟩, rfl⟩
  refine .a Y (.nil (.blk_n (.then_n (.region (.q (.add Y Y om) Y (.m Y (.nt (.bigAdd (f := aclR) (l := ys) (p := aclR y) y Y O (.slCast (T := 60) (sz := 8) (m' := j + 1) (xs' := (ys ++ [y]).flatMap A1) O (by exact rfl) (by rw [flatMap_append]; simp [Value.cells]) ?_)))))))))
  exact .rk ((j + 1, .slice a5 (j + 1) c5, ys ++ [y])) (⟨by dsimp only; omega, ⟨_, _, rfl⟩, by show (ys ++ [y]).map Pt.pl = (A4 Lh j st1).1 ++ [_]; rw [map_append, hys, hy]; rfl, fun z hz => by rcases mem_append.1 hz with hz | hz; exact hyc z hz; rw [mem_singleton] at hz; subst hz; rw [hy]; exact ⟨rfl, rfl⟩⟩) (by dsimp only; omega) O
 have hjj : j = m := by omega
 subst hjj
 have hyl : ys.length = j := by have h := congrArg List.length hys; rw [length_map, NI] at h; exact h
 refine .slCast (T := 60) (sz := 8) (m' := ys.length) (xs' := ys.flatMap A1) O (by rw [hyl]) Y (.xe (.sm Y (.an Y (.ret ?_))))
 exact .dn Y Y ⟨au, cu, ys, hys, hyc, by rw [hyl], rfl⟩
theorem S8 (r : Nat) (st : Rs) : Fn prog 61 #[AI r] [IH r st] fun v L => ∃ e : En, e.pl = (Yv st).1 ∧ Yx e ∧ v = .agg (DE e).toArray ∧ L = [IH r (Yv st).2, entR e] := by
 refine Fn.intro func61 Y Y fun F W => ?_
 refine .sr (.oq (.allocA Ey) ?_)
 rintro v L' ⟨b2, rfl, rfl⟩
 refine .nt (.sr (.oq (.allocA Ey) ?_))
 rintro v L' ⟨b3, rfl, rfl⟩
 refine .nil (.ptCast (b := b3) (l' := Ni 0 0 0) O Y ?_)
 refine .fold (p := Yi b3 (Ae (A4 Ae 0 st).2).1 (Ae (A4 Ae 1 st).2).1 (Ae (A4 Ae 2 st).2).1 0) (q := [Ad b3 (Ni 0 0 0) 62]) O (fun _ hp => (Zh hp)) (.then_n (.sm Y (.fa Y Cm (.fa Y Tj (.fa Y Oo (.oq (.buildSlice1 (vs := [_, _, _]) TA X9 Y Y Y Y Y dQ) ?_))))))
 rintro v L' ⟨b5, rfl, rfl⟩
 refine .slMake (b := b5) (n := 3) (c := 3) (xs := [(b3, 0), (b3, 1), (b3, 2)].map KB) O dQ (by simp) Y (.oq (.call func116 Y Y (vs := [_, _]) Y (M5 r st _ [(b3, 0), (b3, 1), (b3, 2)] (Af 204 1 (.slice (some ⟨b5, 0, none⟩) 3 3) 3 ([(b3, 0), (b3, 1), (b3, 2)].map KB)) (fun h hp => Aa hp) (Yi b3 (Ae (A4 Ae 0 st).2).1 (Ae (A4 Ae 1 st).2).1 (Ae (A4 Ae 2 st).2).1) ?hB11 (by simp))) ?_)
 case hB11 => exact Wq b3 st
 rintro v L' ⟨rfl, rfl⟩
 refine .nil (.focus (p := Yi b3 (Ae (A4 Ae 0 st).2).1 (Ae (A4 Ae 1 st).2).1 (Ae (A4 Ae 2 st).2).1 3) O (.unfold (q := [Ad b3 (Ni (Ae (A4 Ae 0 st).2).1 (Ae (A4 Ae 1 st).2).1 (Ae (A4 Ae 2 st).2).1) 62]) (fun _ hp => Zz hp) ?_))
 simp only [cons_append, nil_append]
 refine .then_n (.sm Y (.oq (.c func117 [_] (LJ r (A4 Ae 3 st).2)) ?_))
 rintro v L' ⟨ab, cb, rfl, rfl⟩; obtain ⟨y, hy⟩ : ∃ y : Pt, y = ((Lh (A4 Ae 3 st).2).1.wa (.slice ab (Lh (A4 Ae 3 st).2).1.acl.length cb)) := ⟨_, rfl⟩; rw [← hy]; have hyk : AB y.aclV = true ∧ y.subsV = AF := by (rw [hy]; exact ⟨rfl, rfl⟩)
 refine .fa Y G7 (.sa Y Y BO (by exact CG (y := y) hyk.1 (by rw [hyk.2]; rfl)) ?_)
 refine .nil (.pc b3 ([AA (Ae (A4 Ae 0 st).2).1, AA (Ae (A4 Ae 1 st).2).1, AA (Ae (A4 Ae 2 st).2).1] ++ A1 y) ?_)
 refine .then_n (.sm Y (.oq (.c func118 [_, _] (Rm r _)) ?_))
 rintro v L' ⟨sa, sc, ys, hys, hyc, rfl, rfl⟩
 refine .fa Y G7 (.fa Y Ck (.sw Y Y Y LN ?_))
 refine .nil ?_
 obtain ⟨e, he⟩ : ∃ e : En, e = (⟨(Ae (A4 Ae 0 st).2).1, (Ae (A4 Ae 1 st).2).1, (Ae (A4 Ae 2 st).2).1, y.ws (.slice sa ys.length sc), ys⟩ : En) := ⟨_, rfl⟩
 have hek : Yx e := by rw [he]; exact ⟨⟨hyk.1, rfl⟩, hyc⟩
 refine .ptCast (b := b3) (l' := DE e) O (by rw [he]; rfl) ?_
 refine .fold (p := entR e) (q := [aclR y, Af 60 8 (.slice sa ys.length sc) ys.length (ys.flatMap A1), Ag aclR ys]) O (fun _ hp => by rw [he]; exact hp) (.then_n (.sr (.q (.loadAs (vs := DE e) rfl EL O (by simp [DE, A1]) rfl) rfl (.sa rfl rfl Ii (by exact hek.cells) ?_))))
 refine .nt (.ret (.pc b2 (DE e) ?_))
 exact .d1 Y (.cellA Y EL O (by simp [DE, A1]) Y) ⟨e, by rw [he]; unfold En.pl; dsimp only; rw [hys, hy]; rfl, hek, rfl, rfl⟩
theorem ZJ {s : Bs} (h : ¬ (Yv (some s)).2 = some []) : QS s = none := by
 unfold QS AAn
 split
 ·rename_i q hq; rw [hq] at h; exact absurd rfl h
 ·rfl
theorem AAy {s : Bs} (h : (Yv (some s)).2 = some []) : QS s = some (Yv (some s)).1 := by
 unfold QS AAn
 split
 ·rename_i q hq; rw [hq]
 ·rename_i h2; exact absurd (show Yv (some s) = ((Yv (some s)).1, some []) by rw [← h]) (h2 _)
theorem Sd (s : Bs) (hs : s.length ≤ 2147483648) : Fn prog 60 #[AE s, .func (.func 61) #[] #[]] [] fun v L => ∃ e er, W4 s e er ∧ v = .tuple #[.agg (DE e).toArray, AA er] ∧ L = [entR e] := by
 refine Fn.intro func60 Y Y fun F W => ?_
 refine .sr (.oq (.allocA Ey) ?_)
 rintro v L' ⟨b4, rfl, rfl⟩
 refine .an Y (.sm Y (.oq (.c func114 [_] (Sf s om)) ?_))
 rintro v L' ⟨r, rfl, rfl⟩
 refine .an Y (.sm Y (.m Y (.oq (.callV func61 Y Y (us := []) (vs := [_]) (ws := []) Y Y (S8 r (some s))) ?_)))
 rintro v L' ⟨e, hpl, hek, rfl, rfl⟩
 refine .oq (.allocA Ey) ?_
 rintro v L' ⟨b7, rfl, rfl⟩
 refine .sa Y Y Ii (by exact hek.cells) ?_
 refine .nil (.pc b7 (DE e) ?_)
 refine .then_n (.seq (.sm Y (.oq (.c func115 [_] (Vj r _)) ?_)))
 rintro v L' ⟨e1, he1, rfl, st', rfl⟩
 refine .ui Y Y Y (.nt (.condN Y (fun h16 => ?_) (fun h16 => ?_)))
 ·refine .sr (.oq (.allocA Ey) ?_)
  rintro v L' ⟨b8, rfl, rfl⟩
  refine .nil (.pc b8 (DE en0) ?_)
  refine .add AAx (.then_n (.sr (.q (.loadAs (vs := DE en0) Y EL O (by simp [DE, A1]) Y) Y (.sa Y Y Ii dQ ?_))))
  refine .a Y (.nil (.pc b4 (DE en0) ?_))
  refine .then_n (.rt ?_)
  exact .d2 Y (.cellA Y EL O (by simp [DE, A1]) Y) (.tmp Y) ⟨en0, 120, .inr ⟨Y, ZJ (fun g => h16 (he1.2 g)), Y⟩, Y, Y⟩
 refine .sk (.sr (.q (.loadAs (vs := DE e) Y EL O (by simp [DE, A1]) Y) Y (.sa Y Y Ii (by exact hek.cells) ?_)))
 refine .a Y (.nil (.pc b4 (DE e) ?_))
 refine .then_n (.ret ?_)
 exact .d2 Y (.cellA Y EL O (by simp [DE, A1]) Y) (.tmp Y) ⟨e, 0, .inl ⟨Y, by rw [hpl]; exact AAy (he1.1 h16), hek⟩, rfl, rfl⟩
theorem W4.cells {s : Bs} {e : En} {er : Int} (h : W4 s e er) : ∀ v ∈ DE e, AB v = true := by
 rcases h with ⟨-, -, h⟩ | ⟨-, -, rfl⟩
 ·exact h.cells
 ·decide
theorem U7 (s : Bs) (hs : s.length ≤ 2147483648) : Fn prog 32 #[AE s] [] fun v L => ∃ e er, W4 s e er ∧ v = .tuple #[.agg (DE e).toArray, AA er] ∧ L = [entR e] := by
 refine Fn.intro func32 Y Y fun F W => ?_
 refine .sr (.oq (.allocA Ey) ?_)
 rintro v L' ⟨b2, rfl, rfl⟩
 refine .an Y (.sm Y (.oq (.c func60 [_, _] (Sd s hs)) ?_))
 rintro v L' ⟨e, er, hg, rfl, rfl⟩
 refine .ex Y Y (.ex Y Y (.sa Y Y Ii (by exact hg.cells) ?_))
 refine .a Y (.nil (.pc b2 (DE e) ?_))
 refine .then_n (.ret ?_)
 exact .d2 Y (.cellA Y EL O (by simp [DE, A1]) Y) (.tmp Y) ⟨e, er, hg, Y, Y⟩
theorem Vw.all {l : List En} {e : En} (he : e ∈ l) (h : Vw (entR e) e) : Vw (Ag entR l) e := by
 have hr : ∀ {h : Hp}, Ag entR l h → ∃ h1, (∀ b o, h1 b = some o → h b = some o) ∧ entR e h1 := fun hp => by
  obtain ⟨h1, a1, q1⟩ := IP he hp
  exact ⟨h1, a1, q1⟩
 refine ⟨⟨h.w.i, fun _ hp => ?_, fun _ hp => ?_, fun y hy _ hp => ?_⟩, h.len, h.few, h.cx, h.cs⟩
 ·obtain ⟨h1, a1, q1⟩ := hr hp; exact Ci (L8 q1) a1
 ·obtain ⟨h1, a1, q1⟩ := hr hp; exact Ci (H2 q1) a1
 ·obtain ⟨h1, a1, q1⟩ := hr hp; exact Ci (Jh q1 hy) a1
theorem ZL.got {e ge : En} {er : Int} (h : ZL e) (hg : W4 (NV e) ge er) : ge.pl = e.pl ∧ Yx ge := by
 rcases hg with ⟨-, h2, h3⟩ | ⟨-, h2, -⟩
 ·rw [h.get] at h2
  injection h2 with h2
  exact ⟨h2.symm, h3⟩
 ·rw [h.get] at h2; cases h2
theorem ZY {l m : List En} {i : Nat} {ge : En} (hi : i < m.length) (h : l.map En.pl = (m.take i).map En.pl) (hg : ge.pl = m[i].pl) : (l ++ [ge]).map En.pl = (m.take (i + 1)).map En.pl := by
 rw [map_append, h, take_succ_eq_append_getElem hi, map_append, map_singleton, map_singleton, hg]
theorem MP {l m : List En} (h : l.map En.pl = m.map En.pl) : l.length = m.length := by
 have := congrArg List.length h
 rwa [length_map, length_map] at this
theorem Ov : Fn prog 34 #[.slice none 0 0] [Af 62 11 (.slice none 0 0) 0 []] fun u L => u = .slice none 0 0 ∧ L = [Af 62 11 u 0 []] := by
 refine Fn.intro func34 Y Y fun F W => ?_
 refine .sr (.an Y (.sm Y (.m Y (.q (.slen Y underlying54 Y) Y (.m Y (.q (.slen Y underlying54 Y) Y (.q (.clip (n := 0) Y H5 Y Y (Nat.le_refl _) (.inl Y)) Y (.an Y (.ret ?_)))))))))
 exact .dn Y Y ⟨Y, Y⟩
theorem O9 (b n c : Nat) (hc : n ≤ c) (xs : List Value) : Fn prog 34 #[.slice (some ⟨b, 0, none⟩) n c] [Af 62 11 (.slice (some ⟨b, 0, none⟩) n c) n xs] fun u L => u = .slice (some ⟨b, 0, none⟩) n n ∧ L = [Af 62 11 u n xs] := by
 refine Fn.intro func34 Y Y fun F W => ?_
 refine .sr (.an Y (.sm Y (.m Y (.q (.slen Y underlying54 Y) Y (.m Y (.q (.slen Y underlying54 Y) Y (.q (.clip (n := n) Y H5 Y Y hc (.inr ⟨_, _, Y⟩)) Y (.an Y (.ret (.slClip O ?_))))))))))
 exact .dn Y Y ⟨Y, Y⟩
theorem Pr (v : Value) (n : Nat) (xs : List Value) : Fn prog 34 #[v] [Af 62 11 v n xs] fun u L => (∃ a c, u = .slice a n c) ∧ L = [Af 62 11 u n xs] := by
 intro F w hs
 obtain ⟨g1, -, hp⟩ := Ao hs
 rcases hp with ⟨rfl, rfl, rfl⟩ | ⟨b, cap, rest, fr, rfl, -, -, -, h4, -⟩
 ·exact (Ov F w hs).mono fun e w' ⟨u, L, ⟨h1, h2⟩, h3⟩ => ⟨u, L, ⟨⟨_, _, h1⟩, h2⟩, h3⟩
 ·exact (O9 b n cap h4 xs F w hs).mono fun e w' ⟨u, L, ⟨h1, h2⟩, h3⟩ => ⟨u, L, ⟨⟨_, _, h1⟩, h2⟩, h3⟩
theorem HJ (b : Nat) (k : Ve) (π : Pl) (n : Nat) (hB : Hf π n) (hn : n ≤ 4096) (hL : ∀ e ∈ π.ord, ZL e ∧ Vw (entR e) e) : Fn prog 15 #[AI b] [Pq b k π] fun v L => ∃ l a c, l.map En.pl = π.ord.map En.pl ∧ (∀ e ∈ l, Yx e) ∧ v = .slice a l.length c ∧ L = [Pq b k π, Af 62 11 v l.length (l.flatMap DE), Ag entR l] := by
 refine Fn.intro func15 Y Y fun F W => ?_
 refine .plOpen (π := π) O fun ov mi me hI => (.slAny (v := ov) O fun ao co eo _ => ?_)
 subst eo
 have hol := hB.ord
 refine .add (p := Py AF []) (AO 62 11) (.add (p := Ag entR []) (fun h => CX h) (.sr (.an Y (.sr (.an Y (.seq (.sm Y (.nf Y Lw (.u (.ld Y WO) (.q (.slen Y underlying54 Y) Y (.m Y (.nt (.block (.loopK (ι := Nat × Value × (List En)) (fun q E => (11, AA q.1) :: (3, q.2.1) :: E) (fun q => [Af 62 11 q.2.1 q.1 (q.2.2.flatMap DE), Ag entR q.2.2]) (fun q => q.1 ≤ π.ord.length ∧ (∃ a c, q.2.1 = .slice a q.1 c) ∧ q.2.2.map En.pl = (π.ord.take q.1).map En.pl ∧ ∀ e ∈ q.2.2, Yx e) (fun q => π.ord.length - q.1) (0, AF, []) (ts := [2, 9, 10]) O (⟨Nat.zero_le _, ⟨none, 0, Y⟩, Y, fun y hy => by cases hy⟩) O O ?_))))))))))))))
 rintro ⟨i, u, l⟩ ⟨hi, ⟨au, cu, hu⟩, hl, hk⟩
 dsimp only
 dsimp only at hi hu hl hk
 subst hu
 refine .sr (.ui Y Y Y (.nt (.seq (.condD Y (fun h12 => ?_) (fun h12 => ?_)))))
 ·have hi2 : i < π.ord.length := by omega
  have hel := hL _ (getElem_mem hi2)
  have hlen := hel.1.len
  refine .slShape (T := 62) (sz := 11) (v := .slice ao π.ord.length co) (xs := π.ord.flatMap DE) O om fun bo bo' e0 _ _ => ?_
  simp only [Value.slice.injEq, true_and] at e0
  obtain ⟨rfl, rfl⟩ := e0
  refine .sk (.seq (.block (.sr (.q (.indexAddr Y Y H5 om) Y (.q (.loadRdA (sz := 11) (j := i * 11) (k := 11) (p := Py (.slice (some ⟨bo, 0, none⟩) π.ord.length co) π.ord) (vs := DE π.ord[i]) Y EL O (fun h hp => Aa hp) (by simp) om om (A5 (f := DE) (sz := 11) (fun _ _ => Y) om)) Y (.oq (.allocA Ey) ?_))))))
  rintro v L' ⟨b5, rfl, rfl⟩
  refine .sa Y Y Ii (by exact hel.2.cells) ?_
  refine .nil (.pc b5 (DE π.ord[i]) ?_)
  refine .then_n (.sr (.q (.la (DE π.ord[i]) Y EL) Y (.cv func33 [_] (Uu π.ord[i] (Ag entR π.ord) (Vw.all (getElem_mem hi2) hel.2)) ?_)))
  refine .oq (.c func32 [_] (U7 (NV π.ord[i]) om)) ?_
  rintro v L' ⟨ge, er, hge, rfl, rfl⟩
  refine .m Y (.ex Y Y (.ex Y Y (.sa Y Y Ii (by exact hge.cells) ?_)))
  refine .nil (.pc b5 (DE ge) ?_)
  have hgp := hel.1.got hge
  refine .then_n (.region (.m Y (.q (.la (DE ge) Y EL) Y (.oq (.buildSlice (vs := [_]) H5 Ey Y Y Y Y cQ dQ) ?_))))
  rintro v L' ⟨b6, rfl, rfl⟩
  refine .oq (.append1 Y Y Y H5 Ey Y Y ?c35 ?c36 (Nat.le_refl _) ?c37 dQ) ?_
  case c35 => simp only [map_cons, map_nil, flatten_cons, flatten_nil, append_nil]; simp only [Value.cells]; exact hge.cells
  case c36 => rfl
  case c37 => omega
  rintro v L' ⟨⟨a6, c6, rfl⟩, rfl⟩
  refine .a Y (.nil (.blk_n (.then_n (.region (.q (.add Y Y om) Y (.m Y (.nt (.bigAdd (f := entR) (l := l) (p := entR ge) ge Y O (.slCast (T := 62) (sz := 11) (m' := i + 1) (xs' := (l ++ [ge]).flatMap DE) O (by exact rfl) (by rw [flatMap_append]; simp [Value.cells]) ?_)))))))))
  exact .rk ((i + 1, .slice a6 (i + 1) c6, l ++ [ge])) (⟨by dsimp only; omega, ⟨_, _, rfl⟩, ZY hi2 hl hgp.1, fun z hz => by rcases mem_append.1 hz with hz | hz; exact hk z hz; rw [mem_singleton] at hz; rw [hz]; exact hgp.2⟩) (by dsimp only; omega) O
 have hii : i = π.ord.length := by omega
 subst hii
 rw [take_length] at hl
 have hll := MP hl
 refine .slCast (T := 62) (sz := 11) (m' := l.length) (xs' := l.flatMap DE) O (by rw [hll]) Y (.xe (.sm Y (.oq (.c func34 [_] (Pr _ l.length (l.flatMap DE))) ?_)))
 rintro v L' ⟨⟨ac, cc, rfl⟩, rfl⟩
 refine .a Y (.nil (.plFold (k := k) (ov := .slice ao π.ord.length co) π hI O (by rfl) (by rfl) (by rfl) (by rfl) (by rfl) (by rfl) (.then_n (.ret ?_))))
 exact .dn Y Y ⟨l, ac, cc, hl, hk, Y, Y⟩
def Hs : Bs → List Bs
 | [] => []
 | _ :: r => Al r
def Zx (s : Bs) : Bool := decide (s.head? = some 47) && (Hs s).all BN
theorem V7 {r : Bs} {k : Nat} (hk : k ≤ r.length) (h1 : ∀ j, j < k → r.getD j 0 ≠ 47) (h2 : k = r.length ∨ r.getD k 0 = 47) : Al r = r.take k :: Hs (r.drop k) := by
 have hno : (47 : UInt8) ∉ r.take k := fun hm => by
  obtain ⟨i, hi, e⟩ := mem_iff_getElem.1 hm
  rw [length_take] at hi
  rw [getElem_take] at e
  refine h1 i om ?_
  rw [getD_eq_getElem?_getD, List.getElem?_eq_getElem om, Option.getD_some]; exact e
 rcases Nat.lt_or_ge k r.length with hlt | hge
 ·have h3 : r[k] = 47 := by
   rcases h2 with h2 | h2
   ·omega
   ·rw [getD_eq_getElem?_getD, List.getElem?_eq_getElem hlt, Option.getD_some] at h2; exact h2
  have e : r = r.take k ++ 47 :: r.drop (k + 1) := by
   have := (take_append_drop k r).symm
   rw [drop_eq_getElem_cons hlt, h3] at this; exact this
  have e2 : r.drop k = 47 :: r.drop (k + 1) := by rw [drop_eq_getElem_cons hlt, h3]
  rw [e2]
  conv => lhs; rw [e]
  exact QC hno
 ·have : k = r.length := by omega
  subst this
  rw [take_length] at hno ⊢
  rw [drop_length, HI hno]; rfl
theorem Wy {p : Bs} (h1 : p ≠ [47]) : BG p = if Zx p = true then (if p.length > 60 ∨ (Hs p).length > 6 then 41 else 0) else 40 := by
 unfold BG
 rw [if_neg h1]
 cases p with
 | nil => decide
 | cons c r =>
  by_cases hc : c = 47
  ·subst hc
   have e : Al (47 :: r) = [] :: Al r := by rw [F5, if_pos rfl]
   have hne := Gs r
   rw [e]
   unfold Zx
   rw [show Hs (47 :: r) = Al r from rfl]
   by_cases ha : (Al r).all BN = true
   ·rw [if_neg, ha, if_pos (show (decide ((47 :: r).head? = some 47) && true) = true from by simp)]
    ·have e7 : ([] :: Al r).length = (Al r).length + 1 := rfl
     by_cases h60 : (47 :: r).length > 60 ∨ (Al r).length > 6
     ·rw [if_pos h60, if_pos (by rw [e7]; omega)]
     ·rw [if_neg h60, if_neg (by rw [e7]; omega)]
    ·simp only [List.head?_cons, tail_cons, length_cons]
     rintro (g | g | g)
     ·exact g rfl
     ·exact hne (eq_nil_of_length_eq_zero om)
     ·rw [ha] at g; cases g
   ·rw [if_pos (.inr (.inr (by rw [tail_cons]; simpa using ha))), if_neg]
    simp; simpa using ha
  ·rw [if_pos, if_neg]
   ·unfold Zx; simp [hc]
   ·left
    rw [F5, if_neg hc]
    rcases e : Al r with _ | ⟨h, t⟩ <;> simp
theorem PZ (c : UInt8) : Fn prog 284 #[Cw c] [] fun v L => v = .bool (DW c) ∧ L = [] := by
 refine Fn.intro func284 Y Y fun F W => ?_
 refine .sr (.an Y (.sr ?_))
 refine' G.joinM (ts := [0, 2]) (t := 8) (φ := (97 ≤ c.toNat ∧ c.toNat ≤ 122)) (.cons rfl (.cons rfl (.nil))) ?w1_0 ?k1_0
 case w1_0 =>
  intro JT JF
  refine .m Y (.ui Y Y Y (.m Y (.dec (t := 5) Y (fun h1_5 => ?_) (fun h1_5 => ?_))))
  ·refine .kDT (t := 4) Y h1_5 (.gr (.m Y (.gr (.ui Y Y Y (.pT Y Y ?_)))))
   exact .midD JT JF O om
  refine .kDF (t := 4) Y h1_5 (.gk (.gk (.pF Y Y ?_)))
  exact JF om O
 refine' G.joinM (ts := [0, 2]) (t := 16) (φ := ((97 ≤ c.toNat ∧ c.toNat ≤ 122) ∨ (65 ≤ c.toNat ∧ c.toNat ≤ 90))) (.cons rfl (.cons rfl (.nil))) ?w1_6 ?k1_6
 case w1_6 =>
  intro JT JF
  refine .m Y (.dec (t := 9) Y (fun h1_9 => ?_) (fun h1_9 => ?_))
  ·refine .kDT (t := 8) Y h1_9 (.gk (.gk (.gk (.gn (.gn (.gk (.pT Y Y ?_)))))))
   exact JT om O
  refine .kDF (t := 8) Y h1_9 (.gr (.m Y (.gr (.ui Y Y Y (.gr (.m Y (.dec (t := 12) Y (fun h1_12 => ?_) (fun h1_12 => ?_))))))))
  ·refine .kDT (t := 11) Y h1_12 (.gr (.m Y (.gr (.ui Y Y Y (.gr (.pT Y Y (.pF Y Y ?_)))))))
   exact .midD JT JF O om
  refine .kDF (t := 11) Y h1_12 (.gk (.gk (.gr (.pF Y Y (.pF Y Y ?_)))))
  exact JF om O
 refine' G.joinM (ts := [0, 2]) (t := 24) (φ := (((97 ≤ c.toNat ∧ c.toNat ≤ 122) ∨ (65 ≤ c.toNat ∧ c.toNat ≤ 90)) ∨ (48 ≤ c.toNat ∧ c.toNat ≤ 57))) (.cons rfl (.cons rfl (.nil))) ?w1_14 ?k1_14
 case w1_14 =>
  intro JT JF
  refine .m Y (.dec (t := 17) Y (fun h1_17 => ?_) (fun h1_17 => ?_))
  ·refine .kDT (t := 16) Y h1_17 (.gk (.gk (.gk (.gn (.gn (.gk (.pT Y Y ?_)))))))
   exact JT om O
  refine .kDF (t := 16) Y h1_17 (.gr (.m Y (.gr (.ui Y Y Y (.gr (.m Y (.dec (t := 20) Y (fun h1_20 => ?_) (fun h1_20 => ?_))))))))
  ·refine .kDT (t := 19) Y h1_20 (.gr (.m Y (.gr (.ui Y Y Y (.gr (.pT Y Y (.pF Y Y ?_)))))))
   exact .midD JT JF O om
  refine .kDF (t := 19) Y h1_20 (.gk (.gk (.gr (.pF Y Y (.pF Y Y ?_)))))
  exact JF om O
 refine' G.joinM (ts := [0, 2]) (t := 28) (φ := ((((97 ≤ c.toNat ∧ c.toNat ≤ 122) ∨ (65 ≤ c.toNat ∧ c.toNat ≤ 90)) ∨ (48 ≤ c.toNat ∧ c.toNat ≤ 57)) ∨ c.toNat = 95)) (.cons rfl (.cons rfl (.nil))) ?w1_22 ?k1_22
 case w1_22 =>
  intro JT JF
  refine .m Y (.dec (t := 25) Y (fun h1_25 => ?_) (fun h1_25 => ?_))
  ·refine .kDT (t := 24) Y h1_25 (.gk (.gk (.pT Y Y ?_)))
   exact JT om O
  refine .kDF (t := 24) Y h1_25 (.gr (.m Y (.gr (.ui Y Y Y (.pF Y Y ?_)))))
  exact .midD JT JF O om
 refine' G.joinM (ts := [0, 2]) (t := 32) (φ := (((((97 ≤ c.toNat ∧ c.toNat ≤ 122) ∨ (65 ≤ c.toNat ∧ c.toNat ≤ 90)) ∨ (48 ≤ c.toNat ∧ c.toNat ≤ 57)) ∨ c.toNat = 95) ∨ c.toNat = 45)) (.cons rfl (.cons rfl (.nil))) ?w1_26 ?k1_26
 case w1_26 =>
  intro JT JF
  refine .m Y (.dec (t := 29) Y (fun h1_29 => ?_) (fun h1_29 => ?_))
  ·refine .kDT (t := 28) Y h1_29 (.gk (.gk (.pT Y Y ?_)))
   exact JT om O
  refine .kDF (t := 28) Y h1_29 (.gr (.m Y (.gr (.ui Y Y Y (.pF Y Y ?_)))))
  exact .midD JT JF O om
 refine' G.joinM (ts := [2]) (t := 36) (φ := ((((((97 ≤ c.toNat ∧ c.toNat ≤ 122) ∨ (65 ≤ c.toNat ∧ c.toNat ≤ 90)) ∨ (48 ≤ c.toNat ∧ c.toNat ≤ 57)) ∨ c.toNat = 95) ∨ c.toNat = 45) ∨ c.toNat = 46)) (.cons rfl (.nil)) ?w1_30 ?k1_30
 case w1_30 =>
  intro JT JF
  refine .m Y (.dec (t := 33) Y (fun h1_33 => ?_) (fun h1_33 => ?_))
  ·refine .kDT (t := 32) Y h1_33 (.gk (.gk (.pT Y Y ?_)))
   exact JT om O
  refine .kDF (t := 32) Y h1_33 (.gr (.m Y (.gr (.ui Y Y Y (.pF Y Y ?_)))))
  exact .midD JT JF O om
 refine .an Y (.ret ?_)
 exact .dn Y Y ⟨by unfold DW; simp only [Bool.decide_or, Bool.decide_and], rfl⟩
theorem Pf (s : Bs) (hs : s.length ≤ 1099511627776) : Fn prog 262 #[AE s] [] fun v L => v = .bool (BN s) ∧ L = [] := by
 refine Fn.intro func262 Y Y fun F W => ?_
 have hbs := Ba s
 refine .sr (.an Y (.seq (.sm Y (.u (.streq Y Y) (.m Y (.dec (t := 7) Y (fun h1_7 => ?_) (fun h1_7 => ?_)))))))
 ·refine .kDT (t := 6) Y h1_7 (.gk (.gk (.pT Y Y (.m Y (.gk (.gk (.pT Y Y (.nt (.condT Y (.sr (.an Y (.rt ?_))))))))))))
  exact .dn Y Y ⟨by rw [show BN s = false by unfold BN; first | (rw [show s = [] from by assumption]; rfl) | (rw [show s = [46] from by assumption]; rfl) | (rw [show s = [46, 46] from by assumption]; rfl)], rfl⟩
 refine .kDF (t := 6) Y h1_7 (.gr (.m Y (.gr (.u (.streq Y Y) (.pF Y Y (.m Y (.dec (t := 11) Y (fun h1_11 => ?_) (fun h1_11 => ?_))))))))
 ·refine .kDT (t := 9) Y h1_11 (.kDT (t := 10) Y h1_11 (.gk (.gk (.pT Y Y (.nt (.condT Y (.sr (.an Y (.rt ?_)))))))))
  exact .dn Y Y ⟨by rw [show BN s = false by unfold BN; first | (rw [show s = [] from by assumption]; rfl) | (rw [show s = [46] from by assumption]; rfl) | (rw [show s = [46, 46] from by assumption]; rfl)], rfl⟩
 refine .kDF (t := 9) Y h1_11 (.kDF (t := 10) Y h1_11 (.gr (.m Y (.gr (.u (.streq Y Y) (.pF Y Y (.nt (.condD Y (fun h14 => ?_) (fun h14 => ?_)))))))))
 ·refine .sr (.an Y (.rt ?_))
  exact .dn Y Y ⟨by rw [show BN s = false by unfold BN; first | (rw [show s = [] from by assumption]; rfl) | (rw [show s = [46] from by assumption]; rfl) | (rw [show s = [46, 46] from by assumption]; rfl)], rfl⟩
 refine .sk (.seq (.sr (.an Y (.block (.loopK (ι := Nat) (fun q E => (3, AA q) :: E) (fun q => []) (fun q => q ≤ s.length ∧ (s.take q).all DW = true) (fun q => s.length - q) (0) (ts := [0]) O (⟨Nat.zero_le _, Y⟩) O O ?_)))))
 rintro i ⟨hi, hall⟩
 refine .seq (.sm Y (.m Y (.q (.strlen Y underlying9 Y) Y (.ui Y Y Y (.nt (.condD Y (fun h18 => ?_) (fun h18 => ?_)))))))
 ·have hi2 : i < s.length := by omega
  refine .sk (.seq (.block (.sm Y (.m Y (.q (.strIndex (c := s[i]) Y Y underlying9 om (by simp)) Y (.cv func284 [_] (PZ _) ?_))))))
  refine .an Y (.sm Y (.u (.not Y) (.nt (.condB Y (fun h26 => ?_) (fun h26 => ?_)))))
  ·refine .sr (.an Y (.ret (.blk_r (.then_r (.then_r (.blk_r (.then_r ?_)))))))
   exact .dn Y Y ⟨by rw [Qe hi2 (by simpa using h26)], rfl⟩
  refine .skip (.blk_n (.then_n (.region (.m Y (.q (.add Y Y om) Y (.an Y ?_))))))
  exact .rk (i + 1) (⟨by omega, F3 hi2 hall (by simpa using h26)⟩) om O
 have hii : i = s.length := by omega
 rw [hii, take_length] at hall
 refine .xe (.sr (.an Y (.ret ?_)))
 exact .dn Y Y ⟨by rw [show BN s = true by unfold BN; rw [decide_eq_false h1_7, decide_eq_false h1_11, decide_eq_false h14, hall]; rfl], rfl⟩
theorem RF (s : Bs) (hs : s.length ≤ 1099511627776) : Fn prog 237 #[AE s] [] fun v L => ∃ (n : Nat) (b : Bool), (∃ a c, v = .tuple #[.slice a n c, .bool b]) ∧ b = Zx s ∧ (b = true → n = (Hs s).length) ∧ L = [] := by
 refine Fn.intro func237 Y Y fun F W => ?_
 refine .add (AO 9 1) (.sr (.a Y (.an Y (.sr (.an Y (.seq (.block (.loopK (ι := Bs × Value × (List Bs)) (fun q E => (0, AE q.1) :: (4, q.2.1) :: E) (fun q => [Af 9 1 q.2.1 q.2.2.length (A6 q.2.2)]) (fun q => (∃ a c, q.2.1 = .slice a q.2.2.length c) ∧ q.2.2.all BN = true ∧ Hs s = q.2.2 ++ Hs q.1 ∧ q.1.length + q.2.2.length ≤ s.length ∧ (q.2.2 = [] → q.1 = s) ∧ (q.2.2 ≠ [] → s.head? = some 47 ∧ (q.1 = [] ∨ q.1.head? = some 47))) (fun q => q.1.length) (s, .slice none 0 0, []) (ts := []) (.nil) (⟨⟨none, 0, Y⟩, Y, Y, by simp, fun _ => rfl, fun h => absurd rfl h⟩) O O ?_))))))))
 rintro ⟨cur, u, acc⟩ ⟨⟨au, cu, hu⟩, hall, hseg, hcl, hfst, hrest⟩
 dsimp only
 dsimp only at hu hall hseg hcl hfst hrest
 subst hu
 have hbs := Ba cur
 refine .seq (.sm Y (.u (.strne Y Y) (.nt (.condN Y (fun h8 => ?_) (fun h8 => ?_)))))
 ·obtain ⟨c0, r, rfl⟩ : ∃ c0 r, cur = c0 :: r := by cases cur with | nil => exact absurd rfl h8 | cons c r => exact ⟨c, r, rfl⟩
  have hrl : (c0 :: r).length = r.length + 1 := rfl
  refine .sk (.block (.seq (.sm Y (.q (.strIndex (c := c0) Y Y underlying9 om (by simp)) Y (.ui Y Y Y (.nt (.condN Y (fun h11 => ?_) (fun h11 => ?_))))))))
  ·refine .sr (.a Y (.an Y (.rt (.blk_r (.then_r (.blk_r (.then_r ?_)))))))
   exact .dn Y Y ⟨_, _, ⟨_, _, Y⟩, (by rw [show Zx s = false by unfold Zx; rcases acc with _ | ⟨x, l⟩; (rw [← hfst rfl]; simp; intro e; exact absurd (by rw [e]; rfl) h11); (obtain ⟨-, g⟩ := hrest (by simp); rcases g with g | g; (cases g); (simp at g; exact absurd (by rw [g]; rfl) h11))]), (fun h => by cases h), rfl⟩
  have hc0 : c0 = 47 := Lm (d := 47) (by first | exact h11 | simpa using h11)
  subst hc0
  have hs47 : s.head? = some 47 := by rcases acc with _ | ⟨x, l⟩; rw [← hfst rfl]; rfl; exact (hrest (by simp)).1
  refine .sk (.sr (.an Y (.seq (.joinK (ι := Nat) (fun q E => (5, AA q) :: E) (fun q => []) (fun q => 1 ≤ q ∧ q ≤ r.length + 1 ∧ (∀ j, j < q - 1 → r.getD j 0 ≠ 47) ∧ (q - 1 = r.length ∨ r.getD (q - 1) 0 = 47)) (pre := []) (ts := [0, 4, 7, 8, 9, 10, 11]) O O ?_ ?_))))
  ·refine .block (.loopK (ι := Nat) (fun q E => (5, AA q) :: E) (fun q => []) (fun q => 1 ≤ q ∧ q ≤ r.length + 1 ∧ ∀ j, j < q - 1 → r.getD j 0 ≠ 47) (fun q => r.length + 1 - q) (1) (ts := [0, 4, 7, 8, 9, 10, 11]) O (⟨by omega, by omega, fun j hj => by omega⟩) O O ?_)
   rintro n ⟨hn1, hn2, hno⟩
   refine .seq (.sm Y (.m Y (.q (.strlen Y underlying9 Y) Y (.ui Y Y Y (.m Y (.dec (t := 16) Y (fun h6_16 => ?_) (fun h6_16 => ?_)))))))
   ·have hn3 : n < r.length + 1 := by omega
    have hn4 : n - 1 < r.length := by omega
    have hat : (47 :: r)[n]? = some r[n - 1] := by obtain ⟨m, rfl⟩ : ∃ m, n = m + 1 := ⟨n - 1, by omega⟩; simp [show m < r.length by omega]
    refine .kDT (t := 15) Y h6_16 (.gr (.m Y (.gr (.m Y (.gr (.q (.strIndex (c := r[n - 1]) Y Y underlying9 om (by rw [Int.toNat_natCast]; exact hat)) Y (.gr (.ui Y Y Y (.pT Y Y (.nt (.condN Y (fun h21 => ?_) (fun h21 => ?_))))))))))))
    ·have hne : r[n - 1] ≠ 47 := fun e => h21 (by rw [e]; rfl)
     refine .sk (.block (.region (.m Y (.q (.add Y Y om) Y (.a Y (.nil (.blk_n (.then_n ?_))))))))
     exact .rk (n + 1) (⟨by omega, by omega, fun j hj => by by_cases e : j = n - 1; (subst e; rw [getD_eq_getElem?_getD, List.getElem?_eq_getElem hn4, Option.getD_some]; exact hne); exact hno j om⟩) om O
    have hlast : r[n - 1] = 47 := Lm (d := 47) (by first | exact h21 | simpa using h21)
    refine .xe ?_
    exact .mk (n) (⟨hn1, hn2, hno, .inr (by rw [getD_eq_getElem?_getD, List.getElem?_eq_getElem hn4, Option.getD_some]; exact hlast)⟩) O
   refine .kDF (t := 15) Y h6_16 (.gk (.gk (.gk (.gk (.pF Y Y (.nt (.condF Y (.xe ?_))))))))
   exact .mk (n) (⟨hn1, hn2, hno, .inl om⟩) O
  rintro n ⟨hn1, hn2, hno, hend⟩
  have hstep := V7 (r := r) (k := n - 1) om hno hend
  have htk : ((47 :: r).take n).drop 1 = r.take (n - 1) := by obtain ⟨m, rfl⟩ : ∃ m, n = m + 1 := ⟨n - 1, by omega⟩; simp
  have hdr : (47 :: r).drop n = r.drop (n - 1) := by obtain ⟨m, rfl⟩ : ∃ m, n = m + 1 := ⟨n - 1, by omega⟩; simp
  have hsplit : Hs (47 :: r) = ((47 :: r).take n).drop 1 :: Hs ((47 :: r).drop n) := by rw [htk, hdr]; exact hstep
  have hdrop : (47 :: r).drop n = [] ∨ ((47 :: r).drop n).head? = some 47 := by rw [hdr]; rcases hend with h | h; (left; rw [h, drop_length]); (rcases Nat.lt_or_ge (n - 1) r.length with g | g; (right; rw [drop_eq_getElem_cons g]; rw [getD_eq_getElem?_getD, List.getElem?_eq_getElem g, Option.getD_some] at h; rw [h]; rfl); (left; exact drop_eq_nil_of_le g))
  refine .sm Y (.m Y (.q (.to (v' := AE (((47 :: r).take n).drop 1)) (.strMid (i := 1) (j := n) Y Y Y underlying9 om) (by rw [Int.toNat_natCast]; rfl)) Y (.oq (.call func262 Y Y (vs := [_]) Y (Pf _ (by simp; omega))) ?_)))
  rintro v L' ⟨rfl, rfl⟩
  refine .an Y (.seq (.sm Y (.u (.not Y) (.nt (.condB Y (fun h29 => ?_) (fun h29 => ?_))))))
  ·refine .sr (.a Y (.an Y (.rt (.blk_r (.then_r (.blk_r (.then_r ?_)))))))
   exact .dn Y Y ⟨_, _, ⟨_, _, Y⟩, (by rw [show Zx s = false by unfold Zx; rw [hseg, hsplit, all_append, all_cons]; rw [show BN (((47 :: r).take n).drop 1) = false by simpa using h29]; simp]), (fun h => by cases h), rfl⟩
  refine .sk (.sm Y (.m Y (.m Y (.q (.to (v' := AE (((47 :: r).take n).drop 1)) (.strMid (i := 1) (j := n) Y Y Y underlying9 om) (by rw [Int.toNat_natCast]; rfl)) Y (.oq (.buildSlice1 (vs := [_]) Dr J6 Y Y Y Y Y dQ) ?_)))))
  rintro v L' ⟨b11_4, rfl, rfl⟩
  refine .oq (.append1 Y Y Y Dr J6 Y Y ?c37 ?c38 (Nat.le_refl _) ?c39 dQ) ?_
  case c37 => (first | (simp [AB]; done) | (simp [AB, AW, Value.cells]; done))
  case c38 => rfl
  case c39 => omega
  rintro v L' ⟨⟨a11_5, c11_5, rfl⟩, rfl⟩
  refine .an Y (.region (.m Y (.m Y (.q (.to (v' := AE ((47 :: r).drop n)) (.strFrom (i := n) Y Y underlying9 om) (by simp)) Y (.a Y (.nil (.blk_n (.then_n ?_))))))))
  have hin := h29
  rw [show A6 acc ++ [AE (((47 :: r).take n).drop 1)] = A6 (acc ++ [((47 :: r).take n).drop 1]) by simp [A6], show acc.length + 1 = (acc ++ [((47 :: r).take n).drop 1]).length by simp]
  exact .rk (((47 :: r).drop n, .slice a11_5 (acc ++ [((47 :: r).take n).drop 1]).length c11_5, acc ++ [((47 :: r).take n).drop 1])) (⟨⟨_, _, Y⟩, by dsimp only; rw [all_append, hall]; simpa using hin, by dsimp only; rw [hseg, hsplit, append_assoc]; rfl, by dsimp only; rw [length_drop, length_append]; simp; omega, fun h => by simp at h, fun _ => ⟨hs47, hdrop⟩⟩) (by dsimp only; rw [length_drop]; omega) O
 have hcn : cur = [] := h8
 subst hcn
 refine .xe (.sm Y (.m Y (.q (.slen Y underlying38 Y) Y (.ui Y Y Y (.a Y (.an Y (.ret ?_)))))))
 exact .dn Y Y ⟨_, _, ⟨_, _, Y⟩, (by unfold Zx; rw [hseg, show Hs [] = [] from rfl, append_nil, hall, Bool.and_true]; refine decide_eq_decide.2 ?_; rcases acc with _ | ⟨x, l⟩; (rw [← hfst rfl]; simp); (simp only [(hrest (by simp)).1, iff_true, length_cons]; omega)), (fun _ => by rw [hseg]; simp [Hs]), rfl⟩
theorem QP (s : Bs) (hs : s.length ≤ 1099511627776) : Fn prog 195 #[AE s] [] fun v L => v = AA (BG s) ∧ L = [] := by
 refine Fn.intro func195 Y Y fun F W => ?_
 have hbs := Ba s
 refine .sr (.an Y (.seq (.sm Y (.u (.streq Y Y) (.nt (.condD Y (fun h6 => ?_) (fun h6 => ?_)))))))
 ·refine .sr (.an Y (.rt ?_))
  exact .dn Y Y ⟨by rw [show s = [47] from h6]; rfl, rfl⟩
 have hchk := Wy h6
 refine .sk (.sm Y (.oq (.c func237 [_] (RF s hs)) ?_))
 rintro v L' ⟨nn, b, ⟨a3, c3, rfl⟩, hb, hnn, rfl⟩
 refine .m Y (.ex Y Y (.ex Y Y (.a Y (.an Y (.seq (.sm Y (.u (.not Y) (.nt (.condB Y (fun h13 => ?_) (fun h13 => ?_))))))))))
 ·have hbf : b = false := by simpa using h13
  rw [← hb, hbf, if_neg (by simp)] at hchk
  refine .sr (.an Y (.rt ?_))
  exact .dn Y Y ⟨by rw [hchk], rfl⟩
 have hbt : b = true := by simpa using h13
 have hnl := hnn hbt
 rw [← hb, hbt, if_pos rfl] at hchk
 refine .sk (.seq (.sm Y (.q (.strlen Y underlying9 Y) Y (.ui Y Y Y (.m Y (.dec (t := 17) Y (fun h6_17 => ?_) (fun h6_17 => ?_)))))))
 ·refine .kDT (t := 16) Y h6_17 (.gk (.gk (.gk (.pT Y Y (.nt (.condT Y (.sr (.an Y (.rt ?_)))))))))
  exact .dn Y Y ⟨by rw [hchk, if_pos (by left; omega)], rfl⟩
 refine .kDF (t := 16) Y h6_17 (.gr (.m Y (.gr (.q (.slen Y underlying38 Y) Y (.gr (.ui Y Y Y (.pF Y Y (.nt (.condD Y (fun h21 => ?_) (fun h21 => ?_))))))))))
 ·refine .sr (.an Y (.rt ?_))
  exact .dn Y Y ⟨by rw [hchk, if_pos (by right; omega)], rfl⟩
 refine .sk (.sr (.an Y (.ret ?_)))
 exact .dn Y Y ⟨by rw [hchk, if_neg om], rfl⟩
theorem Kz (s : Bs) (hs : s.length ≤ 1099511627776) : Fn prog 128 #[AE s] [] fun v L => v = AA (B8 s) ∧ L = [] := by
 refine Fn.intro func128 Y Y fun F W => ?_
 have hbs := Ba s
 refine .sr (.an Y (.seq (.sm Y (.q (.strlen Y underlying9 Y) Y (.q (.sub Y Y om) Y (.an Y (.block (.loopK (ι := Nat) (fun q E => (3, AA (dnL s.length q)) :: E) (fun q => []) (fun q => q ≤ s.length ∧ CI s (s.length - q) = B8 s) (fun q => s.length - q) (0) (ts := [0]) O (⟨Nat.zero_le _, Y⟩) O O ?_))))))))
 rintro k ⟨hk, hl⟩
 have hdn := V2 s.length k
 refine .seq (.sm Y (.ui Y Y Y (.nt (.condD Y (fun h8 => ?_) (fun h8 => ?_)))))
 ·have hk2 : k < s.length := by omega
  have hat : s[s.length - (k + 1)] = s.getD (s.length - (k + 1)) 0 := by rw [getD_eq_getElem?_getD, List.getElem?_eq_getElem om, Option.getD_some]
  refine .sk (.seq (.block (.sm Y (.m Y (.q (.strIndex (c := s[s.length - (k + 1)]) Y Y underlying9 om (by rw [show (dnL s.length k).toNat = s.length - (k + 1) by omega]; simp [show s.length - (k + 1) < s.length by omega])) Y (.ui Y Y Y (.nt (.condD Y (fun h14 => ?_) (fun h14 => ?_)))))))))
  ·have he : s.getD (s.length - (k + 1)) 0 = 47 := by rw [← hat]; exact Lm h14
   refine .sm Y (.an Y (.ret (.blk_r (.then_r (.then_r (.blk_r (.then_r ?_)))))))
   exact .dn Y Y ⟨by rw [← hl, show s.length - k = (s.length - (k + 1)) + 1 by omega, CI, if_pos he, hdn]; congr 1; omega, rfl⟩
  have hne : ¬ s.getD (s.length - (k + 1)) 0 = 47 := by rw [← hat]; exact fun e => h14 (by rw [e]; rfl)
  refine .skip (.blk_n (.then_n (.region (.m Y (.q (.sub Y Y om) Y (.an Y ?_))))))
  exact .rk (k + 1) (⟨by omega, by rw [← hl, show s.length - k = (s.length - (k + 1)) + 1 by omega, CI, if_neg hne]⟩) om O
 refine .xe (.sr (.an Y (.ret ?_)))
 exact .dn Y Y ⟨by rw [← hl, show s.length - k = 0 by omega]; rfl, rfl⟩
theorem HQ (s : Bs) (hs : s.length ≤ 1099511627776) : Fn prog 67 #[AE s] [] fun v L => v = AE (AL s) ∧ L = [] := by
 refine Fn.intro func67 Y Y fun F W => ?_
 have hr := EG s
 refine .sr (.an Y (.sm Y (.oq (.c func128 [_] (Kz _ ?hs3)) ?_)))
 case hs3 => first | assumption | omega
 rintro v L' ⟨rfl, rfl⟩
 refine .an Y (.seq (.sm Y (.ui Y Y Y (.m Y (.dec (t := 8) Y (fun h2_8 => ?_) (fun h2_8 => ?_))))))
 ·refine .kDT (t := 7) Y h2_8 (.gk (.gk (.pT Y Y (.nt (.condT Y (.sr (.an Y (.rt ?_))))))))
  exact .dn Y Y ⟨by unfold AL; rw [if_pos (by first | exact .inl om | exact .inr (by assumption))], rfl⟩
 refine .kDF (t := 7) Y h2_8 (.gr (.m Y (.gr (.u (.streq Y Y) (.pF Y Y (.nt (.dec (t := 11) Y (fun h11 => ?_) (fun h11 => ?_))))))))
 ·refine .condT Y (.sr (.an Y (.rt ?_)))
  exact .dn Y Y ⟨by unfold AL; rw [if_pos (by first | exact .inl om | exact .inr (by assumption))], rfl⟩
 refine .condF Y (.sk (.seq (.sm Y (.ui Y Y Y (.nt (.condD Y (fun h13 => ?_) (fun h13 => ?_)))))))
 ·refine .sr (.an Y (.rt ?_))
  exact .dn Y Y ⟨by unfold AL; rw [if_neg (by rintro (g | g); omega; exact absurd g h11), if_pos h13], rfl⟩
 refine .sk (.sm Y (.m Y (.q (.strTo Y Y underlying9 om) Y (.an Y (.ret ?_)))))
 exact .dn Y Y ⟨by unfold AL; rw [if_neg (by rintro (g | g); omega; exact absurd g h11), if_neg h13], rfl⟩
theorem SZ (s : Bs) (hs : s.length ≤ 1099511627776) : Fn prog 68 #[AE s] [] fun v L => v = AE (C8 s) ∧ L = [] := by
 refine Fn.intro func68 Y Y fun F W => ?_
 have hr := EG s
 refine .sr (.an Y (.sm Y (.m Y (.oq (.c func128 [_] (Kz _ ?hs4)) ?_))))
 case hs4 => first | assumption | omega
 rintro v L' ⟨rfl, rfl⟩
 refine .q (.add Y Y om) Y (.q (.strFrom Y Y underlying9 om) Y (.an Y (.ret ?_)))
 exact .vv
theorem U6 (s name : Bs) (hs : s.length ≤ 1099511627776) (hn : name.length ≤ 1099511627776) : Fn prog 196 #[AE s, AE name] [] fun v L => v = AE (Fe s name) ∧ L = [] := by
 refine Fn.intro func196 Y Y fun F W => ?_
 refine .sr (.an Y (.seq (.sm Y (.u (.streq Y Y) (.nt (.condD Y (fun h6 => ?_) (fun h6 => ?_)))))))
 ·refine .sm Y (.m Y (.q (.concat Y Y om) Y (.an Y (.rt ?_))))
  exact .dn Y Y ⟨by unfold Fe; rw [if_pos h6, h6], rfl⟩
 refine .sk (.sm Y (.q (.concat Y Y (by simp; omega)) Y (.m Y (.q (.concat Y Y (by simp; omega)) Y (.an Y (.ret ?_))))))
 exact .dn Y Y ⟨by unfold Fe; rw [if_neg h6], rfl⟩
theorem Rh (s q0 : Bs) (hq : q0.length ≤ 1099511627776) : Fn prog 127 #[AE s, AE q0] [] fun v L => v = .bool (decide (JC s q0)) ∧ L = [] := by
 refine Fn.intro func127 Y Y fun F W => ?_
 have hb1 := Ba s
 have hb2 := Ba (Fe q0 [])
 have hkl := Yz q0 []
 refine .sr (.an Y (.sm Y (.cv func196 [_, _] (U6 q0 [] om (by simp)) ?_)))
 refine .an Y (.sm Y (.q (.strlen Y underlying9 Y) Y (.m Y (.q (.strlen Y underlying9 Y) Y (.ui Y Y Y (.m Y (.dec (t := 13) Y (fun h2_13 => ?_) (fun h2_13 => ?_))))))))
 ·refine .kDT (t := 12) Y h2_13 (.gr (.m Y (.gr (.m Y (.gr (.q (.strlen Y underlying9 Y) Y (.gr (.q (.to (v' := AE (s.take (Fe q0 []).length)) (.strTo Y Y underlying9 om) (by rw [Int.toNat_natCast])) Y (.gr (.m Y (.gr (.u (.streq Y Y) (.pT Y Y (.an Y (.ret ?_)))))))))))))))
  exact .dn Y Y ⟨by congr 1; exact decide_eq_decide.2 ⟨fun e => ⟨e, fun g => by rw [g] at h2_13; omega⟩, fun e => e.1⟩, rfl⟩
 refine .kDF (t := 12) Y h2_13 (.gk (.gk (.gk (.gk (.gk (.gk (.pF Y Y (.an Y (.ret ?_)))))))))
 exact .dn Y Y ⟨by rw [decide_eq_false (fun e => by obtain ⟨e1, e2⟩ := e; unfold pfx at e1; have h3 := congrArg List.length e1; rw [length_take] at h3; exact e2 (by rw [← e1, take_of_length_le om]))], rfl⟩
end Go.Proofs.YtmbnebafdhpgpaaGreatDoor
