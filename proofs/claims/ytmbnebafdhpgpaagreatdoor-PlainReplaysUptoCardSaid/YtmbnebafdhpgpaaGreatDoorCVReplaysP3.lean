/- Own work, in part by program, for plainReplays.proved. -/
import Derived.Test.YtmbnebafdhpgpaaGreatDoorCVReplaysP2
import Derived.Test.YtmbnebafdhpgpaaGreatDoorCVReplaysP1
import Derived.Sort.Walk0
import Derived.Test.YtmbnebafdhpgpaaGreatDoorCVReplaysP0
import Derived.RangeFuncRecord
import Derived.Shelf.Slices.CompactI
import Derived.Shelf.Slices.Cells
set_option maxRecDepth 100000
namespace Go.Proofs.YtmbnebafdhpgpaaGreatDoor
open Go List Go.Proofs.Tryz 
theorem Rj (t : Nat) (τ : Tr) (e : En) (N : Nat) (ho : τ.Ok N) (hN : N ≤ 1099511627776) (q : HP) (hq : ∀ h : Hp, q h → Cx 8 h e.x.subsV e.subs.length (e.subs.flatMap A1)) (hfew : e.subs.length ≤ 1048576) (h1 : AB e.x.aclV = true) (h2 : AB e.x.subsV = true) (hs : ∀ y ∈ e.subs, AB y.aclV = true ∧ AB y.subsV = true) : Fn prog 26 #[AI t, .agg (DE e).toArray] [AZ t τ, q] fun v L =>
    ∃ w : Value, v = .agg (BH ((BI τ e).ws w)).toArray ∧ (∃ a c, w = .slice a (BD τ e).length c) ∧ L = [AZ t τ, q, Af 41 17 w (BD τ e).length ((BD τ e).flatMap BH)] := by
 refine Fn.intro func26 Y Y fun F W => ?_
 refine .rdAny (p := q) hq O fun aa ca hsv _ => ?_
 have hq2 : ∀ h : Hp, q h → Cx 8 h (.slice aa e.subs.length ca) e.subs.length (e.subs.flatMap A1) := fun h hp => hsv ▸ hq h hp
 refine .sr (.oq (.box Y) ?_)
 rintro v L' ⟨b3, rfl, rfl⟩
 refine .oq (.allocA Ca) ?_
 rintro v L' ⟨b4, rfl, rfl⟩
 refine .nil (.pc b3 (DE e) ?_)
 refine .then_n (.seq (.sm Y (.q (.ptreq Y Y underlying76) Y (.nt (.condF Y (.sk (.sr (.fa Y G7 (.q (.la (A1 e.x) Y Ay) Y (.oq (.allocA BL) ?_))))))))))
 rintro v L' ⟨b5, rfl, rfl⟩
 refine .sa Y Y BO (by exact CG h1 h2) ?_
 refine .nil (.pc b5 (A1 e.x) ?_)
 refine .then_n (.sm Y (.q (.la (A1 e.x) Y Ay) Y (.cv func46 [_, _] (ML t τ e.x N ho hN h1 h2) ?_)))
 refine .oq (.allocA Ca) ?_
 rintro v L' ⟨b6, rfl, rfl⟩
 refine .sa Y Y Bn (by exact BM rfl rfl rfl) ?_
 refine .nil (.pc b6 (BH (BE τ e.x)) ?_)
 refine .then_n (.seq (.draw [5, 7] [[0, 1, 2, 3, 4, 5], [6, 7]] mixed kQ (.go [Ad b3 _ _] O (.kv Y (.fieldAddr Y Oo) (.kv Y (.ld Y AR) (.k Y (.fieldAddr Y Cm) (.k Y (.ld Y AR) (.kv Y (.fieldAddr Y Lj) (.hh Y (.store Y Y Y CC ?c32 (Bb _ _)) ?_)))))))))
 case c32 => simp
 rintro v L' rfl
 refine D.ph (.g0 (.kv Y (.fieldAddr Y Id) (.hh Y (.store Y Y Y CC ?c36 (Bb _ _)) ?_)))
 case c36 => simp
 rintro v L' rfl
 refine D.ph (.fin (.pc b6 (BH ⟨e.xid, e.zx, 0, (BE τ e.x).path, [], (BE τ e.x).st, AF, AF, AF⟩) ?_))
 refine .then_n (.seq (.block (.sr (.fa Y Bz (.u (.ld Y AR) (.ui Y Y Y (.an Y (.condD Y (fun h23 => ?_) (fun h23 => ?_)))))))))
 ·refine .sr (.fa Y Ck (.q (.to (v' := .slice aa e.subs.length ca) (.load Y G0 O Y) (by exact hsv)) Y (.q (.slen Y underlying58 Y) Y (.m Y (.nil (.add (AO 41 17) (.then_n (.block (.loopK (ι := Nat × Value) (fun q E => (30, AA q.1) :: E) (fun q => [AZ t τ, Ad b6 (BH ⟨e.xid, e.zx, 0, (BE τ e.x).path, [], (BE τ e.x).st, AF, AF, q.2⟩) 41, Af 41 17 q.2 q.1 (((e.subs.take q.1).map (BE τ)).flatMap BH)]) (fun q => q.1 ≤ e.subs.length ∧ (∃ a c, q.2 = .slice a q.1 c)) (fun q => e.subs.length - q.1) (0, AF) (ts := [0, 4, 6, 28, 29]) O (⟨Nat.zero_le _, ⟨none, 0, Y⟩⟩) O O ?_)))))))))
  rintro ⟨j, w⟩ ⟨hj, ⟨au, cu, hu⟩⟩
  dsimp only
  dsimp only at hj hu
  subst hu
  refine .sr (.ui Y Y Y (.nt (.seq (.condD Y (fun h31 => ?_) (fun h31 => ?_)))))
  ·have hj2 : j < e.subs.length := by omega
   refine .rdShape (p := q) hq2 O om fun ba oa ee => ?_
   subst ee
   refine .sk (.seq (.block (.sr (.q (.indexAddr Y Y EO om) Y (.q (.loadRdA (sz := 8) (j := j * 8) (k := 8) (p := q) (vs := A1 e.subs[j]) Y Ay O hq2 (by simp) om om (A5 (f := A1) (sz := 8) (fun _ _ => Y) om)) Y (.oq (.allocA BL) ?_))))))
   rintro v L' ⟨b8, rfl, rfl⟩
   refine .sa Y Y BO (by exact CG (hs _ (getElem_mem hj2)).1 (hs _ (getElem_mem hj2)).2) ?_
   refine .nil (.pc b8 (A1 e.subs[j]) ?_)
   refine .then_n (.draw [4, 5, 6, 8] [[0, 1, 2, 3, 4, 5], [6], [7, 8]] mixed kQ (.go [Ad b8 _ _, Ad b6 _ _] O (.k Y (.fieldAddr Y JV) (.k Y (.ld Y ACQ) (.mv Y Y (.kv Y (.la (A1 e.subs[j]) Y Ay) (.hh Y (.c func46 [_, _] (ML t τ e.subs[j] N ho hN (hs _ (getElem_mem hj2)).1 (hs _ (getElem_mem hj2)).2)) ?_)))))))
   rintro v L' ⟨rfl, rfl⟩
   refine D.hh Y (.buildSlice (vs := [_]) Fw Ca Y Y Y Y cQ dQ) ?_
   rintro v L' ⟨b10, rfl, rfl⟩
   refine D.ph (.g0 (.hh Y (.append1 Y Y Y Fw Ca Y Y ?c64 ?c65 (Nat.le_refl _) ?c66 dQ) ?_))
   case c64 => simp only [map_cons, map_nil, flatten_cons, flatten_nil, append_nil]; simp only [Value.cells]; intro z hz; exact BM (x := BE τ e.subs[j]) rfl rfl rfl z (by simpa using hz)
   case c65 => rfl
   case c66 => omega
   rintro v L' ⟨⟨a10, c10, rfl⟩, rfl⟩
   refine D.ph (.g0 (.kv Y (.fieldAddr Y JV) (.hh Y (.store Y Y Y T4 ?c70 (Bb _ _)) ?_)))
   case c70 => simp
   rintro v L' rfl
   refine D.ph (.fin (.blk_n (.then_n (.region (.q (.add Y Y om) Y (.m Y (.nt (.slCast (T := 41) (sz := 17) (m' := j + 1) (xs' := ((e.subs.take (j + 1)).map (BE τ)).flatMap BH) O (by exact rfl) (by rw [take_succ_eq_append_getElem hj2, map_append, flatMap_append]; simp [Value.cells]) (.pc b6 (BH ⟨e.xid, e.zx, 0, (BE τ e.x).path, [], (BE τ e.x).st, AF, AF, .slice a10 (j + 1) c10⟩) ?_)))))))))
   exact .rk ((j + 1, .slice a10 (j + 1) c10)) (⟨by dsimp only; omega, ⟨_, _, rfl⟩⟩) (by dsimp only; omega) O
  refine .exit (.then_e (.then_e (.blk_e (.blk_n (.then_n (.sr ?_))))))
  have hW : BD τ e = e.subs.map (BE τ) := if_pos h23
  have hje : j = e.subs.length := by omega
  have hlen : j = (BD τ e).length := by rw [hW, length_map]; exact hje
  refine .as (q := Af 41 17 (.slice au j cu) (BD τ e).length ((BD τ e).flatMap BH)) (p := Af 41 17 (.slice au j cu) j (((e.subs.take j).map (BE τ)).flatMap BH)) O (by rw [← hlen, hW, hje, take_length]) (.ptCast (b := b6) (l' := BH ((BI τ e).ws (.slice au j cu))) O (by unfold BI Rp.ws; first | (rw [if_pos h43]; try rfl) | (rw [if_neg om]; try rfl)) ?_)
  refine .q (.la (BH ((BI τ e).ws (.slice au j cu))) Y BB) Y (.sa Y Y Bn (by exact BM rfl rfl rfl) ?_)
  refine .nil (.pc b4 (BH ((BI τ e).ws (.slice au j cu))) ?_)
  refine .then_n (.ret ?_)
  exact .d1 Y (.cellA Y BB O (by simp [DT, AW]) Y) ⟨.slice au j cu, Y, ⟨_, _, congrArg (fun m => Value.slice _ m _) hlen⟩, Y⟩
 refine .sr (.fa Y Bz (.u (.ld Y AR) (.ui Y Y Y (.an Y (.condD Y (fun h43 => ?_) (fun h43 => ?_))))))
 ·refine .sr (.fa Y IZ (.u (.ld Y Fd) (.fa Y Ek (.oq (.store Y Y Y ME ?c86 (Bb _ _)) ?_))))
  case c86 => simp
  rintro v L' rfl
  refine .nt (.sr (.fa Y Cl (.u (.ld Y AR) (.ui Y Y Y (.m Y (.dec (t := 53) Y (fun h14_53 => ?_) (fun h14_53 => ?_)))))))
  ·refine .kDT (t := 52) Y h14_53 (.gr (.fa Y Cl (.gr (.u (.ld Y AR) (.gr (.ui Y Y Y (.pT Y Y (.nt (.condD Y (fun h57 => ?_) (fun h57 => ?_))))))))))
   ·refine .draw [1, 4, 8, 9, 11] [[0, 2, 3, 5, 6, 7, 1, 4, 8], [9], [10, 11]] mixed kQ (.go [Ad b5 _ _] O (.k Y (.to (v' := .agg (BH (CU (111))).toArray) (.buildN (pl := [(0, 1), (1, 1), (2, 1), (3, 1), (4, 1), (5, 9), (14, 1), (15, 1), (16, 1)]) (us := [(2, AA (111))]) (cells := BH (CU (111))) underlying41 kQ Ca Y Y) Y) (.k Y (.fieldAddr Y Cl) (.k Y (.as (v' := AA ((e.x.num.toNat : Nat) : Int)) (by rw [Int.toNat_of_nonneg om]) (.ld Y AR)) (.k Y (.fieldAddr Y IZ) (.k Y (.ld Y Fd) (.k Y (.to (v' := .agg (BH (CU (e.x.err))).toArray) (.buildN (pl := [(0, 1), (1, 1), (2, 1), (3, 1), (4, 1), (5, 9), (14, 1), (15, 1), (16, 1)]) (us := [(2, AA (e.x.err))]) (cells := BH (CU (e.x.err))) underlying41 kQ Ca Y Y) Y) ?_)))))))
    refine D.h2 (k := 8) Y Y kQ Y (.buildSlice (vs := [_]) Fw Ca Y Y Y Y cQ dQ) O (.buildSlice (vs := [_]) Fw Ca Y Y Y Y cQ dQ) O ?_ ?_
    ·rintro v L' ⟨b15, rfl, rfl⟩
     refine D.h2 (k := 8) Y Y kQ Y (.call func47 Y Y (vs := [_, _]) Y (HA (CU 111) b15 e.x.num.toNat (Ad b15 (BH (CU 111)) 41) (fun _ hp => Aa (Sz hp Y)) (BM Y Y Y) om)) O (.buildSlice (vs := [_]) Fw Ca Y Y Y Y cQ dQ) O ?_ ?_
     ·rintro v L' ⟨⟨br, rfl⟩, rfl⟩
      refine D.hh Y (.buildSlice (vs := [_]) Fw Ca Y Y Y Y cQ dQ) ?_
      rintro v L' ⟨b18, rfl, rfl⟩
      refine D.ph (.g0 (.hh Y (.append1 Y Y Y Fw Ca Y Y ?c109 ?c110 (Nat.le_refl _) ?c111 dQ) ?_))
      case c109 => simp only [map_cons, map_nil, flatten_cons, flatten_nil, append_nil]; simp only [Value.cells]; intro z hz; exact BM (x := CU e.x.err) rfl rfl rfl z (by simpa using hz)
      case c110 => rfl
      case c111 => omega
      rintro v L' ⟨⟨a15, c15, rfl⟩, rfl⟩
      refine D.ph (.g0 (.kv Y (.fieldAddr Y JV) (.hh Y (.store Y Y Y T4 ?c115 (Bb _ _)) ?_)))
      case c115 => simp
      rintro v L' rfl
      refine D.ph (.fin (.blk_n (.then_n (.sr ?_))))
      have hW : BD τ e = List.replicate e.x.num.toNat (CU 111) ++ [CU e.x.err] := by unfold BD; rw [if_neg h23, if_pos ⟨h43, by omega, by omega⟩]
      have hlen : e.x.num.toNat + 1 = (BD τ e).length := by rw [hW]; simp
      refine .slCast (T := 41) (sz := 17) (m' := (BD τ e).length) (xs' := (BD τ e).flatMap BH) O (by exact hlen) (by rw [hW, flatMap_append, flatMap_replicate]; simp [C4, Value.cells]) (.ptCast (b := b6) (l' := BH ((BI τ e).ws (.slice a15 (e.x.num.toNat + 1) c15))) O (by unfold BI Rp.ws; first | (rw [if_pos h43]; try rfl) | (rw [if_neg om]; try rfl)) ?_)
      refine .q (.la (BH ((BI τ e).ws (.slice a15 (e.x.num.toNat + 1) c15))) Y BB) Y (.sa Y Y Bn (by exact BM rfl rfl rfl) ?_)
      refine .nil (.pc b4 (BH ((BI τ e).ws (.slice a15 (e.x.num.toNat + 1) c15))) ?_)
      refine .then_n (.ret ?_)
      exact .d1 Y (.cellA Y BB O (by simp [DT, AW]) Y) ⟨.slice a15 (e.x.num.toNat + 1) c15, Y, ⟨_, _, congrArg (fun m => Value.slice _ m _) hlen⟩, Y⟩
     rintro v L' ⟨b18, rfl, rfl⟩
     refine D.hh Y (.call func47 Y Y (vs := [_, _]) Y (HA (CU 111) b15 e.x.num.toNat (Ad b15 (BH (CU 111)) 41) (fun _ hp => Aa (Sz hp Y)) (BM Y Y Y) om)) ?_
     rintro v L' ⟨⟨br, rfl⟩, rfl⟩
     refine D.ph (.g0 (.hh Y (.append1 Y Y Y Fw Ca Y Y ?c127 ?c128 (Nat.le_refl _) ?c129 dQ) ?_))
     case c127 => simp only [map_cons, map_nil, flatten_cons, flatten_nil, append_nil]; simp only [Value.cells]; intro z hz; exact BM (x := CU e.x.err) rfl rfl rfl z (by simpa using hz)
     case c128 => rfl
     case c129 => omega
     rintro v L' ⟨⟨a15, c15, rfl⟩, rfl⟩
     refine D.ph (.g0 (.kv Y (.fieldAddr Y JV) (.hh Y (.store Y Y Y T4 ?c133 (Bb _ _)) ?_)))
     case c133 => simp
     rintro v L' rfl
     refine D.ph (.fin (.blk_n (.then_n (.sr ?_))))
     have hW : BD τ e = List.replicate e.x.num.toNat (CU 111) ++ [CU e.x.err] := by unfold BD; rw [if_neg h23, if_pos ⟨h43, by omega, by omega⟩]
     have hlen : e.x.num.toNat + 1 = (BD τ e).length := by rw [hW]; simp
     refine .slCast (T := 41) (sz := 17) (m' := (BD τ e).length) (xs' := (BD τ e).flatMap BH) O (by exact hlen) (by rw [hW, flatMap_append, flatMap_replicate]; simp [C4, Value.cells]) (.ptCast (b := b6) (l' := BH ((BI τ e).ws (.slice a15 (e.x.num.toNat + 1) c15))) O (by unfold BI Rp.ws; first | (rw [if_pos h43]; try rfl) | (rw [if_neg om]; try rfl)) ?_)
     refine .q (.la (BH ((BI τ e).ws (.slice a15 (e.x.num.toNat + 1) c15))) Y BB) Y (.sa Y Y Bn (by exact BM rfl rfl rfl) ?_)
     refine .nil (.pc b4 (BH ((BI τ e).ws (.slice a15 (e.x.num.toNat + 1) c15))) ?_)
     refine .then_n (.ret ?_)
     exact .d1 Y (.cellA Y BB O (by simp [DT, AW]) Y) ⟨.slice a15 (e.x.num.toNat + 1) c15, Y, ⟨_, _, congrArg (fun m => Value.slice _ m _) hlen⟩, Y⟩
    rintro v L' ⟨b18, rfl, rfl⟩
    refine D.hh Y (.buildSlice (vs := [_]) Fw Ca Y Y Y Y cQ dQ) ?_
    rintro v L' ⟨b15, rfl, rfl⟩
    refine D.hh Y (.call func47 Y Y (vs := [_, _]) Y (HA (CU 111) b15 e.x.num.toNat (Ad b15 (BH (CU 111)) 41) (fun _ hp => Aa (Sz hp Y)) (BM Y Y Y) om)) ?_
    rintro v L' ⟨⟨br, rfl⟩, rfl⟩
    refine D.ph (.g0 (.hh Y (.append1 Y Y Y Fw Ca Y Y ?c147 ?c148 (Nat.le_refl _) ?c149 dQ) ?_))
    case c147 => simp only [map_cons, map_nil, flatten_cons, flatten_nil, append_nil]; simp only [Value.cells]; intro z hz; exact BM (x := CU e.x.err) rfl rfl rfl z (by simpa using hz)
    case c148 => rfl
    case c149 => omega
    rintro v L' ⟨⟨a15, c15, rfl⟩, rfl⟩
    refine D.ph (.g0 (.kv Y (.fieldAddr Y JV) (.hh Y (.store Y Y Y T4 ?c153 (Bb _ _)) ?_)))
    case c153 => simp
    rintro v L' rfl
    refine D.ph (.fin (.blk_n (.then_n (.sr ?_))))
    have hW : BD τ e = List.replicate e.x.num.toNat (CU 111) ++ [CU e.x.err] := by unfold BD; rw [if_neg h23, if_pos ⟨h43, by omega, by omega⟩]
    have hlen : e.x.num.toNat + 1 = (BD τ e).length := by rw [hW]; simp
    refine .slCast (T := 41) (sz := 17) (m' := (BD τ e).length) (xs' := (BD τ e).flatMap BH) O (by exact hlen) (by rw [hW, flatMap_append, flatMap_replicate]; simp [C4, Value.cells]) (.ptCast (b := b6) (l' := BH ((BI τ e).ws (.slice a15 (e.x.num.toNat + 1) c15))) O (by unfold BI Rp.ws; first | (rw [if_pos h43]; try rfl) | (rw [if_neg om]; try rfl)) ?_)
    refine .q (.la (BH ((BI τ e).ws (.slice a15 (e.x.num.toNat + 1) c15))) Y BB) Y (.sa Y Y Bn (by exact BM rfl rfl rfl) ?_)
    refine .nil (.pc b4 (BH ((BI τ e).ws (.slice a15 (e.x.num.toNat + 1) c15))) ?_)
    refine .then_n (.ret ?_)
    exact .d1 Y (.cellA Y BB O (by simp [DT, AW]) Y) ⟨.slice a15 (e.x.num.toNat + 1) c15, Y, ⟨_, _, congrArg (fun m => Value.slice _ m _) hlen⟩, Y⟩
   refine .skip (.blk_n (.then_n (.sr ?_)))
   have hW : BD τ e = [] := by unfold BD; rw [if_neg h23, if_neg (by rintro ⟨g0, g1, g2⟩; omega)]
   have hlen : 0 = (BD τ e).length := by rw [hW]; rfl
   refine .add (AO 41 17) (.as (q := Af 41 17 AF (BD τ e).length ((BD τ e).flatMap BH)) (p := Af 41 17 AF 0 []) O (by rw [hW]; rfl) (.ptCast (b := b6) (l' := BH ((BI τ e).ws (AF))) O (by unfold BI Rp.ws; first | (rw [if_pos h43]; try rfl) | (rw [if_neg om]; try rfl)) ?_))
   refine .q (.la (BH ((BI τ e).ws (AF))) Y BB) Y (.sa Y Y Bn (by exact BM rfl rfl rfl) ?_)
   refine .nil (.pc b4 (BH ((BI τ e).ws (AF))) ?_)
   refine .then_n (.ret ?_)
   exact .d1 Y (.cellA Y BB O (by simp [DT, AW]) Y) ⟨AF, Y, ⟨_, _, congrArg (fun m => Value.slice _ m _) hlen⟩, Y⟩
  refine .kDF (t := 52) Y h14_53 (.gk (.gk (.gk (.pF Y Y (.nt (.condF Y (.skip (.blk_n (.then_n (.sr ?_))))))))))
  have hW : BD τ e = [] := by unfold BD; rw [if_neg h23, if_neg (by rintro ⟨g0, g1, g2⟩; omega)]
  have hlen : 0 = (BD τ e).length := by rw [hW]; rfl
  refine .add (AO 41 17) (.as (q := Af 41 17 AF (BD τ e).length ((BD τ e).flatMap BH)) (p := Af 41 17 AF 0 []) O (by rw [hW]; rfl) (.ptCast (b := b6) (l' := BH ((BI τ e).ws (AF))) O (by unfold BI Rp.ws; first | (rw [if_pos h43]; try rfl) | (rw [if_neg om]; try rfl)) ?_))
  refine .q (.la (BH ((BI τ e).ws (AF))) Y BB) Y (.sa Y Y Bn (by exact BM rfl rfl rfl) ?_)
  refine .nil (.pc b4 (BH ((BI τ e).ws (AF))) ?_)
  refine .then_n (.ret ?_)
  exact .d1 Y (.cellA Y BB O (by simp [DT, AW]) Y) ⟨AF, Y, ⟨_, _, congrArg (fun m => Value.slice _ m _) hlen⟩, Y⟩
 refine .skip (.blk_n (.then_n (.sr ?_)))
 have hW : BD τ e = [] := by unfold BD; rw [if_neg h23, if_neg (by rintro ⟨g0, g1, g2⟩; omega)]
 have hlen : 0 = (BD τ e).length := by rw [hW]; rfl
 refine .add (AO 41 17) (.as (q := Af 41 17 AF (BD τ e).length ((BD τ e).flatMap BH)) (p := Af 41 17 AF 0 []) O (by rw [hW]; rfl) (.ptCast (b := b6) (l' := BH ((BI τ e).ws (AF))) O (by unfold BI Rp.ws; first | (rw [if_pos h43]; try rfl) | (rw [if_neg om]; try rfl)) ?_))
 refine .q (.la (BH ((BI τ e).ws (AF))) Y BB) Y (.sa Y Y Bn (by exact BM rfl rfl rfl) ?_)
 refine .nil (.pc b4 (BH ((BI τ e).ws (AF))) ?_)
 refine .then_n (.ret ?_)
 exact .d1 Y (.cellA Y BB O (by simp [DT, AW]) Y) ⟨AF, Y, ⟨_, _, congrArg (fun m => Value.slice _ m _) hlen⟩, Y⟩
section
variable {P : Program} {E : Bx} {L : List HP} {ty : TypeId}
end
/- not in this seat -/
/- not in this seat -/
/- not in this seat -/
/- not in this seat -/
/- not in this seat -/
section
variable {P : Program} {E : Bx} {L : List HP} {ty : TypeId}
theorem AK.strge {t t' : TypeId} {x y : Operand} {a b : List UInt8} (hx : ev E x = some (AE a)) (hy : ev E y = some (AE b)) : AK P ⟨none, .binOp .geq t x y t', ty, "", #[], none⟩ E L (.bool (decide (¬ a < b))) := by
 intro ρ w ha _
 have key : (!Op.bytesLess a b) = decide (¬ a < b) := by rw [bytesLess_eq, decide_not]
 rw [← key]
 simp [execOp, ha x _ hx, ha y _ hy, eqGuard, binOp, Op.stringOp, Bind.bind, Sem.bind, Pure.pure, Sem.run]
end
abbrev GE := Bs × (Value × Nd)
def Es (z : GE) : List Value := [AE z.1, AE z.2.2.data, z.2.1, AA z.2.2.st.cz, AA z.2.2.st.mz, AA z.2.2.st.pz, AA z.2.2.st.ver, AA z.2.2.st.cver, AA z.2.2.st.av, AA z.2.2.st.own, AA z.2.2.st.len, AA z.2.2.st.kids]
def IC (y : Int × (Int × Bs)) : List Value := [AA y.1, AA y.2.1, AE y.2.2]
def IA (z : GE) : HP := rdO 2 z.2.1 z.2.2.acl.length (z.2.2.acl.flatMap CO)
def D9 (l : List GE) : List (Bs × Nd) := l.map fun z => (z.1, z.2.2)
abbrev Lf (v : Value) (l : List GE) : HP := Af 68 12 v l.length (l.flatMap Es)
abbrev rsR (v : Value) (l : Im) : HP := Af 102 3 v l.length (l.flatMap IC)
def DV (x : Nat) (τ : Tr) : HP := fun h => ∃ y : (Value × Value) × List GE, D9 y.2 = τ.nodes ∧ CD [Ad x [y.1.1, y.1.2, AA τ.zx] 66, Lf y.1.1 y.2, rsR y.1.2 τ.sess, Ag IA y.2] h
section
variable {W : World} {n : Nat} {ds : List Deferred} {E : Bx} {L R : List HP} {X : Act → World → Prop}
theorem G.rtOpen {x : Nat} {τ : Tr} (hL : BJ (DV x τ) L R) (h : ∀ (an cn as' cs : _) (l : List GE), D9 l = τ.nodes → G W n ds E (Ad x [.slice an l.length cn, .slice as' τ.sess.length cs, AA τ.zx] 66 :: Lf (.slice an l.length cn) l :: rsR (.slice as' τ.sess.length cs) τ.sess :: Ag IA l :: R) X) : G W n ds E L X := by
 refine G.focus hL (G.open (q := fun y : (Value × Value) × List GE => [Ad x [y.1.1, y.1.2, AA τ.zx] 66, Lf y.1.1 y.2, rsR y.1.2 τ.sess, Ag IA y.2]) (φ := fun y : (Value × Value) × List GE => D9 y.2 = τ.nodes) (fun _ hp => hp) fun y hy => ?_)
 obtain ⟨⟨v1, v2⟩, l⟩ := y
 dsimp only at hy ⊢
 refine G.slAny (v := v1) (by repeat (first | exact BJ.here | apply BJ.there)) fun an cn e0 _ => ?_
 subst e0
 refine G.slAny (v := v2) (by repeat (first | exact BJ.here | apply BJ.there)) fun as' cs e0 _ => ?_
 subst e0
 exact fun a w he hk hs => h an cn as' cs l hy a w he hk (hs.picks (by repeat (first | exact BC.nil | (apply BC.cons; (repeat (first | exact BJ.here | apply BJ.there))))))
theorem G.rtFold {x : Nat} {τ : Tr} {l : List GE} {v1 v2 : Value} {c : List Value} {k1 k2 : Nat} {y1 y2 : List Value} (hn : D9 l = τ.nodes) (hL : BC [Ad x c 66, Af 68 12 v1 k1 y1, Af 102 3 v2 k2 y2, Ag IA l] L R) (hc : c = [v1, v2, AA τ.zx]) (h1 : k1 = l.length) (h2 : y1 = l.flatMap Es) (h3 : k2 = τ.sess.length) (h4 : y2 = τ.sess.flatMap IC)
  (h : G W n ds E (DV x τ :: R) X) : G W n ds E L X := by
 subst hc; subst h1; subst h2; subst h3; subst h4
 exact G.fold hL (fun _ hp => ⟨((v1, v2), l), hn, hp⟩) h
theorem G.rfCast {x : Nat} {τ τ' : Tr} (hL : BJ (DV x τ) L R) (hw : τ' = τ) (h : G W n ds E (DV x τ' :: R) X) : G W n ds E L X := by
 subst hw; exact G.focus hL h
end
theorem DD {l : List GE} {m : List (Bs × Nd)} (h : D9 l = m) : l.length = m.length := by rw [← h]; simp [D9]
theorem E8 {l : List GE} {m : List (Bs × Nd)} (h : D9 l = m) {i : Nat} (hi : i < l.length) : m[i]'(by rw [← DD h]; exact hi) = (l[i].1, l[i].2.2) := by
 subst h; simp [D9]
theorem DJ {l : List GE} {i k : Nat} (hi : i < l.length) (hk : k < 12) : (l.flatMap Es)[i * 12 + k]? = (Es l[i])[k]? := Ec (f := Es) (sz := 12) (fun _ _ => rfl) hi hk
theorem PB {l : Im} {i k : Nat} (hi : i < l.length) (hk : k < 3) : (l.flatMap IC)[i * 3 + k]? = (IC l[i])[k]? := Ec (f := IC) (sz := 3) (fun _ _ => rfl) hi hk
/-! ### Places -/
def CZ {β : Type} (l : List (Bs × β)) (p : Bs) : Int := match Dh p (l.map (·.1)) with
 | some i => i
 | none => -1
def HT (τ : Tr) (p : Bs) : Int := CZ τ.nodes p
theorem T3 {K : Type} [DecidableEq K] {l : List K} {k : K} : ∀ {i : Nat} (hi : i < l.length), l[i] = k → (∀ j (hj : j < i), l[j]'om ≠ k) → Dh k l = some i := by
 induction l with
 | nil => intro i hi; simp at hi
 | cons a l ih =>
  intro i hi h1 h2
  unfold Dh
  cases i with
  | zero => simp at h1; rw [if_pos h1.symm]
  | succ i =>
   rw [if_neg (fun e => h2 0 om (by simpa using e.symm)), ih (i := i) (by simpa using hi) (by simpa using h1) (fun j hj => by simpa using h2 (j + 1) om)]
   rfl
theorem OL {K : Type} [DecidableEq K] {l : List K} {k : K} (h : k ∉ l) : Dh k l = none := by
 induction l with
 | nil => rfl
 | cons a l ih =>
  unfold Dh
  rw [if_neg (fun e => h (by rw [e]; exact mem_cons_self)), ih (fun g => h (mem_cons_of_mem _ g))]; rfl
theorem V6 {K : Type} [DecidableEq K] {l : List K} {k : K} : ∀ {i : Nat}, Dh k l = some i → ∃ hi : i < l.length, l[i] = k ∧ ∀ j (hj : j < i), l[j]'om ≠ k := by
 induction l with
 | nil => intro i h; cases h
 | cons a l ih =>
  intro i h
  unfold Dh at h
  split at h
  ·rename_i e; cases h; exact ⟨by simp, by simp [e], fun j hj => by omega⟩
  ·rename_i e
   rcases h2 : Dh k l with _ | i'
   ·rw [h2] at h; cases h
   ·rw [h2] at h; cases h
    obtain ⟨g1, g2, g3⟩ := ih h2
    refine ⟨by simp; omega, by simpa using g2, fun j hj => ?_⟩
    cases j with
    | zero => simpa using fun e2 => e e2.symm
    | succ j => simpa using g3 j (by have hj' : j + 1 < i' + 1 := hj; omega)
theorem XY {β : Type} {l : List (Bs × β)} {p : Bs} {i : Nat} (hi : i < l.length) (h1 : l[i].1 = p) (h2 : ∀ j (hj : j < i), l[j].1 ≠ p) : CZ l p = i := by
 unfold CZ
 rw [T3 (i := i) (by simpa using hi) (by simpa using h1) (fun j hj => by simpa using h2 j hj)]
theorem Sc {β : Type} {l : List (Bs × β)} {p : Bs} (h : ∀ j (hj : j < l.length), l[j].1 ≠ p) : CZ l p = -1 := by
 unfold CZ
 rw [OL]
 intro hm
 obtain ⟨x, hx, e⟩ := mem_map.1 hm
 obtain ⟨j, hj, rfl⟩ := mem_iff_getElem.1 hx
 exact h j hj e
theorem Gh {β : Type} {l : List (Bs × β)} {p : Bs} (h : 0 ≤ CZ l p) : ∃ k : Nat, ∃ hk : k < l.length, CZ l p = k ∧ l[k].1 = p := by
 unfold CZ at h ⊢
 rcases e : Dh p (l.map (·.1)) with _ | k
 ·rw [e] at h; exact absurd h dQ
 ·obtain ⟨g1, g2, -⟩ := V6 e
  exact ⟨k, by simpa using g1, by rw [e], by simpa using g2⟩
theorem CB {β : Type} {l : List (Bs × β)} {p : Bs} : 0 ≤ CZ l p ↔ (AD l p).isSome = true := by
 rw [Cq]
 constructor
 ·intro h
  obtain ⟨k, hk, -, e⟩ := Gh h
  exact mem_map.2 ⟨l[k], getElem_mem hk, e⟩
 ·intro h
  unfold CZ
  rcases e : Dh p (l.map (·.1)) with _ | k
  ·exfalso
   have key : ∀ l : List Bs, p ∈ l → Dh p l ≠ none := by
    intro l
    induction l with
    | nil => intro h; cases h
    | cons a l ih =>
     intro h
     unfold Dh
     split
     ·simp
     ·rename_i hne
      rcases mem_cons.1 h with g | g
      ·exact absurd g hne
      ·intro e2
       have := ih g
       rcases e3 : Dh p l with _ | j
       ·exact this e3
       ·rw [e3] at e2; cases e2
   exact key _ h e
  ·first | (rw [e]; exact Int.natCast_nonneg _) | exact Int.natCast_nonneg _
theorem Oa (l : List GE) (p : Bs) : CZ (D9 l) p = CZ l p := by
 unfold CZ D9; rw [map_map]; rfl
theorem YI {β : Type} {l : List (Bs × β)} (hn : (l.map (·.1)).Nodup) {k : Nat} (hk : k < l.length) (f : β → β) : amod l l[k].1 f = l.set k (l[k].1, f l[k].2) := by
 apply ext_getElem
 ·simp [amod]
 ·intro i h1 h2
  have hi : i < l.length := by simpa [amod] using h1
  simp only [amod, getElem_map, getElem_set]
  by_cases e : k = i
  ·subst e; simp
  ·have : l[i].1 ≠ l[k].1 := fun g => by
    have := (getElem_inj (i := i) (j := k) (h₀ := by simpa using hi) (h₁ := by simpa using hk) hn).1 (by simpa using g)
    exact e this.symm
   rw [if_neg this, if_neg e]
theorem DC {α : Type} {f : α → List Value} {sz : Nat} : ∀ {l : List α} {i k : Nat} {v : Value} {y : α} (hf : ∀ x, (f x).length = sz) (hi : i < l.length) (hk : k < sz) (hy : (f l[i]).set k v = f y), (l.flatMap f).set (i * sz + k) v = (l.set i y).flatMap f
 | x :: l, 0, k, v, y, hf, hi, hk, hy => by
  simp only [flatMap_cons, set_cons_zero, Nat.zero_mul, Nat.zero_add]
  rw [set_append_left _ _ (by rw [hf]; exact hk)]
  congr 1
 | x :: l, i + 1, k, v, y, hf, hi, hk, hy => by
  simp only [flatMap_cons, set_cons_succ]
  rw [set_append_right _ _ (by rw [hf, Nat.add_mul]; omega), hf, show (i + 1) * sz + k - sz = i * sz + k by rw [Nat.add_mul]; omega]
  congr 1
  exact DC hf (by simpa using hi) hk (by simpa using hy)
theorem AAI {l : List GE} {i : Nat} (y : GE) : D9 (l.set i y) = (D9 l).set i (y.1, y.2.2) := by unfold D9; rw [map_set]
theorem ZX {l : List GE} {i : Nat} {y : GE} (hi : i < l.length) (h1 : IA y = IA l[i]) {h : Hp} (hs : Ag IA l h) : Ag IA (l.set i y) h := by
 unfold Ag at hs ⊢
 rw [map_set, h1]
 have : (l.map IA).set i (IA l[i]) = l.map IA := by
  apply ext_getElem
  ·simp
  ·intro j _ _
   rw [getElem_set]
   split
   ·rename_i e; subst e; simp
   ·rfl
 rw [this]; exact hs
theorem G.bigSet {W : World} {n : Nat} {ds : List Deferred} {E : Bx} {L R : List HP} {X : Act → World → Prop} {l : List GE} {i : Nat} {y : GE} (hi : i < l.length) (h1 : IA y = IA l[i]) (hL : BJ (Ag IA l) L R) (h : G W n ds E (Ag IA (l.set i y) :: R) X) : G W n ds E L X :=
 fun a w he hk hs => h a w he hk (Br (fun _ hp => ZX hi h1 hp) (hs.pick hL))
theorem Qn {l : List GE} (p : Bs) (y : Value × Nd) : D9 (sset l p y) = sset (D9 l) p y.2 := by
 induction l with
 | nil => rfl
 | cons x l ih =>
  show D9 (sset (x :: l) p y) = sset ((x.1, x.2.2) :: D9 l) p y.2
  unfold sset
  dsimp only
  split
  ·rfl
  ·split
   ·rfl
   ·show (x.1, x.2.2) :: D9 (sset l p y) = _
    rw [ih]
theorem Se {l : List GE} (h : BZ (D9 l)) : BZ l := by
 unfold BZ D9 at *
 rw [map_map] at h; exact h
theorem UW {K β : Type} [LT K] [DecidableEq K] [DecidableLT K] (ho : Lin K) {l : List (K × β)} (h : BZ l) (k : K) (v : β) : (sset l k v).Perm ((k, v) :: BX l k) := by
 have hn := h.nodup ho
 refine K8 ((h.sset ho k v).nodup ho) ?_ fun x => ?_
 ·rw [map_cons]
  refine nodup_cons.2 ⟨fun g => ?_, DF hn k⟩
  have := Cq.2 g
  rw [GI hn, if_pos rfl] at this; cases this
 ·rw [GF]
  by_cases e : x = k
  ·subst e; simp [AD]
  ·rw [if_neg e]; simp only [AD, e, if_false]; rw [GI hn, if_neg e]
theorem V1 {l : List GE} (hs : BZ l) {k : Bs} {v : Value × Nd} {h : Hp} (hp : CD [IA (k, v), Ag IA l] h) : Ag IA (sset l k v) h := by
 refine H6 (UW EC hs k v).symm (FE ?_)
 obtain ⟨h1, h2, hd, a1, a2, p1, h3, h4, hd2, b1, b2, p2, p3⟩ := hp
 exact ⟨h1, h2, hd, a1, a2, p1, h3, h4, hd2, b1, b2, Tm k p2, p3⟩
theorem G.bigSset {W : World} {n : Nat} {ds : List Deferred} {E : Bx} {L R : List HP} {X : Act → World → Prop} {l : List GE} (hs : BZ l) (k : Bs) (v : Value × Nd) {p : HP} (hp : p = IA (k, v)) (hL : BC [p, Ag IA l] L R) (h : G W n ds E (Ag IA (sset l k v) :: R) X) : G W n ds E L X := by
 subst hp
 exact G.fold hL (fun _ hp => V1 hs hp) h
theorem T7 {α : Type} {f : α → HP} {l m : List α} (hs : l.Sublist m) {h : Hp} (hp : Ag f m h) : Ag f l h := by
 induction hs generalizing h with
 | slnil => exact hp
 | cons a _ ih =>
  obtain ⟨h1, h2, -, -, a2, -, p2⟩ := hp
  exact EZ (ih p2) a2
 | cons_cons a _ ih =>
  obtain ⟨h1, h2, hd, a1, a2, p1, p2⟩ := hp
  exact ⟨h1, h2, hd, a1, a2, p1, ih p2⟩
theorem G.bigSub {W : World} {n : Nat} {ds : List Deferred} {E : Bx} {L R : List HP} {X : Act → World → Prop} {l m : List GE} (hs : l.Sublist m) (hL : BJ (Ag IA m) L R) (h : G W n ds E (Ag IA l :: R) X) : G W n ds E L X :=
 fun a w he hk hs' => h a w he hk (Br (fun _ hp => T7 hs hp) (hs'.pick hL))
theorem Sy {l : List GE} (f : Bs → Bool) : D9 (l.filter fun y => f y.1) = (D9 l).filter fun y => f y.1 := by
 unfold D9
 rw [filter_map]; rfl
structure Gp {β : Type} (l : List (Bs × β)) (p : Bs) (v : β) (i : Nat) (b : Bool) (acc : List (Bs × β)) : Prop where
 no : b = false → acc = l.take i ∧ ∀ x ∈ l.take i, x.1 < p
 yes : b = true → acc = sset (l.take i) p v ∧ ∃ x ∈ l.take i, ¬ x.1 < p
theorem Yk {β : Type} {l : List (Bs × β)} {p : Bs} (v : β) (h : ∀ x ∈ l, x.1 < p) : sset l p v = l ++ [(p, v)] := by
 induction l with
 | nil => rfl
 | cons x l ih =>
  have hx := h x mem_cons_self
  unfold sset
  rw [if_neg (fun e => EC.irr p (by rw [← e] at hx ⊢; exact hx)), if_neg (fun g => EC.irr _ (EC.tr _ _ _ hx g)), ih (fun y hy => h y (mem_cons_of_mem _ hy))]; rfl
theorem Vh {β : Type} {l : List (Bs × β)} {p : Bs} (v : β) (y : Bs × β) (h : ∃ x ∈ l, ¬ x.1 < p) : sset (l ++ [y]) p v = sset l p v ++ [y] := by
 induction l with
 | nil => obtain ⟨x, hx, -⟩ := h; cases hx
 | cons x l ih =>
  rw [cons_append]
  unfold sset
  split
  ·rfl
  ·split
   ·rfl
   ·rename_i e1 e2
    have hx : x.1 < p := by
     rcases EC.tri x.1 p with g | g | g
     ·exact g
     ·exact absurd g e1
     ·exact absurd g e2
    rw [ih]; rfl
    obtain ⟨z, hz, g⟩ := h
    rcases mem_cons.1 hz with rfl | hz
    ·exact absurd hx g
    ·exact ⟨z, hz, g⟩
theorem Gp.start {β : Type} (l : List (Bs × β)) (p : Bs) (v : β) : Gp l p v 0 false [] := ⟨fun _ => ⟨by simp, by simp⟩, fun h => by cases h⟩
theorem ZK {β : Type} {l : List (Bs × β)} (hs : BZ l) {i : Nat} (hi : i < l.length) : ∀ x ∈ l.take i, x.1 < l[i].1 := fun x hx => by
 obtain ⟨j, hj, rfl⟩ := mem_iff_getElem.1 hx
 rw [length_take] at hj
 rw [getElem_take]
 have := pairwise_iff_getElem.1 hs j i (by simp; omega) (by simpa using hi) om
 simpa using this
theorem Gp.low {β : Type} {l : List (Bs × β)} {p : Bs} {v : β} {i : Nat} {acc : List (Bs × β)} (h : Gp l p v i false acc) (hi : i < l.length) (hl : l[i].1 < p) : Gp l p v (i + 1) false (acc ++ [l[i]]) := by
 obtain ⟨h1, h2⟩ := h.no rfl
 refine ⟨fun _ => ⟨by rw [h1, take_succ_eq_append_getElem hi], fun x hx => ?_⟩, fun g => by cases g⟩
 rw [take_succ_eq_append_getElem hi] at hx
 rcases mem_append.1 hx with hx | hx
 ·exact h2 x hx
 ·simp at hx; rw [hx]; exact hl
theorem Gp.put {β : Type} {l : List (Bs × β)} {p : Bs} {v : β} {i : Nat} {acc : List (Bs × β)} (h : Gp l p v i false acc) (hi : i < l.length) (hl : ¬ l[i].1 < p) (hne : l[i].1 ≠ p) : Gp l p v (i + 1) true ((acc ++ [(p, v)]) ++ [l[i]]) := by
 obtain ⟨h1, h2⟩ := h.no rfl
 refine ⟨(fun g => by cases g), fun _ => ⟨?_, l[i], by rw [take_succ_eq_append_getElem hi]; exact mem_append_right _ mem_cons_self, hl⟩⟩
 have hgt : p < l[i].1 := by
  rcases EC.tri l[i].1 p with g | g | g
  ·exact absurd g hl
  ·exact absurd g hne
  ·exact g
 rw [take_succ_eq_append_getElem hi, h1]
 have key : ∀ (m : List (Bs × β)), (∀ x ∈ m, x.1 < p) → sset (m ++ [l[i]]) p v = m ++ [(p, v)] ++ [l[i]] := by
  intro m
  induction m with
  | nil => intro _; show sset [l[i]] p v = _; unfold sset; rw [if_neg hne, if_pos hgt]; rfl
  | cons x m ih =>
   intro hm
   have hx := hm x mem_cons_self
   rw [cons_append]
   unfold sset
   rw [if_neg (fun e => EC.irr p (by rw [← e] at hx ⊢; exact hx)), if_neg (fun g => EC.irr _ (EC.tr _ _ _ hx g)), ih (fun y hy => hm y (mem_cons_of_mem _ hy))]; rfl
 exact (key _ h2).symm
theorem Gp.sub {β : Type} {l : List (Bs × β)} {p : Bs} {v : β} {i : Nat} {acc : List (Bs × β)} (h : Gp l p v i false acc) (hi : i < l.length) (he : l[i].1 = p) : Gp l p v (i + 1) true (acc ++ [(p, v)]) := by
 obtain ⟨h1, h2⟩ := h.no rfl
 refine ⟨(fun g => by cases g), fun _ => ⟨?_, l[i], by rw [take_succ_eq_append_getElem hi]; exact mem_append_right _ mem_cons_self, by rw [he]; exact EC.irr p⟩⟩
 rw [take_succ_eq_append_getElem hi, h1]
 have key : ∀ (m : List (Bs × β)), (∀ x ∈ m, x.1 < p) → sset (m ++ [l[i]]) p v = m ++ [(p, v)] := by
  intro m
  induction m with
  | nil => intro _; show sset [l[i]] p v = _; unfold sset; rw [if_pos he]; rfl
  | cons x m ih =>
   intro hm
   have hx := hm x mem_cons_self
   rw [cons_append]
   unfold sset
   rw [if_neg (fun e => EC.irr p (by rw [← e] at hx ⊢; exact hx)), if_neg (fun g => EC.irr _ (EC.tr _ _ _ hx g)), ih (fun y hy => hm y (mem_cons_of_mem _ hy))]; rfl
 exact (key _ h2).symm
theorem Gp.more {β : Type} {l : List (Bs × β)} {p : Bs} {v : β} {i : Nat} {acc : List (Bs × β)} (h : Gp l p v i true acc) (hi : i < l.length) : Gp l p v (i + 1) true (acc ++ [l[i]]) := by
 obtain ⟨h1, h2⟩ := h.yes rfl
 refine ⟨(fun g => by cases g), fun _ => ⟨by rw [h1, take_succ_eq_append_getElem hi, Vh v _ h2], ?_⟩⟩
 obtain ⟨x, hx, g⟩ := h2
 exact ⟨x, by rw [take_succ_eq_append_getElem hi]; exact mem_append_left _ hx, g⟩
theorem Gp.not {β : Type} {l : List (Bs × β)} (hs : BZ l) {p : Bs} {v : β} {i : Nat} {acc : List (Bs × β)} (h : Gp l p v i true acc) (hi : i < l.length) : l[i].1 ≠ p := by
 obtain ⟨-, x, hx, g⟩ := h.yes rfl
 intro e
 exact g (by rw [← e]; exact ZK hs hi x hx)
theorem Gp.last {β : Type} {l : List (Bs × β)} {p : Bs} {v : β} {acc : List (Bs × β)} {b : Bool} (h : Gp l p v l.length b acc) : (if b then acc else acc ++ [(p, v)]) = sset l p v := by
 cases b with
 | true => obtain ⟨h1, -⟩ := h.yes rfl; rw [take_length] at h1; exact h1
 | false =>
  obtain ⟨h1, h2⟩ := h.no rfl
  rw [take_length] at h1 h2
  rw [Yk v h2, h1]; rfl
theorem Tt {β : Type} {l : List (Int × β)} {k : Int} {v : β} {i : Nat} (hi : i ≤ l.length) (h1 : ∀ x ∈ l.take i, x.1 < k) (h2 : ∀ h : i < l.length, ¬ l[i].1 < k) (h3 : ∀ x ∈ l, x.1 ≠ k) : l.take i ++ [(k, v)] ++ l.drop i = sset l k v := by
 induction l generalizing i with
 | nil => simp at hi; subst hi; rfl
 | cons x l ih =>
  have hx3 := h3 x mem_cons_self
  cases i with
  | zero =>
   have hx2 := h2 (by simp)
   simp at hx2
   unfold sset
   rw [if_neg hx3, if_pos om]; rfl
  | succ i =>
   have hx1 := h1 x (by simp)
   unfold sset
   rw [if_neg hx3, if_neg om, ← ih (i := i) (by simpa using hi) (fun y hy => h1 y (by simp [hy])) (fun h => by have := h2 (by simpa using h); simpa using this) (fun y hy => h3 y (mem_cons_of_mem _ hy))]
   simp
theorem Of {τ : Tr} {N : Nat} (ho : τ.Ok N) (id n : Int) (s : Bs) : openS (dropS τ id) id n s = openS τ id n s := by
 refine Tr.ext' rfl ?_ rfl
 show sset (τ.sess.filter _) id (n, s) = sset τ.sess id (n, s)
 refine K7 Vf ((ho.ssorted.filter _).sset Vf _ _) (ho.ssorted.sset Vf _ _) fun i => ?_
 rw [GF, GF, G5 (fun k => !decide (k = id))]
 by_cases e : i = id
 ·rw [if_pos e, if_pos e]
 ·rw [if_neg e, if_neg e]; simp [e]
theorem Pc {l : List GE} {m : List (Bs × Nd)} (hl : D9 l = m) (hn : (m.map (·.1)).Nodup) {k : Nat} (hk : k < l.length) {p : Bs} (hp : l[k].1 = p) (f : Nd → Nd) {v : Value} {n : Nd} (hy : n = f l[k].2.2) : D9 (l.set k (l[k].1, (v, n))) = amod m p f := by
 subst hl; subst hp; subst hy
 have h2 : (D9 l)[k]'(by simpa [D9] using hk) = (l[k].1, l[k].2.2) := by simp [D9]
 have := YI hn (k := k) (by simpa [D9] using hk) f
 rw [h2] at this
 rw [AAI, this]
theorem ZD {l : List GE} {k : Nat} {y : GE} (hk : k < l.length) {h : Hp} (hs : CD [IA y, Ag IA l] h) : Ag IA (l.set k y) h := by
 have e1 : (l.set k y).Perm (y :: (l.take k ++ l.drop (k + 1))) := by
  rw [set_eq_take_append_cons_drop, if_pos hk]
  exact perm_middle
 have e2 : (l.take k ++ l.drop (k + 1)).Sublist l := by
  have : l.take k ++ l.drop (k + 1) = l.eraseIdx k := (eraseIdx_eq_take_drop_succ l k).symm
  rw [this]; exact eraseIdx_sublist l k
 refine H6 e1.symm (FE ?_)
 obtain ⟨h1, h2, hd, a1, a2, p1, h3, h4, hd2, b1, b2, p2, p3⟩ := hs
 exact ⟨h1, h2, hd, a1, a2, p1, h3, h4, hd2, b1, b2, T7 e2 p2, p3⟩
theorem G.bigRep {W : World} {n : Nat} {ds : List Deferred} {E : Bx} {L R : List HP} {X : Act → World → Prop} {l : List GE} {k : Nat} (y : GE) (hk : k < l.length) {p : HP} (hp : p = IA y) (hL : BC [p, Ag IA l] L R) (h : G W n ds E (Ag IA (l.set k y) :: R) X) : G W n ds E L X := by
 subst hp
 exact G.fold hL (fun _ hp => ZD hk hp) h
theorem Fn.pre2 {P : Program} {f : FuncId} {args : Array Value} {pre pre' : List HP} {post : Value → List HP → Prop} (h : Fn P f args pre post) (hp : ∀ F w, St (pre' ++ F) w → St (pre ++ F) w) : Fn P f args pre' post := fun F w hs => h F w (hp F w hs)
/-! ### Parts of slices -/
def ABB (a : Option Addr) (c i sz : Nat) : Option Addr := if c = i then a else a.map (·.add (i * sz))
section
variable {P : Program} {E : Bx} {L : List HP} {ty : TypeId}
theorem AK.slFromO {t : TypeId} {x y : Operand} {a : Option Addr} {n c e sz by' : Nat} {i : Int} (hx : ev E x = some (.slice a n c)) (ht : Av P t = some (e, sz, by')) (hy : ev E y = some (.int .i64 i)) (hb : 0 ≤ i ∧ i ≤ n ∧ n ≤ c) :
  AK P ⟨none, .slice t x (some y) none none, ty, "", #[], none⟩ E L (.slice (ABB a c i.toNat sz) (n - i.toNat) (c - i.toNat)) := by
 intro ρ w ha _
 unfold Av at ht
 split at ht <;> (try cases ht)
 rename_i e' hu
 split at ht <;> (try cases ht)
 rename_i inf hin
 refine Bq ?_
 show (Instr.sliceAt t (ρ x) (some (ρ y)) none none).run P w = _
 rw [ha x _ hx, ha y _ hy]
 unfold Instr.sliceAt
 rw [run_bind (AN hu)]
 show (Instr.slice t (.slice a n c) (some (.int .i64 i)) none none).run P w = _
 unfold Instr.slice
 rw [run_bind (AN hu)]
 show (do let (l, h, m) ← Instr.sliceBounds true n c (some (.int .i64 i)) none none; let size ← sizeOf e; pure (.slice (if m = l then a else a.map (·.add (l * size))) (h - l) (m - l)) : Sem Value).run P w = _
 rw [run_bind (DN (i := i) (j := n) (.inl rfl) (.inr ⟨rfl, rfl⟩) ⟨hb.1, by omega, by omega⟩)]
 show (do let size ← sizeOf e; pure (.slice (if c = i.toNat then a else a.map (·.add (i.toNat * size))) ((n : Int).toNat - i.toNat) (c - i.toNat)) : Sem Value).run P w = _
 rw [run_bind (Bk (k := inf.size) (by simp [Aj, hin]))]
 rw [Int.toNat_natCast]; rfl
end
theorem N1 {T : TypeId} {sz n k c : Nat} {a : Option Addr} {xs : List Value} {h : Hp} (hk : k ≤ n) (hp : Af T sz (.slice a n c) n xs h) : Cx sz h (.slice a k c) k (xs.take (k * sz)) := by
 rcases hp with ⟨h1, h2, h3⟩ | ⟨b, cap, rest, fr, hv, hb, h1, h2, h3, h4⟩
 ·subst h2; subst h3
  obtain rfl : k = 0 := by omega
  exact .inl ⟨rfl, by simp, a, c, rfl⟩
 ·simp only [Value.slice.injEq, true_and] at hv
  obtain ⟨rfl, rfl⟩ := hv
  have hm := Nat.mul_le_mul_right sz hk
  refine .inr ⟨b, 0, c, xs ++ rest, T, fr, rfl, hb, ?_, by simp; omega, by omega⟩
  rw [drop_zero, take_append_of_le_length om]
theorem K6 {T : TypeId} {sz n k c : Nat} {a : Option Addr} {xs : List Value} {h : Hp} (hk : k ≤ n) (hp : Af T sz (.slice a n c) n xs h) : Cx sz h (.slice (ABB a c k sz) (n - k) (c - k)) (n - k) (xs.drop (k * sz)) := by
 rcases hp with ⟨h1, h2, h3⟩ | ⟨b, cap, rest, fr, hv, hb, h1, h2, h3, h4⟩
 ·subst h2; subst h3
  obtain rfl : k = 0 := by omega
  exact .inl ⟨rfl, by simp, _, _, rfl⟩
 ·simp only [Value.slice.injEq, true_and] at hv
  obtain ⟨rfl, rfl⟩ := hv
  unfold ABB
  by_cases e : c = k
  ·rw [if_pos e]
   have hnk : n = k := by omega
   subst hnk
   have h0 : n - n = 0 := by omega
   rw [h0]
   exact .inl ⟨rfl, drop_eq_nil_of_le om, _, _, rfl⟩
  ·rw [if_neg e]
   have hm := Nat.mul_le_mul_right sz hk
   have hms : (n - k) * sz = n * sz - k * sz := Nat.sub_mul n k sz
   refine .inr ⟨b, k * sz, c - k, xs ++ rest, T, fr, ?_, hb, ?_, by simp; omega, by omega⟩
   ·simp [Addr.add_eq]
   ·rw [drop_append_of_le_length om, take_append_of_le_length (by rw [length_drop]; omega), take_of_length_le (by rw [length_drop]; omega)]
theorem Gd {α : Type} {f : α → List Value} {sz : Nat} (hf : ∀ x, (f x).length = sz) : ∀ (l : List α) (k : Nat), (l.flatMap f).take (k * sz) = (l.take k).flatMap f ∧ (l.flatMap f).drop (k * sz) = (l.drop k).flatMap f
 | [], k => by simp
 | x :: l, 0 => by simp
 | x :: l, k + 1 => by
  have hx := hf x
  obtain ⟨h1, h2⟩ := Gd hf l k
  rw [flatMap_cons, take_succ_cons, drop_succ_cons, flatMap_cons, show (k + 1) * sz = sz + k * sz by rw [Nat.add_mul]; omega]
  refine ⟨?_, ?_⟩
  ·rw [take_append, hx, take_of_length_le om, show sz + k * sz - sz = k * sz by omega, h1]
  ·rw [drop_append, hx, drop_eq_nil_of_le om, show sz + k * sz - sz = k * sz by omega, h2]; rfl
theorem G.slForm {W : World} {n' : Nat} {ds : List Deferred} {E : Bx} {L R : List HP} {X : Act → World → Prop} {T : TypeId} {sz m c : Nat} {a : Option Addr} {xs : List Value} (hL : BJ (Af T sz (.slice a m c) m xs) L R) (h0 : a = none → m = 0 → c = 0 → G W n' ds E L X) (h1 : ∀ b, a = some ⟨b, 0, none⟩ → m ≤ c → G W n' ds E L X) : G W n' ds E L X := by
 intro ac w he hk hs
 obtain ⟨g1, -, hp⟩ := Ao (hs.pick hL)
 rcases hp with ⟨e1, e2, -⟩ | ⟨b', cap, rest, fr, e1, -, -, -, e5, -⟩
 ·simp only [Value.slice.injEq] at e1
  exact h0 e1.1 e2 e1.2.2 ac w he hk hs
 ·simp only [Value.slice.injEq] at e1
  exact h1 b' e1.1 om ac w he hk hs
/-! ### What is told -/
def Dg (l : List GE) (p : Bs) : List Bs := (l.filter fun y => !decide (y.1 = [47]) && decide (AL y.1 = p)).map fun y => C8 y.1
theorem XA {l : List GE} {τ : Tr} (h : D9 l = τ.nodes) (p : Bs) : Dg l p = Bf τ p := by
 unfold Dg Bf
 rw [← h]
 unfold D9
 rw [filter_map, map_map]; rfl
theorem VR (l : List GE) (p : Bs) : (Dg l p).length ≤ l.length := by
 unfold Dg; rw [length_map]; exact length_filter_le _ _
theorem E0 (τ : Tr) (s : Int) : (AG τ s).length ≤ τ.nodes.length := by
 unfold AG; rw [length_map]; exact length_filter_le _ _
def PM (τ : Tr) (id : Int) : Int := match Dh id (τ.sess.map (·.1)) with
 | some i => i
 | none => -1
theorem AAh {τ : Tr} {id : Int} {i : Nat} (hi : i < τ.sess.length) (h1 : τ.sess[i].1 = id) (h2 : ∀ j (hj : j < i), τ.sess[j].1 ≠ id) : PM τ id = i := by
 unfold PM
 rw [T3 (i := i) (by simpa using hi) (by simpa using h1) (fun j hj => by simpa using h2 j hj)]
theorem WH {τ : Tr} {id : Int} (h : ∀ j (hj : j < τ.sess.length), τ.sess[j].1 ≠ id) : PM τ id = -1 := by
 unfold PM
 rw [OL]
 intro hm
 obtain ⟨x, hx, e⟩ := mem_map.1 hm
 obtain ⟨j, hj, rfl⟩ := mem_iff_getElem.1 hx
 exact h j hj e
/-! ### Soundness -/
def Ds (τ : Tr) (x : Pt) : Bool :=
 if x.kind = 1 then decide (Cn x.path ∧ ¬ AQ τ x.path ∧ AQ τ (AL x.path))
 else if x.kind = 2 then decide (x.path ≠ [47] ∧ AQ τ x.path ∧ (Bf τ x.path).length = 0)
 else if x.kind = 3 ∨ x.kind = 4 then decide (AQ τ x.path) else false
def DK (τ : Tr) (zx : Int) (cl : Bool) : List Pt → Bool
 | [] => true
 | x :: l => Ds τ x && (!cl || decide (x.kind = 2)) && DK (AJ τ x zx).1 zx cl l
def HB (τ : Tr) (zx : Int) (x : Pt) (subs : List Pt) : Bool :=
 if x.kind = 1 ∨ x.kind = 2 ∨ x.kind = 3 ∨ x.kind = 4 then Ds τ x
 else if x.kind = 6 ∨ x.kind = 7 then DK τ zx (decide (x.kind = 6)) subs else true
theorem SW {τ : Tr} {zx : Int} {cl : Bool} {l : List Pt} {i : Nat} (hi : i < l.length) : DK (AH τ zx (l.take i)).1 zx cl (l.drop i) = (Ds (AH τ zx (l.take i)).1 l[i] && (!cl || decide (l[i].kind = 2)) && DK (AH τ zx (l.take (i + 1))).1 zx cl (l.drop (i + 1))) := by
 rw [drop_eq_getElem_cons hi, DK, take_succ_eq_append_getElem hi, BP]
/-! ### Paths -/
theorem ABC (p : Bs) {r : Bs} (h : r ≠ []) : p < p ++ r := by
 have : p ++ [] < p ++ r ↔ [] < r := Ms p
 rw [append_nil] at this
 refine this.2 ?_
 cases r with
 | nil => exact absurd rfl h
 | cons a r => exact nil_lt_cons _ _
theorem N6 {q p : Bs} (h : JC q p) : ∃ d, d ≠ [] ∧ q = Fe p [] ++ d := by
 obtain ⟨h1, h2⟩ := h
 unfold pfx at h1
 have e : q = Fe p [] ++ q.drop (Fe p []).length := by
  conv => lhs; rw [← take_append_drop (Fe p []).length q, h1]
 refine ⟨q.drop (Fe p []).length, fun g => h2 ?_, e⟩
 rw [e, g, append_nil]
theorem Uo {q p d : Bs} (hd : d ≠ []) (e : q = Fe p [] ++ d) : Bj q p = true := by
 have : JC q p := by
  subst e
  refine ⟨by unfold pfx; rw [take_left], fun g => hd ?_⟩
  have := congrArg List.length g
  rw [length_append] at this
  exact eq_nil_of_length_eq_zero om
 unfold Bj
 rw [decide_eq_true this, Bool.or_true]
theorem MN (n : Bs) : Fe [47] n = 47 :: n := by unfold Fe; rw [if_pos rfl]; rfl
theorem H8 {p : Bs} (h : p ≠ [47]) (n : Bs) : Fe p n = p ++ 47 :: n := by unfold Fe; rw [if_neg h, append_assoc]; rfl
theorem Tu {q p : Bs} (h : Bj q p = true) : ∃ r, q = p ++ r := by
 unfold Bj at h
 rw [Bool.or_eq_true, decide_eq_true_iff, decide_eq_true_iff] at h
 rcases h with rfl | h
 ·exact ⟨[], (append_nil _).symm⟩
 ·obtain ⟨d, -, rfl⟩ := N6 h
  by_cases e : p = [47]
  ·subst e; exact ⟨d, by rw [MN]⟩
  ·exact ⟨47 :: d, by rw [H8 e, append_assoc]; rfl⟩
theorem Tp {q : Bs} (h : Cn q) : C8 q ≠ [] := by
 obtain ⟨-, -, -, h⟩ := Hz h
 intro e
 rw [e] at h; revert h; decide
theorem NE {q : Bs} (h : Cn q) : q = Fe (AL q) (C8 q) := by
 obtain ⟨h0, h1, h2, -⟩ := Hz h
 rw [IB h]
 by_cases e : I5 q = []
 ·rw [if_pos e, MN]; rw [e] at h2; exact h2
 ·rw [if_neg e, H8 h1]; exact h2
theorem Su {q : Bs} (h : Cn q) : ∃ r, r ≠ [] ∧ q = AL q ++ r := by
 have h1 := NE h
 by_cases e : AL q = [47]
 ·rw [e, MN] at h1
  exact ⟨C8 q, Tp h, by rw [e]; exact h1⟩
 ·rw [H8 e] at h1
  exact ⟨47 :: C8 q, by simp, h1⟩
theorem AAo {q p : Bs} (h : Bj q p = true) : ¬ q < p := by
 obtain ⟨r, rfl⟩ := Tu h
 intro g
 by_cases e : r = []
 ·subst e; rw [append_nil] at g; exact EC.irr _ g
 ·exact EC.irr _ (EC.tr _ _ _ g (ABC p e))
theorem TN {q p : Bs} (hq : Cn q) (hp : p ≠ [47]) (h : Bj (AL q) p = true) : Bj q p = true := by
 obtain ⟨r, hr, e⟩ := Su hq
 have key : ∃ d, d ≠ [] ∧ q = Fe p [] ++ d := by
  unfold Bj at h
  rw [Bool.or_eq_true, decide_eq_true_iff, decide_eq_true_iff] at h
  rcases h with h | h
  ·have h1 := NE hq
   rw [h, H8 hp] at h1
   refine ⟨C8 q, Tp hq, ?_⟩
   rw [H8 hp, append_assoc]; exact h1
  ·obtain ⟨d, hd, h2⟩ := N6 h
   refine ⟨d ++ r, by simp [hd], ?_⟩
   rw [← append_assoc, ← h2]; exact e
 obtain ⟨d, hd, e2⟩ := key
 exact Uo hd e2
/-! ### What a part does, path by path -/
theorem Oi {τ : Tr} {y : Pt} {zx : Int} (h1 : y.kind = 1) (ha : Cn y.path) (hu : AQ τ (AL y.path)) (q : Bs) : AD (AJ τ y zx).1.nodes q = (if q = AL y.path then (if q = y.path then some (DU y zx) else AD τ.nodes q).map (kidN y.num zx) else if q = y.path then some (DU y zx) else AD τ.nodes q) := by
 unfold AJ Ab
 rw [if_pos h1, if_pos ⟨ha, hu⟩]
 show AD (amod (sset _ _ _) _ _) q = _
 rw [Ic, GF]
theorem J3 {τ : Tr} {y : Pt} {zx : Int} (h2 : y.kind = 2) (ha : Cn y.path) (q : Bs) : AD (AJ τ y zx).1.nodes q = (if q = AL y.path then (if Bj q y.path = true then none else AD τ.nodes q).map (kidN y.num zx) else if Bj q y.path = true then none else AD τ.nodes q) := by
 unfold AJ As
 rw [if_neg om, if_pos h2, if_pos ha]
 show AD (amod (τ.nodes.filter _) _ _) q = _
 rw [Ic, G5 (fun k => !Bj k y.path)]
 cases Bj q y.path <;> simp
theorem Xu {τ : Tr} {y : Pt} {zx : Int} (h3 : y.kind = 3) (ht : AQ τ y.path) (q : Bs) : AD (AJ τ y zx).1.nodes q = if q = y.path then (AD τ.nodes q).map (F0 y.data y.num zx) else AD τ.nodes q := by
 unfold AJ
 rw [if_neg om, if_neg om, if_pos ⟨h3, ht⟩]
 show AD (amod _ _ _) q = _
 rw [Ic]
theorem WL {τ : Tr} {y : Pt} {zx : Int} (h4 : y.kind = 4) (ht : AQ τ y.path) (q : Bs) : AD (AJ τ y zx).1.nodes q = if q = y.path then (AD τ.nodes q).map (FT y.acl y.num) else AD τ.nodes q := by
 unfold AJ
 rw [if_neg om, if_neg om, if_neg (by rintro ⟨g, -⟩; omega), if_pos ⟨h4, ht⟩]
 show AD (amod _ _ _) q = _
 rw [Ic]
/-! ### What an entry may be -/
def AB4 : Bs := [119, 111, 114, 108, 100]
def wld (l : List Ac) : Prop := l = [] ∨ ∃ q : Int, 1 ≤ q ∧ q ≤ 31 ∧ l = [(q, AB4)]
structure AAc (τ : Tr) (y : Pt) (K : Int) : Prop where
 kind : 0 ≤ y.kind ∧ y.kind ≤ 4
 path : y.path.length ≤ 62
 data : y.data.length ≤ 100
 acl : wld y.acl
 own : y.own = 0 ∨ ∃ s, AD τ.sess y.own = some s
 num : 0 ≤ y.num ∧ y.num ≤ K + 1
 err : y.err = 0
 room : y.kind = 1 → τ.nodes.length < 60
def Yo (τ : Tr) (zx : Int) (subs : List Pt) (K : Int) : Prop := ∀ i (hi : i < subs.length), AAc (AH τ zx (subs.take i)).1 subs[i] (K + i)
structure AAl (τ : Tr) (x : Pt) (subs : List Pt) : Prop where
 own : 1 ≤ x.own ∧ x.own ≤ 5
 paths : subs.map (·.path) = (AG τ x.own).reverse
 kinds : ∀ y ∈ subs, y.kind = 2
inductive ABG (τ : Tr) (zx : Int) (x : Pt) (subs : List Pt) (K : Int) : Prop
 | part (hs : subs = []) (h : AAc τ x K)
 | opens (hk : x.kind = 5) (hs : subs = []) (ho : 1 ≤ x.own ∧ x.own ≤ 5) (hn : 4 ≤ x.num ∧ x.num ≤ 53) (hd : x.data.length ≤ 100) (ha : x.acl = []) (hp : x.path = [])
 | close (hk : x.kind = 6) (h : AAl τ x subs) (hp : Yo τ zx subs K) (ha : x.acl = []) (hd : x.data = []) (hl : subs.length ≤ 60) (hp : x.path = [])
 | multi (hk : x.kind = 7) (h : Yo τ zx subs K) (ha : x.acl = []) (hd : x.data = []) (hl : subs.length ≤ 6) (hp : x.path = [])
 | error (hk : x.kind = 8) (hs : subs = []) (he : 0 ≤ x.err ∧ x.err < 99) (hn : x.num = -1) (ha : x.acl = []) (hd : x.data = []) (hp : x.path = [])
def TxC (x : Pt) (subs : List Pt) : Prop := AB x.aclV = true ∧ AB x.subsV = true ∧ ∀ y ∈ subs, AB y.aclV = true ∧ AB y.subsV = true
structure AC0 (τ : Tr) (e : En) (K : Int) : Prop where
 sound : HB τ e.zx e.x e.subs = true
 shape : ABG τ e.zx e.x e.subs K
 ses : 0 ≤ e.ses ∧ e.ses < 9
 cells : TxC e.x e.subs
/-! ### What is so in a sound history -/
theorem map_some {α β : Type} {f : α → β} {o : Option α} {b : β} (h : o.map f = some b) : ∃ a, o = some a ∧ b = f a := by
 cases o with
 | none => cases h
 | some a => exact ⟨a, rfl, by simpa using h.symm⟩
theorem EE {τ : Tr} {p : Bs} : AQ τ p ↔ ∃ n, AD τ.nodes p = some n := Option.isSome_iff_exists
/-! ### Parts, one by one -/
theorem Ty {α : Type} {P : List α → Prop} (h0 : P []) (h1 : ∀ l x, P l → P (l ++ [x])) (l : List α) : P l := by
 have : ∀ m : List α, P m.reverse := by
  intro m
  induction m with
  | nil => exact h0
  | cons x m ih => rw [reverse_cons]; exact h1 _ _ ih
 have := this l.reverse
 rwa [reverse_reverse] at this
theorem Qs {τ : Tr} {zx : Int} {subs : List Pt} {i : Nat} (hi : i < subs.length) : (AH τ zx (subs.take (i + 1))).1 = (AJ (AH τ zx (subs.take i)).1 subs[i] zx).1 := by
 rw [take_succ_eq_append_getElem hi, BP]
theorem ABe {τ : Tr} {zx : Int} {cl : Bool} {subs : List Pt} (hs : DK τ zx cl subs = true) : ∀ i, i ≤ subs.length → DK (AH τ zx (subs.take i)).1 zx cl (subs.drop i) = true := by
 intro i
 induction i with
 | zero => intro _; rw [take_zero]; exact hs
 | succ i ih =>
  intro hi
  have := ih om
  rw [SW om] at this
  simp only [Bool.and_eq_true] at this
  exact this.2
theorem VL {τ : Tr} {zx : Int} {subs : List Pt} (hk : ∀ y ∈ subs, y.kind = 2) : ∀ i, i ≤ subs.length → (∀ j (hj : j < subs.length), j < i → Cn subs[j].path) → ∀ q n, AD (AH τ zx (subs.take i)).1.nodes q = some n → (∃ n0, AD τ.nodes q = some n0 ∧ n0.st.own = n.st.own) ∧ ∀ j (hj : j < subs.length), j < i → Bj q subs[j].path = false := by
 intro i
 induction i with
 | zero => intro _ _ q n hq; exact ⟨⟨n, by rw [take_zero] at hq; exact hq, rfl⟩, fun j _ hj => by omega⟩
 | succ i ih =>
  intro hi ha q n hq
  have hi2 : i < subs.length := by omega
  rw [Qs hi2, J3 (hk _ (getElem_mem hi2)) (ha i hi2 om)] at hq
  have key : ∃ n0, AD (AH τ zx (subs.take i)).1.nodes q = some n0 ∧ n0.st.own = n.st.own ∧ Bj q subs[i].path = false := by
   split at hq
   ·obtain ⟨n0, g, rfl⟩ := map_some hq
    split at g
    ·cases g
    ·rename_i e; exact ⟨n0, g, rfl, by simpa using e⟩
   ·split at hq
    ·cases hq
    ·rename_i e; exact ⟨n, hq, rfl, by simpa using e⟩
  obtain ⟨n0, g1, g2, g3⟩ := key
  obtain ⟨⟨n1, k1, k2⟩, k3⟩ := ih om (fun j hj hji => ha j hj om) q n0 g1
  refine ⟨⟨n1, k1, k2.trans g2⟩, fun j hj hji => ?_⟩
  by_cases e : j = i
  ·subst e; exact g3
  ·exact k3 j hj om
theorem WJ (q : Bs) : Bj q q = true := by unfold Bj; simp
theorem IT {τ : Tr} {s : Int} {q : Bs} (hn : (τ.nodes.map (·.1)).Nodup) : q ∈ AG τ s ↔ s ≠ 0 ∧ ∃ n, AD τ.nodes q = some n ∧ n.st.own = s := by
 unfold AG
 rw [mem_map]
 constructor
 ·rintro ⟨⟨q', n⟩, hm, rfl⟩
  obtain ⟨h1, h2⟩ := mem_filter.1 hm
  simp at h2
  exact ⟨h2.1, n, CE hn h1, h2.2⟩
 ·rintro ⟨h0, n, h1, h2⟩
  exact ⟨(q, n), mem_filter.2 ⟨EB h1, by simp [h0, h2]⟩, rfl⟩
theorem Sh {subs : List Pt} (h : ∀ y ∈ subs, y.kind = 2) : subs.filter Ai = subs := filter_eq_self.2 fun y hy => by unfold Ai; rw [decide_eq_true (h y hy)]
theorem Gf {τ : Tr} {x : Pt} {zx : Int} (h : x.kind = 0) : (AJ τ x zx).1 = τ := by
 unfold AJ
 rw [if_neg om, if_neg om, if_neg (by rintro ⟨g, -⟩; omega), if_neg (by rintro ⟨g, -⟩; omega)]
inductive AAj (z0 : Int) : List En → Tr → Prop
 | nil : AAj z0 [] Du
 | snoc {l : List En} {τ : Tr} {e : En} (h : AAj z0 l τ) (he : AC0 τ e (60 * l.length)) (hz : e.zx = z0 + l.length) (hx : 0 ≤ e.xid ∧ e.xid < 150) : AAj z0 (l ++ [e]) (Ld τ e)
/-! ### In memory -/
/-! ### A session's end, path by path -/
theorem Ol {τ : Tr} {N : Nat} (ho : τ.Ok N) (s : Int) : (AG τ s).Pairwise (· < ·) := ho.sorted.filter _
theorem NL {τ : Tr} {zx : Int} {q : Bs} (l : List Pt) : (∀ y ∈ l, y.kind = 2 ∧ Cn y.path) → (AQ (AH τ zx l).1 q ↔ AQ τ q ∧ ∀ y ∈ l, Bj q y.path = false) := by
 induction l using Ty with
 | h0 => intro _; exact ⟨fun h => ⟨h, fun y hy => by cases hy⟩, fun h => h.1⟩
 | h1 l x ih =>
  intro hl
  obtain ⟨k1, k2⟩ := hl x (by simp)
  have ih2 := ih fun y hy => hl y (by simp [hy])
  have e : AQ (AH τ zx (l ++ [x])).1 q ↔ AQ (AH τ zx l).1 q ∧ Bj q x.path = false := by
   rw [BP]
   unfold AQ
   dsimp only
   rw [J3 k1 k2]
   cases Bj q x.path <;> split <;> simp
  rw [e, ih2]
  constructor
  ·rintro ⟨⟨a, b⟩, c⟩
   refine ⟨a, fun y hy => ?_⟩
   rcases mem_append.1 hy with hy | hy
   ·exact b y hy
   ·rw [mem_singleton] at hy; subst hy; exact c
  ·rintro ⟨a, b⟩
   exact ⟨⟨a, fun y hy => b y (by simp [hy])⟩, b x (by simp)⟩
theorem Y1 {τ : Tr} {N : Nat} (ho : τ.Ok N) {i : Nat} (hi : i < τ.nodes.length) : AS τ τ.nodes[i].1 = { τ.nodes[i].2.st with len := τ.nodes[i].2.data.length, kids := (Bf τ τ.nodes[i].1).length } ∧ AQ τ τ.nodes[i].1 := by
 have h1 : AD τ.nodes τ.nodes[i].1 = some τ.nodes[i].2 := CE (ho.sorted.nodup EC) (getElem_mem hi)
 unfold AS Ht AQ
 rw [h1]; exact ⟨rfl, rfl⟩
theorem ABY (τ : Tr) (e : En) : (Ld τ e).zx = e.zx := by
 have hp : ∀ (τ : Tr) (x : Pt) (zx : Int), (AJ τ x zx).1.zx = τ.zx := by
  intro τ x zx
  unfold AJ Ab As
  repeat' split
  all_goals rfl
 have hps : ∀ (τ : Tr) (zx : Int) (l : List Pt), (AH τ zx l).1.zx = τ.zx := by
  intro τ zx l
  induction l using Ty with
  | h0 => rfl
  | h1 l x ih => rw [BP]; dsimp only; rw [hp, ih]
 unfold Ld AC
 dsimp only
 split
 ·split <;> rfl
 split
 ·exact hps _ _ _
 split
 ·exact hps _ _ _
 split
 ·rfl
 ·exact hp _ _ _
theorem GD.up {a p : HP} (hT : GD p) : GD (CD [a, p]) := by
 intro h w hp hle
 obtain ⟨h1, h2, _, a1, a2, _, h3⟩ := hp
 obtain ⟨h4, a4, hp4⟩ := Ao (p := p) (L := []) h3
 exact hT h4 w hp4 (fun b o e => hle b o (a2 b o (a4 b o e)))
def DY : List Ac := [(31, [119, 111, 114, 108, 100])]
theorem Di.mk0 {p : HP} {s : Int} {r : Rq} (hs : Az s) (hT : GD p) (hk : Az r.kind ∧ Az r.xid ∧ Az r.flags ∧ Az r.ver) (hl : r.path.length ≤ 64 ∧ r.data.length ≤ 64) (ha : ∀ h : Hp, p h → Cx 2 h r.aclV r.acl.length (r.acl.flatMap CO))
  (hm : r.acl.length ≤ 8 ∧ ∀ a ∈ r.acl, Az a.1 ∧ a.2.length ≤ 64) (h1 : ∃ a n c, r.aclV = .slice a n c) (h2 : ∃ a n c, r.subsV = .slice a n c) (h3 : ∃ a n c, r.armV = .slice a n c) : Di p ⟨s, []⟩ AF r :=
 ⟨⟨hk.1, hk.2.1, hk.2.2.1, hk.2.2.2, by omega, by omega, ha, by omega, fun a h => ⟨(hm.2 a h).1, by have := (hm.2 a h).2; omega⟩, h2, h3⟩, hs, fun _ _ => .inl ⟨rfl, rfl, none, 0, rfl⟩, by show 0 ≤ _; decide, ⟨none, 0, 0, rfl⟩, h1, hT⟩
theorem Y9 {a p : HP} {sz n : Nat} {v : Value} {xs : List Value} (ha : ∀ h : Hp, a h → Cx sz h v n xs) : ∀ h : Hp, CD [a, p] h → Cx sz h v n xs := by
 intro h hp
 obtain ⟨h1, a1, hp1⟩ := Ao hp
 exact Ci (ha h1 hp1) a1
theorem UD {a p : HP} {sz n : Nat} {v : Value} {xs : List Value} (ha : ∀ h : Hp, p h → Cx sz h v n xs) : ∀ h : Hp, CD [a, p] h → Cx sz h v n xs := by
 intro h hp
 obtain ⟨h1, h2, _, a1, a2, _, h3⟩ := hp
 obtain ⟨h4, a4, hp4⟩ := Ao (p := p) (L := []) h3
 exact Ci (ha h4 hp4) (fun b o e => a2 b o (a4 b o e))
theorem Zw : Ge DY := ⟨by decide, by simp [DY, Fh, Ln, Ct, FK, EV, PF, DS], fun a ha => by
 obtain rfl := mem_singleton.1 ha
 exact ⟨⟨⟨by decide, by decide⟩, by decide⟩, by decide⟩⟩
theorem CN : Ge [] := ⟨by decide, by simp [Fh, Ct, DS], fun a ha => by cases ha⟩
theorem ABE {a p : HP} {v : Value} (ha : ∀ h : Hp, a h → Cx 2 h v 1 (DY.flatMap CO)) : ∀ h : Hp, CD [a, p] h → Cx 2 h v DY.length (DY.flatMap CO) := by
 intro h hp
 obtain ⟨h1, a1, hp1⟩ := Ao hp
 exact Ci (ha h1 hp1) a1
theorem AAs {p : HP} {s k f ver : Int} {w : Value} {q d : Bs} (hs : Az s) (hT : GD p) (hw : ∃ a n c, w = .slice a n c) (hk : Az k ∧ Az f ∧ Az ver) (hl : q.length ≤ 64 ∧ d.length ≤ 64) : Di p ⟨s, []⟩ AF ⟨k, 0, q, d, AF, [], f, ver, false, w, AF⟩ :=
 Di.mk0 hs hT ⟨hk.1, Az.zero, hk.2.1, hk.2.2⟩ hl (fun _ _ => .inl ⟨rfl, rfl, none, 0, rfl⟩) ⟨by show 0 ≤ 8; decide, fun a h => by cases h⟩ ⟨none, 0, 0, rfl⟩ hw ⟨none, 0, 0, rfl⟩
theorem AAf {τ : Tr} {u : B4} {r : Rq} {p : HP} {iv : Value} (h : Di p u iv r) (ha : Ge r.acl) : PtI (AU τ u r).1 := by
 have h1 := Om τ u h.ses (by have := h.rq.data; omega) ha
 have h2 := Ny h τ
 have h3 := Jb h τ
 have hu : FS = 18446744073709551616 := rfl
 refine ⟨?_, h1.own, h1.num, ?_, by omega, by have := h1.data; omega, by omega, fun a ha => (h1.acl.each a ha).1⟩
 ·have hs : ∀ k : Int, 0 ≤ k ∧ k ≤ 8 → Az k := fun k hk => ⟨by omega, by omega⟩
  unfold AU
  split
  ·exact hs 1 om
  split
  ·exact hs 2 om
  split
  ·unfold FJ
   split
   ·exact hs 3 om
   split
   ·exact hs 4 om
   ·exact hs 0 om
  ·exact hs 0 om
 ·unfold AU
  split
  ·exact Az.zero
  split
  ·exact Az.zero
  split
  ·unfold FJ
   split
   ·exact Az.zero
   split <;> exact Az.zero
  ·exact Az.zero
structure UG (y : Pt) : Prop where
 i : PtI y
 acl : (Fh y.acl).length ≤ 33000000
 many : y.acl.length ≤ 1048576
 path : y.path.length ≤ 1048576
 data : y.data.length ≤ 1048576
theorem Hi {n : Int} (h : Az n) : (EV n).length ≤ 10 := Kn h
theorem IP {α : Type} {f : α → HP} : ∀ {l : List α} {x : α} {h : Hp}, x ∈ l → Ag f l h → ∃ h1, (∀ b o, h1 b = some o → h b = some o) ∧ f x h1
 | y :: l, x, h, hx, hp => by
  have hq := Pz hp
  rcases mem_cons.1 hx with rfl | hx
  ·exact Ao hq
  ·obtain ⟨h1, a1, q1⟩ := Ao (C7 (List.Perm.swap _ _ _) hq)
   obtain ⟨h2, a2, q2⟩ := IP hx q1
   exact ⟨h2, fun b o hb => a1 b o (a2 b o hb), q2⟩
 | [], _, _, hx, _ => by cases hx
theorem L8 {e : En} {h : Hp} (hp : entR e h) : Cx 2 h e.x.aclV e.x.acl.length (e.x.acl.flatMap CO) := by
 obtain ⟨h1, a1, q1⟩ := Ao hp
 exact Ci (Aa q1) a1
theorem H2 {e : En} {h : Hp} (hp : entR e h) : Cx 8 h e.x.subsV e.subs.length (e.subs.flatMap A1) := by
 obtain ⟨h1, a1, q1⟩ := Ao (C7 (List.Perm.swap _ _ _) hp)
 exact Ci (Aa q1) a1
theorem Jh {e : En} {h : Hp} (hp : entR e h) {y : Pt} (hy : y ∈ e.subs) : Cx 2 h y.aclV y.acl.length (y.acl.flatMap CO) := by
 have hq : CD [Ag aclR e.subs, aclR e.x, AAP e] h := C7 (by
  refine List.Perm.trans (List.Perm.cons _ (List.Perm.swap _ _ _)) (List.Perm.swap _ _ _)) hp
 obtain ⟨h1, a1, q1⟩ := Ao hq
 obtain ⟨h2, a2, q2⟩ := IP hy q1
 exact Ci (Aa q2) (fun b o hb => a1 b o (a2 b o hb))
theorem G3 {b : Prop} [Decidable b] {e : Int} (h : 0 ≤ e ∧ e ≤ 110) : 0 ≤ Ah b e ∧ Ah b e ≤ 110 := by
 show 0 ≤ (if b then e else 0) ∧ (if b then e else 0) ≤ 110
 split <;> omega
theorem Ix (p : Bs) : 0 ≤ BG p ∧ BG p ≤ 110 := by rcases Ud p with h | h | h <;> omega
theorem JK {l : List Int} (h : ∀ e ∈ l, 0 ≤ e ∧ e ≤ 110) : 0 ≤ B1 l ∧ B1 l ≤ 110 := by
 rcases OZ l with g | g
 ·omega
 ·exact h _ g
theorem TX (r : Rq) : 0 ≤ Ed r ∧ Ed r ≤ 110 := by
 unfold Ed
 split
 ·exact G3 om
 split
 ·exact G3 om
 ·omega
theorem Kq (τ : Tr) (u : B4) (r : Rq) : 0 ≤ (AU τ u r).2 ∧ (AU τ u r).2 ≤ 110 := by
 unfold AU
 split
 ·refine JK fun e he => ?_
  simp only [Dl, mem_cons, not_mem_nil, or_false] at he
  rcases he with rfl | rfl | rfl | rfl | rfl | rfl | rfl | rfl | rfl | rfl <;> first | exact Ix _ | exact G3 om
 split
 ·refine JK fun e he => ?_
  simp only [Gb, mem_cons, not_mem_nil, or_false] at he
  rcases he with rfl | rfl | rfl | rfl | rfl | rfl <;> first | exact Ix _ | exact G3 om
 split
 ·refine JK fun e he => ?_
  simp only [Je, mem_cons, not_mem_nil, or_false] at he
  rcases he with rfl | rfl | rfl | rfl | rfl <;> first | exact Ix _ | exact TX _ | exact G3 om
 ·exact ⟨by show (0 : Int) ≤ 110; decide, by show (110 : Int) ≤ 110; decide⟩
theorem KW {e n : Int} (he : Az e) (hn : Az n) : UG (Aw e n) :=
 ⟨⟨⟨by show (-9223372036854775808 : Int) ≤ 8; decide, by show (8 : Int) ≤ 9223372036854775807; decide⟩, Az.zero, hn, he, by show 0 < FS; decide, by show 0 < FS; decide, by show 0 < FS; decide, fun a ha => by cases ha⟩, CN.long, Nat.zero_le _, Nat.zero_le _, Nat.zero_le _⟩
theorem Yj {τ : Tr} {u : B4} {r : Rq} {p : HP} {iv : Value} (h : Di p u iv r) (ha : Ge r.acl) : UG (AU τ u r).1 := by
 have h1 := Om τ u h.ses (by have := h.rq.data; omega) ha
 exact ⟨AAf h ha, h1.acl.long, Jb h τ, Ny h τ, h1.data⟩
theorem UG.of {y z : Pt} (e : y.pl = z.pl) (h : UG z) : UG y := by
 have hk : UG z.pl := ⟨⟨h.i.kind, h.i.own, h.i.num, h.i.err, h.i.path, h.i.data, h.i.many, h.i.acl⟩, h.acl, h.many, h.path, h.data⟩
 rw [← e] at hk
 exact ⟨⟨hk.i.kind, hk.i.own, hk.i.num, hk.i.err, hk.i.path, hk.i.data, hk.i.many, hk.i.acl⟩, hk.acl, hk.many, hk.path, hk.data⟩
def Ids (p : HP) (v : Value) (l : List Bs) : Prop := (∀ h : Hp, p h → Cx 1 h v l.length (A6 l)) ∧ l.length ≤ 1048576 ∧ ∃ a n c, v = .slice a n c
structure WiD (p : HP) (u : B4) (iv : Value) (r : Rq) (subs : List Rq) : Prop where
 w : Di p u iv r
 a : Ge r.acl
 rd : ∀ h : Hp, p h → Cx 10 h r.subsV subs.length (subs.flatMap Eu)
 each : ∀ x ∈ subs, Di p u iv x
 acls : ∀ x ∈ subs, Ge x.acl
def Ue : HP := fun _ => True
theorem UM (h : Hp) : Ue h := trivial
def Am : List Bs → Tr → Tr
 | [], τ => τ
 | p :: l, τ => Am l (AC τ τ.zx (CJ τ p) []).1
theorem M8 : ∀ (l m : List Bs) (τ : Tr), Am (l ++ m) τ = Am m (Am l τ)
 | [], _, _ => rfl
 | _ :: l, m, _ => M8 l m _
theorem NU : ∀ (l m : List Bs) (τ : Tr), A0 (l ++ m) τ = A0 l τ ++ A0 m (Am l τ)
 | [], _, _ => rfl
 | p :: l, m, τ => by
  show CJ τ p :: A0 (l ++ m) _ = (CJ τ p :: A0 l _) ++ _
  rw [NU l m]; rfl
theorem Ch : ∀ (l : List Bs) (τ : Tr), (A0 l τ).length = l.length
 | [], _ => rfl
 | _ :: l, _ => congrArg Nat.succ (Ch l _)
theorem Hn {l : List Bs} {i : Nat} (hi : i < l.length) (τ : Tr) : Am (l.take (i + 1)) τ = (AC (Am (l.take i) τ) (Am (l.take i) τ).zx (CJ (Am (l.take i) τ) l[i]) []).1 := by
 rw [take_succ_eq_append_getElem hi, M8]; rfl
theorem EN {l : List Bs} {i : Nat} (hi : i < l.length) (τ : Tr) : A0 (l.take (i + 1)) τ = A0 (l.take i) τ ++ [CJ (Am (l.take i) τ) l[i]] := by
 rw [take_succ_eq_append_getElem hi, NU]; rfl
theorem OW {N : Nat} : ∀ (l : List Bs) {τ : Tr}, τ.Ok N → (Am l τ).Ok (N + l.length)
 | [], _, h => h
 | p :: l, τ, h => by
  have h1 : (AC τ τ.zx (CJ τ p) []).1.Ok (N + 1) := h.apply τ.zx (CJ τ p) [] (Nat.zero_le _) (fun _ h => by cases h)
  have h2 := OW l h1
  rw [length_cons, show N + (l.length + 1) = N + 1 + l.length by omega]
  exact h2
theorem Dn : ∀ (l : List Bs) (τ : Tr), ∀ y ∈ A0 l τ, y.aclV = AF ∧ y.acl = [] ∧ y.subsV = AF ∧ y.pl = y
 | [], _, y, hy => by cases hy
 | p :: l, τ, y, hy => by
  rcases mem_cons.1 (show y ∈ CJ τ p :: A0 l _ from hy) with rfl | hy
  ·exact ⟨rfl, rfl, rfl, rfl⟩
  ·exact Dn l _ y hy
theorem Xk : ∀ {l : List Pt}, (∀ y ∈ l, y.pl = y) → l.map Pt.pl = l
 | [], _ => rfl
 | y :: l, h => by rw [map_cons, h y mem_cons_self, Xk fun z hz => h z (mem_cons_of_mem _ hz)]
theorem GT {τ : Tr} {N : Nat} (ho : τ.Ok N) {s : Int} {p : Bs} (hp : p ∈ AG τ s) : p.length ≤ 60 := by
 unfold AG at hp
 obtain ⟨y, hy, rfl⟩ := mem_map.1 hp
 exact Ee (ho.able y (mem_filter.1 hy).1)
theorem RB : ∀ {l : List Pt}, (∀ y ∈ l, y.aclV = AF ∧ y.acl = []) → ∀ h : Hp, Ag aclR l h
 | [], _, h => CX h
 | y :: l, hl, h => by
  refine FE ?_
  obtain ⟨h1, h2⟩ := hl y mem_cons_self
  have ha : ∀ g : Hp, aclR y g := fun g => by
   unfold aclR
   rw [h1, h2]
   exact AO _ 2 g
  exact ⟨fun _ => none, h, fun _ => .inl rfl, (fun _ _ e => by cases e), fun _ _ e => e, ha _, h, fun _ => none, fun _ => .inr rfl, fun _ _ e => e, (fun _ _ e => by cases e), RB (fun z hz => hl z (mem_cons_of_mem _ hz)) _, trivial⟩
theorem Fk (l : List Pt) : (l.flatMap A1).length = l.length * 8 := Qz (fun _ _ => rfl)
theorem ID {xs ys zs : List Value} {n : Nat} (hn : xs.length = n) (hl : zs.length = ys.length) : DT (xs ++ ys) n zs = xs ++ zs := by
 unfold DT
 have e : (xs ++ ys).drop (n + zs.length) = [] := drop_eq_nil_of_le (by rw [length_append]; omega)
 rw [e, ← hn, take_left, append_nil]
def E1 (s : Int) (z : Value) : List Value := [AA 6, AE [], AE [], AF, AA s, AA 0, AA 0, z]
def Ql (K : HP) (c b : Nat) (τ : Tr) (s : Int) (l : List Bs) (i : Nat) : HP := fun h => ∃ z : Value, (∃ a k, z = .slice a i k) ∧ CD [K, AZ c (Am (l.take i) τ), Ad b (E1 s z) 60, Af 60 8 z i ((A0 (l.take i) τ).flatMap A1)] h
theorem Qg {p : HP} {u : B4} {iv : Value} : ∀ {l : List Rq} {τ : Tr}, (∀ r ∈ l, Di p u iv r ∧ Ge r.acl) → (∀ y ∈ (Bd u l τ).2.1, UG y) ∧ (Bd u l τ).2.1.length ≤ l.length
 | [], _, _ => ⟨(fun _ h => by cases h), Nat.le_refl _⟩
 | r :: l, τ, h => by
  rw [C0]
  split
  ·exact ⟨(fun _ g => by cases g), Nat.zero_le _⟩
  ·obtain ⟨h1, h2⟩ := Qg (l := l) (τ := (AC τ τ.zx (AU τ u r).1 []).1) (fun x hx => h x (mem_cons_of_mem _ hx))
   have h0 := h r mem_cons_self
   refine ⟨fun y hy => ?_, Nat.succ_le_succ h2⟩
   rcases mem_cons.1 hy with rfl | hy
   ·exact Yj h0.1 h0.2
   ·exact h1 y hy
theorem Eg {u : B4} : ∀ {l : List Rq} {τ : Tr} {i : Nat} {e : Int}, (Bd u l τ).2.2 = some (i, e) → i < l.length ∧ 0 ≤ e ∧ e ≤ 110
 | [], _, _, _, h => by cases h
 | r :: l, τ, i, e, h => by
  rw [C0] at h
  split at h
  ·have h2 : (0, (AU τ u r).2) = (i, e) := Option.some.inj h
   obtain ⟨rfl, rfl⟩ := Prod.mk.inj h2
   have := Kq τ u r
   exact ⟨by rw [length_cons]; omega, this.1, this.2⟩
  ·have h2 : Option.map (fun x : Nat × Int => (x.1 + 1, x.2)) (Bd u l (AC τ τ.zx (AU τ u r).1 []).1).2.2 = some (i, e) := h
   obtain ⟨⟨j, k⟩, h3, h4⟩ := Option.map_eq_some_iff.1 h2
   obtain ⟨rfl, rfl⟩ := Prod.mk.inj h4
   have := Eg h3
   exact ⟨by rw [length_cons]; omega, this.2.1, this.2.2⟩
theorem Zg {p : HP} {u : B4} {iv : Value} {l : List Rq} {τ : Tr} (h : ∀ r ∈ l, Di p u iv r ∧ Ge r.acl) : UG (A3 τ u l).1 ∧ (∀ y ∈ (A3 τ u l).2, UG y) ∧ (A3 τ u l).2.length ≤ 8 := by
 have hm : Az (-1) := ⟨by decide, by decide⟩
 unfold A3
 split
 ·exact ⟨KW ⟨by decide, by decide⟩ hm, (fun _ g => by cases g), by show 0 ≤ 8; decide⟩
 ·rename_i hl
  have h8 : l.length ≤ 8 := by omega
  obtain ⟨h1, h2⟩ := Qg (τ := τ) h
  split
  ·rename_i i e he
   have hie : i < 8 ∧ 0 ≤ e ∧ e ≤ 110 := by
    have := Eg he
    omega
   exact ⟨KW ⟨by omega, by omega⟩ ⟨by omega, by omega⟩, (fun _ g => by cases g), by show 0 ≤ 8; decide⟩
  ·refine ⟨⟨⟨⟨by show (-9223372036854775808 : Int) ≤ 7; decide, by show (7 : Int) ≤ 9223372036854775807; decide⟩, Az.zero, Az.zero, Az.zero, by show 0 < FS; decide, by show 0 < FS; decide, by show 0 < FS; decide, fun a ha => by cases ha⟩, CN.long, Nat.zero_le _, Nat.zero_le _, Nat.zero_le _⟩, h1, by show (Bd u l τ).2.1.length ≤ 8; omega⟩
theorem ABt {τ : Tr} {p : Bs} (hp : p.length ≤ 60) : UG (CJ τ p) ∧ (Ia (CJ τ p)).length ≤ 200 := by
 have hu : FS = 18446744073709551616 := rfl
 have hn : Az (C3 ((AS τ (AL p)).cver + 1)) := wrap_i64 _
 have hR : UG (CJ τ p) := ⟨⟨⟨by show (-9223372036854775808 : Int) ≤ 2; decide, by show (2 : Int) ≤ 9223372036854775807; decide⟩, Az.zero, hn, Az.zero, by show p.length < FS; omega, by show 0 < FS; decide, by show 0 < FS; decide, fun a ha => by cases ha⟩, CN.long, Nat.zero_le _, by show p.length ≤ _; omega, Nat.zero_le _⟩
 refine ⟨hR, ?_⟩
 have h1 := Hi hR.i.kind
 have h2 := EQ (u := p.length) om
 have h5 := Hi hR.i.own
 have h6 := Hi hR.i.num
 have h7 := Hi hR.i.err
 have h8 : (FK (CJ τ p).path).length ≤ 70 := by
  show (FK p).length ≤ 70
  unfold FK Ct
  rw [length_append]; omega
 have h9 : (FK (CJ τ p).data).length ≤ 10 := by
  show (FK []).length ≤ 10
  simp [FK, Ct, DS]
 have h10 : (Fh (CJ τ p).acl).length ≤ 10 := by
  show (Fh []).length ≤ 10
  simp [Fh, Ct, DS]
 unfold Ia
 simp only [flatMap_cons, flatMap_nil, length_append, length_nil]
 omega
theorem RD : ∀ {l : List Bs} {τ : Tr}, (∀ p ∈ l, p.length ≤ 60) → ∀ y ∈ A0 l τ, UG y ∧ (Ia y).length ≤ 200
 | [], _, _, _, h => by cases h
 | p :: l, τ, h, y, hy => by
  rcases mem_cons.1 (show y ∈ CJ τ p :: A0 l _ from hy) with rfl | hy
  ·exact ABt (h p mem_cons_self)
  ·exact RD (fun x hx => h x (mem_cons_of_mem _ hx)) y hy
def B3 (k : Int) : Prop := k = 9 ∨ k = 10 ∨ k = 11 ∨ k = 12
instance (k : Int) : Decidable (B3 k) := inferInstanceAs (Decidable (_ ∨ _))
def P4 (τ : Tr) (ids : List Bs) (r : Rq) : List Int := [Ah (¬ B3 r.kind) 110, BG r.path, Ah (¬ AQ τ r.path) 60, Ah (r.kind ≠ 10 ∧ ¬ He τ ids r.path 1) 65]
def BK (τ : Tr) (ids : List Bs) (r : Rq) : Int := B1 (P4 τ ids r)
def Bc (τ : Tr) (ids : List Bs) (r : Rq) : List Ac := if BK τ ids r = 0 ∧ r.kind = 12 then Do τ r.path else []
def BU (τ : Tr) (ids : List Bs) (r : Rq) : List Bs := if BK τ ids r = 0 ∧ r.kind = 11 then Bf τ r.path else []
def DL (τ : Tr) (ids : List Bs) (r : Rq) (av kv : Value) : Rp :=
 ⟨r.xid, τ.zx, BK τ ids r, [], if BK τ ids r = 0 ∧ r.kind = 9 then Ha τ r.path else [], if BK τ ids r = 0 then AS τ r.path else st0, av, kv, AF⟩
theorem Mo {τ : Tr} {ids : List Bs} {r : Rq} (h : BK τ ids r = 0) : B3 r.kind ∧ AQ τ r.path := by
 have h0 := E3 _ h
 have h1 := h0 (Ah (¬ B3 r.kind) 110) (by unfold P4; simp)
 have h2 := h0 (Ah (¬ AQ τ r.path) 60) (by unfold P4; simp)
 constructor
 ·unfold Ah at h1
  split at h1
  ·cases h1
  ·rename_i g; exact Decidable.not_not.1 g
 ·unfold Ah at h2
  split at h2
  ·cases h2
  ·rename_i g; exact Decidable.not_not.1 g
theorem ES {τ : Tr} {ids : List Bs} {r : Rq} (h : ¬ (BK τ ids r = 0 ∧ r.kind = 12)) : Bc τ ids r = [] := if_neg h
theorem EP {τ : Tr} {ids : List Bs} {r : Rq} (h : ¬ (BK τ ids r = 0 ∧ r.kind = 11)) : BU τ ids r = [] := if_neg h
theorem NG {τ : Tr} {ids : List Bs} {r : Rq} (h : BK τ ids r = 0) (hk : r.kind = 12) : Bc τ ids r = Do τ r.path := if_pos ⟨h, hk⟩
theorem MQ {τ : Tr} {ids : List Bs} {r : Rq} (h : BK τ ids r = 0) (hk : r.kind = 11) : BU τ ids r = Bf τ r.path := if_pos ⟨h, hk⟩
theorem OH {τ : Tr} {ids : List Bs} {r : Rq} {av kv : Value} (h : BK τ ids r ≠ 0) : DL τ ids r av kv = ⟨r.xid, τ.zx, BK τ ids r, [], [], st0, av, kv, AF⟩ := by
 unfold DL
 rw [if_neg (fun g => h g.1), if_neg h]
theorem N2 {τ : Tr} {ids : List Bs} {r : Rq} {av kv : Value} (h : BK τ ids r = 0) (hk : r.kind = 9) : DL τ ids r av kv = ⟨r.xid, τ.zx, 0, [], Ha τ r.path, AS τ r.path, av, kv, AF⟩ := by
 unfold DL
 rw [if_pos ⟨h, hk⟩, if_pos h, h]
theorem ER {τ : Tr} {ids : List Bs} {r : Rq} {av kv : Value} (h : BK τ ids r = 0) (hk : ¬ r.kind = 9) : DL τ ids r av kv = ⟨r.xid, τ.zx, 0, [], [], AS τ r.path, av, kv, AF⟩ := by
 unfold DL
 rw [if_neg (fun g => hk g.2), if_pos h, h]
theorem RqA.up {a p : HP} {r : Rq} (h : RqA p r) : RqA (CD [a, p]) r := ⟨h.kind, h.xid, h.flags, h.ver, h.path, h.data, UD h.acl, h.many, h.ids, h.sub, h.arm⟩
theorem Di.more {a p : HP} {s : Int} {ids all : List Bs} {iv iv2 : Value} {r : Rq} (h : Di p ⟨s, ids⟩ iv r) (hr : ∀ h : Hp, a h → Cx 1 h iv2 all.length (A6 all)) (hl : all.length ≤ 1048576) (hs : ∃ a n c, iv2 = .slice a n c) : Di (CD [a, p]) ⟨s, all⟩ iv2 r := ⟨h.rq.up, h.ses, Y9 hr, hl, hs, h.ashape, h.tab.up⟩
theorem WiD.more {a p : HP} {s : Int} {ids all : List Bs} {iv iv2 : Value} {r : Rq} {subs : List Rq} (h : WiD p ⟨s, ids⟩ iv r subs) (hr : ∀ h : Hp, a h → Cx 1 h iv2 all.length (A6 all)) (hl : all.length ≤ 1048576) (hs : ∃ a n c, iv2 = .slice a n c) : WiD (CD [a, p]) ⟨s, all⟩ iv2 r subs :=
 ⟨h.w.more hr hl hs, h.a, UD h.rd, fun x hx => (h.each x hx).more hr hl hs, h.acls⟩
theorem Di.z {p : HP} {s : Int} {ids : List Bs} {iv : Value} {r : Rq} (h : Di p ⟨s, ids⟩ iv r) : Di p ⟨0, ids⟩ iv r := ⟨h.rq, Az.zero, h.ids, h.few, h.shape, h.ashape, h.tab⟩
def zS (s : LF) : LF := { s with cz := 0, mz := 0, pz := 0 }
def zN (n : Nd) : Nd := { n with st := zS n.st }
def zL (l : List PN) : List PN := l.map fun y => (y.1, zN y.2)
def zT (τ : Tr) : Tr := ⟨zL τ.nodes, τ.sess, 0⟩
theorem Ls : ∀ (l : List PN) (p : Bs), AD (zL l) p = (AD l p).map zN
 | [], _ => rfl
 | y :: l, p => by
  show AD ((y.1, zN y.2) :: zL l) p = (AD (y :: l) p).map zN
  unfold AD
  split
  ·rfl
  ·exact Ls l p
theorem F1 (τ : Tr) (p : Bs) : AQ (zT τ) p ↔ AQ τ p := by
 unfold AQ
 rw [show AD (zT τ).nodes p = (AD τ.nodes p).map zN from Ls _ _]
 cases AD τ.nodes p <;> simp
theorem Wa (τ : Tr) : AX (zT τ) = AX τ := by
 unfold AX zT zL
 rw [map_map]; rfl
theorem ZO (τ : Tr) (p : Bs) : Bf (zT τ) p = Bf τ p := by
 unfold Bf zT zL
 rw [filter_map, map_map]; rfl
theorem WW (τ : Tr) (s : Int) : AG (zT τ) s = AG τ s := by
 unfold AG zT zL
 rw [filter_map, map_map]; rfl
theorem O2 (τ : Tr) (p : Bs) : AS (zT τ) p = zS (AS τ p) := by
 unfold AS Ht
 rw [show AD (zT τ).nodes p = (AD τ.nodes p).map zN from Ls _ _, ZO]
 cases AD τ.nodes p <;> rfl
theorem AA3 (τ : Tr) (p : Bs) : Do (zT τ) p = Do τ p := by
 unfold Do
 rw [show AD (zT τ).nodes p = (AD τ.nodes p).map zN from Ls _ _]
 cases AD τ.nodes p <;> rfl
theorem TQ (τ : Tr) (ids : List Bs) (p : Bs) (k : Int) : He (zT τ) ids p k ↔ He τ ids p k := by
 unfold He
 rw [F1, AA3]
theorem GC {a b : Prop} [Decidable a] [Decidable b] (h : a ↔ b) (e : Int) : Ah a e = Ah b e := by
 by_cases g : a
 ·rw [show Ah a e = e from if_pos g, show Ah b e = e from if_pos (h.1 g)]
 ·rw [show Ah a e = 0 from if_neg g, show Ah b e = 0 from if_neg (fun k => g (h.2 k))]
theorem T8 (τ : Tr) (r : Rq) : JE (zT τ) r = zS (JE τ r) := O2 _ _
theorem Tk (τ : Tr) (r : Rq) : B2 (zT τ) r = B2 τ r := by
 unfold B2
 rw [T8]; rfl
theorem Tf (τ : Tr) (u : B4) (r : Rq) : AU (zT τ) u r = AU τ u r := by
 have e1 : Aq (zT τ) u r = Aq τ u r := by
  unfold Aq
  rw [Tk, T8]; rfl
 have e2 : Dl (zT τ) u r = Dl τ u r := by
  unfold Dl
  rw [Tk, T8, Wa, WW, GC (not_congr (F1 τ (AL r.path))), GC (not_congr (TQ τ u.ids (AL r.path) 4)), GC (F1 τ (B2 τ r))]
  rfl
 have e3 : EH (zT τ) r = EH τ r := by
  unfold EH
  rw [T8]; rfl
 have e4 : Gb (zT τ) u r = Gb τ u r := by
  unfold Gb
  rw [O2, GC (not_congr (F1 τ r.path)), GC (not_congr (TQ τ u.ids (AL r.path) 8))]
  rfl
 have es : ∀ k p, DA k (AS (zT τ) p) = DA k (AS τ p) := fun k p => by
  rw [O2]
  unfold DA
  split <;> rfl
 have e5 : FJ (zT τ) r = FJ τ r := by
  unfold FJ
  rw [es, es]
 have e6 : Je (zT τ) u r = Je τ u r := by
  unfold Je
  rw [es, GC (not_congr (F1 τ r.path)), GC (not_congr (TQ τ u.ids r.path (OV r.kind)))]
 unfold AU
 rw [e1, e2, e3, e4, e5, e6]
/-! ### Steps -/
theorem UQ : ∀ (l : List PN) (p : Bs) (n : Nd), zL (sset l p n) = sset (zL l) p (zN n)
 | [], _, _ => rfl
 | y :: l, p, n => by
  show zL (if y.1 = p then (p, n) :: l else if p < y.1 then (p, n) :: y :: l else y :: sset l p n) = if y.1 = p then (p, zN n) :: zL l else if p < y.1 then (p, zN n) :: (y.1, zN y.2) :: zL l else (y.1, zN y.2) :: sset (zL l) p (zN n)
  split
  ·rfl
  ·split
   ·rfl
   ·show (y.1, zN y.2) :: zL (sset l p n) = _
    rw [UQ l p n]
theorem Oj {l : List PN} {p : Bs} {f g : Nd → Nd} (h : ∀ n, zN (f n) = g (zN n)) : zL (amod l p f) = amod (zL l) p g := by
 unfold zL amod
 rw [map_map, map_map]
 refine map_congr_left fun y _ => ?_
 dsimp only [Function.comp]
 split
 ·rw [h]
 ·rfl
theorem VT (l : List PN) (f : Bs → Bool) : zL (l.filter fun y => f y.1) = (zL l).filter fun y => f y.1 := by
 unfold zL
 rw [filter_map]; rfl
theorem YE {τ υ : Tr} (h : zT τ = zT υ) (p : Bs) (num zx zy : Int) : zT (D1 τ p num zx) = zT (D1 υ p num zy) := by
 have e : ∀ (σ : Tr) (z : Int), zT (D1 σ p num z) = { zT σ with nodes := amod (zT σ).nodes p (fun n => { n with st := { n.st with cver := num } }) } := fun σ z => by
  unfold zT D1
  dsimp only
  rw [Oj (g := fun n => { n with st := { n.st with cver := num } }) (fun n => rfl)]
 rw [e, e, h]
theorem Ka {c d : Prop} [Decidable c] [Decidable d] (h : c ↔ d) {a b a' b' : Tr} (h1 : c → zT a = zT a') (h2 : ¬ c → zT b = zT b') : zT (if c then a else b) = zT (if d then a' else b') := by
 by_cases g : c
 ·rw [if_pos g, if_pos (h.1 g)]; exact h1 g
 ·rw [if_neg g, if_neg (fun k => g (h.2 k))]; exact h2 g
theorem FL (τ : Tr) (x : Pt) (zx : Int) : (AJ τ x zx).1 = if x.kind = 1 then (if Cn x.path ∧ AQ τ (AL x.path) then D1 { τ with nodes := sset τ.nodes x.path (DU x zx) } (AL x.path) x.num zx else τ) else if x.kind = 2 then (if Cn x.path then D1 (FH τ x.path) (AL x.path) x.num zx else τ) else if x.kind = 3 ∧ AQ τ x.path then { τ with nodes := amod τ.nodes x.path (F0 x.data x.num zx) } else if x.kind = 4 ∧ AQ τ x.path then { τ with nodes := amod τ.nodes x.path (FT x.acl x.num) } else τ := by
 unfold AJ Ab As
 simp only [apply_ite Prod.fst]
theorem Xj {τ υ : Tr} (h : zT τ = zT υ) (x : Pt) (zx zy : Int) : zT (AJ τ x zx).1 = zT (AJ υ x zy).1 := by
 have ht : ∀ p, AQ τ p ↔ AQ υ p := fun p => by rw [← F1 τ, h, F1]
 rw [FL, FL]
 refine Ka Iff.rfl (fun _ => Ka (and_congr_right' (ht _)) (fun _ => YE ?_ _ _ _ _) (fun _ => h)) (fun _ => Ka Iff.rfl (fun _ => Ka Iff.rfl (fun _ => YE ?_ _ _ _ _) (fun _ => h)) (fun _ => Ka (and_congr_right' (ht _)) (fun _ => ?_) (fun _ => Ka (and_congr_right' (ht _)) (fun _ => ?_) (fun _ => h))))
 ·have e : ∀ (σ : Tr) (z : Int), zT { σ with nodes := sset σ.nodes x.path (DU x z) } = { zT σ with nodes := sset (zT σ).nodes x.path (zN (DU x 0)) } := fun σ z => by
   unfold zT
   dsimp only
   rw [UQ]; rfl
  exact (e τ zx).trans (by rw [h]; exact (e υ zy).symm)
 ·have e : ∀ σ : Tr, zT (FH σ x.path) = { zT σ with nodes := (zT σ).nodes.filter fun y => !Bj y.1 x.path } := fun σ => by
   unfold zT FH
   dsimp only
   rw [VT σ.nodes (fun q => !Bj q x.path)]
  rw [e, e, h]
 ·have e : ∀ (σ : Tr) (z : Int), zT { σ with nodes := amod σ.nodes x.path (F0 x.data x.num z) } = { zT σ with nodes := amod (zT σ).nodes x.path (fun n => { n with data := x.data, st := { n.st with ver := x.num } }) } := fun σ z => by
   unfold zT
   dsimp only
   rw [Oj (g := fun n => { n with data := x.data, st := { n.st with ver := x.num } }) (fun n => rfl)]
  exact (e τ zx).trans (by rw [h]; exact (e υ zy).symm)
 ·have e : ∀ (σ : Tr), zT { σ with nodes := amod σ.nodes x.path (FT x.acl x.num) } = { zT σ with nodes := amod (zT σ).nodes x.path (FT x.acl x.num) } := fun σ => by
   unfold zT
   dsimp only
   rw [Oj (g := FT x.acl x.num) (fun n => rfl)]
  exact (e τ).trans (by rw [h]; exact (e υ).symm)
theorem ACB (τ : Tr) (z : Int) : zT (zxT τ z) = zT τ := rfl
def KT (x : Pt) : Prop := x.kind ≠ 5 ∧ x.kind ≠ 6 ∧ x.kind ≠ 7 ∧ x.kind ≠ 8
theorem NK {τ : Tr} {zx : Int} {x : Pt} (h : KT x) (l : List Pt) : (AC τ zx x l).1 = (AJ (zxT τ zx) x zx).1 := by
 obtain ⟨h5, h6, h7, h8⟩ := h
 unfold AC
 dsimp only
 rw [if_neg h5, if_neg h6, if_neg h7, if_neg h8]
theorem Kj {c d : Prop} [Decidable c] [Decidable d] (h : c ↔ d) (z : Int) {a b a' b' : Tr} (h1 : a = zxT a' z) (h2 : b = zxT b' z) : (if c then a else b) = zxT (if d then a' else b') z := by
 by_cases g : c
 ·rw [if_pos g, if_pos (h.1 g)]; exact h1
 ·rw [if_neg g, if_neg (fun k => g (h.2 k))]; exact h2
theorem P8 (τ : Tr) (x : Pt) (zx z : Int) : (AJ (zxT τ z) x zx).1 = zxT (AJ τ x zx).1 z := by
 rw [FL, FL]
 exact Kj Iff.rfl z (Kj Iff.rfl z rfl rfl) (Kj Iff.rfl z (Kj Iff.rfl z rfl rfl) (Kj Iff.rfl z rfl (Kj Iff.rfl z rfl rfl)))
theorem Oe (τ : Tr) (zx z : Int) (l : List Pt) : (AH (zxT τ z) zx l).1 = zxT (AH τ zx l).1 z := by
 unfold AH
 have H : ∀ (l : List Pt) (σ : Tr) (e e' : List Ev), (l.foldl (fun r x => ((AJ r.1 x zx).1, r.2 ++ (AJ r.1 x zx).2)) (zxT σ z, e)).1 = zxT (l.foldl (fun r x => ((AJ r.1 x zx).1, r.2 ++ (AJ r.1 x zx).2)) (σ, e')).1 z := by
  intro l
  induction l with
  | nil => intro σ e e'; rfl
  | cons x l ih =>
   intro σ e e'
   rw [foldl_cons, foldl_cons]
   dsimp only
   rw [P8]
   exact ih _ _ _
 exact H l τ [] []
theorem U1 {x : Pt} (h : x.kind = 0 ∨ x.kind = 1 ∨ x.kind = 2 ∨ x.kind = 3 ∨ x.kind = 4) : KT x := by
 unfold KT; omega
theorem HL (τ : Tr) (u : B4) (r : Rq) : KT (AU τ u r).1 := by
 refine U1 ?_
 unfold AU
 split
 ·exact .inr (.inl rfl)
 split
 ·exact .inr (.inr (.inl rfl))
 split
 ·unfold FJ
  split
  ·exact .inr (.inr (.inr (.inl rfl)))
  split
  ·exact .inr (.inr (.inr (.inr rfl)))
  ·exact .inl rfl
 ·exact .inl rfl
section
variable {P : Program} {ops : Array Oper} {n : Nat} {RO : List HP} {H : List Nat} {Fin : EF → List HP → Prop}
variable {j : Nat} {S : List Nat} {E : Bx} {RW : List HP} {op : Op} {ty : TypeId} {pos : String} {aft : Array Edge}
end
section
variable {P : Program} {W : World} {n : Nat} {ds : List Deferred} {E : Bx} {L R : List HP} {Q : Exit → Act → World → Prop}
theorem AP.append1S {t e : TypeId} {ty : TypeId} {x y : Operand} {v : Value} {b n m c sz by' : Nat} {xs l : List Value} {T : TypeId} {z : Value} {zl : List Value} {ts : Array TypeId} (hts : ts = #[t, t]) (hx : ev E x = some v) (hy : ev E y = some (.slice (some ⟨b, 0, none⟩) m c)) (ht : Av P t = some (e, sz, by'))
  (hz : Au P e = some z) (hzc : z.cells = zl.toArray) (hzl : zl.length = sz) (hcell : ∀ y ∈ l, AB y = true) (hl : l.length = m * sz) (hmc : m ≤ c) (hb : (n + m) * by' ≤ 140737488355328) (hb0 : 0 < by') (hm : 0 < m) :
  AP P ⟨none, .call { callee := .builtin .append, args := #[x, y], argTypes := ts }, ty, "", #[], none⟩ E [Af e sz v n xs, Ad b l T] fun v' L' => ∃ b' c', v' = .slice (some ⟨b', 0, none⟩) (n + m) c' ∧ L' = [Af e sz v' (n + m) (xs ++ l)] := by
 intro ρ w F ha hs
 refine (AP.append1 (ty := ty) hts hx hy ht hz hzc hzl hcell hl hmc hb hb0 ρ w F ha hs).mono ?_
 rintro v' w' ⟨L', ⟨⟨a, k, rfl⟩, rfl⟩, hs', hk⟩
 obtain ⟨h1, a1, hp⟩ := Ao hs'
 rcases hp with ⟨h2, h3, -⟩ | ⟨b', cap, rest, fr, h2, -⟩
 ·omega
 ·simp only [Value.slice.injEq] at h2
  obtain ⟨rfl, -, rfl⟩ := h2
  exact ⟨_, ⟨b', k, rfl, rfl⟩, hs', hk⟩
/-! ### Code in a round's frame -/
abbrev FR (l : Nat) : Fence := Fence.wide.inRound l
def GS (o : Oper) : Bool := match o.op with
 | .defer _ => false
 | _ => true
theorem Mu {o : Oper} (h : GS o = true) : ∀ c, o.op ≠ .defer c := by
 intro c e
 unfold GS at h
 rw [e] at h
 cases h
theorem Us {F : Fence} (hF : ∀ m m', StepsIn (Machine.fenced P F) P m m' ↔ Steps P m m') {m : Nat} {row : String} {args : Array Value} {w : World} {K : Value → World → Prop} (h : Rows P row args w K) : RowsIn F m P row args w K :=
 fun c cs _ => let ⟨v, w', r, s⟩ := h c cs; ⟨v, w', r, (hF _ _).2 s⟩
theorem SX {l m : Nat} {o : Oper} {a : Act} {next next' : Act → World → Prop} (hn : ∀ a w, next a w → next' a w) {r : Result Next} (h : o.upon P a next Q r) : o.uponIn (FR l) m P a next' Q r := by
  cases r with
  | ok nx w' =>
    cases nx <;> first | exact hn _ _ h | exact h.elim | skip
    · refine ⟨(fun hd => by cases hd), ?_⟩
      have h1 : CallsIn Fence.wide (m - 1) P _ _ w' _ := callsIn_wide.2 h
      have h2 : CallsIn (FR l) (m - 1) P _ _ w' _ := CallsIn.mono h1 (R' := fun e w'' => match e with
        | .returned v => next' (a.put o.dst v) w''
        | .panicked chain => Q (.panic chain) a w''
        | .outgrown => LetsOut Q) (by
          intro e w'' hq
          cases e
          · exact hn _ _ hq
          · exact hq
          · exact hq)
      exact h2.mono (by intro e w'' hq; cases e <;> exact hq)
    · exact ⟨(fun hd => by cases hd), RowsIn.mono (Us (F := FR l) (fun _ _ => stepsIn_wide) h) (fun v w'' hq => hn _ _ hq)⟩
  | halt x w' => cases x <;> first | exact h | exact h.elim
theorem Gr {l m : Nat} {ops : Array Oper} (hQ : ¬ LetsOut Q) (hnd : ∀ (i : Nat) (o : Oper), ops[i]? = some o → GS o = true) : ∀ (idx : List Nat) (a : Act) (w : World), wpOps P ops Q idx a w → wpOpsIn (FR l) m P ops Q idx a w
 | [], _, _, h => h
 | i :: rest, a, w, h => by
  unfold wpOps at h
  unfold wpOpsIn
  cases ho : ops[i]? with
  | none => rw [ho] at h; exact Gr hQ hnd rest a w h
  | some o =>
   rw [ho] at h
   dsimp only at h ⊢
   split at h
   ·rename_i hw
    rw [if_pos hw]
    rcases h with h | h
    ·refine ⟨fun _ _ => trivial, ?_⟩
     rw [Oper.semAt_eq _ _ _ (Mu (hnd _ _ ho))]
     exact SX (fun a w => Gr hQ hnd rest a w) h
    ·exact absurd h.2 hQ
   ·rename_i hw
    rw [if_neg hw]
    exact ⟨fun _ _ => trivial, Gr hQ hnd rest _ _ h⟩
theorem LG {os : List Oper} (h : os.all GS = true) : ∀ (i : Nat) (o : Oper), os.toArray[i]? = some o → GS o = true := by
 intro i o ho
 rw [List.getElem?_toArray] at ho
 exact all_eq_true.1 h o (mem_of_getElem? ho)
theorem GR.seq {F : Fence} {m : Nat} {x y : Code} (h : G W n ds E L (x.wpIn F m P (Exit.then (y.wpIn F m P Q) Q))) : G W n ds E L ((Code.seq x y).wpIn F m P Q) := fun a w he hk hs => wpIn_seq (h a w he hk hs)
theorem GR.block {F : Fence} {m id : Nat} {c : Code} (h : G W n ds E L (c.wpIn F m P (Exit.inBlock id Q))) : G W n ds E L ((Code.block id c).wpIn F m P Q) := fun a w he hk hs => wpIn_block (h a w he hk hs)
theorem GR.region {l m id : Nat} {os : List Oper} (hQ : ¬ LetsOut Q) (hnd : os.all GS = true) (h : G W n ds E L (wpList P os.toArray Q os)) : G W n ds E L ((Code.region id os.toArray false).wpIn (FR l) m P Q) := by
 intro a w he hk hs
 refine wpIn_region (Gr hQ (LG hnd) _ _ _ ?_)
 rw [range_eq_range', size_toArray, wpOps_eq_wpList os 0 (by simp)]
 exact h a w he hk hs
theorem Yb {id : Nat} {l : List Oper} (H : List Nat) (Ss : List (List Nat))
  (hc : (Dq l.toArray && RC l.toArray.size Ss.flatten && Kw l.toArray Ss) = true)
  (h : CW P l.toArray n H W ds (Q .normal) Ss (look E) L) : G W n ds E L fun a w => wpAny P .any l.toArray Q l.toArray.size (Array.replicate l.toArray.size false) a { w with drawn := w.drawn + 1 } := by
 intro a w he hk hs
 simp only [Bool.and_eq_true] at hc
 have hp := hc.1.2
 simp only [RC, Bool.and_eq_true, Nat.beq_eq] at hp
 have hlen : Ss.flatten.length = l.toArray.size := hp.1.1.1
 have hmem : ∀ i, i ∈ Ss.flatten ↔ i < l.toArray.size := by
  intro i
  constructor
  ·intro hi; have := all_eq_true.1 hp.1.1.2 i hi; simpa [Nat.blt_eq] using this
  ·intro hi; have := all_eq_true.1 hp.2 i (mem_range.2 hi); simpa using this
 have hn : Ss.flatten.Nodup := Pw hp.1.2
 refine CW.sound (H := H) hc.1.1 Ss hc.2 hn (look E) L _ _ _ _ h om ?_ (by simp) ⟨he.size, he.defers, he.slots⟩ (hk.trans (At.drew w)) hs.drew
 intro i
 rw [hmem]
 simp only [Array.getD_eq_getD_getElem?, Array.getElem?_replicate, size_toArray]
 by_cases hlt : i < l.length <;> simp [hlt]
theorem GR.draw {r m id : Nat} {l : List Oper} (hQ : ¬ LetsOut Q) (hnd : l.all GS = true) (H : List Nat) (Ss : List (List Nat)) (hm : P.follows .mixedOrders = true)
  (hc : (Dq l.toArray && RC l.toArray.size Ss.flatten && Kw l.toArray Ss) = true)
  (h : CW P l.toArray n H W ds (Q .normal) Ss (look E) L) : G W n ds E L ((Code.region id l.toArray true).wpIn (FR r) m P Q) := by
 intro a w he hk hs
 refine wpIn_region_draw fun t => Gr hQ (LG hnd) _ _ _ ?_
 simp only [Region.schedule, hm, Bool.true_or, if_true]
 exact wpAny_sound l.toArray.size t _ a _ (Yb (id := id) H Ss hc h a w he hk hs)
/-! ### B4 is ranged over, and what it calls -/
def yV (l : Nat) : Value := .func (.yield l) #[] #[]
def Ou (P : Program) (l : Nat) (args : Array Value) (pre : List HP) (post : Value → List HP → Prop) : Prop :=
 ∀ (F : List HP) (w : World), St (pre ++ F) w → ∃ fn tmps assign body, (Instr.yield l args).run P w = .ok (.round l fn tmps assign body) w ∧
  RoundIn Fence.wide 0 P l fn tmps assign body w fun e w' => ∃ v L, post v L ∧ e = .returned v ∧ St (L ++ F) w' ∧ At w w'
def AAd (P : Program) (g : Value) (N : Nat) (A : Nat → Array Value) (pre : List HP) : Prop :=
 ∃ (gf : FuncId) (lb : List Value) (fn : Func) (c : Code), g = .func (.func gf) #[] lb.toArray ∧ P.funcs[gf]? = some fn ∧ fn.body = some c ∧ (fn.name == "runtime.NumGoroutine") = false ∧
  ∀ (l : Nat) (J : Nat → HP), (∀ i, i < N → Ou P l (A i) [J i] fun v L => v = .bool true ∧ L = [J (i + 1)]) → Fn P gf (yV l :: lb).toArray (J 0 :: pre) fun _ L => L = J N :: pre
def AB1 (J : HP) (F : List HP) (W : World) : Exit → Act → World → Prop
 | .normal, _, w => St (J :: F) w ∧ At W w
 | _, _, _ => False
theorem G.rnd {J : HP} {F : List HP} (hL : BC [J] L R) (hF : Hu F R) : G W n ds E L (AB1 J F W .normal) := fun _ _ _ hk hs => ⟨hF.st (L := [J]) (hs.picks hL), hk⟩
theorem St.swap {p q : HP} {w : World} (h : St (p :: q :: L) w) : St (q :: p :: L) w := h.perm (List.Perm.swap _ _ _)
theorem D0.par {a : Act} (h : D0 n ds E a) {p : Nat} (hp : p < n) (v : Value) : D0 n ds ((p, v) :: E) { a with tmps := a.tmps.setIfInBounds p v } := by
 have hd : Cv (some p) n = true := by simpa [Cv, Nat.blt_eq] using hp
 have := h.put hd v
 exact ⟨by simpa using h.size, h.defers, by simpa [Act.put, Gm] using this.slots⟩
theorem ACn (p q : Nat) (x y : Value) (t : Array Value) : (#[p, q].zip #[x, y]).foldl (fun tmps (t, a) => tmps.setIfInBounds t a) t = (t.setIfInBounds p x).setIfInBounds q y := by simp
theorem G.rangeFunc {g : Operand} {p q : Nat} {assign body : Code} {gv : Value} {N : Nat} (A : Nat → Value × Value) (J : Nat → HP) (Ep : Nat → Bx → Bx) {pre : List HP} (hg : ev E g = some gv) (hi : AAd P gv N (fun i => #[(A i).1, (A i).2]) pre) (hp : Nat.blt p n = true) (hq : Nat.blt q n = true) (hL : BC (J 0 :: pre) L R)
  (hassign : ∀ (l i : Nat) (F : List HP) (W' : World) (X : Act → World → Prop), i < N → G W' n [] (Ep i E) F X → G W' n [] ((q, (A i).2) :: (p, (A i).1) :: E) F (assign.wpIn (FR l) 0 P (Exit.then X fun _ _ _ => False)))
  (hround : ∀ (l i : Nat) (F : List HP) (W' : World), i < N → G W' n [] (Ep i E) (J i :: F) (body.wpIn (FR l) 0 P (AB1 (J (i + 1)) F W')))
  (hdone : ∀ D : Nat, G W n (⟨.collected D, #[]⟩ :: ds) E (J N :: pt D (.deferred (some [])) :: (pre ++ R)) (Q .normal)) : G W n ds E L ((Code.rangeFunc g #[p, q] assign body).wp P Q) := by
 intro a w he hk hs
 refine (wpIn_wide (n := 0)).1 (wpIn_rangeFunc ?_)
 intro fn _
 obtain ⟨gf, lb, gn, c, rfl, hgf, hgb, hgn, hit⟩ := hi
 have hge : a.eval g = .func (.func gf) #[] lb.toArray := he.agrees _ _ hg
 obtain ⟨rec, hrec⟩ : ∃ rec : LoopState → Option Code → Loop, rec = fun st pe => { state := st, pending := pe, fn, tmps := a.tmps, params := #[p, q], assign, body, defers := w.heap.size } := ⟨_, rfl⟩
 obtain ⟨W1, hW1⟩ : ∃ W1, (w.alloc (.deferred (some []))).alloc (.loop (rec .ready none)) = W1 := ⟨_, rfl⟩
 have hs0 : St (pt w.heap.size (.deferred (some [])) :: L) (w.alloc (.deferred (some []))) := hs.new _
 have hs1 : St (pt (w.heap.size + 1) (.loop (rec .ready none)) :: pt w.heap.size (.deferred (some [])) :: L) W1 := by
  rw [← hW1]
  have := hs0.new (.loop (rec .ready none))
  rwa [show (w.alloc (.deferred (some []))).heap.size = w.heap.size + 1 by simp] at this
 have hk1 : At w W1 := by rw [← hW1]; exact (At.new w _).trans (At.new _ _)
 refine ⟨w.heap.size + 1, [{ target := .collected w.heap.size, args := #[] }], W1, { target := .fn (.func gf) lb.toArray, args := #[yV (w.heap.size + 1)] }, W1, gf, #[yV (w.heap.size + 1)] ++ lb.toArray, W1, ?_, ?_, fun _ _ => trivial, ?_, (fun h => by cases h), ?_⟩
 ·rw [← hW1, hrec]; exact run_enterLoop_outer _ _ _ _ _
 ·simp only [resolve, hge]
  simp [Deferred.ofValue, Bind.bind, Sem.bind, Pure.pure, Sem.run, yV, Act.eval]
 ·have hgn' : ¬ gn.name = "runtime.NumGoroutine" := by simpa using hgn
  simp [invoke, callFunc, program, Bind.bind, Sem.bind, Pure.pure, Sem.run, hgf, hgb, hgn']
 ·refine callsIn_wide.2 ?_
  obtain ⟨J', hJ'⟩ : ∃ J' : Nat → HP, J' = fun i => CD [J i, pt (w.heap.size + 1) (.loop (rec .ready none)), pt w.heap.size (.deferred (some []))] := ⟨_, rfl⟩
  have hs2 : St ((J' 0 :: pre) ++ R) W1 := by
   have h2 := hs1.perm (List.Perm.cons _ (List.Perm.cons _ hL.perm))
   rw [hJ']
   exact Fu (L1 := [J 0, _, _]) (C7 ((List.Perm.cons _ (List.Perm.swap _ _ _)).trans (List.Perm.swap _ _ _)) h2)
  have hy : ∀ i, i < N → Ou P (w.heap.size + 1) #[(A i).1, (A i).2] [J' i] fun v L => v = .bool true ∧ L = [J' (i + 1)] := by
   intro i hiN F w2 hw2
   rw [hJ'] at hw2
   have hw3 : St (J i :: pt (w.heap.size + 1) (.loop (rec .ready none)) :: pt w.heap.size (.deferred (some [])) :: F) w2 := FO (L1 := [J i, _, _]) hw2
   have hl := hw3.swap.pt
   have hyr := run_yield (P := P) (args := #[(A i).1, (A i).2]) hl (by rw [hrec]; rfl)
   rw [hrec] at hyr
   have h0 : D0 n [] E { tmps := a.tmps, defers := [] } := ⟨he.size, rfl, he.slots⟩
   have h1 := (h0.par (by simpa [Nat.blt_eq] using hp) (A i).1).par (by simpa [Nat.blt_eq] using hq) (A i).2
   refine ⟨fn, _, assign, body, hyr, roundIn_of_wpIn (F := Fence.wide) trivial (hassign (w.heap.size + 1) i _ w2 _ hiN ?_ _ _ (by simpa only [ACn] using h1) (At.refl _) hw3)⟩
   intro a2 wb he2 hkb hwb
   have hlb := hwb.swap.pt
   refine ⟨_, run_beginRound hlb (by rw [hrec]), ?_⟩
   have hw4 : St (J i :: pt (w.heap.size + 1) (.loop { rec .ready none with state := .busy }) :: pt w.heap.size (.deferred (some [])) :: F) (wb.putObj (w.heap.size + 1) (.loop { rec .ready none with state := .busy })) := (St.set hwb.swap).swap
   refine wpIn_mono (hround (w.heap.size + 1) i _ _ hiN _ _ he2 (At.refl _) hw4) ?_
   ·rintro e a3 w3 hp3
    cases e with
    | normal =>
     obtain ⟨hw5, hk5⟩ := hp3
     have hl5 := hw5.swap.pt
     have hend := run_endRound (P := P) none hl5
     refine ⟨_, _, hend, .bool true, [J' (i + 1)], ⟨rfl, rfl⟩, rfl, ?_, (hkb.trans ((At.set _ _ _).trans hk5)).trans (At.set _ _ _)⟩
     rw [hJ']
     refine Fu (L1 := [J (i + 1), _, _]) ?_
     have h6 := (St.set (o' := .loop (rec .ready none)) hw5.swap).swap
     rw [hrec] at h6 ⊢
     exact h6
    | _ => exact hp3.elim
  have ea : #[yV (w.heap.size + 1)] ++ lb.toArray = (yV (w.heap.size + 1) :: lb).toArray := by simp
  rw [ea]
  refine (hit (w.heap.size + 1) J' hy R W1 hs2).mono ?_
  rintro e w2 ⟨v, L', hL', rfl, hw2, hk2⟩
  subst hL'
  rw [hJ'] at hw2
  have hw3 : St (J N :: pt (w.heap.size + 1) (.loop (rec .ready none)) :: pt w.heap.size (.deferred (some [])) :: (pre ++ R)) w2 := FO (L1 := [J N, _, _]) hw2
  have hl := hw3.swap.pt
  have hend := run_endLoop (P := P) hl (by rw [hrec]; simp)
  rw [hrec] at hend
  refine ⟨none, _, hend, ?_⟩
  refine hdone w.heap.size _ _ ⟨he.size, by show _ :: a.defers = _; rw [he.defers], he.slots⟩ ((hk.trans hk1).trans (hk2.trans (At.set _ _ _))) ?_
  exact (St.set hw3.swap).tail
/-! ### A function that holds one -/
def ACM (P : Program) (fn : Func) (post : Value → List HP → Prop) (F : List HP) (W : World) : Exit → Act → World → Prop :=
 bodyPostM Fence.wide 0 P fn fun e w' => ∃ v L, post v L ∧ e = .returned v ∧ St (L ++ F) w' ∧ At W w'
theorem Fn.introM {f : FuncId} {fn : Func} {c : Code} {vs : List Value} {pre : List HP} {post : Value → List HP → Prop} {n : Nat}
    (hf : P.funcs[f]? = some fn) (hb : fn.body = some c) (hn : vs.length + (fn.ntmps - vs.length) = n)
    (h : ∀ F W, G W n [] (WT 0 vs) (pre ++ F) (c.wp P (ACM P fn post F W))) : Fn P f vs.toArray pre post := by
  intro F w hs
  refine (callsIn_wide (n := 0)).1 (callsIn_of_wp_marks hf hb trivial (wpIn_wide.2 (h F w _ w ⟨?_, Y, fun t v hl => ?_⟩ (.refl w) hs)) Y)
  · simp [← hn]
  obtain ⟨-, h2⟩ := N3 _ _ _ _ hl
  have hlt : t < vs.length := by
    rcases Nat.lt_or_ge t vs.length with h | h
    · exact h
    simp [List.getElem?_eq_none h] at h2
  simp only [Nat.sub_zero] at h2
  rw [List.getElem?_eq_getElem hlt] at h2
  simp only [Option.some.injEq] at h2
  simp [Array.getElem?_append, hlt, h2]
theorem G.doneM1 {fn : Func} {post : Value → List HP → Prop} {F : List HP} {L1 L' : List HP} {v : Value} {r : ResultVar} {D : Nat} (hl : fn.results = #[r]) (hD : BJ (pt D (.deferred (some []))) L L1) (hr : Js P E L1 r v) (hp : post v L') (hL : BC L' L1 R) (hF : Hu F R) :
  G W n [⟨.collected D, #[]⟩] E L (ACM P fn post F W .ret) := by
 intro a w he hk hs
 show LeavesInM Fence.wide 0 P fn a.tmps _ a.defers .returning w
 rw [he.defers]
 have hs1 := hs.pick hD
 refine ⟨by simp, .inl ⟨D, _, rfl, run_takeDeferred hs1.pt, ?_⟩⟩
 have hs2 := (St.set (o' := .deferred none) hs1).tail
 exact ⟨v, OA hl (hr _ _ he.slots hs2), v, L', hp, rfl, hF.st (hs2.picks hL), hk.trans (At.set _ _ _)⟩
/-! ### B4 calls it -/
theorem GY.region {id : Nat} {os : List Oper} (h : G W n ds E L (wpListIn Fence.wide 0 P os.toArray Q os)) : G W n ds E L ((Code.region id os.toArray false).wp P Q) :=
 fun a w he hk hs => (wpIn_wide (n := 0)).1 (wpIn_region_list (by simpa using h a w he hk hs))
theorem GY.nil {ops : Array Oper} (h : G W n ds E L (Q .normal)) : G W n ds E L (wpListIn Fence.wide 0 P ops Q []) := h
theorem GY.q {ops : Array Oper} {d : Nat} {op : Op} {ty : TypeId} {pos : String} {aft : Array Edge} {rest : List Oper} {v : Value} (hnd : GS ⟨some d, op, ty, pos, aft, none⟩ = true)
  (hp : AK P ⟨none, op, ty, "", #[], none⟩ E L v) (hd : Nat.blt d n = true)
  (h : G W n ds ((d, v) :: E) L (wpListIn Fence.wide 0 P ops Q rest)) : G W n ds E L (wpListIn Fence.wide 0 P ops Q (⟨some d, op, ty, pos, aft, none⟩ :: rest)) := by
 intro a w he hk hs
 unfold wpListIn
 rw [if_pos (by simp [Region.wanted])]
 refine ⟨fun _ _ => trivial, ?_⟩
 rw [Oper.semAt_eq _ _ _ (Mu hnd)]
 have := hp a.eval w he.agrees hs
 rw [show execOp a.eval ⟨some d, op, ty, pos, aft, none⟩ = execOp a.eval ⟨none, op, ty, "", #[], none⟩ from rfl, this]
 exact h _ _ (he.put (dst := some d) hd _) hk hs
theorem GY.yield {ops : Array Oper} {d l : Nat} {x : Operand} {xs : Array Operand} {ts : Array TypeId} {ty : TypeId} {pos : String} {aft : Array Edge} {rest : List Oper} {vs : List Value} {pre F : List HP} {post : Value → List HP → Prop}
  (hv : ev E x = some (yV l)) (hx : xs.toList.map (ev E) = vs.map some) (hy : Ou P l vs.toArray pre post) (hL : BC pre L F) (hd : Nat.blt d n = true)
  (h : ∀ v L', post v L' → G W n ds ((d, v) :: E) (L' ++ F) (wpListIn Fence.wide 0 P ops Q rest)) : G W n ds E L (wpListIn Fence.wide 0 P ops Q (⟨some d, .call { callee := .value x, args := xs, argTypes := ts }, ty, pos, aft, none⟩ :: rest)) := by
 intro a w he hk hs
 unfold wpListIn
 rw [if_pos (by simp [Region.wanted])]
 refine ⟨fun _ _ => trivial, ?_⟩
 rw [Oper.semAt_eq _ _ _ (fun c e => by cases e)]
 obtain ⟨fn, tmps, assign, body, hyr, hr⟩ := hy F w (hs.picks hL)
 have hvs : xs.map a.eval = vs.toArray := by
  apply Array.ext'
  rw [Array.toList_map]
  exact JJ he.agrees _ _ hx
 have hxv : a.eval x = .func (.yield l) #[] #[] := he.agrees _ _ hv
 have hrun : (execOp a.eval ⟨some d, .call { callee := .value x, args := xs, argTypes := ts }, ty, pos, aft, none⟩).run P w = .ok (.round l fn tmps assign body) w := by
  have e : (execOp a.eval ⟨some d, .call { callee := .value x, args := xs, argTypes := ts }, ty, pos, aft, none⟩).run P w = (Instr.yield l vs.toArray).run P w := by
   simp [execOp, resolve, hxv, Deferred.ofValue, invoke, Bind.bind, Sem.bind, Pure.pure, Sem.run, hvs]
  rw [e]; exact hyr
 rw [hrun]
 refine ⟨(fun hd => by cases hd), hr.mono ?_⟩
 rintro e w' ⟨v, L', hv', rfl, hs', hk'⟩
 exact h v L' hv' _ _ (he.put (dst := some d) hd _) (hk.trans hk') hs'
end
theorem Uh (a : Option Addr) (n c : Nat) : Fn prog 79 #[.slice a n c] [] fun v L => ∃ b, v = .func (.func 139) #[] [AI b].toArray ∧ L = [Ad b [.slice a n c] 38] := by
 refine Fn.intro func79 Y Y fun F W => ?_
 refine .sr (.oq (.box Y) ?_)
 rintro v L' ⟨b, rfl, rfl⟩
 refine .an Y (.sr (.q (.func (us := []) (vs := [_]) Y Y) Y (.an Y (.ret ?_))))
 exact .dn Y Y ⟨b, Y, Y⟩
theorem ZT {xs : List Bs} {k : Nat} (hk : k < xs.length) : (A6 xs)[((xs.length : Int) - 1 - k).toNat * 1]? = some (AE (xs.reverse.getD k [])) := by
 have e : ((xs.length : Int) - 1 - k).toNat * 1 = xs.length - 1 - k := by omega
 rw [e, List.getElem?_map, ← List.getElem?_reverse hk, getD_eq_getElem?_getD]
 rw [List.getElem?_eq_getElem (by simpa using hk)]
 rfl
theorem S3 (va : Value) (xs : List Bs) (b : Nat) (q : HP) (hq : ∀ h : Hp, q h → Cx 1 h va xs.length (A6 xs)) (hl : xs.length ≤ 1099511627776) (l : Nat) (J : Nat → HP) (hY : ∀ i, i < xs.length → Ou prog l (#[AA ((xs.length : Int) - 1 - (i : Nat)), AE (xs.reverse.getD i [])]) [J i] fun v L => v = .bool true ∧ L = [J (i + 1)]) : Fn prog 139 #[yV l, AI b] [J 0, Ad b [va] 38, q] fun _ L => L = [J xs.length, Ad b [va] 38, q] := by
 refine Fn.intro func139 Y Y fun F W => ?_
 refine .rdAny (p := q) hq O fun aa ca ee _ => ?_
 subst ee
 have hJ : ∀ i j : Nat, i = j → J i = J j := fun i j e => by rw [e]
 refine .sr (.u (.ld Y US) (.q (.slen Y underlying38 Y) Y (.q (.to (v' := AA ((xs.length : Int) - 1 - ((0 : Nat) : Int))) (.sub Y Y om) (by congr 1; omega)) Y (.an Y (.block (.loopK (ι := Nat) (fun q E => (3, AA ((xs.length : Int) - 1 - q)) :: E) (fun q => [J q]) (fun q => q ≤ xs.length) (fun q => xs.length - q) (0) (ts := [0, 1]) O (Nat.zero_le _) O O ?_))))))
 rintro k hk
 refine .seq (.sm Y (.ui Y Y Y (.nt (.condD Y (fun h8 => ?_) (fun h8 => ?_)))))
 ·have hkl : k < xs.length := by omega
  refine .rdShape (p := q) hq O om fun ba oa e => ?_
  subst e
  refine .sk (.seq (.block (.seq (GY.region (GY.q Y (.move Y) Y (GY.q Y (.move Y) Y (GY.q Y (.ld Y US) Y (GY.q Y (.move Y) Y (GY.q Y (.indexAddr Y Y Dr om) Y (GY.q Y (.loadEl (p := q) (i := ((xs.length : Int) - 1 - k).toNat * 1) (v := AE (xs.reverse.getD k [])) Y Ak O hq (ZT hkl)) Y (GY.yield (vs := [_, _]) Y Y (hY k hkl) O Y ?_)))))))))))
  rintro v L' ⟨rfl, rfl⟩
  refine GY.q Y (.not Y) Y (GY.nil (.then_n (.condF Y (.skip (.blk_n (.then_n (.region (.m Y (.q (.to (v' := AA ((xs.length : Int) - 1 - ((k + 1 : Nat) : Int))) (.sub Y Y om) (by congr 1; omega)) Y (.an Y ?_))))))))))
  exact .rk (k + 1) om om O
 have hkl : k = xs.length := by omega
 subst hkl
 refine .exit (.then_e (.then_e (.blk_e (.done_n ?_))))
 exact .dn Y Y Y
theorem U9 (va : Value) (xs : List Bs) (b : Nat) (q : HP) (hq : ∀ h : Hp, q h → Cx 1 h va xs.length (A6 xs)) (hl : xs.length ≤ 1099511627776) : AAd prog (.func (.func 139) #[] [AI b].toArray) xs.length (fun i => #[AA ((xs.length : Int) - 1 - (i : Nat)), AE (xs.reverse.getD i [])]) [Ad b [va] 38, q] :=
 ⟨_, [AI b], _, _, rfl, func139, rfl, rfl, fun l J hY => S3 va xs b q hq hl l J hY⟩
theorem PJ (t : Nat) (τ : Tr) (u : B4) (iv : Value) (r : Rq) (p : HP) (hA : Di p u iv r) (N : Nat) (ho : τ.Ok N) (hN : N ≤ 1099511627776) (hN2 : N + N ≤ 1099511627776) : Fn prog 50 #[.agg (CL t u iv r).toArray] [AZ t τ, p] fun v L =>
    ∃ (w : Value) (ys : List Pt), v = .agg (A1 ((Cy τ u.ses).1.ws w)).toArray ∧ ys.map Pt.pl = (Cy τ u.ses).2 ∧ (∃ a c, w = .slice a ys.length c) ∧ (∀ y ∈ ys, AB y.aclV = true ∧ y.subsV = AF) ∧ L = [AZ t τ, p, Af 60 8 w ys.length (ys.flatMap A1), Ag aclR ys] := by
 refine Fn.introM (vs := [.agg (CL t u iv r).toArray]) func50 Y Y ?_
 intro F W
 refine .add (p := Ue) UM ?_
 have hlr : (AG τ u.ses).reverse.length = (AG τ u.ses).length := length_reverse
 refine .sr (.oq (.box Y) ?_)
 rintro v L' ⟨b1, rfl, rfl⟩
 refine .oq (.allocA BL) ?_
 rintro v L' ⟨bx, rfl, rfl⟩
 refine .nil (.pc b1 (CL t u iv r) ?_)
 refine .then_n (.sr (.fa Y D3 (.u (.ld Y C1) (.oq (.c func78 [_] (Jt t τ N ho hN)) ?_))))
 rintro v L' ⟨c, rfl, rfl⟩
 refine .oq (.alloc ACN) ?_
 rintro v L' ⟨b3, rfl, rfl⟩
 refine .st Y Y Y AB2 ?_
 refine .nt (.sr (.fa Y FC (.u (.ld Y AR) (.q (.build (us := [(0, _), (4, _)]) FF BL Y Y (by simp [AB])) Y (.oq (.allocA BL) ?_)))))
 rintro v L' ⟨b4, rfl, rfl⟩
 refine .sa Y Y BO (by (first | (simp [AB]; done) | (simp [AB, AW, Value.cells]; done))) ?_
 refine .nil (.pc b4 (E1 u.ses (AF)) ?_)
 refine .then_n (.seq (.sr (.u (.ld Y C1) (.fa Y FC (.u (.ld Y AR) (.oq (.c func80 [_, _] (JW c τ u.ses N ho hN)) ?_))))))
 rintro v L' ⟨⟨ao, co, rfl⟩, rfl⟩
 refine .oq (.c func79 [_] (Uh _ _ _)) ?_
 rintro v L' ⟨bb, rfl, rfl⟩
 refine .nt (.block (.add (AO 60 8) (.fold (p := Ql (Ad b3 [AI c] 76) c b4 τ u.ses (AG τ u.ses).reverse 0) (q := [Ad b3 [AI c] 76, AZ c τ, Ad b4 (E1 u.ses AF) 60, Af 60 8 AF 0 []]) O (fun h hp => ⟨AF, ⟨none, 0, Y⟩, hp⟩) (.rangeFunc (fun i => (AA (((AG τ u.ses).length : Int) - 1 - (i : Nat)), AE ((AG τ u.ses).reverse.getD i []))) (fun i => Ql (Ad b3 [AI c] 76) c b4 τ u.ses (AG τ u.ses).reverse i) (fun i E => (6, AE ((AG τ u.ses).reverse.getD i [])) :: (22, AE ((AG τ u.ses).reverse.getD i [])) :: (21, AA (((AG τ u.ses).length : Int) - 1 - (i : Nat))) :: E) (pre := [Ad bb [.slice ao (AG τ u.ses).length co] 38, Af 9 1 (.slice ao (AG τ u.ses).length co) (AG τ u.ses).length (A6 (AG τ u.ses))]) (N := (AG τ u.ses).length) Y (U9 _ _ bb _ (fun _ hp => Aa hp) (by have := E0 τ u.ses; have := ho.few; omega)) Y Y O (fun lr i F2 W2 X hi hX => ?_) (fun lr i F2 W2 hi => ?_) (fun D => ?_)))))
 ·refine GR.region (by rintro ⟨_, _, h⟩; exact h) Y (.a Y (.nil ?_))
  exact .then_n hX
 ·have hi2 : i < (AG τ u.ses).reverse.length := by rw [hlr]; exact hi
  have hget : (AG τ u.ses).reverse.getD i [] = (AG τ u.ses).reverse[i] := by rw [getD_eq_getElem?_getD, List.getElem?_eq_getElem hi2]; rfl
  rw [hget]
  have hshort : ((AG τ u.ses).reverse[i]).length ≤ 60 := GT ho (mem_reverse.1 (getElem_mem hi2))
  have hok : (Am ((AG τ u.ses).reverse.take i) τ).Ok (N + N) := (OW ((AG τ u.ses).reverse.take i) ho).more (by rw [length_take]; have := E0 τ u.ses; have := ho.few; omega)
  refine .open (q := fun z : Value => [Ad b3 [AI c] 76, AZ c (Am ((AG τ u.ses).reverse.take i) τ), Ad b4 (E1 u.ses z) 60, Af 60 8 z i ((A0 ((AG τ u.ses).reverse.take i) τ).flatMap A1)]) (φ := fun z : Value => ∃ a k, z = .slice a i k) (fun _ hp => hp) ?_
  rintro z ⟨az, cz, rfl⟩
  refine .add (p := Ue) UM (GR.block (GR.seq (GR.draw (by rintro ⟨_, _, h⟩; exact h) Y [2, 3, 7, 8] [[0, 1, 2, 3, 4, 5, 6, 7, 8], [9]] mixed kQ (.go [Ad b3 _ _] O (.k Y (.ld Y C1) (.k Y (.move Y) (.h2 (k := 7) Y Y kQ Y (.c func81 [_] (De ((AG τ u.ses).reverse[i]) om)) O (.allocA DQ) O ?_ ?_)))))))
  ·rintro v L' ⟨rfl, rfl⟩
   refine D.h2 (k := 7) Y Y kQ Y (.c func76 [_, _] (BY c (Am ((AG τ u.ses).reverse.take i) τ) (AL ((AG τ u.ses).reverse[i])) (N + N) hok hN2)) O (.allocA DQ) O ?_ ?_
   ·rintro v L' ⟨rfl, rfl⟩
    refine D.k Y (.move Y) (.k Y (.extract Y Y) (.k Y (.extract Y Y) (.hh Y (.allocA DQ) ?_)))
    rintro v L' ⟨b7, rfl, rfl⟩
    refine D.sa Y Y Y DB (by intro v hv; simp only [B6, mem_cons, not_mem_nil, or_false] at hv; rcases hv with rfl | rfl | rfl | rfl | rfl | rfl | rfl | rfl | rfl <;> rfl) ?_
    refine D.ph (.g0 (.kv Y (.assign Y) (.ph (.fin (.pc b7 (B6 (AS (Am ((AG τ u.ses).reverse.take i) τ) (AL ((AG τ u.ses).reverse[i])))) ?_)))))
    refine .then_n (GR.seq (GR.region (by rintro ⟨_, _, h⟩; exact h) Y (.m Y (.fa Y Fi (.u (.ld Y AR) (.u (.addW Y Y) (.q (.build (us := [(0, _), (1, _), (5, _)]) FF BL Y Y (by simp [AB])) Y (.oq (.allocA BL) ?_))))))))
    rintro v L' ⟨b9, rfl, rfl⟩
    refine .sa Y Y BO (by (first | (simp [AB]; done) | (simp [AB, AW, Value.cells]; done))) ?_
    refine .nil (.pc b9 (A1 (CJ (Am ((AG τ u.ses).reverse.take i) τ) (AG τ u.ses).reverse[i])) ?_)
    refine .then_n (GR.seq (GR.draw (by rintro ⟨_, _, h⟩; exact h) Y [2, 5] [[0, 1, 3, 2, 4], [5]] mixed kQ (.go [Ad b3 _ _, Ad b9 _ _] O (.k Y (.ld Y C1) (.kv Y (.ld Y C1) (.k Y (.to (v' := .agg (A1 (CJ (Am ((AG τ u.ses).reverse.take i) τ) (AG τ u.ses).reverse[i])).toArray) (.loadA Y Ay O (by simp [A1])) (by rfl)) (.hh Y (.c func29 [_] (Cb c (Am ((AG τ u.ses).reverse.take i) τ))) ?_)))))))
    rintro v L' ⟨rfl, rfl⟩
    refine D.kv Y (.buildN (pl := [(0, 1), (1, 1), (2, 1), (3, 8)]) (us := [(0, AA (Am ((AG τ u.ses).reverse.take i) τ).zx), (3, .agg (A1 (CJ (Am ((AG τ u.ses).reverse.take i) τ) (AG τ u.ses).reverse[i])).toArray)]) (cells := [AA (Am ((AG τ u.ses).reverse.take i) τ).zx, AA 0, AA 0] ++ A1 (CJ (Am ((AG τ u.ses).reverse.take i) τ) (AG τ u.ses).reverse[i])) underlying62 kQ Ey Y (HC _ _ _ _ _ _ _ _ _)) (.ph (.g0 (.hh Y (.call func42 Y Y (vs := [_, _]) Y (Ej c (Am ((AG τ u.ses).reverse.take i) τ) (Am ((AG τ u.ses).reverse.take i) τ).zx 0 0 (CJ (Am ((AG τ u.ses).reverse.take i) τ) (AG τ u.ses).reverse[i]) [] Ue (SL _ om) (N + N) hok (by show N + N + 0 ≤ _; omega))) ?_)))
    rintro v L' ⟨ue, ee, rfl, -, ⟨ae, ce, rfl⟩, rfl⟩; rw [← Hn hi2 τ]
    refine D.pf (GR.draw (by rintro ⟨_, _, h⟩; exact h) Y [4, 5, 7, 9] [[0, 1, 2, 3, 4], [5], [6, 8, 7, 9]] mixed kQ (.go [Ad b9 _ _, Ad b4 _ _] O (.k Y (.fieldAddr Y Ck) (.k Y (.ld Y G0) (.k Y (.to (v' := .agg (A1 (CJ (Am ((AG τ u.ses).reverse.take i) τ) (AG τ u.ses).reverse[i])).toArray) (.loadA Y Ay O (by simp [A1])) (by rfl)) (.k Y (.slen Y underlying58 Y) (.hh Y (.buildSlice (vs := [_]) EO BL Y Y Y Y cQ dQ) ?_)))))))
    rintro v L' ⟨b10, rfl, rfl⟩
    refine D.ph (.g0 (.hh Y (.append1S Y Y Y EO BL Y Y ?c75 ?c76 (Nat.le_refl _) ?c77 dQ dQ) ?_))
    case c75 => simp only [map_cons, map_nil, flatten_cons, flatten_nil, append_nil]; simp only [Value.cells]; intro z hz; simp at hz; rcases hz with rfl | rfl | rfl | rfl | rfl | rfl | rfl | rfl <;> rfl
    case c76 => rfl
    case c77 => have := E0 τ u.ses; have := ho.few; omega
    rintro v L' ⟨a8, c8, rfl, rfl⟩
    refine D.ph (.g0 (.k Y (.indexAddr Y Y EO om) (.k Y (.fieldAddr Y Ck) (.h2 (k := 9) Y Y kQ Y (.storeRdA (sz := 8) (j := i * 8) (k := 8) (vs := A1 (CJ (Am ((AG τ u.ses).reverse.take i) τ) (AG τ u.ses).reverse[i])) Y Y (CG Y Y) BO Y ?ho82 ?hi83) O (.store Y Y Y LN ?c84 (Bb _ _)) O ?_ ?_))))
    case ho82 => simp
    case hi83 => omega
    case c84 => simp [E1]
    ·rintro v L' rfl
     refine D.hh Y (.store Y Y Y LN ?c88 (Bb _ _)) ?_
     case c88 => simp [E1]
     rintro v L' rfl
     refine D.ph (.fin (.slCast (T := 60) (sz := 8) (m' := i + 1) (xs' := (A0 ((AG τ u.ses).reverse.take (i + 1)) τ).flatMap A1) O (by exact rfl) (by rw [EN hi2 τ, flatMap_append]; exact ID (by rw [Fk, Ch, length_take, Nat.min_eq_left (Nat.le_of_lt hi2)]) rfl) (.pc b4 (E1 u.ses (.slice (some ⟨a8, 0, none⟩) (i + 1) c8)) ?_)))
     refine .blk_n (.fold (p := Ql (Ad b3 [AI c] 76) c b4 τ u.ses (AG τ u.ses).reverse (i + 1)) (q := [Ad b3 [AI c] 76, AZ c (Am ((AG τ u.ses).reverse.take (i + 1)) τ), Ad b4 (E1 u.ses (.slice (some ⟨a8, 0, none⟩) (i + 1) c8)) 60, Af 60 8 (.slice (some ⟨a8, 0, none⟩) (i + 1) c8) (i + 1) ((A0 ((AG τ u.ses).reverse.take (i + 1)) τ).flatMap A1)]) O (fun h hp => ⟨_, ⟨_, _, Y⟩, hp⟩) ?_)
     exact .rnd O O
    rintro v L' rfl
    refine D.hh Y (.storeRdA (sz := 8) (j := i * 8) (k := 8) (vs := A1 (CJ (Am ((AG τ u.ses).reverse.take i) τ) (AG τ u.ses).reverse[i])) Y Y (CG Y Y) BO Y ?ho91 ?hi92) ?_
    case ho91 => simp
    case hi92 => omega
    rintro v L' rfl
    refine D.ph (.fin (.slCast (T := 60) (sz := 8) (m' := i + 1) (xs' := (A0 ((AG τ u.ses).reverse.take (i + 1)) τ).flatMap A1) O (by exact rfl) (by rw [EN hi2 τ, flatMap_append]; exact ID (by rw [Fk, Ch, length_take, Nat.min_eq_left (Nat.le_of_lt hi2)]) rfl) (.pc b4 (E1 u.ses (.slice (some ⟨a8, 0, none⟩) (i + 1) c8)) ?_)))
    refine .blk_n (.fold (p := Ql (Ad b3 [AI c] 76) c b4 τ u.ses (AG τ u.ses).reverse (i + 1)) (q := [Ad b3 [AI c] 76, AZ c (Am ((AG τ u.ses).reverse.take (i + 1)) τ), Ad b4 (E1 u.ses (.slice (some ⟨a8, 0, none⟩) (i + 1) c8)) 60, Af 60 8 (.slice (some ⟨a8, 0, none⟩) (i + 1) c8) (i + 1) ((A0 ((AG τ u.ses).reverse.take (i + 1)) τ).flatMap A1)]) O (fun h hp => ⟨_, ⟨_, _, Y⟩, hp⟩) ?_)
    exact .rnd O O
   rintro v L' ⟨b7, rfl, rfl⟩
   refine D.hh Y (.c func76 [_, _] (BY c (Am ((AG τ u.ses).reverse.take i) τ) (AL ((AG τ u.ses).reverse[i])) (N + N) hok hN2)) ?_
   rintro v L' ⟨rfl, rfl⟩
   refine D.mv Y Y (.kv Y (.extract Y Y) (.k Y (.extract Y Y) (.sa Y Y Y DB (by intro v hv; simp only [B6, mem_cons, not_mem_nil, or_false] at hv; rcases hv with rfl | rfl | rfl | rfl | rfl | rfl | rfl | rfl | rfl <;> rfl) ?_)))
   refine D.ph (.g0 (.kv Y (.assign Y) (.ph (.fin (.pc b7 (B6 (AS (Am ((AG τ u.ses).reverse.take i) τ) (AL ((AG τ u.ses).reverse[i])))) ?_)))))
   refine .then_n (GR.seq (GR.region (by rintro ⟨_, _, h⟩; exact h) Y (.m Y (.fa Y Fi (.u (.ld Y AR) (.u (.addW Y Y) (.q (.build (us := [(0, _), (1, _), (5, _)]) FF BL Y Y (by simp [AB])) Y (.oq (.allocA BL) ?_))))))))
   rintro v L' ⟨b9, rfl, rfl⟩
   refine .sa Y Y BO (by (first | (simp [AB]; done) | (simp [AB, AW, Value.cells]; done))) ?_
   refine .nil (.pc b9 (A1 (CJ (Am ((AG τ u.ses).reverse.take i) τ) (AG τ u.ses).reverse[i])) ?_)
   refine .then_n (GR.seq (GR.draw (by rintro ⟨_, _, h⟩; exact h) Y [2, 5] [[0, 1, 3, 2, 4], [5]] mixed kQ (.go [Ad b3 _ _, Ad b9 _ _] O (.k Y (.ld Y C1) (.kv Y (.ld Y C1) (.k Y (.to (v' := .agg (A1 (CJ (Am ((AG τ u.ses).reverse.take i) τ) (AG τ u.ses).reverse[i])).toArray) (.loadA Y Ay O (by simp [A1])) (by rfl)) (.hh Y (.c func29 [_] (Cb c (Am ((AG τ u.ses).reverse.take i) τ))) ?_)))))))
   rintro v L' ⟨rfl, rfl⟩
   refine D.kv Y (.buildN (pl := [(0, 1), (1, 1), (2, 1), (3, 8)]) (us := [(0, AA (Am ((AG τ u.ses).reverse.take i) τ).zx), (3, .agg (A1 (CJ (Am ((AG τ u.ses).reverse.take i) τ) (AG τ u.ses).reverse[i])).toArray)]) (cells := [AA (Am ((AG τ u.ses).reverse.take i) τ).zx, AA 0, AA 0] ++ A1 (CJ (Am ((AG τ u.ses).reverse.take i) τ) (AG τ u.ses).reverse[i])) underlying62 kQ Ey Y (HC _ _ _ _ _ _ _ _ _)) (.ph (.g0 (.hh Y (.call func42 Y Y (vs := [_, _]) Y (Ej c (Am ((AG τ u.ses).reverse.take i) τ) (Am ((AG τ u.ses).reverse.take i) τ).zx 0 0 (CJ (Am ((AG τ u.ses).reverse.take i) τ) (AG τ u.ses).reverse[i]) [] Ue (SL _ om) (N + N) hok (by show N + N + 0 ≤ _; omega))) ?_)))
   rintro v L' ⟨ue, ee, rfl, -, ⟨ae, ce, rfl⟩, rfl⟩; rw [← Hn hi2 τ]
   refine D.pf (GR.draw (by rintro ⟨_, _, h⟩; exact h) Y [4, 5, 7, 9] [[0, 1, 2, 3, 4], [5], [6, 8, 7, 9]] mixed kQ (.go [Ad b9 _ _, Ad b4 _ _] O (.k Y (.fieldAddr Y Ck) (.k Y (.ld Y G0) (.k Y (.to (v' := .agg (A1 (CJ (Am ((AG τ u.ses).reverse.take i) τ) (AG τ u.ses).reverse[i])).toArray) (.loadA Y Ay O (by simp [A1])) (by rfl)) (.k Y (.slen Y underlying58 Y) (.hh Y (.buildSlice (vs := [_]) EO BL Y Y Y Y cQ dQ) ?_)))))))
   rintro v L' ⟨b10, rfl, rfl⟩
   refine D.ph (.g0 (.hh Y (.append1S Y Y Y EO BL Y Y ?c130 ?c131 (Nat.le_refl _) ?c132 dQ dQ) ?_))
   case c130 => simp only [map_cons, map_nil, flatten_cons, flatten_nil, append_nil]; simp only [Value.cells]; intro z hz; simp at hz; rcases hz with rfl | rfl | rfl | rfl | rfl | rfl | rfl | rfl <;> rfl
   case c131 => rfl
   case c132 => have := E0 τ u.ses; have := ho.few; omega
   rintro v L' ⟨a8, c8, rfl, rfl⟩
   refine D.ph (.g0 (.k Y (.indexAddr Y Y EO om) (.k Y (.fieldAddr Y Ck) (.h2 (k := 9) Y Y kQ Y (.storeRdA (sz := 8) (j := i * 8) (k := 8) (vs := A1 (CJ (Am ((AG τ u.ses).reverse.take i) τ) (AG τ u.ses).reverse[i])) Y Y (CG Y Y) BO Y ?ho137 ?hi138) O (.store Y Y Y LN ?c139 (Bb _ _)) O ?_ ?_))))
   case ho137 => simp
   case hi138 => omega
   case c139 => simp [E1]
   ·rintro v L' rfl
    refine D.hh Y (.store Y Y Y LN ?c143 (Bb _ _)) ?_
    case c143 => simp [E1]
    rintro v L' rfl
    refine D.ph (.fin (.slCast (T := 60) (sz := 8) (m' := i + 1) (xs' := (A0 ((AG τ u.ses).reverse.take (i + 1)) τ).flatMap A1) O (by exact rfl) (by rw [EN hi2 τ, flatMap_append]; exact ID (by rw [Fk, Ch, length_take, Nat.min_eq_left (Nat.le_of_lt hi2)]) rfl) (.pc b4 (E1 u.ses (.slice (some ⟨a8, 0, none⟩) (i + 1) c8)) ?_)))
    refine .blk_n (.fold (p := Ql (Ad b3 [AI c] 76) c b4 τ u.ses (AG τ u.ses).reverse (i + 1)) (q := [Ad b3 [AI c] 76, AZ c (Am ((AG τ u.ses).reverse.take (i + 1)) τ), Ad b4 (E1 u.ses (.slice (some ⟨a8, 0, none⟩) (i + 1) c8)) 60, Af 60 8 (.slice (some ⟨a8, 0, none⟩) (i + 1) c8) (i + 1) ((A0 ((AG τ u.ses).reverse.take (i + 1)) τ).flatMap A1)]) O (fun h hp => ⟨_, ⟨_, _, Y⟩, hp⟩) ?_)
    exact .rnd O O
   rintro v L' rfl
   refine D.hh Y (.storeRdA (sz := 8) (j := i * 8) (k := 8) (vs := A1 (CJ (Am ((AG τ u.ses).reverse.take i) τ) (AG τ u.ses).reverse[i])) Y Y (CG Y Y) BO Y ?ho146 ?hi147) ?_
   case ho146 => simp
   case hi147 => omega
   rintro v L' rfl
   refine D.ph (.fin (.slCast (T := 60) (sz := 8) (m' := i + 1) (xs' := (A0 ((AG τ u.ses).reverse.take (i + 1)) τ).flatMap A1) O (by exact rfl) (by rw [EN hi2 τ, flatMap_append]; exact ID (by rw [Fk, Ch, length_take, Nat.min_eq_left (Nat.le_of_lt hi2)]) rfl) (.pc b4 (E1 u.ses (.slice (some ⟨a8, 0, none⟩) (i + 1) c8)) ?_)))
   refine .blk_n (.fold (p := Ql (Ad b3 [AI c] 76) c b4 τ u.ses (AG τ u.ses).reverse (i + 1)) (q := [Ad b3 [AI c] 76, AZ c (Am ((AG τ u.ses).reverse.take (i + 1)) τ), Ad b4 (E1 u.ses (.slice (some ⟨a8, 0, none⟩) (i + 1) c8)) 60, Af 60 8 (.slice (some ⟨a8, 0, none⟩) (i + 1) c8) (i + 1) ((A0 ((AG τ u.ses).reverse.take (i + 1)) τ).flatMap A1)]) O (fun h hp => ⟨_, ⟨_, _, Y⟩, hp⟩) ?_)
   exact .rnd O O
  rintro v L' ⟨b7, rfl, rfl⟩
  refine D.hh Y (.c func81 [_] (De ((AG τ u.ses).reverse[i]) om)) ?_
  rintro v L' ⟨rfl, rfl⟩
  refine D.hh Y (.c func76 [_, _] (BY c (Am ((AG τ u.ses).reverse.take i) τ) (AL ((AG τ u.ses).reverse[i])) (N + N) hok hN2)) ?_
  rintro v L' ⟨rfl, rfl⟩
  refine D.mv Y Y (.kv Y (.extract Y Y) (.k Y (.extract Y Y) (.sa Y Y Y DB (by intro v hv; simp only [B6, mem_cons, not_mem_nil, or_false] at hv; rcases hv with rfl | rfl | rfl | rfl | rfl | rfl | rfl | rfl | rfl <;> rfl) ?_)))
  refine D.ph (.g0 (.kv Y (.assign Y) (.ph (.fin (.pc b7 (B6 (AS (Am ((AG τ u.ses).reverse.take i) τ) (AL ((AG τ u.ses).reverse[i])))) ?_)))))
  refine .then_n (GR.seq (GR.region (by rintro ⟨_, _, h⟩; exact h) Y (.m Y (.fa Y Fi (.u (.ld Y AR) (.u (.addW Y Y) (.q (.build (us := [(0, _), (1, _), (5, _)]) FF BL Y Y (by simp [AB])) Y (.oq (.allocA BL) ?_))))))))
  rintro v L' ⟨b9, rfl, rfl⟩
  refine .sa Y Y BO (by (first | (simp [AB]; done) | (simp [AB, AW, Value.cells]; done))) ?_
  refine .nil (.pc b9 (A1 (CJ (Am ((AG τ u.ses).reverse.take i) τ) (AG τ u.ses).reverse[i])) ?_)
  refine .then_n (GR.seq (GR.draw (by rintro ⟨_, _, h⟩; exact h) Y [2, 5] [[0, 1, 3, 2, 4], [5]] mixed kQ (.go [Ad b3 _ _, Ad b9 _ _] O (.k Y (.ld Y C1) (.kv Y (.ld Y C1) (.k Y (.to (v' := .agg (A1 (CJ (Am ((AG τ u.ses).reverse.take i) τ) (AG τ u.ses).reverse[i])).toArray) (.loadA Y Ay O (by simp [A1])) (by rfl)) (.hh Y (.c func29 [_] (Cb c (Am ((AG τ u.ses).reverse.take i) τ))) ?_)))))))
  rintro v L' ⟨rfl, rfl⟩
  refine D.kv Y (.buildN (pl := [(0, 1), (1, 1), (2, 1), (3, 8)]) (us := [(0, AA (Am ((AG τ u.ses).reverse.take i) τ).zx), (3, .agg (A1 (CJ (Am ((AG τ u.ses).reverse.take i) τ) (AG τ u.ses).reverse[i])).toArray)]) (cells := [AA (Am ((AG τ u.ses).reverse.take i) τ).zx, AA 0, AA 0] ++ A1 (CJ (Am ((AG τ u.ses).reverse.take i) τ) (AG τ u.ses).reverse[i])) underlying62 kQ Ey Y (HC _ _ _ _ _ _ _ _ _)) (.ph (.g0 (.hh Y (.call func42 Y Y (vs := [_, _]) Y (Ej c (Am ((AG τ u.ses).reverse.take i) τ) (Am ((AG τ u.ses).reverse.take i) τ).zx 0 0 (CJ (Am ((AG τ u.ses).reverse.take i) τ) (AG τ u.ses).reverse[i]) [] Ue (SL _ om) (N + N) hok (by show N + N + 0 ≤ _; omega))) ?_)))
  rintro v L' ⟨ue, ee, rfl, -, ⟨ae, ce, rfl⟩, rfl⟩; rw [← Hn hi2 τ]
  refine D.pf (GR.draw (by rintro ⟨_, _, h⟩; exact h) Y [4, 5, 7, 9] [[0, 1, 2, 3, 4], [5], [6, 8, 7, 9]] mixed kQ (.go [Ad b9 _ _, Ad b4 _ _] O (.k Y (.fieldAddr Y Ck) (.k Y (.ld Y G0) (.k Y (.to (v' := .agg (A1 (CJ (Am ((AG τ u.ses).reverse.take i) τ) (AG τ u.ses).reverse[i])).toArray) (.loadA Y Ay O (by simp [A1])) (by rfl)) (.k Y (.slen Y underlying58 Y) (.hh Y (.buildSlice (vs := [_]) EO BL Y Y Y Y cQ dQ) ?_)))))))
  rintro v L' ⟨b10, rfl, rfl⟩
  refine D.ph (.g0 (.hh Y (.append1S Y Y Y EO BL Y Y ?c187 ?c188 (Nat.le_refl _) ?c189 dQ dQ) ?_))
  case c187 => simp only [map_cons, map_nil, flatten_cons, flatten_nil, append_nil]; simp only [Value.cells]; intro z hz; simp at hz; rcases hz with rfl | rfl | rfl | rfl | rfl | rfl | rfl | rfl <;> rfl
  case c188 => rfl
  case c189 => have := E0 τ u.ses; have := ho.few; omega
  rintro v L' ⟨a8, c8, rfl, rfl⟩
  refine D.ph (.g0 (.k Y (.indexAddr Y Y EO om) (.k Y (.fieldAddr Y Ck) (.h2 (k := 9) Y Y kQ Y (.storeRdA (sz := 8) (j := i * 8) (k := 8) (vs := A1 (CJ (Am ((AG τ u.ses).reverse.take i) τ) (AG τ u.ses).reverse[i])) Y Y (CG Y Y) BO Y ?ho194 ?hi195) O (.store Y Y Y LN ?c196 (Bb _ _)) O ?_ ?_))))
  case ho194 => simp
  case hi195 => omega
  case c196 => simp [E1]
  ·rintro v L' rfl
   refine D.hh Y (.store Y Y Y LN ?c200 (Bb _ _)) ?_
   case c200 => simp [E1]
   rintro v L' rfl
   refine D.ph (.fin (.slCast (T := 60) (sz := 8) (m' := i + 1) (xs' := (A0 ((AG τ u.ses).reverse.take (i + 1)) τ).flatMap A1) O (by exact rfl) (by rw [EN hi2 τ, flatMap_append]; exact ID (by rw [Fk, Ch, length_take, Nat.min_eq_left (Nat.le_of_lt hi2)]) rfl) (.pc b4 (E1 u.ses (.slice (some ⟨a8, 0, none⟩) (i + 1) c8)) ?_)))
   refine .blk_n (.fold (p := Ql (Ad b3 [AI c] 76) c b4 τ u.ses (AG τ u.ses).reverse (i + 1)) (q := [Ad b3 [AI c] 76, AZ c (Am ((AG τ u.ses).reverse.take (i + 1)) τ), Ad b4 (E1 u.ses (.slice (some ⟨a8, 0, none⟩) (i + 1) c8)) 60, Af 60 8 (.slice (some ⟨a8, 0, none⟩) (i + 1) c8) (i + 1) ((A0 ((AG τ u.ses).reverse.take (i + 1)) τ).flatMap A1)]) O (fun h hp => ⟨_, ⟨_, _, Y⟩, hp⟩) ?_)
   exact .rnd O O
  rintro v L' rfl
  refine D.hh Y (.storeRdA (sz := 8) (j := i * 8) (k := 8) (vs := A1 (CJ (Am ((AG τ u.ses).reverse.take i) τ) (AG τ u.ses).reverse[i])) Y Y (CG Y Y) BO Y ?ho203 ?hi204) ?_
  case ho203 => simp
  case hi204 => omega
  rintro v L' rfl
  refine D.ph (.fin (.slCast (T := 60) (sz := 8) (m' := i + 1) (xs' := (A0 ((AG τ u.ses).reverse.take (i + 1)) τ).flatMap A1) O (by exact rfl) (by rw [EN hi2 τ, flatMap_append]; exact ID (by rw [Fk, Ch, length_take, Nat.min_eq_left (Nat.le_of_lt hi2)]) rfl) (.pc b4 (E1 u.ses (.slice (some ⟨a8, 0, none⟩) (i + 1) c8)) ?_)))
  refine .blk_n (.fold (p := Ql (Ad b3 [AI c] 76) c b4 τ u.ses (AG τ u.ses).reverse (i + 1)) (q := [Ad b3 [AI c] 76, AZ c (Am ((AG τ u.ses).reverse.take (i + 1)) τ), Ad b4 (E1 u.ses (.slice (some ⟨a8, 0, none⟩) (i + 1) c8)) 60, Af 60 8 (.slice (some ⟨a8, 0, none⟩) (i + 1) c8) (i + 1) ((A0 ((AG τ u.ses).reverse.take (i + 1)) τ).flatMap A1)]) O (fun h hp => ⟨_, ⟨_, _, Y⟩, hp⟩) ?_)
  exact .rnd O O
 refine .open (q := fun z : Value => [Ad b3 [AI c] 76, AZ c (Am ((AG τ u.ses).reverse.take (AG τ u.ses).length) τ), Ad b4 (E1 u.ses z) 60, Af 60 8 z (AG τ u.ses).length ((A0 ((AG τ u.ses).reverse.take (AG τ u.ses).length) τ).flatMap A1)]) (φ := fun z : Value => ∃ a k, z = .slice a (AG τ u.ses).length k) (fun _ hp => hp) ?_
 rintro z ⟨az, cz, rfl⟩
 have htk : (AG τ u.ses).reverse.take (AG τ u.ses).length = (AG τ u.ses).reverse := take_of_length_le om
 rw [htk]
 refine .blk_n (.then_n (.sr (.q (.la (E1 u.ses (.slice az (AG τ u.ses).length cz)) Y Ay) Y (.sa Y Y BO (by simp [E1, AB]) ?_))))
 refine .nil (.pc bx (E1 u.ses (.slice az (AG τ u.ses).length cz)) ?_)
 have hcl : (A0 (AG τ u.ses).reverse τ).length = (AG τ u.ses).length := by rw [Ch, hlr]
 refine .slCast (T := 60) (sz := 8) (m' := (A0 (AG τ u.ses).reverse τ).length) (xs' := (A0 (AG τ u.ses).reverse τ).flatMap A1) O om Y (.add (p := Ag aclR (A0 (AG τ u.ses).reverse τ)) (RB fun y hy => ⟨(Dn _ _ y hy).1, (Dn _ _ y hy).2.1⟩) (.then_n (.ret ?_)))
 exact .doneM1 Y O (.cellA Y Ay O (by simp [E1]) Y) ⟨.slice az (AG τ u.ses).length cz, A0 (AG τ u.ses).reverse τ, Y, Xk fun y hy => (Dn _ _ y hy).2.2.2, ⟨az, cz, by rw [hcl]⟩, fun y hy => ⟨by rw [(Dn _ _ y hy).1]; rfl, (Dn _ _ y hy).2.2.1⟩, rfl⟩ O O
theorem NB (t : Nat) (τ : Tr) (u : B4) (iv : Value) (r : Rq) (p : HP) (hA : Di p u iv r) (N : Nat) (ho : τ.Ok N) (hN : N ≤ 1099511627776) (hw : LR τ) (hN2 : N + 16 ≤ 1099511627776) (subs : List Rq) (hr : ∀ h : Hp, p h → Cx 10 h r.subsV subs.length (subs.flatMap Eu)) (hS : ∀ x ∈ subs, Di p u iv x) (hSa : ∀ x ∈ subs, Ge x.acl) (hN3 : N + N ≤ 1099511627776) : Fn prog 27 #[AI t, AA u.ses, iv, .agg (Eu r).toArray] [AZ t τ, p] fun v L =>
    ∃ (y : Pt) (ys : List Pt), v = .agg (A1 y).toArray ∧ y.pl = (CP τ u r subs).1 ∧ ys.map Pt.pl = (CP τ u r subs).2 ∧ (AB y.aclV = true ∧ ∃ a c, y.subsV = .slice a ys.length c) ∧ (∀ z ∈ ys, AB z.aclV = true ∧ z.subsV = AF) ∧ L = [AZ t τ, p, aclR y, Af 60 8 y.subsV ys.length (ys.flatMap A1), Ag aclR ys] := by
 refine Fn.intro func27 Y Y fun F W => ?_
 have hcl := hA.cells t
 refine .sr (.oq (.box Y) ?_)
 rintro v L' ⟨b7, rfl, rfl⟩
 refine .oq (.allocA BL) ?_
 rintro v L' ⟨b8, rfl, rfl⟩
 refine .nil (.pc b7 (Eu r) ?_)
 refine .then_n (.seq (.sm Y (.q (.ptreq Y Y underlying76) Y (.nt (.condF Y (.sk (.sm Y (.m Y (.cv func45 [_, _] (Hw t τ u.ses) ?_)))))))))
 refine .m Y (.ex Y Y (.ex Y Y (.ex Y Y (.a Y (.a Y (.an Y (.sm Y (.m Y (.m Y (.q (.la (Eu r) Y Ij) Y (.q (.to (v' := .agg (CL t u iv r).toArray) (.buildN (pl := [(0, 1), (1, 1), (2, 1), (3, 10)]) (us := [(0, AI t), (1, AA u.ses), (2, iv), (3, .agg (Eu r).toArray)]) (cells := CL t u iv r) underlying134 kQ JM Y (IE t u iv hA.shape r)) Y) Y (.oq (.allocA JM) ?_))))))))))))
 rintro v L' ⟨b1, rfl, rfl⟩
 refine .sa Y Y TJ (by exact fun v hv => all_eq_true.1 hcl v hv) ?_
 refine .nil (.pc b1 (CL t u iv r) ?_)
 refine .then_n (.seq (.block (.sr (.fa Y Bm (.u (.ld Y AR) (.cv func25 [_] (Il r.kind) ?_))))))
 refine .u (.not Y) (.an Y (.condB Y (fun h30 => ?_) (fun h30 => ?_)))
 ·have hT : CP τ u r subs = (Aw 110 (-1), []) := if_pos (by simpa using h30)
  refine .sr (.cv func48 [_, _] (DR 110 (-1)) ?_)
  refine .sa Y Y BO (by simp [A1, Aw, AB]) ?_
  refine .nil (.pc b8 ([AA ((Aw 110 (-1))).kind, AE ((Aw 110 (-1))).path, AE ((Aw 110 (-1))).data, AF, AA ((Aw 110 (-1))).own, AA ((Aw 110 (-1))).num, AA ((Aw 110 (-1))).err, AF]) ?_)
  refine .add (AO 75 2) (.add (AO 60 8) (.add (p := Ag aclR []) (fun h => CX h) (.then_n (.ret (.blk_r (.then_r ?_))))))
  exact .d1 Y (.cellA Y Ay O (by simp [DT, AW]) Y) ⟨Aw 110 (-1), [], Y, by rw [hT]; rfl, by rw [hT]; rfl, ⟨rfl, none, 0, rfl⟩, (fun _ h => by cases h), rfl⟩
 have hc : Bw r.kind = true := by simpa using h30
 refine .sm Y (.u (.not Y) (.an Y (.condN Y (fun h36 => ?_) (fun h36 => ?_))))
 ·have hT : CP τ u r subs = (Aw 67 (-1), []) := by unfold CP; rw [if_neg (fun g => g hc), if_pos h36]
  refine .sr (.cv func48 [_, _] (DR 67 (-1)) ?_)
  refine .sa Y Y BO (by simp [A1, Aw, AB]) ?_
  refine .nil (.pc b8 ([AA ((Aw 67 (-1))).kind, AE ((Aw 67 (-1))).path, AE ((Aw 67 (-1))).data, AF, AA ((Aw 67 (-1))).own, AA ((Aw 67 (-1))).num, AA ((Aw 67 (-1))).err, AF]) ?_)
  refine .add (AO 75 2) (.add (AO 60 8) (.add (p := Ag aclR []) (fun h => CX h) (.then_n (.ret (.blk_r (.then_r ?_))))))
  exact .d1 Y (.cellA Y Ay O (by simp [DT, AW]) Y) ⟨Aw 67 (-1), [], Y, by rw [hT]; rfl, by rw [hT]; rfl, ⟨rfl, none, 0, rfl⟩, (fun _ h => by cases h), rfl⟩
 refine .sr (.fa Y Bm (.u (.ld Y AR) (.ui Y Y Y (.an Y (.condD Y (fun h40 => ?_) (fun h40 => ?_))))))
 ·have hT : CP τ u r subs = A3 τ u subs := by unfold CP; rw [if_neg (fun g => g hc), if_neg (fun g => g h36), if_pos h40]
  refine .sr (.q (.la (CL t u iv r) Y E5) Y (.oq (.c func49 [_] (QE t τ u iv r p hA N ho hN hw hN2 subs hr hS hSa)) ?_))
  rintro v L' ⟨w, ys, rfl, hys, ⟨aw, cw, rfl⟩, hyk, rfl⟩
  refine .sa Y Y BO (by exact X2 (by rw [(IV τ u subs).1]; rfl)) ?_
  refine .nil (.pc b8 ([AA ((A3 τ u subs).1).kind, AE ((A3 τ u subs).1).path, AE ((A3 τ u subs).1).data, (A3 τ u subs).1.aclV, AA ((A3 τ u subs).1).own, AA ((A3 τ u subs).1).num, AA ((A3 τ u subs).1).err, .slice aw ys.length cw]) ?_)
  refine .add (AO 75 2) (.as (q := aclR ((A3 τ u subs).1.ws (.slice aw ys.length cw))) (p := Af 75 2 AF 0 []) O (by show _ = Af _ _ (A3 τ u subs).1.aclV (A3 τ u subs).1.acl.length ((A3 τ u subs).1.acl.flatMap CO); rw [(IV τ u subs).1, (IV τ u subs).2]; rfl) (.then_n (.ret (.blk_r (.then_r ?_)))))
  exact .d1 Y (.cellA Y Ay O (by simp [DT, AW]) Y) ⟨(A3 τ u subs).1.ws (.slice aw ys.length cw), ys, Y, by rw [hT]; exact Xm τ u subs _, by rw [hT]; exact hys, ⟨by show AB (A3 τ u subs).1.aclV = true; rw [(IV τ u subs).1]; rfl, aw, cw, rfl⟩, hyk, rfl⟩
 refine .sr (.fa Y Bm (.u (.ld Y AR) (.ui Y Y Y (.an Y (.condD Y (fun h46 => ?_) (fun h46 => ?_))))))
 ·have hT : CP τ u r subs = (FN, []) := by unfold CP; rw [if_neg (fun g => g hc), if_neg (fun g => g h36), if_neg h40, if_pos h46]
  refine .sr (.q (.build (us := [(0, _)]) FF BL Y Y (by simp [AB])) Y (.sa Y Y BO (by (first | (simp [AB]; done) | (simp [AB, AW, Value.cells]; done))) ?_))
  refine .nil (.pc b8 ([AA (FN).kind, AE (FN).path, AE (FN).data, AF, AA (FN).own, AA (FN).num, AA (FN).err, AF]) ?_)
  refine .add (AO 75 2) (.add (AO 60 8) (.add (p := Ag aclR []) (fun h => CX h) (.then_n (.ret (.blk_r (.then_r ?_))))))
  exact .d1 Y (.cellA Y Ay O (by simp [DT, AW]) Y) ⟨FN, [], Y, by rw [hT]; rfl, by rw [hT]; rfl, ⟨rfl, none, 0, rfl⟩, (fun _ h => by cases h), rfl⟩
 refine .sr (.fa Y Bm (.u (.ld Y AR) (.ui Y Y Y (.an Y (.condD Y (fun h51 => ?_) (fun h51 => ?_))))))
 ·have hT : CP τ u r subs = Cy τ u.ses := by unfold CP; rw [if_neg (fun g => g hc), if_neg (fun g => g h36), if_neg h40, if_neg h46, if_pos h51]
  refine .sr (.q (.la (CL t u iv r) Y E5) Y (.oq (.c func50 [_] (PJ t τ u iv r p hA N ho hN hN3)) ?_))
  rintro v L' ⟨w, ys, rfl, hys, ⟨aw, cw, rfl⟩, hyk, rfl⟩
  refine .sa Y Y BO (by exact X2 (by rfl)) ?_
  refine .nil (.pc b8 ([AA ((Cy τ u.ses).1).kind, AE ((Cy τ u.ses).1).path, AE ((Cy τ u.ses).1).data, (Cy τ u.ses).1.aclV, AA ((Cy τ u.ses).1).own, AA ((Cy τ u.ses).1).num, AA ((Cy τ u.ses).1).err, .slice aw ys.length cw]) ?_)
  refine .add (AO 75 2) (.as (q := aclR ((Cy τ u.ses).1.ws (.slice aw ys.length cw))) (p := Af 75 2 AF 0 []) O Y (.then_n (.ret (.blk_r (.then_r ?_)))))
  exact .d1 Y (.cellA Y Ay O (by simp [DT, AW]) Y) ⟨(Cy τ u.ses).1.ws (.slice aw ys.length cw), ys, Y, by rw [hT]; rfl, by rw [hT]; exact hys, ⟨rfl, aw, cw, rfl⟩, hyk, rfl⟩
 have hk8 : r.kind ≠ 8 := h51
 refine .skip (.blk_n (.then_n (.sr (.q (.la (CL t u iv r) Y E5) Y (.oq (.c func51 [_] (Mk t τ u iv r p hA N ho hN (Ri hw _))) ?_)))))
 rintro v L' ⟨w, rfl, ⟨aw, cw, rfl⟩, rfl⟩
 refine .m Y (.ex Y Y (.ex Y Y (.oq (.allocA BL) ?_)))
 rintro v L' ⟨b13, rfl, rfl⟩
 refine .sa Y Y BO (by exact fun v hv => all_eq_true.1 (Np ⟨none, 0, 0, NP τ u r⟩) v hv) ?_
 refine .a Y (.nil (.pc b13 ([AA ((AU τ u r).1).kind, AE ((AU τ u r).1).path, AE ((AU τ u r).1).data, .slice aw (AU τ u r).1.acl.length cw, AA ((AU τ u r).1).own, AA ((AU τ u r).1).num, AA ((AU τ u r).1).err, (AU τ u r).1.subsV]) ?_))
 refine .then_n (.seq (.sm Y (.ui Y Y Y (.nt (.condN Y (fun h63 => ?_) (fun h63 => ?_))))))
 ·have hT : CP τ u r subs = (Aw (AU τ u r).2 (-1), []) := by unfold CP; rw [if_neg (fun g => g hc), if_neg (fun g => g h36), if_neg h40, if_neg h46, if_neg hk8, if_pos h63]
  refine .sm Y (.cv func48 [_, _] (DR (AU τ u r).2 (-1)) ?_)
  refine .sa Y Y BO (by simp [A1, Aw, AB]) ?_
  refine .nil (.pc b8 ([AA ((Aw (AU τ u r).2 (-1))).kind, AE ((Aw (AU τ u r).2 (-1))).path, AE ((Aw (AU τ u r).2 (-1))).data, AF, AA ((Aw (AU τ u r).2 (-1))).own, AA ((Aw (AU τ u r).2 (-1))).num, AA ((Aw (AU τ u r).2 (-1))).err, AF]) ?_)
  refine .add (AO 75 2) (.add (AO 60 8) (.add (p := Ag aclR []) (fun h => CX h) (.then_n (.rt ?_))))
  exact .d1 Y (.cellA Y Ay O (by simp [DT, AW]) Y) ⟨Aw (AU τ u r).2 (-1), [], Y, by rw [hT]; rfl, by rw [hT]; rfl, ⟨rfl, none, 0, rfl⟩, (fun _ h => by cases h), rfl⟩
 have hT : CP τ u r subs = ((AU τ u r).1, []) := by unfold CP; rw [if_neg (fun g => g hc), if_neg (fun g => g h36), if_neg h40, if_neg h46, if_neg hk8, if_neg (fun g => g h63)]
 refine .sk (.sr (.q (.to (v' := .agg ([AA ((AU τ u r).1).kind, AE ((AU τ u r).1).path, AE ((AU τ u r).1).data, .slice aw (AU τ u r).1.acl.length cw, AA ((AU τ u r).1).own, AA ((AU τ u r).1).num, AA ((AU τ u r).1).err, AF]).toArray) (.loadA Y Ay O (by simp)) (by rw [← NP τ u r]; rfl)) Y (.sa Y Y BO (by simp [AB]) ?_)))
 refine .nil (.pc b8 ([AA ((AU τ u r).1).kind, AE ((AU τ u r).1).path, AE ((AU τ u r).1).data, .slice aw (AU τ u r).1.acl.length cw, AA ((AU τ u r).1).own, AA ((AU τ u r).1).num, AA ((AU τ u r).1).err, AF]) ?_)
 refine .add (AO 60 8) (.add (p := Ag aclR []) (fun h => CX h) (.then_n (.ret ?_)))
 exact .d1 Y (.cellA Y Ay O (by simp [DT, AW]) Y) ⟨(CF (AU τ u r).1 (.slice aw (AU τ u r).1.acl.length cw)).ws AF, [], Y, by rw [hT]; exact Tc τ u r (.slice aw (AU τ u r).1.acl.length cw), by rw [hT]; rfl, ⟨rfl, none, 0, rfl⟩, (fun _ h => by cases h), rfl⟩
/-! ### What Txn answers -/
structure Le (y : Pt) : Prop where
 r : UG y
 n : PtN y
theorem Le.of {y z : Pt} (e : y.pl = z.pl) (h : Le z) : Le y := by
 refine ⟨UG.of e h.r, ?_⟩
 have hk : PtN z.pl := ⟨h.n.own, h.n.num, h.n.data, h.n.acl⟩
 rw [← e] at hk
 exact ⟨hk.own, hk.num, hk.data, hk.acl⟩
theorem Gn {e n : Int} (he : Az e) (hn : Az n) : Le (Aw e n) := ⟨KW he hn, Az.zero, hn, by show 0 ≤ _; decide, CN⟩
theorem Yn {τ : Tr} {u : B4} {r : Rq} {p : HP} {iv : Value} (h : Di p u iv r) (ha : Ge r.acl) : Le (AU τ u r).1 := ⟨Yj h ha, Om τ u h.ses (by have := h.rq.data; omega) ha⟩
theorem RR {p : HP} {u : B4} {iv : Value} : ∀ {l : List Rq} {τ : Tr}, (∀ r ∈ l, Di p u iv r ∧ Ge r.acl) → ∀ y ∈ (Bd u l τ).2.1, PtN y
 | [], _, _, _, h => by cases h
 | r :: l, τ, h, y, hy => by
  rw [C0] at hy
  split at hy
  ·cases hy
  ·rcases mem_cons.1 hy with rfl | hy
   ·exact (Yn (h r mem_cons_self).1 (h r mem_cons_self).2).n
   ·exact RR (fun x hx => h x (mem_cons_of_mem _ hx)) y hy
theorem Yw {p : HP} {u : B4} {iv : Value} {l : List Rq} {τ : Tr} (h : ∀ r ∈ l, Di p u iv r ∧ Ge r.acl) : PtN (A3 τ u l).1 ∧ ∀ y ∈ (A3 τ u l).2, PtN y := by
 have hm : Az (-1) := ⟨by decide, by decide⟩
 unfold A3
 split
 ·exact ⟨(Gn ⟨by decide, by decide⟩ hm).n, fun _ g => by cases g⟩
 ·rename_i hl
  split
  ·rename_i i e he
   have hie : i < 8 ∧ 0 ≤ e ∧ e ≤ 110 := by
    have := Eg he
    omega
   exact ⟨(Gn ⟨by omega, by omega⟩ ⟨by omega, by omega⟩).n, fun _ g => by cases g⟩
  ·exact ⟨⟨Az.zero, Az.zero, Nat.zero_le _, CN⟩, RR h⟩
theorem ACE {τ : Tr} {p : Bs} : PtN (CJ τ p) := ⟨Az.zero, wrap_i64 _, Nat.zero_le _, CN⟩
theorem Hm : ∀ {l : List Bs} {τ : Tr}, ∀ y ∈ A0 l τ, PtN y ∧ y.kind = 2
 | [], _, _, h => by cases h
 | p :: l, τ, y, hy => by
  rcases mem_cons.1 (show y ∈ CJ τ p :: A0 l _ from hy) with rfl | hy
  ·exact ⟨ACE, rfl⟩
  ·exact Hm y hy
structure D8 (N : Nat) (y : Pt) (l : List Pt) : Prop where
 x : Le y
 each : ∀ z ∈ l, Le z
 len : l.length ≤ 8 ∨ (y.kind = 6 ∧ l.length ≤ N ∧ ∀ z ∈ l, z.kind = 2)
theorem Ro {τ : Tr} {N : Nat} (ho : τ.Ok N) {u : B4} {r : Rq} {p : HP} {iv : Value} {subs : List Rq} (hd : WiD p u iv r subs) : D8 N (CP τ u r subs).1 (CP τ u r subs).2 := by
 have hm : Az (-1) := ⟨by decide, by decide⟩
 have few : ∀ {x : Pt}, Le x → D8 N x [] := fun h => ⟨h, (fun _ g => by cases g), .inl (Nat.zero_le _)⟩
 unfold CP
 split
 ·exact few (Gn ⟨by decide, by decide⟩ hm)
 split
 ·exact few (Gn ⟨by decide, by decide⟩ hm)
 split
 ·have h1 := Zg (τ := τ) (u := u) (l := subs) (fun x hx => ⟨hd.each x hx, hd.acls x hx⟩)
  have h2 := Yw (τ := τ) (u := u) (l := subs) (fun x hx => ⟨hd.each x hx, hd.acls x hx⟩)
  exact ⟨⟨h1.1, h2.1⟩, fun z hz => ⟨h1.2.1 z hz, h2.2 z hz⟩, .inl h1.2.2⟩
 split
 ·exact few ⟨⟨⟨Az.zero, Az.zero, Az.zero, Az.zero, by show 0 < FS; decide, by show 0 < FS; decide, by show 0 < FS; decide, fun a ha => by cases ha⟩, CN.long, Nat.zero_le _, Nat.zero_le _, Nat.zero_le _⟩, Az.zero, Az.zero, Nat.zero_le _, CN⟩
 split
 ·have hcl : (A0 (AG τ u.ses).reverse τ).length = (AG τ u.ses).length := by rw [Ch, length_reverse]
  have hfew := E0 τ u.ses
  have hon := ho.few
  have hL := RD (l := (AG τ u.ses).reverse) (τ := τ) (fun q hq => GT ho (mem_reverse.1 hq))
  refine ⟨⟨⟨⟨⟨by show (-9223372036854775808 : Int) ≤ 6; decide, by show (6 : Int) ≤ 9223372036854775807; decide⟩, hd.w.ses, Az.zero, Az.zero, by show 0 < FS; decide, by show 0 < FS; decide, by show 0 < FS; decide, fun a ha => by cases ha⟩, CN.long, Nat.zero_le _, Nat.zero_le _, Nat.zero_le _⟩, hd.w.ses, Az.zero, Nat.zero_le _, CN⟩, fun z hz => ⟨(hL z hz).1, (Hm z hz).1⟩, .inr ⟨rfl, ?_, fun z hz => (Hm z hz).2⟩⟩
  show (A0 (AG τ u.ses).reverse τ).length ≤ N
  omega
 split
 ·have := Kq τ u r
  exact few (Gn ⟨by omega, by omega⟩ hm)
 ·exact few (Yn hd.w hd.a)
theorem D8.of {N : Nat} {x y : Pt} {l ys : List Pt} (h : D8 N x l) (hy : y.pl = x) (hys : ys.map Pt.pl = l) : D8 N y ys := by
 subst hy; subst hys
 refine ⟨Le.of (z := y.pl) rfl h.x, fun z hz => Le.of (z := z.pl) rfl (h.each _ (mem_map_of_mem hz)), ?_⟩
 rcases h.len with h1 | ⟨h1, h2, h3⟩
 ·exact .inl (by rwa [length_map] at h1)
 ·exact .inr ⟨h1, by rwa [length_map] at h2, fun z hz => h3 z.pl (mem_map_of_mem (f := Pt.pl) hz)⟩
theorem D8.few {N : Nat} {x : Pt} {l : List Pt} (h : D8 N x l) (hN : N ≤ 1048576) : l.length ≤ 1048576 := by
 rcases h.len with h1 | ⟨-, h2, -⟩ <;> omega
theorem D8.tx {N : Nat} {y : Pt} {ys : List Pt} (h : D8 N y ys) (hN : N ≤ 1048576) (z s i : Int) (hc : AB y.aclV = true ∧ ∃ a c, y.subsV = .slice a ys.length c) (hcs : ∀ z ∈ ys, AB z.aclV = true ∧ z.subsV = AF) : TxA (entR ⟨z, s, i, y, ys⟩) y ys := by
 refine ⟨⟨fun _ hp => L8 hp, h.x.r.many, h.x.r.path, ?_, hc.1⟩, fun _ hp => H2 hp, h.few hN, fun w hw => ⟨fun _ hp => Jh hp hw, (h.each w hw).r.many, (h.each w hw).r.path, by rw [(hcs w hw).2]; rfl, (hcs w hw).1⟩⟩
 obtain ⟨a, c, e⟩ := hc.2
 rw [e]; rfl
theorem D8.n {N : Nat} {y : Pt} {ys : List Pt} (h : D8 N y ys) {z s i : Int} (hz : Az z) : EnN ⟨z, s, i, y, ys⟩ := ⟨hz, h.x.n, fun w hw => (h.each w hw).n⟩
theorem D8.w {N : Nat} {y : Pt} {ys : List Pt} (h : D8 N y ys) {τ : Tr} (hw : LR τ) {z : Int} (hz : Az z) : LR (AC τ z y ys).1 := hw.app (h.n (s := 0) (i := 0) hz)
theorem X3 {τ : Tr} {N : Nat} (h : τ.Ok N) {x : Pt} (hk : x.kind = 2) (zx : Int) : (AJ τ x zx).1.Ok N := by
 unfold AJ
 rw [if_neg om, if_pos hk]
 unfold As
 split
 ·exact (h.cut _).kid _ _ _
 ·exact h
theorem Un {τ : Tr} {N : Nat} (h : τ.Ok N) (zx : Int) (l : List Pt) (hl : ∀ x ∈ l, x.kind = 2) : (AH τ zx l).1.Ok N := by
 unfold AH
 have H : ∀ (l : List Pt) (r : Tr × List Ev), r.1.Ok N → (∀ x ∈ l, x.kind = 2) → (l.foldl (fun r x => ((AJ r.1 x zx).1, r.2 ++ (AJ r.1 x zx).2)) r).1.Ok N := by
  intro l
  induction l with
  | nil => intro r h _; exact h
  | cons x l ih =>
   intro r h hl
   rw [foldl_cons]
   exact ih _ (X3 h (hl x mem_cons_self) zx) fun y hy => hl y (mem_cons_of_mem _ hy)
 exact H l _ h hl
theorem D8.ok {N : Nat} {y : Pt} {ys : List Pt} (h : D8 N y ys) {τ : Tr} {M : Nat} (ho : τ.Ok M) (z : Int) : (AC τ z y ys).1.Ok (M + 9) := by
 rcases h.len with h1 | ⟨h1, -, h3⟩
 ·exact (ho.apply z y ys h.x.r.many fun w hw => (h.each w hw).r.many).more om
 ·unfold AC
  dsimp only
  rw [if_neg om, if_pos h1]
  exact ((Un (ho.zx z) z _ fun w hw => h3 w (mem_filter.1 hw).1).dropS _).more om
theorem Ob (τ : Tr) (zx : Int) (l : List Pt) : AH τ zx (l.map Pt.pl) = AH τ zx l := by
 unfold AH
 rw [foldl_map]; rfl
theorem TE (l : List Pt) : (l.map Pt.pl).filter Ai = (l.filter Ai).map Pt.pl := by
 rw [filter_map]; rfl
theorem Gj (τ : Tr) (zx : Int) (y : Pt) (ys : List Pt) : AC τ zx y.pl (ys.map Pt.pl) = AC τ zx y ys := by
 unfold AC
 dsimp only
 rw [TE, Ob, Ob]; rfl
/-! ### Wishes of a list -/
/-! ### A part alone -/
open Go Go.Sort
abbrev Hc (l : List Int) : List Int := Lib.compact l
theorem R0 {P : Program} {ρ : Go.Shelf.Ren} (LM : Lays2.n20 P ρ) (e : TypeId) (v : Value) (n : Nat) (xs : List Int) (hn : n < 4611686018427387904) :
  Fn P (ρ.f 20) #[v] [Af e 1 v n (xs.map AA)] fun u L => (∃ a c, u = .slice a (Hc xs).length c) ∧ L = [Af e 1 u (Hc xs).length ((Hc xs).map AA)] := by
 intro F w hs
 have hs' : St ((fun h => ∃ y : List Value × (Nat × Nat) × (Option (Nat × Nat)), (y.2.2 = none ∧ v = .slice none 0 0 ∧ n = 0 ∧ xs = []) ∨ (∃ b cap, y.2.2 = some (b, cap) ∧ v = .slice (some ⟨b, 0, none⟩) n cap ∧ h b = some (.cells (List.toArray (xs.map AA ++ y.1)) e y.2.1) ∧ xs.length = n ∧ cap ≤ xs.length + y.1.length ∧ n ≤ cap ∧ S7 y.2.1 0 cap)) :: F) w := by
  refine Br (fun h hp => ?_) hs
  rcases hp with ⟨h1, h2, h3⟩ | ⟨b, cap, rest, fr, h1, h2, h3, h4, h5, h6⟩
  ·exact ⟨([], (0, 0), none), .inl ⟨rfl, h1, h2, by simpa using h3⟩⟩
  ·exact ⟨(rest, fr, some (b, cap)), .inr ⟨b, cap, rfl, h1, h2, by simpa using h3, by simpa using h4, h5, by simpa using h6⟩⟩
 obtain ⟨⟨rest, fr, o⟩, h1, h2, hd, a1, a2, hp, hF⟩ := Kg hs'
 rcases hp with ⟨-, rfl, rfl, rfl⟩ | ⟨b, cap, -, rfl, p1, p2, p3, p4, p5⟩
 ·refine (Any.slices_Compact_int_empty LM none 0 w).mono ?_
  rintro en w' ⟨rfl, rfl⟩
  have e0 : Hc [] = [] := rfl
  exact ⟨_, _, ⟨⟨none, 0, by rw [e0]; rfl⟩, by rw [e0]; rfl⟩, rfl, hs, .refl _⟩
 ·subst p2
  have hb := a1 _ _ p1
  have hH : Holds (Value.int .i64) w b 0 xs.toArray := by
   intro j hj
   have hj' : j < xs.length := by simpa using hj
   have hb' : w.heap[b]? = some (.cells (xs.map AA ++ rest).toArray e fr) := hb
   refine ⟨?_, ?_⟩
   ·simp only [World.cell?, hb', Nat.zero_add, Option.isSome_none, Bool.false_eq_true, if_false]
    rw [List.getElem?_toArray, List.getElem?_append_left (by simpa using hj')]
    simp [hj']
   ·have := p5 j om (by dsimp only at p3 p4 ⊢; omega)
    simp only [World.frozen?, hb', Nat.zero_add]
    simpa using this
  refine (Any.slices_Compact_int LM b 0 cap xs w hH om p4).mono ?_
  rintro en w' ⟨rfl, k, rfl⟩
  have hle := Lib.compact_length_le xs
  generalize hcs : Lib.compact xs = cs at hle
  have hcl : (cs ++ List.replicate (xs.length - cs.length) 0).length = xs.length := by rw [length_append, length_replicate]; omega
  refine ⟨_, _, ⟨⟨_, _, by unfold Hc; rw [hcs]⟩, rfl⟩, rfl, ?_, ?_⟩
  ·have h2b : h2 b = none := (hd b).resolve_left (by rw [p1]; simp)
   have hnew : (putRow (Value.int .i64) (Sort.ahead w k) b 0 (cs ++ List.replicate (xs.length - cs.length) 0).toArray).heap[b]? = some (.cells (putCells (Value.int .i64) 0 (cs ++ List.replicate (xs.length - cs.length) 0).toArray (xs.map AA ++ rest).toArray) e fr) := by
    have hb2 : w.heap[b]? = some (.cells (xs.map AA ++ rest).toArray e fr) := hb
    simp [putRow, mapBlock, Sort.ahead, Array.getElem?_modify, hb2, onCells]
   have hrow : (putCells (Value.int .i64) 0 (cs ++ List.replicate (xs.length - cs.length) 0).toArray (xs.map AA ++ rest).toArray) = (cs.map AA ++ ((List.replicate (xs.length - cs.length) (0 : Int)).map AA ++ rest)).toArray := by
    rw [← append_assoc, ← map_append]
    generalize cs ++ List.replicate (xs.length - cs.length) 0 = ts at hcl
    apply Array.ext_getElem?
    intro j
    simp only [putCells, Array.getElem?_mapIdx, List.getElem?_toArray, Nat.zero_le, true_and, Nat.zero_add, Nat.sub_zero, size_toArray]
    by_cases hj : j < xs.length
    ·rw [List.getElem?_append_left (by simpa using hj), List.getElem?_append_left (by simpa [hcl] using hj)]
     simp [hj, hcl]
    ·rw [List.getElem?_append_right (by simp; omega), List.getElem?_append_right (by simp [hcl]; omega)]
     simp [hj, hcl]
   refine ⟨fun c => if c = b then some (.cells (cs.map AA ++ ((List.replicate (xs.length - cs.length) (0 : Int)).map AA ++ rest)).toArray e fr) else none, h2, fun c => ?_, fun c o e => ?_, fun c o hc => ?_, ?_, hF⟩
   ·by_cases e : c = b
    ·exact .inr (e ▸ h2b)
    ·exact .inl (if_neg e)
   ·by_cases hc : c = b
    ·subst hc
     dsimp only at e
     rw [if_pos rfl] at e
     obtain rfl := Option.some.inj e
     rw [← hrow]; exact hnew
    ·simp [hc] at e
   ·have hcb : c ≠ b := by rintro rfl; rw [h2b] at hc; cases hc
    have hold := a2 _ _ hc
    show (putRow (Value.int .i64) (Sort.ahead w k) b 0 _).heap[c]? = _
    have hold2 : w.heap[c]? = some o := hold
    simp [putRow, mapBlock, Sort.ahead, Array.getElem?_modify, Ne.symm hcb, hold2]
   ·unfold Hc; rw [hcs]
    refine .inr ⟨b, cap, _, fr, rfl, if_pos rfl, by simp, ?_, by omega, by simpa using p5⟩
    simp at p3 ⊢; omega
  ·refine ⟨rfl, rfl, rfl, ?_⟩
   show w.heap.size ≤ (putRow (Value.int .i64) (Sort.ahead w k) b 0 _).heap.size
   simp [putRow, mapBlock, Sort.ahead]
abbrev EU := Int × Bs
abbrev Wt := Int × EU
def K4 (s : EU) : Value := .agg #[AA s.1, AE s.2]
def B5 (ω : List Wt) (s : Int) : Nat := (ω.filter fun w => decide (w.1 = s)).length
def Vz (ω : List Wt) (w : Wt) : List Wt := ω.filter fun x => decide (x ≠ w)
def JU (k : Int) (p : Bs) : Prop := 1 ≤ k ∧ k ≤ 3 ∧ BG p = 0
instance (k : Int) (p : Bs) : Decidable (JU k p) := inferInstanceAs (Decidable (_ ∧ _))
def addW (ω : List Wt) (s k : Int) (p : Bs) : List Wt × Int :=
 if s < 1 ∨ ¬ JU k p then (ω, 1) else if (s, (k, p)) ∈ ω then (ω, 0) else if B5 ω s = 64 then (ω, 91) else (ω ++ [(s, (k, p))], 0)
def Ap (e : Int) : List Int := if e = 1 then [2] else if e = 2 then [1, 2, 3] else if e = 3 then [1, 2] else if e = 4 then [3] else []
def QW (k : Int) (p : Bs) (w : Wt) : Bool := decide (w.2.2 = p) && decide (w.2.1 ∈ Ap k)
def C2 (ω : List Wt) (k : Int) (p : Bs) : List Int := Hc (C6 ((ω.filter (QW k p)).map (·.1)))
def T9 (ω : List Wt) (k : Int) (p : Bs) : List Wt := ω.filter fun w => !QW k p w
def Qj (ω : List Wt) (s : Int) : List Wt := ω.filter fun w => decide (w.1 ≠ s)
theorem Jm (l : List Int) : (C6 l).Pairwise (· ≤ ·) := by
 have := pairwise_mergeSort (le := fun x y : Int => decide (x ≤ y)) (fun a b c h1 h2 => by simp only [decide_eq_true_eq] at *; omega) (fun a b => by simp only [Bool.or_eq_true, decide_eq_true_eq]; omega) l
 exact this.imp (fun h => by simpa using h)
/-! ### What stands for it -/
abbrev By := List (EU × (Nat × List (Int × Int)))
abbrev Lb (y : Int) : Value := AA y
def Po (x : Nat × List (Int × Int)) : Value := .map (some x.1)
def byM (by' : By) : List (Value × Value) := by'.map fun x => (K4 x.1, Po x.2)
def Rg (l : List (Int × Int)) : List (Value × Value) := l.map fun x => (AA x.1, Lb x.2)
def TO (x : EU × (Nat × List (Int × Int))) : HP := mapR x.2.1 (Rg x.2.2)
structure Pn (ω : List Wt) (m : By) (n : List (Int × Int)) : Prop where
 nod : ω.Nodup
 fit : ∀ w ∈ ω, 1 ≤ w.1 ∧ w.1 ≤ 9223372036854775807 ∧ 1 ≤ w.2.1 ∧ w.2.1 ≤ 3
 few : ∀ s, B5 ω s ≤ 64
 keys : (m.map (·.1)).Nodup
 inn : ∀ sp y, AD m sp = some y → (y.2.map (·.1)).Nodup ∧ y.2 ≠ [] ∧ ∀ z ∈ y.2, z.2 = z.1
 mem : ∀ id sp, (id, sp) ∈ ω ↔ ∃ y, AD m sp = some y ∧ id ∈ y.2.map (·.1)
 nkeys : (n.map (·.1)).Nodup
 many : ∀ s, AD n s = if B5 ω s = 0 then none else some (B5 ω s : Int)
def LB (t : Nat) (ω : List Wt) : HP := fun h => ∃ x : (Nat × Nat) × (By × List (Int × Int)), Pn ω x.2.1 x.2.2 ∧ CD [Ad t [.map (some x.1.1), .map (some x.1.2)] 117, mapR x.1.1 (byM x.2.1), mapR x.1.2 (Rg x.2.2), Ag TO x.2.1] h
section
variable {W : World} {n : Nat} {ds : List Deferred} {E : Bx} {L R : List HP} {X : Act → World → Prop}
theorem G.tbOpen {t : Nat} {ω : List Wt} (hL : BJ (LB t ω) L R) (h : ∀ rb rm m q, Pn ω m q → G W n ds E (Ad t [.map (some rb), .map (some rm)] 117 :: mapR rb (byM m) :: mapR rm (Rg q) :: Ag TO m :: R) X) : G W n ds E L X :=
 G.focus hL (G.open (q := fun x : (Nat × Nat) × (By × List (Int × Int)) => [Ad t [.map (some x.1.1), .map (some x.1.2)] 117, mapR x.1.1 (byM x.2.1), mapR x.1.2 (Rg x.2.2), Ag TO x.2.1]) (φ := fun x : (Nat × Nat) × (By × List (Int × Int)) => Pn ω x.2.1 x.2.2) (fun _ hp => hp) fun x hx => h x.1.1 x.1.2 x.2.1 x.2.2 hx)
theorem G.tbFold {t rb rm : Nat} {ω : List Wt} {m : By} {q : List (Int × Int)} {l : List Value} {e1 e2 : List (Value × Value)} (hI : Pn ω m q) (hL : BC [Ad t l 117, mapR rb e1, mapR rm e2, Ag TO m] L R) (hl : l = [.map (some rb), .map (some rm)]) (h1 : e1 = byM m) (h2 : e2 = Rg q)
  (h : G W n ds E (LB t ω :: R) X) : G W n ds E L X := by
 subst hl; subst h1; subst h2
 exact G.fold hL (fun _ hp => ⟨((rb, rm), (m, q)), hI, hp⟩) h
end
theorem Lt {m : By} {d : EU} {y y' : Nat × List (Int × Int)} (h : AD m d = some y) (hp : y'.1 = y.1) : byM (BQ m d y') = byM m := QN h (by simp [Po, hp])
theorem IR {ω : List Wt} {m : By} {n : List (Int × Int)} (h : Pn ω m n) (s : Int) : ∀ b, AD n s = some b → Lb b = AA (B5 ω s : Nat) := by
 intro b hb
 rw [h.many s] at hb
 split at hb
 ·cases hb
 ·cases hb; rfl
theorem IK {ω : List Wt} {m : By} {n : List (Int × Int)} (h : Pn ω m n) (s : Int) : AD n s = none → Value.int .i64 0 = AA (B5 ω s : Nat) := by
 intro hb
 rw [h.many s] at hb
 split at hb
 ·rename_i h0; rw [h0]; rfl
 ·cases hb
/-! ### B4 keeps it -/
theorem ZZ {ω : List Wt} {s : Int} {sp : EU} (h : (s, sp) ∈ ω) : 0 < B5 ω s := by
 unfold B5
 exact length_pos_of_mem (mem_filter.2 ⟨h, by simp⟩)
theorem JL (ω : List Wt) (w : Wt) (s : Int) : B5 (ω ++ [w]) s = B5 ω s + if w.1 = s then 1 else 0 := by
 unfold B5
 rw [filter_append, length_append]
 congr 1
 by_cases h : w.1 = s <;> simp [h]
theorem Xp {ω : List Wt} {w x : Wt} : x ∈ Vz ω w ↔ x ∈ ω ∧ x ≠ w := by
 unfold Vz; rw [mem_filter]; simp
theorem YD {ω : List Wt} (h : ω.Nodup) (w : Wt) : Vz ω w = ω.erase w := by
 rw [h.erase_eq_filter]
 unfold Vz
 refine filter_congr fun x _ => ?_
 by_cases hx : x = w
 ·subst hx; rw [decide_eq_false (fun g => g rfl)]; exact (bne_self_eq_false x).symm
 ·rw [decide_eq_true hx]; exact (bne_iff_ne.2 hx).symm
theorem AA2 {ω : List Wt} (h : ω.Nodup) {w : Wt} (hm : w ∈ ω) (s : Int) : B5 ω s = B5 (Vz ω w) s + if w.1 = s then 1 else 0 := by
 have hp := perm_cons_erase hm
 rw [YD h]
 unfold B5
 rw [(hp.filter _).length_eq]
 by_cases hs : w.1 = s
 ·simp [hs]
 ·simp [hs]
theorem Nn {K β : Type} [DecidableEq K] {m : List (K × β)} (hn : (m.map (·.1)).Nodup) (k x : K) : x ∈ (BX m k).map (·.1) ↔ x ≠ k ∧ x ∈ m.map (·.1) := by
 rw [← Cq, ← Cq, GI hn]
 by_cases h : x = k
 ·simp [h]
 ·simp [h]
theorem Pn.gone {ω : List Wt} {m m' : By} {n n' : List (Int × Int)} (h : Pn ω m n) {id : Int} {sp : EU} (hm : (id, sp) ∈ ω) {p : Nat} {l : List (Int × Int)} (hb : AD m sp = some (p, l))
  (hm' : m' = if BX l id = [] then BX m sp else BQ m sp (p, BX l id)) (hn' : n' = if (B5 ω id : Int) - 1 = 0 then BX (BQ n id ((B5 ω id : Int) - 1)) id else BQ n id ((B5 ω id : Int) - 1)) : Pn (Vz ω (id, sp)) m' n' := by
 obtain ⟨b1, b2, b3⟩ := h.inn sp _ hb
 dsimp only at b1 b2 b3
 have hpos := ZZ hm
 have hlook : ∀ x, AD m' x = if x = sp then (if BX l id = [] then none else some (p, BX l id)) else AD m x := by
  intro x
  rw [hm']
  split
  ·rw [GI h.keys]
  ·rw [DG]
 have hc := fun s => AA2 h.nod hm s
 have hlk : ∀ x, AD n' x = if x = id then (if (B5 ω id : Int) - 1 = 0 then none else some ((B5 ω id : Int) - 1)) else AD n x := by
  intro x
  rw [hn']
  split
  ·rw [GI (Bv h.nkeys _ _), DG]
   by_cases hx : x = id <;> simp [hx]
  ·rw [DG]
 refine ⟨h.nod.filter _, fun w hw => h.fit w (Xp.1 hw).1, fun s => by have := hc s; have := h.few s; omega, ?_, fun s y hy => ?_, fun i s => ?_, ?_, fun s => ?_⟩
 ·rw [hm']; split
  ·exact DF h.keys _
  ·exact Bv h.keys _ _
 ·rw [hlook] at hy
  by_cases hs : s = sp
  ·rw [if_pos hs] at hy
   split at hy
   ·cases hy
   ·rename_i hne
    cases hy
    exact ⟨DF b1 id, hne, fun z hz => b3 z ((Rf l id).subset hz)⟩
  ·rw [if_neg hs] at hy; exact h.inn s y hy
 ·rw [Xp, h.mem i s, hlook]
  by_cases hs : s = sp
  ·subst hs
   rw [if_pos rfl]
   constructor
   ·rintro ⟨⟨y, hy, hi⟩, hne⟩
    rw [hb] at hy; cases hy
    have hii : i ≠ id := fun e => hne (by rw [e])
    have hin := (Nn b1 id i).2 ⟨hii, hi⟩
    refine ⟨(p, BX l id), ?_, hin⟩
    rw [if_neg (fun e => by rw [e] at hin; simp at hin)]
   ·rintro ⟨y, hy, hi⟩
    split at hy
    ·cases hy
    ·cases hy
     have := (Nn b1 id i).1 hi
     exact ⟨⟨(p, l), hb, this.2⟩, fun e => this.1 (by simpa using e)⟩
  ·rw [if_neg hs]
   constructor
   ·exact fun g => g.1
   ·exact fun g => ⟨g, fun e => hs (by simpa using congrArg Prod.snd e)⟩
 ·rw [hn']; split
  ·exact DF (Bv h.nkeys _ _) _
  ·exact Bv h.nkeys _ _
 ·rw [hlk]
  have hcs := hc s
  by_cases hs : s = id
  ·subst hs
   simp only [if_true] at hcs ⊢
   by_cases h0 : B5 (Vz ω (s, sp)) s = 0
   ·rw [if_pos om, if_pos h0]
   ·rw [if_neg om, if_neg h0]; congr 1; omega
  ·rw [if_neg hs, h.many s]
   rw [if_neg (fun e : id = s => hs e.symm)] at hcs
   rw [hcs, Nat.add_zero]
theorem Pn.ins {ω : List Wt} {m m' : By} {n n' : List (Int × Int)} (h : Pn ω m n) {id : Int} {sp : EU} (hm : (id, sp) ∉ ω) (hid : 1 ≤ id ∧ id ≤ 9223372036854775807) (hk : 1 ≤ sp.1 ∧ sp.1 ≤ 3) (hc : B5 ω id ≠ 64) {y : Nat × List (Int × Int)} (hy : (AD m sp = none ∧ y.2 = []) ∨ AD m sp = some y)
  (hm' : m' = BQ m sp (y.1, BQ y.2 id id)) (hn' : n' = BQ n id ((B5 ω id : Int) + 1)) : Pn (ω ++ [(id, sp)]) m' n' := by
 subst hm'; subst hn'
 have hyl : (y.2.map (·.1)).Nodup ∧ (∀ z ∈ y.2, z.2 = z.1) ∧ ∀ i, (i, sp) ∈ ω ↔ i ∈ y.2.map (·.1) := by
  rcases hy with ⟨h1, h2⟩ | h1
  ·rw [h2]
   refine ⟨by simp, by simp, fun i => ?_⟩
   rw [h.mem, h1]; simp
  ·obtain ⟨c1, -, c3⟩ := h.inn sp y h1
   refine ⟨c1, c3, fun i => ?_⟩
   rw [h.mem, h1]; simp
 have hnew : AD y.2 id = none := El.2 fun g => hm ((hyl.2.2 id).2 g)
 have hset : BQ y.2 id id = y.2 ++ [(id, id)] := KL hnew
 refine ⟨?_, fun w hw => ?_, fun s => ?_, Bv h.keys _ _, fun s z hz => ?_, fun i s => ?_, Bv h.nkeys _ _, fun s => ?_⟩
 ·exact nodup_append.2 ⟨h.nod, by simp, fun a ha b hb => by simp at hb; subst hb; exact fun e => hm (e ▸ ha)⟩
 ·rcases mem_append.1 hw with hw | hw
  ·exact h.fit w hw
  ·simp at hw; subst hw; exact ⟨hid.1, hid.2, hk.1, hk.2⟩
 ·rw [JL]
  have := h.few s
  by_cases hs : id = s
  ·subst hs; simp; omega
  ·simp [hs]; exact this
 ·rw [DG] at hz
  by_cases hs : s = sp
  ·rw [if_pos hs] at hz; cases hz
   dsimp only
   refine ⟨Bv hyl.1 _ _, ?_, fun q hq => ?_⟩
   ·rw [hset]; simp
   ·rw [hset] at hq
    rcases mem_append.1 hq with hq | hq
    ·exact hyl.2.1 q hq
    ·simp at hq; rw [hq]
  ·rw [if_neg hs] at hz; exact h.inn s z hz
 ·rw [mem_append, DG]
  by_cases hs : s = sp
  ·subst hs
   rw [if_pos rfl, hyl.2.2 i]
   constructor
   ·rintro (g | g)
    ·exact ⟨_, rfl, by dsimp only; rw [hset]; simp at g ⊢; exact .inl g⟩
    ·simp at g; exact ⟨_, rfl, by dsimp only; rw [hset]; simp [g]⟩
   ·rintro ⟨z, hz, hi⟩
    cases hz
    dsimp only at hi
    rw [hset] at hi
    simp at hi ⊢
    exact hi
  ·rw [if_neg hs, h.mem i s]
   constructor
   ·rintro (g | g)
    ·exact g
    ·simp at g; exact absurd g.2 hs
   ·exact fun g => .inl g
 ·rw [DG, JL]
  by_cases hs : s = id
  ·subst hs; simp
  ·rw [if_neg hs, h.many s, if_neg (fun e : id = s => hs e.symm), Nat.add_zero]
abbrev Z1 := Int × Ev
def KO (x : Z1) : List Value := [AA x.1, AA x.2.1, AE x.2.2.1, AA x.2.2.2]
def OR (s : EU) : List Value := [AA s.1, AE s.2]
def AY (ω : List Wt) (es : List Ev) : Nat → List Wt × List Z1
 | 0 => (ω, [])
 | i + 1 => (T9 (AY ω es i).1 (es.getD i (0, ([], 0))).1 (es.getD i (0, ([], 0))).2.1, (AY ω es i).2 ++ (C2 (AY ω es i).1 (es.getD i (0, ([], 0))).1 (es.getD i (0, ([], 0))).2.1).map fun j => (j, es.getD i (0, ([], 0))))
def Be (ω : List Wt) (es : List Ev) : List Wt × List Z1 := AY ω es es.length
def Oz (ω : List Wt) (p : Bs) (ks : List Int) : List Int := (ω.filter fun w => decide (w.2.2 = p) && decide (w.2.1 ∈ ks)).map (·.1)
def ED (ω : List Wt) (p : Bs) (ks : List Int) : List Wt := ω.filter fun w => !(decide (w.2.2 = p) && decide (w.2.1 ∈ ks))
def GK (ω : List Wt) (sp : EU) (ids : List Int) : List Wt := ω.filter fun w => !(decide (w.2 = sp) && decide (w.1 ∈ ids))
theorem OJ (ω : List Wt) (sp : EU) : GK ω sp [] = ω := by unfold GK; simp
theorem YB (ω : List Wt) (p : Bs) : ED ω p [] = ω := by unfold ED; simp
theorem SB (ω : List Wt) (sp : EU) (ids : List Int) (i : Int) : Vz (GK ω sp ids) (i, sp) = GK ω sp (ids ++ [i]) := by
 unfold Vz GK
 rw [filter_filter]
 refine filter_congr fun w _ => ?_
 obtain ⟨a, s⟩ := w
 by_cases h1 : s = sp
 ·by_cases h2 : a = i
  ·simp [h1, h2]
  ·simp [h1, h2]
 ·simp [h1]
theorem VS {ω : List Wt} {sp : EU} {ids : List Int} {i : Int} (h : (i, sp) ∈ ω) (hi : i ∉ ids) : (i, sp) ∈ GK ω sp ids := by
 unfold GK; exact mem_filter.2 ⟨h, by simp [hi]⟩
theorem OI {ω : List Wt} {p : Bs} {ks : List Int} {k : Int} {ids : List Int} (h : ∀ i, (i, (k, p)) ∈ ED ω p ks → i ∈ ids) : GK (ED ω p ks) (k, p) ids = ED ω p (ks ++ [k]) := by
 have e : ED ω p (ks ++ [k]) = (ED ω p ks).filter fun w => !decide (w.2 = (k, p)) := by
  unfold ED
  rw [filter_filter]
  refine filter_congr fun w _ => ?_
  obtain ⟨a, b, c⟩ := w
  by_cases h1 : c = p
  ·by_cases h2 : b = k
   ·simp [h1, h2]
   ·simp [h1, h2]
  ·simp [h1]
 rw [e]
 unfold GK
 refine filter_congr fun w hw => ?_
 by_cases hs : w.2 = (k, p)
 ·have := h w.1 (by rw [← hs]; exact hw)
  simp [hs, this]
 ·simp [hs]
theorem MJ {α : Type} (f g : α → Bool) (h : ∀ x, f x = true → g x = false) (l : List α) : (l.filter fun x => f x || g x).Perm (l.filter f ++ l.filter g) := by
 induction l with
 | nil => simp
 | cons a l ih =>
  cases hf : f a with
  | true => simp [hf, h a hf]; exact ih
  | false =>
   cases hg : g a with
   | true =>
    simp [hf, hg]
    exact (List.Perm.cons a ih).trans perm_middle.symm
   | false => simp [hf, hg]; exact ih
theorem Nv (ω : List Wt) (p : Bs) {ks : List Int} {k : Int} (hk : k ∉ ks) : (Oz ω p (ks ++ [k])).Perm (Oz ω p ks ++ ((ED ω p ks).filter fun w => decide (w.2 = (k, p))).map (·.1)) := by
 have e : ((ED ω p ks).filter fun w => decide (w.2 = (k, p))) = ω.filter fun w => decide (w.2 = (k, p)) := by
  unfold ED
  rw [filter_filter]
  refine filter_congr fun w _ => ?_
  obtain ⟨a, b, c⟩ := w
  by_cases h2 : b = k
  ·simp [h2, hk]
  ·simp [h2]
 rw [e]
 unfold Oz
 rw [← map_append]
 refine List.Perm.map _ (List.Perm.trans (List.Perm.of_eq ?_) (MJ (fun w : Wt => decide (w.2.2 = p) && decide (w.2.1 ∈ ks)) (fun w => decide (w.2 = (k, p))) ?_ ω))
 ·refine filter_congr fun w _ => ?_
  obtain ⟨a, b, c⟩ := w
  by_cases h1 : c = p
  ·by_cases h2 : b = k
   ·simp [h1, h2]
   ·simp [h1, h2]
  ·simp [h1]
 ·rintro ⟨a, b, c⟩ h
  simp at h ⊢
  intro hb hc
  exact hk (hb ▸ h.2)
theorem Zc (ω : List Wt) (k : Int) (p : Bs) : ED ω p (Ap k) = T9 ω k p := by
 unfold ED T9 QW; rfl
theorem Yy (ω : List Wt) (k : Int) (p : Bs) : Oz ω p (Ap k) = (ω.filter (QW k p)).map (·.1) := by
 unfold Oz QW; rfl
theorem QX (k : Int) : (Ap k).Nodup := by
 unfold Ap
 split
 ·simp
 ·split
  ·decide
  ·split
   ·decide
   ·split <;> simp
theorem U5 (k : Int) : (Ap k).length ≤ 3 := by
 unfold Ap
 split
 ·simp
 ·split
  ·simp
  ·split
   ·simp
   ·split <;> simp
theorem Ps {ω : List Wt} {m : By} {n : List (Int × Int)} (h : Pn ω m n) {sp : EU} {y : Nat × List (Int × Int)} (hy : AD m sp = some y) : (y.2.map (·.1)).Perm ((ω.filter fun w => decide (w.2 = sp)).map (·.1)) := by
 refine (perm_ext_iff_of_nodup (h.inn sp y hy).1 ?_).2 fun i => ?_
 ·refine pairwise_map.2 (List.Pairwise.imp_of_mem ?_ (h.nod.filter _))
  intro a b ha hb hne e
  apply hne
  have h1 := (mem_filter.1 ha).2
  have h2 := (mem_filter.1 hb).2
  simp at h1 h2
  obtain ⟨a1, a2⟩ := a; obtain ⟨b1, b2⟩ := b
  dsimp only at *
  rw [e, h1, h2]
 ·constructor
  ·intro hi
   exact mem_map.2 ⟨(i, sp), mem_filter.2 ⟨(h.mem i sp).2 ⟨y, hy, hi⟩, by simp⟩, rfl⟩
  ·intro hi
   obtain ⟨w, hw, rfl⟩ := mem_map.1 hi
   obtain ⟨h1, h2⟩ := mem_filter.1 hw
   have h2 : w.2 = sp := by simpa using h2
   obtain ⟨z, hz, hzi⟩ := (h.mem w.1 sp).1 (by rw [← h2]; exact h1)
   rw [hy] at hz; cases hz
   exact hzi
theorem Ug {ω : List Wt} {m : By} {n : List (Int × Int)} (h : Pn ω m n) {sp : EU} (hy : AD m sp = none) : (ω.filter fun w => decide (w.2 = sp)) = [] := by
 rw [filter_eq_nil_iff]
 intro w hw
 simp only [decide_eq_true_eq]
 intro e
 obtain ⟨z, hz, -⟩ := (h.mem w.1 sp).1 (by rw [← e]; exact hw)
 rw [hy] at hz; cases hz
def Nc (s : Int) (x : EU × (Nat × List (Int × Int))) : Bool := decide (s ∈ x.2.2.map (·.1))
def HX (ω : List Wt) (s : Int) (sps : List EU) : List Wt := ω.filter fun w => !(decide (w.1 = s) && decide (w.2 ∈ sps))
theorem Vp (ω : List Wt) (s : Int) : HX ω s [] = ω := by unfold HX; simp
theorem S6 (ω : List Wt) (s : Int) (sps : List EU) (sp : EU) : Vz (HX ω s sps) (s, sp) = HX ω s (sps ++ [sp]) := by
 unfold Vz HX
 rw [filter_filter]
 refine filter_congr fun w _ => ?_
 obtain ⟨a, b⟩ := w
 by_cases h1 : a = s
 ·by_cases h2 : b = sp
  ·simp [h1, h2]
  ·simp [h1, h2]
 ·simp [h1]
theorem Uj {ω : List Wt} {s : Int} {sps : List EU} {sp : EU} (h : (s, sp) ∈ ω) (hi : sp ∉ sps) : (s, sp) ∈ HX ω s sps := by
 unfold HX; exact mem_filter.2 ⟨h, by simp [hi]⟩
theorem Vr {ω : List Wt} {s : Int} {sps : List EU} (h : ∀ sp, (s, sp) ∈ ω → sp ∈ sps) : HX ω s sps = Qj ω s := by
 unfold HX Qj
 refine filter_congr fun w hw => ?_
 obtain ⟨a, b⟩ := w
 by_cases h1 : a = s
 ·subst h1; simp [h b hw]
 ·simp [h1]
theorem UP {ω : List Wt} {m : By} {n : List (Int × Int)} (h : Pn ω m n) {s : Int} {sp : EU} : (s, sp) ∈ ω ↔ sp ∈ (m.filter (Nc s)).map (·.1) := by
 rw [h.mem]
 constructor
 ·rintro ⟨y, hy, hs⟩
  exact mem_map.2 ⟨(sp, y), mem_filter.2 ⟨EB hy, by simpa [Nc] using hs⟩, rfl⟩
 ·intro hm
  obtain ⟨x, hx, rfl⟩ := mem_map.1 hm
  obtain ⟨h1, h2⟩ := mem_filter.1 hx
  exact ⟨x.2, CE h.keys h1, by simpa [Nc] using h2⟩
theorem J8 {α : Type} {l : List α} (h : l.Nodup) {i : Nat} (hi : i < l.length) : l[i] ∉ l.take i := by
 have e : l.take i ++ l[i] :: l.drop (i + 1) = l := by rw [← drop_eq_getElem_cons hi]; exact take_append_drop i l
 have h2 : (l.take i ++ l[i] :: l.drop (i + 1)).Nodup := by rw [e]; exact h
 intro hm
 exact (nodup_append.1 h2).2.2 _ hm _ mem_cons_self rfl
theorem Zl {ω : List Wt} {m ss rest : By} {n : List (Int × Int)} (h : Pn ω m n) (hp : m.Perm (ss ++ rest)) (s : Int) : ((ss.filter (Nc s)).map (·.1)).length ≤ 64 ∧ ((ss.filter (Nc s)).map (·.1)).Nodup := by
 have hk : ((ss ++ rest).map (·.1)).Nodup := ((hp.map _).nodup_iff).1 h.keys
 have hn : ((ss.filter (Nc s)).map (·.1)).Nodup := (((filter_sublist).trans (sublist_append_left ss rest)).map _).nodup hk
 refine ⟨?_, hn⟩
 have h1 : (((ss.filter (Nc s)).map (·.1)).map fun sp => ((s, sp) : Wt)).length ≤ (ω.filter fun w => decide (w.1 = s)).length := by
  refine Vm ?_ fun w hw => ?_
  ·exact pairwise_map.2 (hn.imp fun hne e => hne (by simpa using e))
  ·obtain ⟨sp, hsp, rfl⟩ := mem_map.1 hw
   refine mem_filter.2 ⟨(UP h).2 ?_, by simp⟩
   obtain ⟨x, hx, rfl⟩ := mem_map.1 hsp
   obtain ⟨x1, x2⟩ := mem_filter.1 hx
   exact mem_map.2 ⟨x, mem_filter.2 ⟨hp.mem_iff.2 (mem_append_left _ x1), x2⟩, rfl⟩
 rw [length_map] at h1
 exact Nat.le_trans h1 (h.few s)
theorem AAE (ω : List Wt) (p : Bs) (ks : List Int) : (Oz ω p ks).length ≤ ω.length := by unfold Oz; rw [length_map]; exact length_filter_le _ _
theorem Yg (l : List Int) : (Hc l).length ≤ l.length := Lib.compact_length_le l
theorem Qt (ω : List Wt) (k : Int) (p : Bs) : (C2 ω k p).length ≤ ω.length := by
 unfold C2
 refine Nat.le_trans (Yg _) ?_
 rw [O3, length_map]; exact length_filter_le _ _
theorem NY {l m : List Int} (h : l.Perm m) : C6 l = C6 m :=
 List.Perm.eq_of_pairwise (le := fun a b : Int => a ≤ b) (fun a b _ _ h1 h2 => by omega) (Jm l) (Jm m) ((Iw l).trans (h.trans (Iw m).symm))
theorem Fq {ω : List Wt} {es : List Ev} {i : Nat} {e : Ev} (h : es.getD i (0, ([], 0)) = e) : AY ω es (i + 1) = (T9 (AY ω es i).1 e.1 e.2.1, (AY ω es i).2 ++ (C2 (AY ω es i).1 e.1 e.2.1).map fun j => (j, e)) := by
 rw [AY, h]
theorem MC (ω : List Wt) (es : List Ev) : ∀ i, (AY ω es i).1.length ≤ ω.length ∧ (AY ω es i).2.length ≤ i * ω.length := by
 intro i
 induction i with
 | zero => exact ⟨Nat.le_refl _, by simp [AY]⟩
 | succ i ih =>
  rw [Fq rfl]
  refine ⟨Nat.le_trans (length_filter_le _ _) ih.1, ?_⟩
  have := Qt (AY ω es i).1 (es.getD i (0, ([], 0))).1 (es.getD i (0, ([], 0))).2.1
  dsimp only
  rw [length_append, length_map, Nat.add_mul, Nat.one_mul]
  omega
/-! ### Told of one session alone -/
/-! ### With others -/
theorem Z6 (a b : EU) : Fz prog 10000 155 (K4 a) (K4 b) (decide (a = b)) := by
 have h := Fz.struct (d := 9999) (xs := [AA a.1, AE a.2]) (ys := [AA b.1, AE b.2]) underlying155 kQ
  (.cons (QO.cell dQ AR rfl rfl (Fz.int underlying3 a.1 b.1)) (.cons (QO.cell dQ Ak rfl rfl (Fz.str underlying9 a.2 b.2)) .nil))
 have e : ([decide (a.1 = b.1), decide (a.2 = b.2)].all id) = decide (a = b) := by
  obtain ⟨a1, a2⟩ := a; obtain ⟨b1, b2⟩ := b
  simp [Bool.decide_and]
 rw [← e]; exact h
theorem Gi : AV prog 155 K4 := by
 refine AV.struct underlying155 Z6 (fun a e w => ?_) (fun a => ?_)
 ·refine PH (d := 9999) underlying155 (xs := [AA a.1, AE a.2].toArray) (fun f hf => ?_) w
  simp only [mem_cons, not_mem_nil, or_false] at hf
  rcases hf with rfl | rfl
  ·exact FCk.cell (d := 9998) dQ AR rfl underlying3 (.inr (.inl ⟨_, rfl⟩))
  ·exact FCk.cell (d := 9998) dQ Ak rfl underlying9 (.inl rfl)
 ·rw [show (10000 : Nat) = 9999 + 1 from rfl]
  simp [K4, Instr.sameBits, PA]
theorem R7 (v : Value) (n : Nat) (xs : List Int) (hn : n < 4611686018427387904) : Fn prog 70 #[v] [Af 3 1 v n (Dw xs)] fun u L => u = .tuple #[] ∧ L = [Af 3 1 v n (Dw (C6 xs))] :=
 Zy Tryz.sortA 3 v n xs hn
theorem R2 (v : Value) (n : Nat) (xs : List Int) (hn : n < 4611686018427387904) : Fn prog 75 #[v] [Af 3 1 v n (Dw xs)] fun u L => (∃ a c, u = .slice a (Hc xs).length c) ∧ L = [Af 3 1 u (Hc xs).length (Dw (Hc xs))] :=
 R0 Tryz.compactA 3 v n xs hn
theorem VN : Fn prog 21 #[] [] fun v L => ∃ t, v = AI t ∧ L = [LB t []] := by
 refine Fn.intro func21 Y Y fun F W => ?_
 refine .sr (.an Y (.sr (.oq (.makeMap underlying114) ?_)))
 rintro v L' ⟨rb, rfl, rfl⟩
 refine .oq (.makeMap underlying115) ?_
 rintro v L' ⟨rm, rfl, rfl⟩
 refine .q (.build (us := [(0, _), (1, _)]) ABF AAr Y Y (by simp [AB])) Y (.oq (.box Y) ?_)
 rintro v L' ⟨t, rfl, rfl⟩
 refine .an Y (.ret (.fold (p := mapR rb []) (.cons (p := pt rb (.map #[] 0)) O .nil) (fun h hp => Eo (F6 hp)) (.fold (p := mapR rm []) (.cons (p := pt rm (.map #[] 0)) O .nil) (fun h hp => Eo (F6 hp)) (.add (p := Ag TO []) CX ?_))))
 have hI : Pn [] [] [] := ⟨by simp, by simp, fun s => Nat.zero_le _, by simp, fun sp y h => (by cases h), fun id sp => ⟨fun h => (by cases h), fun ⟨y, h, _⟩ => (by cases h)⟩, by simp, fun s => rfl⟩
 refine .tbFold hI O Y Y Y ?_
 exact .dn Y Y ⟨_, Y, Y⟩
theorem QT (k : Int) (p : Bs) (hs : p.length ≤ 1048576) : Fn prog 98 #[AA k, AE p] [] fun v L => v = .bool (decide (JU k p)) ∧ L = [] := by
 refine Fn.intro func98 Y Y fun F W => ?_
 refine .sr (.an Y (.sm Y (.ui Y Y Y (.m Y (.dec (t := 7) Y (fun h1_7 => ?_) (fun h1_7 => ?_))))))
 ·refine .kDT (t := 6) Y h1_7 (.gr (.m Y (.gr (.ui Y Y Y (.pT Y Y (.m Y (.dec (t := 11) Y (fun h1_11 => ?_) (fun h1_11 => ?_))))))))
  ·refine .kDT (t := 9) Y h1_11 (.kDT (t := 10) Y h1_11 (.gr (.m Y (.gr (.cv func87 [_] (EI p hs) ?_)))))
   refine .gr (.ui Y Y Y (.pT Y Y (.an Y (.ret ?_))))
   exact .dn Y Y ⟨congrArg Value.bool (decide_eq_decide.2 (by unfold JU; omega)), Y⟩
  refine .kDF (t := 9) Y h1_11 (.kDF (t := 10) Y h1_11 (.gk (.gk (.gk (.pF Y Y (.an Y (.ret ?_)))))))
  exact .dn Y Y ⟨by rw [decide_eq_false (by unfold JU; omega)], rfl⟩
 refine .kDF (t := 6) Y h1_7 (.gk (.gk (.pF Y Y (.m Y (.gk (.gk (.gk (.pF Y Y (.an Y (.ret ?_))))))))))
 exact .dn Y Y ⟨by rw [decide_eq_false (by unfold JU; omega)], rfl⟩
theorem RK (k : Int) : Fn prog 73 #[AA k] [] fun v L => (∃ a c, v = .slice a (Ap k).length c) ∧ L = [Af 3 1 v (Ap k).length (Dw (Ap k))] := by
 refine Fn.intro func73 Y Y fun F W => ?_
 refine .sr (.an Y (.seq (.sm Y (.nt (.block (.sr (.ui Y Y Y (.an Y (.condD Y (fun h4 => ?_) (fun h4 => ?_))))))))))
 ·refine .sr (.oq (.buildSlice1 (vs := [_]) GJ F8 Y Y Y Y Y dQ) ?_)
  rintro v L' ⟨bk, rfl, rfl⟩
  refine .a Y (.nil (.slMake (b := bk) (n := 1) (c := 1) (xs := Dw [2]) O (Nat.le_refl _) dQ Y (.then_n (.ret (.blk_r (.then_r ?_))))))
  have e : Ap k = [2] := by unfold Ap; rw [if_pos h4]
  rw [e]
  exact .dn Y Y ⟨⟨_, _, Y⟩, Y⟩
 refine .sr (.ui Y Y Y (.an Y (.condD Y (fun h7 => ?_) (fun h7 => ?_))))
 ·refine .sr (.oq (.buildSlice1 (vs := [_, _, _]) GJ F8 Y Y Y Y Y dQ) ?_)
  rintro v L' ⟨bk, rfl, rfl⟩
  refine .a Y (.nil (.slMake (b := bk) (n := 3) (c := 3) (xs := Dw [1, 2, 3]) O (Nat.le_refl _) dQ Y (.then_n (.ret (.blk_r (.then_r ?_))))))
  have e : Ap k = [1, 2, 3] := by unfold Ap; rw [if_neg h4, if_pos h7]
  rw [e]
  exact .dn Y Y ⟨⟨_, _, Y⟩, Y⟩
 refine .sr (.ui Y Y Y (.an Y (.condD Y (fun h10 => ?_) (fun h10 => ?_))))
 ·refine .sr (.oq (.buildSlice1 (vs := [_, _]) GJ F8 Y Y Y Y Y dQ) ?_)
  rintro v L' ⟨bk, rfl, rfl⟩
  refine .a Y (.nil (.slMake (b := bk) (n := 2) (c := 2) (xs := Dw [1, 2]) O (Nat.le_refl _) dQ Y (.then_n (.ret (.blk_r (.then_r ?_))))))
  have e : Ap k = [1, 2] := by unfold Ap; rw [if_neg h4, if_neg h7, if_pos h10]
  rw [e]
  exact .dn Y Y ⟨⟨_, _, Y⟩, Y⟩
 refine .sr (.ui Y Y Y (.an Y (.condD Y (fun h13 => ?_) (fun h13 => ?_))))
 ·refine .sr (.oq (.buildSlice1 (vs := [_]) GJ F8 Y Y Y Y Y dQ) ?_)
  rintro v L' ⟨bk, rfl, rfl⟩
  refine .a Y (.nil (.slMake (b := bk) (n := 1) (c := 1) (xs := Dw [3]) O (Nat.le_refl _) dQ Y (.then_n (.ret (.blk_r (.then_r ?_))))))
  have e : Ap k = [3] := by unfold Ap; rw [if_neg h4, if_neg h7, if_neg h10, if_pos h13]
  rw [e]
  exact .dn Y Y ⟨⟨_, _, Y⟩, Y⟩
 refine .skip (.blk_n (.then_n (.seq (.add (AO 3 1) (.region (.an Y (.ret ?_)))))))
 have e : Ap k = [] := by unfold Ap; rw [if_neg h4, if_neg h7, if_neg h10, if_neg h13]
 rw [e]
 exact .dn Y Y ⟨⟨_, _, Y⟩, Y⟩
/- not in this seat -/
theorem N9 (t : Nat) (ω : List Wt) (s k : Int) (p : Bs) (hsm : s ≤ 9223372036854775807) (hs : p.length ≤ 1048576) : Fn prog 57 #[AI t, AA s, AA k, AE p] [LB t ω] fun v L => v = AA (addW ω s k p).2 ∧ L = [LB t (addW ω s k p).1] := by
 refine Fn.intro func57 Y Y fun F W => ?_
 refine .tbOpen (ω := ω) O fun rb rm m q hI => (.sr (.an Y (.seq (.sm Y (.ui Y Y Y (.m Y (.dec (t := 12) Y (fun h1_12 => ?_) (fun h1_12 => ?_))))))))
 ·refine .kDT (t := 11) Y h1_12 (.gk (.gk (.gk (.gk (.pT Y Y (.nt (.condT Y (.sr (.an Y (.rt ?_))))))))))
  have e : addW ω s k p = (ω, 1) := by unfold addW; rw [if_pos (by first | exact .inl h1_12 | exact .inr (by simpa using h17))]
  rw [e]
  refine .tbFold hI O Y Y Y ?_
  exact .vv
 refine .kDF (t := 11) Y h1_12 (.gr (.m Y (.gr (.m Y (.gr (.cv func98 [_, _] (QT k p hs) ?_))))))
 refine .gr (.u (.not Y) (.pF Y Y (.nt (.condN Y (fun h17 => ?_) (fun h17 => ?_)))))
 ·refine .sr (.an Y (.rt ?_))
  have e : addW ω s k p = (ω, 1) := by unfold addW; rw [if_pos (by first | exact .inl h1_12 | exact .inr (by simpa using h17))]
  rw [e]
  refine .tbFold hI O Y Y Y ?_
  exact .vv
 refine .sk (.sr ?_)
 rcases hal : AD m (k, p) with _ | ⟨pb, l⟩; rotate_left; rcases hin : AD l s with _ | z; rotate_right
 ·have hnot : ¬ (s < 1 ∨ ¬ JU k p) := by rintro (h | h); omega; exact h (by simpa using h17)
  have hmem : (s, (k, p)) ∉ ω := fun g => by obtain ⟨y, hy, -⟩ := (hI.mem _ _).1 g; rw [hal] at hy; cases hy
  refine .m Y (.m Y (.q (.build (us := [(0, _), (1, _)]) Ph FV Y Y (by simp [AB])) Y (.oq (.allocA FV) ?_)))
  rintro v L' ⟨bsp, rfl, rfl⟩
  refine .sa Y Y Ke (by (first | (simp [AB]; done) | (simp [AB, AW, Value.cells]; done))) ?_
  refine .nil (.ptCast (b := bsp) (l' := [AA k, AE p]) O Y ?_)
  refine .then_n (.seq (.seq (.draw [] [[0, 1, 2, 3, 4, 5, 6, 7, 8]] mixed kQ (.g0 (.mv Y Y (.nf Y Y Y Cu (.kv Y (.ld Y EY) (.kv Y (.loadAs (vs := [AA k, AE p]) Y Db O (by simp) Y) (.kv Y (.lookupN (m := m) (enc := Po) Gi (hal) Y Y underlying114 Fx O Y) (.mv Y Y (.kv Y (.lookupNil (AV.int underlying3) Y Y underlying115 F8) (.kv Y (.as (v' := .bool false) (by rfl) (.int Y Y Y)) (.pf (.condF Y (.sk (.seq (.seq ?_)))))))))))))))))
  have hkw : JU k p := Decidable.byContradiction fun e => hnot (.inr e)
  refine .region (.m Y (.nf Y D2 (.u (.ld Y Ga) (.m Y (.q (.lookupV (m := q) (enc := Lb) (AV.int underlying3) (v := AA (B5 ω s : Nat)) (IR hI s) (IK hI s) Y Y underlying115 F8 O Y) Y (.ui Y Y Y (.nt (.condD Y (fun h36 => ?_) (fun h36 => ?_)))))))))
  ·refine .sr (.an Y (.rt ?_))
   have e : addW ω s k p = (ω, 91) := by unfold addW; rw [if_neg hnot, if_neg hmem, if_pos om]
   rw [e]
   refine .tbFold hI O Y Y Y ?_
   exact .vv
  refine .sk (.seq (.seq (.draw [] [[0, 1, 2, 3, 4, 5, 6]] mixed kQ (.g0 (.mv Y Y (.nf Y Y Y Cu (.kv Y (.ld Y EY) (.kv Y (.loadAs (vs := [AA k, AE p]) Y Db O (by simp) Y) (.kv Y (.lookupN (m := m) (enc := Po) Gi (hal) Y Y underlying114 Fx O Y) (.kv Y (.mapeq Y Y underlying115) (.pf (.condT Y (.draw [5, 6] [[0, 1, 2, 3, 4, 5], [6]] mixed kQ (.go [Ad bsp _ _, Ad t _ _] O (.k Y (.move Y) (.k Y (.nilp Y) (.k Y (.fieldAddr Y Cu) (.k Y (.ld Y EY) (.k Y (.loadAs (vs := [AA k, AE p]) Y Db O (by simp) Y) (.hh Y (.makeMap underlying115) ?_))))))))))))))))))))
  rintro v L' ⟨pb, rfl, rfl⟩
  refine D.ph (.g0 (.hh Y (.mapSet (m := m) (enc := Po) (v := (pb, [])) (k := (k, p)) Gi Y Y Y underlying114 ?he53) ?_))
  case he53 => rfl
  rintro v L' rfl
  refine D.ph (.fin (.fold (p := mapR pb []) (.cons (p := pt pb (.map #[] 0)) O .nil) (fun h hp => Eo (F6 hp)) (.then_n (.seq (.draw [8] [[0, 1, 2, 3, 4, 5, 6, 7, 8]] mixed kQ (.g0 (.mv Y Y (.nf Y Y Y Cu (.kv Y (.ld Y EY) (.kv Y (.loadAs (vs := [AA k, AE p]) Y Db O (by simp) Y) (.kv Y (.lookupY (m := BQ m (k, p) (pb, [])) (enc := Po) Gi (by rw [DG, if_pos rfl]) Y Y underlying114 Fx O Y) (.mv Y Y (.mv Y Y (.hh Y (.mapSet (m := []) (enc := Lb) (v := s) (k := s) (AV.int underlying3) Y Y Y underlying115 ?he63) ?_))))))))))))))
  case he63 => rfl
  rintro v L' rfl
  refine D.pf (.seq ?_)
  have hfew := hI.few s
  refine .region (.m Y (.nf Y D2 (.u (.ld Y Ga) (.m Y (.q (.lookupV (m := q) (enc := Lb) (AV.int underlying3) (v := AA (B5 ω s : Nat)) (IR hI s) (IK hI s) Y Y underlying115 F8 O Y) Y (.q (.add Y Y om) Y (.oq (.mapSet (m := q) (enc := Lb) (v := ((B5 ω s : Nat) : Int) + 1) (k := s) (AV.int underlying3) Y Y Y underlying115 ?he72) ?_)))))))
  case he72 => rfl
  rintro v L' rfl
  refine .nt (.sr (.an Y (.ret ?_)))
  have e : addW ω s k p = (ω ++ [(s, (k, p))], 0) := by unfold addW; rw [if_neg hnot, if_neg hmem, if_neg om]
  rw [e]
  have hI2 := hI.ins (y := (pb, [])) hmem ⟨by omega, hsm⟩ ⟨hkw.1, hkw.2.1⟩ om (.inl ⟨hal, rfl⟩) rfl rfl
  refine .bigPut (f := TO) (m := m) (k, p) (pb, BQ [] s s) Y (by rw [EM hal]; (repeat' constructor)) (.tbFold hI2 O Y (by show byM (BQ m (k, p) (pb, [])) = byM (BQ m (k, p) (pb, BQ [] s s)); rw [← UZ (v := (pb, [])) (w := (pb, BQ [] s s))]; exact (Lt (y := (pb, [])) (y' := (pb, BQ [] s s)) (by rw [DG, if_pos rfl]) rfl).symm) Y ?_)
  exact .vv
 ·have hnot : ¬ (s < 1 ∨ ¬ JU k p) := by rintro (h | h); omega; exact h (by simpa using h17)
  have hmem : (s, (k, p)) ∉ ω := fun g => by obtain ⟨y, hy, hm⟩ := (hI.mem _ _).1 g; rw [hal] at hy; cases hy; exact El.1 hin hm
  refine .bigTake hal O (.m Y (.m Y (.q (.build (us := [(0, _), (1, _)]) Ph FV Y Y (by simp [AB])) Y (.oq (.allocA FV) ?_))))
  rintro v L' ⟨bsp, rfl, rfl⟩
  refine .sa Y Y Ke (by (first | (simp [AB]; done) | (simp [AB, AW, Value.cells]; done))) ?_
  refine .nil (.ptCast (b := bsp) (l' := [AA k, AE p]) O Y ?_)
  refine .then_n (.seq (.seq (.draw [] [[0, 1, 2, 3, 4, 5, 6, 7, 8]] mixed kQ (.g0 (.mv Y Y (.nf Y Y Y Cu (.kv Y (.ld Y EY) (.kv Y (.loadAs (vs := [AA k, AE p]) Y Db O (by simp) Y) (.kv Y (.lookupY (m := m) (enc := Po) Gi (hal) Y Y underlying114 Fx O Y) (.mv Y Y (.kv Y (.lookupN (m := l) (enc := Lb) (AV.int underlying3) (hin) Y Y underlying115 F8 O Y) (.kv Y (.as (v' := .bool false) (by rfl) (.int Y Y Y)) (.pf (.condF Y (.sk (.seq (.seq ?_)))))))))))))))))
  have hkw : JU k p := Decidable.byContradiction fun e => hnot (.inr e)
  refine .region (.m Y (.nf Y D2 (.u (.ld Y Ga) (.m Y (.q (.lookupV (m := q) (enc := Lb) (AV.int underlying3) (v := AA (B5 ω s : Nat)) (IR hI s) (IK hI s) Y Y underlying115 F8 O Y) Y (.ui Y Y Y (.nt (.condD Y (fun h36 => ?_) (fun h36 => ?_)))))))))
  ·refine .sr (.an Y (.rt ?_))
   have e : addW ω s k p = (ω, 91) := by unfold addW; rw [if_neg hnot, if_neg hmem, if_pos om]
   rw [e]
   refine .bigPut (f := TO) (m := m) (k, p) (pb, l) Y O ?_
   rw [Ce hal]
   refine .tbFold hI O Y Y Y ?_
   exact .vv
  refine .sk (.seq (.seq (.draw [] [[0, 1, 2, 3, 4, 5, 6]] mixed kQ (.g0 (.mv Y Y (.nf Y Y Y Cu (.kv Y (.ld Y EY) (.kv Y (.loadAs (vs := [AA k, AE p]) Y Db O (by simp) Y) (.kv Y (.lookupY (m := m) (enc := Po) Gi (hal) Y Y underlying114 Fx O Y) (.kv Y (.mapeq Y Y underlying115) (.pf (.condF Y (.sk (.seq (.draw [8] [[0, 1, 2, 3, 4, 5, 6, 7, 8]] mixed kQ (.g0 (.mv Y Y (.nf Y Y Y Cu (.kv Y (.ld Y EY) (.kv Y (.loadAs (vs := [AA k, AE p]) Y Db O (by simp) Y) (.kv Y (.lookupY (m := m) (enc := Po) Gi (hal) Y Y underlying114 Fx O Y) ?_)))))))))))))))))))))
  refine D.mv Y Y (.mv Y Y (.hh Y (.mapSet (m := l) (enc := Lb) (v := s) (k := s) (AV.int underlying3) Y Y Y underlying115 ?he117) ?_))
  case he117 => rfl
  rintro v L' rfl
  refine D.pf (.seq ?_)
  have hfew := hI.few s
  refine .region (.m Y (.nf Y D2 (.u (.ld Y Ga) (.m Y (.q (.lookupV (m := q) (enc := Lb) (AV.int underlying3) (v := AA (B5 ω s : Nat)) (IR hI s) (IK hI s) Y Y underlying115 F8 O Y) Y (.q (.add Y Y om) Y (.oq (.mapSet (m := q) (enc := Lb) (v := ((B5 ω s : Nat) : Int) + 1) (k := s) (AV.int underlying3) Y Y Y underlying115 ?he126) ?_)))))))
  case he126 => rfl
  rintro v L' rfl
  refine .nt (.sr (.an Y (.ret ?_)))
  have e : addW ω s k p = (ω ++ [(s, (k, p))], 0) := by unfold addW; rw [if_neg hnot, if_neg hmem, if_neg om]
  rw [e]
  have hI2 := hI.ins (y := (pb, l)) hmem ⟨by omega, hsm⟩ ⟨hkw.1, hkw.2.1⟩ om (.inr hal) rfl rfl
  refine .bigPut (f := TO) (m := m) (k, p) (pb, BQ l s s) Y O (.tbFold hI2 O Y (Lt (y' := (pb, BQ l s s)) hal Y).symm Y ?_)
  exact .vv
 have hnot : ¬ (s < 1 ∨ ¬ JU k p) := by rintro (h | h); omega; exact h (by simpa using h17)
 have hmem : (s, (k, p)) ∈ ω := (hI.mem _ _).2 ⟨_, hal, Cq.1 (by rw [hin]; rfl)⟩
 have hzs : s = z := ((hI.inn _ _ hal).2.2 _ (EB hin)).symm
 subst hzs
 refine .bigTake hal O (.m Y (.m Y (.q (.build (us := [(0, _), (1, _)]) Ph FV Y Y (by simp [AB])) Y (.oq (.allocA FV) ?_))))
 rintro v L' ⟨bsp, rfl, rfl⟩
 refine .sa Y Y Ke (by (first | (simp [AB]; done) | (simp [AB, AW, Value.cells]; done))) ?_
 refine .nil (.ptCast (b := bsp) (l' := [AA k, AE p]) O Y ?_)
 refine .then_n (.seq (.seq (.draw [] [[0, 1, 2, 3, 4, 5, 6, 7, 8]] mixed kQ (.g0 (.mv Y Y (.nf Y Y Y Cu (.kv Y (.ld Y EY) (.kv Y (.loadAs (vs := [AA k, AE p]) Y Db O (by simp) Y) (.kv Y (.lookupY (m := m) (enc := Po) Gi (hal) Y Y underlying114 Fx O Y) (.mv Y Y (.kv Y (.lookupY (m := l) (enc := Lb) (AV.int underlying3) (hin) Y Y underlying115 F8 O Y) (.kv Y (.as (v' := .bool true) (by simp; omega) (.int Y Y Y)) (.pf (.condT Y (.sr (.an Y (.rt ?_)))))))))))))))))
 have e : addW ω s k p = (ω, 0) := by unfold addW; rw [if_neg hnot, if_pos hmem]
 rw [e]
 refine .bigPut (f := TO) (m := m) (k, p) (pb, l) Y O ?_
 rw [Ce hal]
 refine .tbFold hI O Y Y Y ?_
 exact .vv
theorem MY (t : Nat) (ω : List Wt) (sp : EU) (id : Int) (hm : (id, sp) ∈ ω) : Fn prog 74 #[AI t, .agg #[AA sp.1, AE sp.2], AA id] [LB t ω] fun v L => v = .tuple #[] ∧ L = [LB t (Vz ω (id, sp))] := by
 refine Fn.intro func74 Y Y fun F W => ?_
 refine .tbOpen (ω := ω) O fun rb rm m q hI => ?_
 obtain ⟨⟨pb, l⟩, hb, hin⟩ := (hI.mem id sp).1 hm
 dsimp only at hin
 have hfew := hI.few id
 refine .bigTake hb O (.sr (.oq (.box Y) ?_))
 rintro v L' ⟨bsp, rfl, rfl⟩
 refine .nil (.ptCast (b := bsp) (l' := [AA sp.1, AE sp.2]) O Y ?_)
 refine .then_n (.seq (.draw [7] [[0, 1, 2, 3, 4, 5, 6, 7]] mixed kQ (.g0 (.mv Y Y (.nf Y Y Y Cu (.kv Y (.ld Y EY) (.kv Y (.loadAs (vs := [AA sp.1, AE sp.2]) Y Db O (by simp) Y) (.kv Y (.lookupY (m := m) (enc := Po) Gi (hb) Y Y underlying114 Fx O Y) (.mv Y Y (.hh Y (.mapDel (m := l) (enc := Lb) (k := id) (AV.int underlying3) Y Y Y underlying115 ?he10) ?_))))))))))
 case he10 => rfl
 rintro v L' rfl
 refine D.pf (.seq (.seq (.draw [] [[0, 1, 2, 3, 4, 5, 6, 7]] mixed kQ (.g0 (.mv Y Y (.nf Y Y Y Cu (.kv Y (.ld Y EY) (.kv Y (.loadAs (vs := [AA sp.1, AE sp.2]) Y Db O (by simp) Y) (.kv Y (.lookupY (m := m) (enc := Po) Gi (hb) Y Y underlying114 Fx O Y) (.kv Y (.maplen Y underlying115 Y O) (.kv Y (.int Y Y Y) (.pf (.condD Y (fun h20 => ?_) (fun h20 => ?_))))))))))))))
 ·refine .draw [5] [[0, 1, 2, 3, 4, 5]] mixed kQ (.g0 (.mv Y Y (.nf Y Y Y Cu (.kv Y (.ld Y EY) (.kv Y (.loadAs (vs := [AA sp.1, AE sp.2]) Y Db O (by simp) Y) (.hh Y (.mapDel (m := m) (enc := Po) (k := sp) Gi Y Y Y underlying114 ?he25) ?_))))))
  case he25 => rfl
  rintro v L' rfl
  refine D.pf (.sm Y (.nf Y D2 (.u (.ld Y Ga) (.m Y (.q (.lookupV (m := q) (enc := Lb) (AV.int underlying3) (v := AA (B5 ω id : Nat)) (IR hI id) (IK hI id) Y Y underlying115 F8 O Y) Y (.q (.sub Y Y om) Y (.oq (.mapSet (m := q) (enc := Lb) (v := ((B5 ω id : Nat) : Int) - 1) (k := id) (AV.int underlying3) Y Y Y underlying115 ?he34) ?_)))))))
  case he34 => rfl
  rintro v L' rfl
  refine .nt (.sm Y (.nf Y D2 (.u (.ld Y Ga) (.m Y (.q (.lookupY (m := BQ q id (((B5 ω id : Nat) : Int) - 1)) (enc := Lb) (AV.int underlying3) (by rw [DG, if_pos rfl]) Y Y underlying115 F8 O Y) Y (.ui Y Y Y (.nt (.condD Y (fun h39 => ?_) (fun h39 => ?_)))))))))
  ·refine .region (.m Y (.nf Y D2 (.u (.ld Y Ga) (.m Y (.oq (.mapDel (m := BQ q id (((B5 ω id : Nat) : Int) - 1)) (enc := Lb) (k := id) (AV.int underlying3) Y Y Y underlying115 ?he48) ?_)))))
   case he48 => rfl
   rintro v L' rfl
   refine .nil (.done_n ?_)
   have hnil : BX l id = [] := by exact length_eq_zero_iff.1 (by simpa using h20)
   have hI2 := hI.gone hm hb (m' := BX m sp) (n' := BX (BQ q id (((B5 ω id : Nat) : Int) - 1)) id) (by rw [if_pos hnil]) (by rw [if_pos om])
   refine .tbFold hI2 O Y Y Y ?_
   exact .vv
  refine .skip (.done_n ?_)
  have hnil : BX l id = [] := by exact length_eq_zero_iff.1 (by simpa using h20)
  have hI2 := hI.gone hm hb (m' := BX m sp) (n' := BQ q id (((B5 ω id : Nat) : Int) - 1)) (by rw [if_pos hnil]) (by rw [if_neg om])
  refine .tbFold hI2 O Y Y Y ?_
  exact .vv
 refine .sk (.sm Y (.nf Y D2 (.u (.ld Y Ga) (.m Y (.q (.lookupV (m := q) (enc := Lb) (AV.int underlying3) (v := AA (B5 ω id : Nat)) (IR hI id) (IK hI id) Y Y underlying115 F8 O Y) Y (.q (.sub Y Y om) Y (.oq (.mapSet (m := q) (enc := Lb) (v := ((B5 ω id : Nat) : Int) - 1) (k := id) (AV.int underlying3) Y Y Y underlying115 ?he57) ?_)))))))
 case he57 => rfl
 rintro v L' rfl
 refine .nt (.sm Y (.nf Y D2 (.u (.ld Y Ga) (.m Y (.q (.lookupY (m := BQ q id (((B5 ω id : Nat) : Int) - 1)) (enc := Lb) (AV.int underlying3) (by rw [DG, if_pos rfl]) Y Y underlying115 F8 O Y) Y (.ui Y Y Y (.nt (.condD Y (fun h39 => ?_) (fun h39 => ?_)))))))))
 ·refine .region (.m Y (.nf Y D2 (.u (.ld Y Ga) (.m Y (.oq (.mapDel (m := BQ q id (((B5 ω id : Nat) : Int) - 1)) (enc := Lb) (k := id) (AV.int underlying3) Y Y Y underlying115 ?he71) ?_)))))
  case he71 => rfl
  rintro v L' rfl
  refine .nil (.done_n ?_)
  have hnil : ¬ BX l id = [] := by intro e; apply h20; rw [e]; rfl
  have hI2 := hI.gone hm hb (m' := BQ m sp (pb, BX l id)) (n' := BX (BQ q id (((B5 ω id : Nat) : Int) - 1)) id) (by rw [if_neg hnil]) (by rw [if_pos om])
  refine .bigPut (f := TO) (m := m) sp (pb, BX l id) Y O (.tbFold hI2 O Y (Lt (y' := (pb, BX l id)) hb Y).symm Y ?_)
  exact .vv
 refine .skip (.done_n ?_)
 have hnil : ¬ BX l id = [] := by intro e; apply h20; rw [e]; rfl
 have hI2 := hI.gone hm hb (m' := BQ m sp (pb, BX l id)) (n' := BQ q id (((B5 ω id : Nat) : Int) - 1)) (by rw [if_neg hnil]) (by rw [if_neg om])
 refine .bigPut (f := TO) (m := m) sp (pb, BX l id) Y O (.tbFold hI2 O Y (Lt (y' := (pb, BX l id)) hb Y).symm Y ?_)
 exact .vv
theorem G.tbCast {W : World} {n : Nat} {ds : List Deferred} {E : Bx} {L R : List HP} {X : Act → World → Prop} {t : Nat} {ω ω' : List Wt} (hL : BJ (LB t ω) L R) (hw : ω' = ω) (h : G W n ds E (LB t ω' :: R) X) : G W n ds E L X := by
 subst hw; exact G.focus hL h
theorem SJ (t : Nat) (ω : List Wt) (s : Int) (hlen : ω.length ≤ 1048576) : Fn prog 44 #[AI t, AA s] [LB t ω] fun v L => v = .tuple #[] ∧ L = [LB t (Qj ω s)] := by
 refine Fn.intro func44 Y Y fun F W => ?_
 refine .tbOpen (ω := ω) O fun rb rm m q hI => ?_
 have hnd := hI.keys
 refine .sr (.an Y (.seq (.seq (.add (AO 155 2) (.region (.m Y (.nf Y Cu (.u (.ld Y EY) (.oq (.range (f := fun x : EU × (Nat × List (Int × Int)) => (K4 x.1, Po x.2)) (m := m) Y underlying114 ?he6) ?_)))))))))
 case he6 => rfl
 rintro v L' ⟨it, rfl, rfl⟩
 refine .nt (.block (.loopK (ι := By × Value × (List EU)) (fun q E => (4, q.2.1) :: E) (fun q => [Em (fun x : EU × (Nat × List (Int × Int)) => (K4 x.1, Po x.2)) it rb m q.1, Ag TO m, Af 155 2 q.2.1 q.2.2.length (q.2.2.flatMap OR)]) (fun q => q.2.2 = (q.1.filter (Nc s)).map (·.1) ∧ (∃ rest, m.Perm (q.1 ++ rest)) ∧ ∃ a c, q.2.1 = .slice a q.2.2.length c) (fun q => m.length - q.1.length) (([], .slice none 0 0, [])) (ts := [0, 1, 13]) O (⟨Y, ⟨m, .refl _⟩, none, 0, Y⟩) O O ?_))
 rintro ⟨ss, u, acc⟩ ⟨hacc, ⟨rest, hm⟩, au, cu, hu⟩
 dsimp only
 dsimp only at hacc hm hu
 subst hu
 have hml := hm.length_eq
 rw [length_append] at hml
 obtain ⟨hafew, hanod⟩ := Zl hI hm s
 rw [← hacc] at hafew hanod
 refine .sr (.oq (.next Y) ?_)
 rintro v L' (⟨rfl, hp2, rfl⟩ | ⟨x, rest2, rfl, hp2, rfl⟩)
 ·refine .rangeDone O (.tbFold hI O Y Y Y ?_)
  have hacc2 : ∀ sp, (s, sp) ∈ ω ↔ sp ∈ acc := fun sp => by rw [UP hI, hacc]; exact ((hp2.filter _).map _).mem_iff
  refine .ex Y Y (.nt (.seq (.condF Y (.xe (.sm Y (.q (.slen Y underlying158 Y) Y (.m Y (.nt (.block (.tbCast (ω' := HX ω s (acc.take 0)) O (by rw [take_zero, Vp]) (.loopK (ι := Nat) (fun q E => (29, AA q) :: E) (fun q => [LB t (HX ω s (acc.take q))]) (fun q => q ≤ acc.length) (fun q => acc.length - q) (0) (ts := [0, 1, 27, 28]) O (Nat.zero_le _) O O ?_)))))))))))
  rintro i hi
  refine .sr (.ui Y Y Y (.nt (.seq (.condD Y (fun h30 => ?_) (fun h30 => ?_)))))
  ·have hi2 : i < acc.length := by omega
   refine .slShape (v := .slice au _ cu) O om fun b4 c4' e m4 _ => ?_
   simp only [Value.slice.injEq, true_and] at e
   obtain ⟨rfl, rfl⟩ := e
   have hnot : acc[i] ∉ acc.take i := J8 hanod hi2
   refine .sk (.seq (.block (.sr (.q (.indexAddr Y Y SA om) Y (.q (.loadRdA (sz := 2) (j := i * 2) (k := 2) (p := Af 155 2 _ acc.length (acc.flatMap OR)) (vs := [AA acc[i].1, AE acc[i].2]) Y Db O (fun h hp => Aa hp) (by simp) om om (A5 (f := OR) (sz := 2) (fun _ _ => Y) hi2)) Y (.oq (.allocA FV) ?_))))))
   rintro v L' ⟨b8, rfl, rfl⟩
   refine .sa Y Y Ke (by (first | (simp [AB]; done) | (simp [AB, AW, Value.cells]; done))) ?_
   refine .nil (.ptCast (b := b8) (l' := [AA acc[i].1, AE acc[i].2]) O Y ?_)
   refine .then_n (.region (.m Y (.q (.loadAs (vs := [AA acc[i].1, AE acc[i].2]) Y Db O (by simp) Y) Y (.m Y (.cv func74 [_, _, _] (MY t (HX ω s (acc.take i)) acc[i] s (Uj ((hacc2 _).2 (getElem_mem hi2)) hnot)) ?_)))))
   refine .nil (.blk_n (.then_n (.region (.q (.add Y Y om) Y (.m Y (.nt ?_))))))
   rw [S6, ← take_succ_eq_append_getElem hi2]
   exact .rk (i + 1) om om O
  have hii : i = acc.length := by omega
  rw [hii, take_length, Vr (fun sp h => (hacc2 sp).1 h)]
  refine .exit (.then_e (.then_e (.blk_e (.done_n ?_))))
  exact .vv
 refine .ex Y Y (.nt (.seq (.condT Y (.sk (.block (.sr (.q (.entryE (v := .tuple #[K4 x.1, Po x.2]) Y O Y) Y (.ex Y Y (.ex Y Y (.oq (.allocA FV) ?_))))))))))
 rintro v L' ⟨bs5, rfl, rfl⟩
 refine .sa Y Y Ke (by (first | (simp [AB]; done) | (simp [AB, AW, Value.cells]; done))) ?_
 refine .a Y (.nil (.ptCast (b := bs5) (l' := [AA x.1.1, AE x.1.2]) O Y ?_))
 have hxm : x ∈ m := hp2.mem_iff.2 (by simp)
 have hxb : AD m x.1 = some x.2 := CE hnd hxm
 refine .bigTake hxb O (.then_n (.sm Y (.m Y (.q (.lookupV (m := x.2.2) (enc := Lb) (v := AA (if s ∈ x.2.2.map (·.1) then s else 0)) (AV.int underlying3) (fun b hb => by rw [if_pos (Cq.1 (by rw [hb]; rfl))]; exact congrArg AA ((hI.inn _ _ hxb).2.2 _ (EB hb))) (fun h0 => by rw [if_neg (El.1 h0)]) rfl rfl underlying115 F8 O rfl) rfl (.ui rfl rfl rfl (.nt (.condN rfl (fun h22 => ?_) (fun h22 => ?_))))))))
 ·have hin : s ∈ x.2.2.map (·.1) := Decidable.byContradiction fun e => by rw [if_neg e] at h22; exact h22 rfl
  refine .region (.m Y (.q (.loadAs (vs := [AA x.1.1, AE x.1.2]) Y Db O (by simp) Y) Y (.oq (.buildSlice (vs := [_]) SA FV Y Y Y Y cQ dQ) ?_)))
  rintro v L' ⟨b5_2, rfl, rfl⟩
  refine .oq (.append1 Y Y Y SA FV Y Y ?c50 ?c51 (Nat.le_refl _) ?c52 dQ) ?_
  case c50 => (first | (simp [AB]; done) | (simp [AB, AW, Value.cells]; done))
  case c51 => rfl
  case c52 => omega
  rintro v L' ⟨⟨a5_3, c5_3, rfl⟩, rfl⟩
  refine .a Y (.nil (.blk_n (.then_n ?_)))
  have hl := hp2.length_eq
  simp at hl
  refine .bigPut (f := TO) (m := m) x.1 x.2 (p := mapR x.2.1 (Rg x.2.2)) Y O ?_
  rw [Ce hxb]
  rw [show acc.flatMap OR ++ (List.map (fun v => v.cells.toList) [Value.agg #[AA x.1.1, AE x.1.2]]).flatten = (acc ++ [x.1]).flatMap OR by simp [OR, Value.cells], show acc.length + 1 = (acc ++ [x.1]).length by simp]
  exact .rk ((ss ++ [x], .slice a5_3 (acc ++ [x.1]).length c5_3, acc ++ [x.1])) (⟨by dsimp only; rw [hacc, filter_append]; simp [Nc, hin], ⟨_, by simpa using hp2⟩, _, _, rfl⟩) (by dsimp only; simp; omega) O
 have hin : ¬ s ∈ x.2.2.map (·.1) := fun e => by rw [if_pos e] at h22; have := (hI.fit (s, x.1) ((hI.mem _ _).2 ⟨_, hxb, e⟩)).1; dsimp only at this; omega
 refine .skip (.blk_n (.then_n ?_))
 have hl := hp2.length_eq
 simp at hl
 refine .bigPut (f := TO) (m := m) x.1 x.2 (p := mapR x.2.1 (Rg x.2.2)) Y O ?_
 rw [Ce hxb]
 exact .rk ((ss ++ [x], _, acc)) (⟨by dsimp only; rw [hacc, filter_append]; simp [Nc, hin], ⟨_, by simpa using hp2⟩, _, _, rfl⟩) (by dsimp only; simp; omega) O
theorem Qp (ω : List Wt) (sp : EU) (x : Int) : (x, sp) ∈ ω ↔ x ∈ (ω.filter fun w => decide (w.2 = sp)).map (·.1) := by
 constructor
 ·intro h; exact mem_map.2 ⟨(x, sp), mem_filter.2 ⟨h, by simp⟩, rfl⟩
 ·intro h
  obtain ⟨w, hw, rfl⟩ := mem_map.1 h
  obtain ⟨h1, h2⟩ := mem_filter.1 hw
  have h2 : w.2 = sp := by simpa using h2
  rw [← h2]; exact h1
theorem MD {ω : List Wt} {m : By} {n : List (Int × Int)} (h : Pn ω m n) {sp : EU} : ((ω.filter fun w => decide (w.2 = sp)).map (·.1)).Nodup := by
 refine pairwise_map.2 (List.Pairwise.imp_of_mem ?_ (h.nod.filter _))
 intro a b ha hb hne e
 apply hne
 have h1 := (mem_filter.1 ha).2
 have h2 := (mem_filter.1 hb).2
 simp at h1 h2
 obtain ⟨a1, a2⟩ := a; obtain ⟨b1, b2⟩ := b
 dsimp only at *
 rw [e, h1, h2]
theorem Ry (t : Nat) (ω : List Wt) (va : Value) (es : List Ev) (p : HP) (hp : ∀ h : Hp, p h → Cx 3 h va es.length (es.flatMap BV)) (hl : ω.length ≤ 1048576) (hel : es.length ≤ 3145728) : Fn prog 43 #[AI t, va] [LB t ω, p] fun v L => ∃ a c, v = .slice a (Be ω es).2.length c ∧ L = [LB t (Be ω es).1, p, Af 127 4 v (Be ω es).2.length ((Be ω es).2.flatMap KO)] := by
 refine Fn.intro func43 Y Y fun F W => ?_
 refine .rdAny (p := p) hp O fun aa ca e0 _ => ?_
 subst e0
 refine .sr (.an Y (.seq (.add (AO 127 4) (.region (.an Y (.seq (.sm Y (.q (.slen Y underlying47 Y) Y (.m Y (.nt (.block (.tbCast (ω' := (AY ω es 0).1) O Y (.loopK (ι := Nat × Value) (fun q E => (20, AA q.1) :: (5, q.2) :: E) (fun q => [LB t (AY ω es q.1).1, Af 127 4 q.2 (AY ω es q.1).2.length ((AY ω es q.1).2.flatMap KO)]) (fun q => q.1 ≤ es.length ∧ ∃ a c, q.2 = .slice a (AY ω es q.1).2.length c) (fun q => es.length - q.1) (0, .slice none 0 0) (ts := [0, 4, 18, 19]) O (⟨Nat.zero_le _, none, 0, Y⟩) O O ?_)))))))))))))
 rintro ⟨i, u⟩ ⟨hi, au, cu, hu⟩
 dsimp only
 dsimp only at hi hu
 subst hu
 obtain ⟨hwl, hol⟩ := MC ω es i
 have hol2 : i * ω.length ≤ 3145728 * 1048576 := Nat.mul_le_mul om hl
 refine .sr (.ui Y Y Y (.nt (.seq (.condD Y (fun h21 => ?_) (fun h21 => ?_)))))
 ·have hi2 : i < es.length := by omega
  refine .rdShape (p := p) hp O om fun ba oa e0 => ?_
  subst e0
  have hes : es.getD i (0, ([], 0)) = es[i] := by simp [hi2]
  have hat : ((es.flatMap BV).drop (i * 3)).take 3 = BV es[i] := A5 (f := BV) (sz := 3) (fun _ _ => rfl) hi2
  generalize es[i] = e at hes hat
  have hat : ((es.flatMap BV).drop (i * 3)).take 3 = [AA e.1, AE e.2.1, AA e.2.2] := hat
  have hkn := QX e.1
  have hkl := U5 e.1
  refine .sk (.seq (.block (.sr (.q (.indexAddr Y Y DP om) Y (.q (.loadRdA (sz := 3) (j := i * 3) (k := 3) (p := p) (vs := [AA e.1, AE e.2.1, AA e.2.2]) Y EK O hp (by simp) om om hat) Y (.oq (.allocA Bt) ?_))))))
  rintro v L' ⟨be, rfl, rfl⟩
  refine .sa Y Y Iq (by (first | (simp [AB]; done) | (simp [AB, AW, Value.cells]; done))) ?_
  refine .nil (.ptCast (b := be) (l' := [AA e.1, AE e.2.1, AA e.2.2]) O Y ?_)
  refine .then_n (.seq (.add (AO 3 1) (.region (.an Y (.seq (.sr (.fa Y HV (.u (.ld Y AR) (.oq (.c func73 [_] (RK e.1)) ?_)))))))))
  rintro v L' ⟨⟨ak, ck, rfl⟩, rfl⟩
  refine .q (.slen Y underlying86 Y) Y (.m Y (.nt (.block (.tbCast (ω' := ED (AY ω es i).1 e.2.1 ((Ap e.1).take 0)) O (by rw [take_zero, YB]) (.loopK (ι := Nat × Value × (List Int)) (fun q E => (28, AA q.1) :: (8, q.2.1) :: E) (fun q => [LB t (ED (AY ω es i).1 e.2.1 ((Ap e.1).take q.1)), Af 3 1 q.2.1 q.2.2.length (Dw q.2.2)]) (fun q => q.1 ≤ (Ap e.1).length ∧ q.2.2.Perm (Oz (AY ω es i).1 e.2.1 ((Ap e.1).take q.1)) ∧ ∃ a c, q.2.1 = .slice a q.2.2.length c) (fun q => (Ap e.1).length - q.1) (0, .slice none 0 0, []) (ts := [0, 4, 5, 7, 18, 19, 20, 21, 22, 23, 24, 25, 26, 27]) O (⟨Nat.zero_le _, by dsimp only; rw [take_zero]; simp [Oz], none, 0, rfl⟩) O O ?_)))))
  rintro ⟨j, w, who⟩ ⟨hj, hwho, aw, cw, hw⟩
  dsimp only
  dsimp only at hj hwho hw
  subst hw
  have hwhl := hwho.length_eq
  have hwhl2 := AAE (AY ω es i).1 e.2.1 ((Ap e.1).take j)
  refine .sr (.ui Y Y Y (.nt (.seq (.condD Y (fun h29 => ?_) (fun h29 => ?_)))))
  ·have hj2 : j < (Ap e.1).length := by omega
   refine .slShape (v := .slice ak _ ck) O om fun bk ck' e0 mk _ => ?_
   simp only [Value.slice.injEq, true_and] at e0
   obtain ⟨rfl, rfl⟩ := e0
   refine .sk (.seq (.block (.sr (.q (.indexAddr Y Y GJ om) Y (.q (.loadSl (v := AA (Ap e.1)[j]) (i := j * 1) Y AR O (by simp [hj2])) Y (.an Y (.sm Y (.fa Y ZQ (.u (.ld Y Ak) (.q (.build (us := [(0, _), (1, _)]) Ph FV Y Y (by simp [AB])) Y (.oq (.allocA FV) ?_)))))))))))
   rintro v L' ⟨bs, rfl, rfl⟩
   refine .sa Y Y Ke (by (first | (simp [AB]; done) | (simp [AB, AW, Value.cells]; done))) ?_
   refine .nil (.ptCast (b := bs) (l' := [AA (Ap e.1)[j], AE e.2.1]) O Y ?_)
   refine .then_n (.seq (.add (AO 3 1) (.tbOpen (ω := (ED (AY ω es i).1 e.2.1 ((Ap e.1).take j))) O fun rb rm m q hI => (.region ?_))))
   rcases hal : AD m ((Ap e.1)[j], e.2.1) with _ | ⟨pb, l⟩
   ·refine .an Y (.seq (.seq (.draw [6] [[0, 1, 2, 3, 4, 5, 6]] mixed kQ (.g0 (.mv Y Y (.nf Y Y Y Cu (.kv Y (.ld Y EY) (.kv Y (.loadAs (vs := [AA (Ap e.1)[j], AE e.2.1]) Y Db O (by simp) Y) (.kv Y (.lookupN (m := m) (enc := Po) Gi (hal) Y Y underlying114 Fx O Y) (.hh Y (.rangeNil Y underlying115) ?_))))))))))
    rintro v L' ⟨it, rfl, rfl⟩
    refine D.pf (.block (.loopK (ι := Unit) (fun q E => (12, .slice none 0 0) :: E) (fun q => [ZR it]) (fun q => True) (fun q => 0) (()) (ts := [0, 4, 5, 7, 8, 10, 11, 18, 19, 20, 21, 22, 23, 24, 25, 26, 27, 28, 29, 30, 31, 32, 33, 34, 35, 36, 37, 38, 39, 40, 41, 42]) O (trivial) O O ?_))
    rintro u0 -
    refine .sr (.oq (.nextNil Y) ?_)
    rintro v L' ⟨rfl, rfl⟩
    refine .ex Y Y (.nt (.seq (.condF Y (.xe (.seq (.seq (.tbFold hI O Y Y Y ?_)))))))
    have hids : ([] : List Int).Perm (((ED (AY ω es i).1 e.2.1 ((Ap e.1).take j)).filter fun w => decide (w.2 = ((Ap e.1)[j], e.2.1))).map (·.1)) := by rw [Ug hI hal]; exact .refl _
    have hand : ([] : List Int).Nodup := hids.nodup_iff.2 (MD hI)
    have hamem : ∀ x, (x, ((Ap e.1)[j], e.2.1)) ∈ (ED (AY ω es i).1 e.2.1 ((Ap e.1).take j)) ↔ x ∈ ([] : List Int) := fun x => (Qp _ _ _).trans hids.mem_iff.symm
    have halen : ([] : List Int).length ≤ 1048576 := by have h1 := hids.length_eq; have h2 := length_filter_le (fun w : Wt => decide (w.2 = ((Ap e.1)[j], e.2.1))) (ED (AY ω es i).1 e.2.1 ((Ap e.1).take j)); rw [length_map] at h1; have h3 : (ED (AY ω es i).1 e.2.1 ((Ap e.1).take j)).length ≤ (AY ω es i).1.length := length_filter_le _ _; omega
    refine .tbCast (ω' := GK (ED (AY ω es i).1 e.2.1 ((Ap e.1).take j)) ((Ap e.1)[j], e.2.1) (([] : List Int).take 0)) O (by rw [take_zero, OJ]) (.region (.m Y (.q (.slen Y underlying86 Y) Y (.m Y (.nt (.block (.loopK (ι := Nat) (fun q E => (53, AA q) :: E) (fun q => [LB t (GK (ED (AY ω es i).1 e.2.1 ((Ap e.1).take j)) ((Ap e.1)[j], e.2.1) (([] : List Int).take q))]) (fun q => q ≤ ([] : List Int).length) (fun q => ([] : List Int).length - q) (0) (ts := [0, 4, 5, 7, 8, 10, 11, 12, 18, 19, 20, 21, 22, 23, 24, 25, 26, 27, 28, 29, 30, 31, 32, 33, 34, 35, 36, 37, 38, 39, 40, 41, 42, 43, 44, 51, 52]) O (Nat.zero_le _) O O ?_)))))))
    rintro i2 hi2b
    refine .sr (.ui Y Y Y (.nt (.seq (.condD Y (fun h54 => ?_) (fun h54 => ?_)))))
    ·exfalso; simp at h54; omega
    have hii : i2 = ([] : List Int).length := by simp at hi2b ⊢; omega
    rw [hii, take_length, OI (fun x hx => (hamem x).1 hx), ← take_succ_eq_append_getElem hj2]
    refine .xe (.region (.m Y (.m Y (.oq (.append (n := who.length) (m := ([] : List Int).length) (ys := Dw ([] : List Int)) (p := Af 3 1 (.slice none 0 0) ([] : List Int).length (Dw ([] : List Int))) Y Y Y GJ (.inl ⟨_, underlying86⟩) F8 Y Y ?hc54 ?hr55 ?hb56 dQ) ?_))))
    case hc54 => intro y hy; obtain ⟨c, -, rfl⟩ := mem_map.1 hy; rfl
    case hr55 => exact fun h hp => Aa hp
    case hb56 => omega
    rintro v L' ⟨⟨a20, c20, rfl⟩, rfl⟩
    refine .a Y (.nil (.blk_n (.then_n (.region (.q (.add Y Y om) Y (.m Y (.nt ?_)))))))
    rw [show Dw who ++ Dw ([] : List Int) = Dw (who ++ ([] : List Int)) by simp [Dw], show who.length + ([] : List Int).length = (who ++ ([] : List Int)).length by simp]
    exact .rk ((j + 1, .slice a20 (who ++ ([] : List Int)).length c20, who ++ ([] : List Int))) (⟨by dsimp only; omega, by dsimp only; rw [take_succ_eq_append_getElem hj2]; exact (hwho.append hids).trans (Nv _ _ (J8 hkn hj2)).symm, _, _, rfl⟩) (by dsimp only; omega) O
   refine .bigTake hal O (.an Y (.seq (.seq (.draw [6] [[0, 1, 2, 3, 4, 5, 6]] mixed kQ (.g0 (.mv Y Y (.nf Y Y Y Cu (.kv Y (.ld Y EY) (.kv Y (.loadAs (vs := [AA (Ap e.1)[j], AE e.2.1]) Y Db O (by simp) Y) (.kv Y (.lookupY (m := m) (enc := Po) Gi (hal) Y Y underlying114 Fx O Y) (.hh Y (.range (f := fun x : Int × Int => (AA x.1, Lb x.2)) (m := l) Y underlying115 ?he67) ?_)))))))))))
   case he67 => rfl
   rintro v L' ⟨it, rfl, rfl⟩
   refine D.pf (.block (.loopK (ι := (List (Int × Int)) × Value × (List Int)) (fun q E => (12, q.2.1) :: E) (fun q => [Em (fun x : Int × Int => (AA x.1, Lb x.2)) it pb l q.1, Af 3 1 q.2.1 q.2.2.length (Dw q.2.2)]) (fun q => q.2.2 = q.1.map (·.1) ∧ (∃ rest, l.Perm (q.1 ++ rest)) ∧ ∃ a c, q.2.1 = .slice a q.2.2.length c) (fun q => l.length - q.1.length) ([], .slice none 0 0, []) (ts := [0, 4, 5, 7, 8, 10, 11, 18, 19, 20, 21, 22, 23, 24, 25, 26, 27, 28, 29, 30, 31, 32, 33, 34, 35, 36, 37, 38, 39, 40, 41, 42]) O (⟨Y, ⟨l, .refl _⟩, none, 0, Y⟩) O O ?_))
   rintro ⟨s, w2, acc⟩ ⟨hacc, ⟨rest, hl⟩, av, cv, hw2⟩
   dsimp only
   dsimp only at hacc hl hw2
   subst hw2
   have hll := hl.length_eq
   rw [length_append] at hll
   have hal2 : acc.length = s.length := by rw [hacc, length_map]
   refine .sr (.oq (.next Y) ?_)
   rintro v L' (⟨rfl, hp12, rfl⟩ | ⟨z, rest12, rfl, hp12, rfl⟩)
   ·refine .rangeDone O (.bigPut (f := TO) (m := m) ((Ap e.1)[j], e.2.1) (pb, l) (p := mapR pb (Rg l)) Y O ?_)
    rw [Ce hal]
    refine .tbFold hI O Y Y Y ?_
    have hids : acc.Perm (((ED (AY ω es i).1 e.2.1 ((Ap e.1).take j)).filter fun w => decide (w.2 = ((Ap e.1)[j], e.2.1))).map (·.1)) := by rw [hacc]; exact (hp12.symm.map _).trans (Ps hI hal)
    refine .ex Y Y (.nt (.seq (.condF Y (.xe (.seq (.seq ?_))))))
    have hand : acc.Nodup := hids.nodup_iff.2 (MD hI)
    have hamem : ∀ x, (x, ((Ap e.1)[j], e.2.1)) ∈ (ED (AY ω es i).1 e.2.1 ((Ap e.1).take j)) ↔ x ∈ acc := fun x => (Qp _ _ _).trans hids.mem_iff.symm
    have halen : acc.length ≤ 1048576 := by have h1 := hids.length_eq; have h2 := length_filter_le (fun w : Wt => decide (w.2 = ((Ap e.1)[j], e.2.1))) (ED (AY ω es i).1 e.2.1 ((Ap e.1).take j)); rw [length_map] at h1; have h3 : (ED (AY ω es i).1 e.2.1 ((Ap e.1).take j)).length ≤ (AY ω es i).1.length := length_filter_le _ _; omega
    refine .tbCast (ω' := GK (ED (AY ω es i).1 e.2.1 ((Ap e.1).take j)) ((Ap e.1)[j], e.2.1) (acc.take 0)) O (by rw [take_zero, OJ]) (.region (.m Y (.q (.slen Y underlying86 Y) Y (.m Y (.nt (.block (.loopK (ι := Nat) (fun q E => (53, AA q) :: E) (fun q => [LB t (GK (ED (AY ω es i).1 e.2.1 ((Ap e.1).take j)) ((Ap e.1)[j], e.2.1) (acc.take q))]) (fun q => q ≤ acc.length) (fun q => acc.length - q) (0) (ts := [0, 4, 5, 7, 8, 10, 11, 12, 18, 19, 20, 21, 22, 23, 24, 25, 26, 27, 28, 29, 30, 31, 32, 33, 34, 35, 36, 37, 38, 39, 40, 41, 42, 43, 44, 51, 52]) O (Nat.zero_le _) O O ?_)))))))
    rintro i2 hi2b
    refine .sr (.ui Y Y Y (.nt (.seq (.condD Y (fun h54 => ?_) (fun h54 => ?_)))))
    ·have hi3 : i2 < acc.length := by omega
     refine .slShape (v := .slice av _ cv) O om fun bl cl' e0 ml _ => ?_
     simp only [Value.slice.injEq, true_and] at e0
     obtain ⟨rfl, rfl⟩ := e0
     refine .sk (.seq (.block (.sr (.q (.indexAddr Y Y GJ om) Y (.q (.loadSl (v := AA acc[i2]) (i := i2 * 1) Y AR O (by simp [hi3])) Y (.an Y (.region (.m Y (.q (.loadAs (vs := [AA (Ap e.1)[j], AE e.2.1]) Y Db O (by simp) Y) Y (.m Y (.cv func74 [_, _, _] (MY t (GK (ED (AY ω es i).1 e.2.1 ((Ap e.1).take j)) ((Ap e.1)[j], e.2.1) (acc.take i2)) ((Ap e.1)[j], e.2.1) acc[i2] (VS ((hamem _).2 (getElem_mem hi3)) (J8 hand hi3))) ?_)))))))))))
     refine .nil (.blk_n (.then_n (.region (.q (.add Y Y om) Y (.m Y (.nt ?_))))))
     rw [SB, ← take_succ_eq_append_getElem hi3]
     exact .rk (i2 + 1) om om O
    have hii : i2 = acc.length := by omega
    rw [hii, take_length, OI (fun x hx => (hamem x).1 hx), ← take_succ_eq_append_getElem hj2]
    refine .xe (.region (.m Y (.m Y (.oq (.append (n := who.length) (m := acc.length) (ys := Dw acc) (p := Af 3 1 (.slice av acc.length cv) acc.length (Dw acc)) Y Y Y GJ (.inl ⟨_, underlying86⟩) F8 Y Y ?hc86 ?hr87 ?hb88 dQ) ?_))))
    case hc86 => intro y hy; obtain ⟨c, -, rfl⟩ := mem_map.1 hy; rfl
    case hr87 => exact fun h hp => Aa hp
    case hb88 => omega
    rintro v L' ⟨⟨a20, c20, rfl⟩, rfl⟩
    refine .a Y (.nil (.blk_n (.then_n (.region (.q (.add Y Y om) Y (.m Y (.nt ?_)))))))
    rw [show Dw who ++ Dw acc = Dw (who ++ acc) by simp [Dw], show who.length + acc.length = (who ++ acc).length by simp]
    exact .rk ((j + 1, .slice a20 (who ++ acc).length c20, who ++ acc)) (⟨by dsimp only; omega, by dsimp only; rw [take_succ_eq_append_getElem hj2]; exact (hwho.append hids).trans (Nv _ _ (J8 hkn hj2)).symm, _, _, rfl⟩) (by dsimp only; omega) O
   have hzl : l.length ≤ 1048576 := by have h1 := (Ps hI hal).length_eq; dsimp only at h1; rw [length_map, length_map] at h1; have h2 := length_filter_le (fun w : Wt => decide (w.2 = ((Ap e.1)[j], e.2.1))) (ED (AY ω es i).1 e.2.1 ((Ap e.1).take j)); have h3 : (ED (AY ω es i).1 e.2.1 ((Ap e.1).take j)).length ≤ (AY ω es i).1.length := length_filter_le _ _; omega
   refine .ex Y Y (.nt (.seq (.condT Y (.sk (.block (.sr (.q (.entryE (v := .tuple #[AA z.1, Lb z.2]) Y O Y) Y (.ex Y Y (.an Y (.region (.m Y (.m Y (.oq (.buildSlice1 (vs := [_]) GJ F8 Y Y Y Y Y dQ) ?_)))))))))))))
   rintro v L' ⟨b14_2, rfl, rfl⟩
   refine .oq (.append1 Y Y Y GJ F8 Y Y ?c99 ?c100 (Nat.le_refl _) ?c101 dQ) ?_
   case c99 => (first | (simp [AB]; done) | (simp [AB, AW, Value.cells]; done))
   case c100 => rfl
   case c101 => omega
   rintro v L' ⟨⟨a14_3, c14_3, rfl⟩, rfl⟩
   refine .a Y (.nil (.blk_n (.then_n ?_)))
   have hl2 := hp12.length_eq
   simp at hl2
   rw [show Dw acc ++ [AA z.1] = Dw (acc ++ [z.1]) by simp [Dw], show acc.length + 1 = (acc ++ [z.1]).length by simp]
   exact .rk ((s ++ [z], .slice a14_3 (acc ++ [z.1]).length c14_3, acc ++ [z.1])) (⟨by dsimp only; simp [hacc], ⟨_, by simpa using hp12⟩, _, _, rfl⟩) (by dsimp only; simp; omega) O
  have hjj : j = (Ap e.1).length := by omega
  rw [hjj, take_length, Zc]
  rw [hjj, take_length, Yy] at hwho
  have htw : Hc (C6 who) = (C2 (AY ω es i).1 e.1 e.2.1) := by unfold C2; rw [NY hwho]
  have htl := Qt (AY ω es i).1 e.1 e.2.1
  refine .xe (.sm Y (.oq (.call func70 Y Y (vs := [_]) Y (R7 _ who.length who om)) ?_))
  rintro v L' ⟨rfl, rfl⟩
  refine .nt (.sm Y (.oq (.call func75 Y Y (vs := [_]) Y (R2 _ who.length (C6 who) om)) ?_))
  rintro v L' ⟨⟨ac, cc, rfl⟩, rfl⟩; rw [htw]
  refine .q (.slen Y underlying86 Y) Y (.m Y (.nt (.block (.slCast (T := 127) (sz := 4) (m' := ((AY ω es i).2 ++ ((C2 (AY ω es i).1 e.1 e.2.1).take 0).map fun x => (x, e)).length) (xs' := ((AY ω es i).2 ++ ((C2 (AY ω es i).1 e.1 e.2.1).take 0).map fun x => (x, e)).flatMap KO) O (by simp) (by simp) (.loopK (ι := Nat × Value) (fun q E => (71, AA q.1) :: (5, q.2) :: E) (fun q => [Af 127 4 q.2 ((AY ω es i).2 ++ ((C2 (AY ω es i).1 e.1 e.2.1).take q.1).map fun x => (x, e)).length (((AY ω es i).2 ++ ((C2 (AY ω es i).1 e.1 e.2.1).take q.1).map fun x => (x, e)).flatMap KO)]) (fun q => q.1 ≤ (C2 (AY ω es i).1 e.1 e.2.1).length ∧ ∃ a c, q.2 = .slice a ((AY ω es i).2 ++ ((C2 (AY ω es i).1 e.1 e.2.1).take q.1).map fun x => (x, e)).length c) (fun q => (C2 (AY ω es i).1 e.1 e.2.1).length - q.1) (0, .slice au (AY ω es i).2.length cu) (ts := [0, 4, 7, 8, 18, 19, 20, 21, 22, 23, 24, 25, 26, 27, 28, 29, 66, 68, 69, 70]) O (⟨Nat.zero_le _, au, cu, by simp⟩) O O ?_)))))
  rintro ⟨k, u2⟩ ⟨hk, au2, cu2, hu2⟩
  dsimp only
  dsimp only at hk hu2
  subst hu2
  have hoal : ((AY ω es i).2 ++ ((C2 (AY ω es i).1 e.1 e.2.1).take k).map fun x => (x, e)).length = (AY ω es i).2.length + k := by rw [length_append, length_map, length_take]; omega
  refine .sr (.ui Y Y Y (.nt (.seq (.condD Y (fun h72 => ?_) (fun h72 => ?_)))))
  ·have hk2 : k < (C2 (AY ω es i).1 e.1 e.2.1).length := by omega
   refine .slShape (v := .slice ac _ cc) O om fun bc cc' e0 mc _ => ?_
   simp only [Value.slice.injEq, true_and] at e0
   obtain ⟨rfl, rfl⟩ := e0
   refine .sk (.seq (.block (.sr (.q (.indexAddr Y Y GJ om) Y (.q (.loadSl (v := AA (C2 (AY ω es i).1 e.1 e.2.1)[k]) (i := k * 1) Y AR O (by simp [hk2])) Y (.an Y (.region (.m Y (.m Y (.q (.loadAs (vs := [AA e.1, AE e.2.1, AA e.2.2]) Y EK O (by simp) Y) Y (.q (.buildN (pl := [(0, 1), (1, 3)]) (us := [(0, AA (C2 (AY ω es i).1 e.1 e.2.1)[k]), (1, .agg ([AA e.1, AE e.2.1, AA e.2.2] : List Value).toArray)]) (cells := [AA (C2 (AY ω es i).1 e.1 e.2.1)[k], AA e.1, AE e.2.1, AA e.2.2]) underlying127 kQ PL Y Y) Y (.oq (.buildSlice (vs := [_]) TG PL Y Y Y Y cQ dQ) ?_))))))))))))
   rintro v L' ⟨b26_4, rfl, rfl⟩
   refine .oq (.append1 Y Y Y TG PL Y Y ?c120 ?c121 (Nat.le_refl _) ?c122 dQ) ?_
   case c120 => (first | (simp [AB]; done) | (simp [AB, AW, Value.cells]; done))
   case c121 => rfl
   case c122 => omega
   rintro v L' ⟨⟨a26_5, c26_5, rfl⟩, rfl⟩
   refine .a Y (.nil (.blk_n (.then_n (.region (.q (.add Y Y om) Y (.m Y (.nt ?_)))))))
   have hstep : ((AY ω es i).2 ++ ((C2 (AY ω es i).1 e.1 e.2.1).take (k + 1)).map fun x => (x, e)) = ((AY ω es i).2 ++ ((C2 (AY ω es i).1 e.1 e.2.1).take k).map fun x => (x, e)) ++ [((C2 (AY ω es i).1 e.1 e.2.1)[k], e)] := by rw [take_succ_eq_append_getElem hk2, map_append, ← append_assoc]; rfl
   rw [show ((AY ω es i).2 ++ ((C2 (AY ω es i).1 e.1 e.2.1).take k).map fun x => (x, e)).flatMap KO ++ (List.map (fun v => v.cells.toList) [Value.agg [AA (C2 (AY ω es i).1 e.1 e.2.1)[k], AA e.1, AE e.2.1, AA e.2.2].toArray]).flatten = ((AY ω es i).2 ++ ((C2 (AY ω es i).1 e.1 e.2.1).take (k + 1)).map fun x => (x, e)).flatMap KO by rw [hstep]; simp [KO, Value.cells], show ((AY ω es i).2 ++ ((C2 (AY ω es i).1 e.1 e.2.1).take k).map fun x => (x, e)).length + 1 = ((AY ω es i).2 ++ ((C2 (AY ω es i).1 e.1 e.2.1).take (k + 1)).map fun x => (x, e)).length by rw [hstep, length_append (bs := [_])]; rfl]
   exact .rk ((k + 1, .slice a26_5 ((AY ω es i).2 ++ ((C2 (AY ω es i).1 e.1 e.2.1).take (k + 1)).map fun x => (x, e)).length c26_5)) (⟨by dsimp only; omega, _, _, rfl⟩) (by dsimp only; omega) O
  have hkk : k = (C2 (AY ω es i).1 e.1 e.2.1).length := by omega
  rw [hkk, take_length]
  refine .tbCast (ω' := (AY ω es (i + 1)).1) O (by rw [Fq hes]) (.slCast (T := 127) (sz := 4) (m' := (AY ω es (i + 1)).2.length) (xs' := (AY ω es (i + 1)).2.flatMap KO) O (by rw [Fq hes]) (by rw [Fq hes]) (.exit (.then_e (.then_e (.blk_e (.blk_n (.then_n (.region (.q (.add Y Y om) Y (.m Y (.nt ?_)))))))))))
  exact .rk ((i + 1, _)) (⟨by dsimp only; omega, _, _, by rw [Fq hes]⟩) (by dsimp only; omega) O
 have hii : i = es.length := by omega
 subst hii
 refine .xe (.sm Y (.an Y (.ret ?_)))
 exact .dn Y Y ⟨_, _, Y, Y⟩
abbrev If := Int × (Bs × (Int × (Int × Int)))
def Mr (a : If) : List Value := [AA a.1, AE a.2.1, AA a.2.2.1, AA a.2.2.2.1, AA a.2.2.2.2]
structure Tz (p : HP) (v : Value) (xs : List If) : Prop where
 cells : ∀ h : Hp, p h → Cx 5 h v xs.length (xs.flatMap Mr)
 len : xs.length ≤ 1048576
 paths : ∀ a ∈ xs, a.2.1.length ≤ 1048576
/-! ### Structs compared -/
/-! ### The first example -/
/-! ### Gone -/
/-! ### Once -/
/-! ### Apart -/
def CH (τ : Tr) (a : If) : Ev × Bool :=
 if a.1 = 2 then ((1, (a.2.1, (AS τ a.2.1).cz)), decide (AQ τ a.2.1))
 else if ¬ AQ τ a.2.1 ∨ (AS τ a.2.1).cz ≠ a.2.2.1 then ((2, (a.2.1, τ.zx)), true)
 else if a.1 = 3 then ((4, (a.2.1, (AS τ a.2.1).pz)), decide ((AS τ a.2.1).pz ≠ a.2.2.2.2))
 else ((3, (a.2.1, (AS τ a.2.1).mz)), decide ((AS τ a.2.1).mz ≠ a.2.2.2.1))
def KJ (τ : Tr) (s : Int) (r : List Wt × List Ev) (a : If) : List Wt × List Ev :=
 if ¬ JU a.1 a.2.1 then r else if (CH τ a).2 = false then ((addW r.1 s a.1 a.2.1).1, r.2) else if (CH τ a).1 ∈ r.2 then r else (r.1, r.2 ++ [(CH τ a).1])
def Bg (τ : Tr) (s : Int) (ω : List Wt) (l : List If) : List Wt × List Ev := l.foldl (KJ τ s) (ω, [])
theorem G1 (τ : Tr) (s : Int) (ω : List Wt) {l : List If} {i : Nat} (hi : i < l.length) : Bg τ s ω (l.take (i + 1)) = KJ τ s (Bg τ s ω (l.take i)) l[i] := by
 unfold Bg; rw [take_succ_eq_append_getElem hi, foldl_append]; rfl
theorem YS (τ : Tr) (s : Int) (r : List Wt × List Ev) (a : If) : (KJ τ s r a).2.length ≤ r.2.length + 1 := by
 unfold KJ
 split
 ·omega
 ·split
  ·show r.2.length ≤ _; omega
  ·split
   ·omega
   ·simp
theorem Jg (τ : Tr) (s : Int) (ω : List Wt) (l : List If) : ∀ i, i ≤ l.length → (Bg τ s ω (l.take i)).2.length ≤ i
 | 0, _ => by rw [take_zero]; exact Nat.le_refl _
 | i + 1, hi => by
  rw [G1 τ s ω om]
  have h1 := YS τ s (Bg τ s ω (l.take i)) l[i]
  have h2 := Jg τ s ω l i om
  omega
theorem Sp (xs : List Ev) (e : Ev) (v : Value) (h1 : xs.length ≤ 4611686018427387904) : Fn prog 180 #[v, .agg (BV e).toArray] [Af 50 3 v xs.length (xs.flatMap BV)] fun r L => ∃ k : Int, r = AA k ∧ (0 ≤ k ↔ e ∈ xs) ∧ L = [Af 50 3 v xs.length (xs.flatMap BV)] := by
 refine Fn.intro func180 Y Y fun F W => ?_
 refine .slAny (v := v) O fun aa ca e0 _ => ?_
 subst e0
 refine .sr (.oq (.box Y) ?_)
 rintro v L' ⟨b3, rfl, rfl⟩
 refine .a Y (.nil (.ptCast (b := b3) (l' := BV e) O Y ?_))
 refine .then_n (.seq (.sm Y (.q (.slen Y underlying47 Y) Y (.m Y (.nt (.block (.loopK (ι := Nat) (fun q E => (8, AA q) :: E) (fun q => []) (fun q => q ≤ xs.length ∧ e ∉ xs.take q) (fun q => xs.length - q) (0) (ts := [0, 3, 7]) O (⟨Nat.zero_le _, by simp⟩) O O ?_)))))))
 rintro i ⟨hi, hno⟩
 refine .sr (.ui Y Y Y (.nt (.seq (.condD Y (fun h9 => ?_) (fun h9 => ?_)))))
 ·have hi2 : i < xs.length := by omega
  refine .slShape (v := .slice aa _ ca) O om fun ba ba' e0 mba _ => ?_
  simp only [Value.slice.injEq, true_and] at e0
  obtain ⟨rfl, rfl⟩ := e0
  refine .sk (.seq (.block (.sm Y (.an Y (.seq (.draw [] [[0, 1, 2, 3, 4, 5]] mixed kQ (.g0 (.kv Y (.loadAs (vs := BV e) Y EK O (by simp [BV]) Y) (.mv Y Y (.mv Y Y (.kv Y (.indexAddr Y Y DP om) (.kv Y (.loadRdA (sz := 3) (j := i * 3) (k := 3) (p := Af 50 3 _ xs.length (xs.flatMap BV)) (vs := BV xs[i]) Y EK O (fun h hp => Aa hp) (by simp) om om (A5 (f := BV) (sz := 3) (fun _ _ => Y) om)) (.kv Y (.structEq (r := decide (e = xs[i])) Y Y kQ (AB5 9998 _ _)) (.pf (.condD Y (fun h16 => ?_) (fun h16 => ?_))))))))))))))))
  ·refine .sm Y (.an Y (.ret (.blk_r (.then_r (.then_r (.blk_r (.then_r ?_)))))))
   exact .dn Y Y ⟨i, Y, ⟨fun _ => by rw [h16]; exact getElem_mem hi2, fun _ => by omega⟩, rfl⟩
  refine .skip (.blk_n (.then_n (.region (.q (.add Y Y om) Y (.m Y (.nt ?_))))))
  exact .rk (i + 1) (⟨by omega, by rw [take_succ_eq_append_getElem hi2, mem_append, mem_singleton]; rintro (g | g); exact hno g; exact h16 g⟩) om O
 refine .xe (.sr (.an Y (.ret ?_)))
 exact .dn Y Y ⟨-1, Y, ⟨fun g => absurd g dQ, fun g => absurd g (by have hii : i = xs.length := om; rw [hii, take_length] at hno; exact hno)⟩, Y⟩
theorem Sa (xs : List Ev) (e : Ev) (v : Value) (h1 : xs.length ≤ 4611686018427387904) : Fn prog 100 #[v, .agg (BV e).toArray] [Af 50 3 v xs.length (xs.flatMap BV)] fun r L => r = .bool (decide (e ∈ xs)) ∧ L = [Af 50 3 v xs.length (xs.flatMap BV)] := by
 refine Fn.intro func100 Y Y fun F W => ?_
 refine .sr (.oq (.box Y) ?_)
 rintro v L' ⟨b3, rfl, rfl⟩
 refine .a Y (.nil (.ptCast (b := b3) (l' := BV e) O Y ?_))
 refine .then_n (.sm Y (.q (.loadAs (vs := BV e) Y EK O (by simp [BV]) Y) Y (.oq (.c func180 [_, _] (Sp xs e v h1)) ?_)))
 rintro r L' ⟨k, rfl, hk, rfl⟩
 refine .ui Y Y Y (.an Y (.ret ?_))
 exact .dn Y Y ⟨congrArg Value.bool (decide_eq_decide.2 hk), Y⟩
theorem Qu (t : Nat) (τ : Tr) (a : If) (N : Nat) (ho : τ.Ok N) (hN : N ≤ 1099511627776) : Fn prog 99 #[AI t, .agg (Mr a).toArray] [AZ t τ] fun v L => v = .tuple #[.agg (BV (CH τ a).1).toArray, .bool (CH τ a).2] ∧ L = [AZ t τ] := by
 refine Fn.intro func99 Y Y fun F W => ?_
 refine .sr (.oq (.box Y) ?_)
 rintro v L' ⟨b3, rfl, rfl⟩
 refine .oq (.allocA Bt) ?_
 rintro v L' ⟨b4, rfl, rfl⟩
 refine .a Y (.nil (.ptCast (b := b3) (l' := Mr a) O Y ?_))
 refine .then_n (.sr ?_)
 rcases Decidable.em (AQ τ a.2.1) with hth | hth
 ·refine .m Y (.fa Y Gy (.u (.ld Y Ak) (.oq (.c func76 [_, _] (BY t τ a.2.1 N ho om)) ?_)))
  rintro v L' ⟨rfl, rfl⟩; rw [decide_eq_true hth]
  refine .m Y (.ex Y Y (.ex Y Y (.oq (.allocA DQ) ?_)))
  rintro v L' ⟨b6, rfl, rfl⟩
  refine .sa Y Y DB (by simp [B6, AB]) ?_
  refine .a Y (.nil (.ptCast (b := b6) (l' := B6 (AS τ a.2.1)) O Y ?_))
  refine .then_n (.sr (.fa Y Gy (.u (.ld Y Ak) (.q (.to (v' := .agg (BV ((0, (a.2.1, 0)) : Ev)).toArray) (.build (us := [(1, _)]) Fa Bt Y Y (by simp [AB])) Y) Y (.oq (.allocA Bt) ?_)))))
  rintro v L' ⟨b8, rfl, rfl⟩
  refine .sa Y Y Iq (by simp [BV, AB]) ?_
  refine .nil (.ptCast (b := b8) (l' := [AA 0, AE a.2.1, AA 0]) O Y ?_)
  refine .then_n (.sr (.an Y (.seq (.block (.sr (.fa Y H0 (.u (.ld Y AR) (.ui Y Y Y (.an Y (.condD Y (fun h29 => ?_) (fun h29 => ?_)))))))))))
  ·refine .draw [4, 6] [[0, 1, 2, 3, 4, 5, 6], [7]] mixed kQ (.go [Ad b6 _ _] O (.k Y (.fieldAddr Y PP) (.k Y (.ld Y AR) (.k Y (.move Y) (.kv Y (.fieldAddr Y HV) (.hh Y (.store Y Y Y CC ?c37 (Bb _ _)) ?_))))))
   case c37 => first | decide | (simp; omega) | simp
   rintro v L' rfl
   refine D.kv Y (.fieldAddr Y Ib) (.hh Y (.store Y Y Y CC ?c41 (Bb _ _)) ?_)
   case c41 => first | decide | (simp; omega) | simp
   rintro v L' rfl
   refine D.ph (.g0 (.kv Y (.assign Y) (.ph (.fin (.blk_n (.then_n (.sr (.q (.loadA Y EK O (by simp)) Y (.m Y (.sa Y Y Iq (by simp [BV, AB]) ?_))))))))))
   refine .an Y (.ret ?_)
   have hz : CH τ a = ((1, (a.2.1, (AS τ a.2.1).cz)), true) := by unfold CH; rw [if_pos h29, decide_eq_true hth]
   rw [hz]
   refine .pc b4 (BV ((1, (a.2.1, (AS τ a.2.1).cz)), true).1) ?_
   exact .d2 Y (.cellA Y EK O (by simp [BV]) Y) (.tmp Y) ⟨Y, Y⟩
  refine .sm Y (.u (.not Y) (.m Y (.gr (.fa Y PP (.gr (.u (.ld Y AR) (.gr (.fa Y YN (.gr (.u (.ld Y AR) (.gr (.ui Y Y Y (.pF Y Y (.an Y (.condN Y (fun h38 => ?_) (fun h38 => ?_))))))))))))))))
  ·refine .region (.m Y (.cv func29 [_] (Cb t τ) ?_))
   refine .fa Y HV (.st Y Y Y CC ?_)
   refine .fa Y Ib (.st Y Y Y CC ?_)
   refine .a Y (.nil (.blk_n (.then_n (.sr (.q (.loadA Y EK O (by simp)) Y (.m Y (.sa Y Y Iq (by simp [BV, AB]) ?_)))))))
   refine .an Y (.ret ?_)
   have hz : CH τ a = ((2, (a.2.1, τ.zx)), true) := by unfold CH; rw [if_neg h29, if_pos (by first | exact .inl hth | exact .inr h38 | exact .inr (by simpa using h38))]
   rw [hz]
   refine .pc b4 (BV ((2, (a.2.1, τ.zx)), true).1) ?_
   exact .d2 Y (.cellA Y EK O (by simp [BV]) Y) (.tmp Y) ⟨Y, Y⟩
  refine .sr (.fa Y H0 (.u (.ld Y AR) (.ui Y Y Y (.an Y (.condD Y (fun h52 => ?_) (fun h52 => ?_))))))
  ·refine .draw [8, 10] [[0, 1, 2, 3, 4, 5, 6, 7, 8, 9, 10], [11]] mixed kQ (.go [Ad b6 _ _, Ad b3 _ _] O (.k Y (.fieldAddr Y L5) (.k Y (.ld Y AR) (.k Y (.fieldAddr Y L5) (.k Y (.ld Y AR) (.k Y (.fieldAddr Y WM) (.k Y (.ld Y AR) (.k Y (.int Y Y Y) (.kv Y (.fieldAddr Y HV) (.hh Y (.store Y Y Y CC ?c85 (Bb _ _)) ?_))))))))))
   case c85 => first | decide | (simp; omega) | simp
   rintro v L' rfl
   refine D.kv Y (.fieldAddr Y Ib) (.hh Y (.store Y Y Y CC ?c89 (Bb _ _)) ?_)
   case c89 => first | decide | (simp; omega) | simp
   rintro v L' rfl
   refine D.ph (.g0 (.kv Y (.assign Y) (.ph (.fin (.blk_n (.then_n (.sr (.q (.loadA Y EK O (by simp)) Y (.m Y (.sa Y Y Iq (by simp [BV, AB]) ?_))))))))))
   refine .an Y (.ret ?_)
   have hz : CH τ a = ((4, (a.2.1, (AS τ a.2.1).pz)), !decide ((AS τ a.2.1).pz = a.2.2.2.2)) := by unfold CH; rw [if_neg h29, if_neg (by rintro (g | g); exact g hth; exact g h38), if_pos h52, decide_not]
   rw [hz]
   refine .pc b4 (BV ((4, (a.2.1, (AS τ a.2.1).pz)), !decide ((AS τ a.2.1).pz = a.2.2.2.2)).1) ?_
   exact .d2 Y (.cellA Y EK O (by simp [BV]) Y) (.tmp Y) ⟨Y, Y⟩
  refine .draw [8, 10] [[0, 1, 2, 3, 4, 5, 6, 7, 8, 9, 10], [11]] mixed kQ (.go [Ad b6 _ _, Ad b3 _ _] O (.k Y (.fieldAddr Y MA) (.k Y (.ld Y AR) (.k Y (.fieldAddr Y MA) (.k Y (.ld Y AR) (.k Y (.fieldAddr Y W9) (.k Y (.ld Y AR) (.k Y (.int Y Y Y) (.kv Y (.fieldAddr Y HV) (.hh Y (.store Y Y Y CC ?c106 (Bb _ _)) ?_))))))))))
  case c106 => first | decide | (simp; omega) | simp
  rintro v L' rfl
  refine D.kv Y (.fieldAddr Y Ib) (.hh Y (.store Y Y Y CC ?c110 (Bb _ _)) ?_)
  case c110 => first | decide | (simp; omega) | simp
  rintro v L' rfl
  refine D.ph (.g0 (.kv Y (.assign Y) (.ph (.fin (.blk_n (.then_n (.sr (.q (.loadA Y EK O (by simp)) Y (.m Y (.sa Y Y Iq (by simp [BV, AB]) ?_))))))))))
  refine .an Y (.ret ?_)
  have hz : CH τ a = ((3, (a.2.1, (AS τ a.2.1).mz)), !decide ((AS τ a.2.1).mz = a.2.2.2.1)) := by unfold CH; rw [if_neg h29, if_neg (by rintro (g | g); exact g hth; exact g h38), if_neg h52, decide_not]
  rw [hz]
  refine .pc b4 (BV ((3, (a.2.1, (AS τ a.2.1).mz)), !decide ((AS τ a.2.1).mz = a.2.2.2.1)).1) ?_
  exact .d2 Y (.cellA Y EK O (by simp [BV]) Y) (.tmp Y) ⟨Y, Y⟩
 refine .m Y (.fa Y Gy (.u (.ld Y Ak) (.oq (.c func76 [_, _] (BY t τ a.2.1 N ho om)) ?_)))
 rintro v L' ⟨rfl, rfl⟩; rw [decide_eq_false hth]
 refine .m Y (.ex Y Y (.ex Y Y (.oq (.allocA DQ) ?_)))
 rintro v L' ⟨b6, rfl, rfl⟩
 refine .sa Y Y DB (by simp [B6, AB]) ?_
 refine .a Y (.nil (.ptCast (b := b6) (l' := B6 (AS τ a.2.1)) O Y ?_))
 refine .then_n (.sr (.fa Y Gy (.u (.ld Y Ak) (.q (.to (v' := .agg (BV ((0, (a.2.1, 0)) : Ev)).toArray) (.build (us := [(1, _)]) Fa Bt Y Y (by simp [AB])) Y) Y (.oq (.allocA Bt) ?_)))))
 rintro v L' ⟨b8, rfl, rfl⟩
 refine .sa Y Y Iq (by simp [BV, AB]) ?_
 refine .nil (.ptCast (b := b8) (l' := [AA 0, AE a.2.1, AA 0]) O Y ?_)
 refine .then_n (.sr (.an Y (.seq (.block (.sr (.fa Y H0 (.u (.ld Y AR) (.ui Y Y Y (.an Y (.condD Y (fun h29 => ?_) (fun h29 => ?_)))))))))))
 ·refine .draw [4, 6] [[0, 1, 2, 3, 4, 5, 6], [7]] mixed kQ (.go [Ad b6 _ _] O (.k Y (.fieldAddr Y PP) (.k Y (.ld Y AR) (.k Y (.move Y) (.kv Y (.fieldAddr Y HV) (.hh Y (.store Y Y Y CC ?c150 (Bb _ _)) ?_))))))
  case c150 => first | decide | (simp; omega) | simp
  rintro v L' rfl
  refine D.kv Y (.fieldAddr Y Ib) (.hh Y (.store Y Y Y CC ?c154 (Bb _ _)) ?_)
  case c154 => first | decide | (simp; omega) | simp
  rintro v L' rfl
  refine D.ph (.g0 (.kv Y (.assign Y) (.ph (.fin (.blk_n (.then_n (.sr (.q (.loadA Y EK O (by simp)) Y (.m Y (.sa Y Y Iq (by simp [BV, AB]) ?_))))))))))
  refine .an Y (.ret ?_)
  have hz : CH τ a = ((1, (a.2.1, (AS τ a.2.1).cz)), false) := by unfold CH; rw [if_pos h29, decide_eq_false hth]
  rw [hz]
  refine .pc b4 (BV ((1, (a.2.1, (AS τ a.2.1).cz)), false).1) ?_
  exact .d2 Y (.cellA Y EK O (by simp [BV]) Y) (.tmp Y) ⟨Y, Y⟩
 refine .sm Y (.u (.not Y) (.m Y (.gk (.gk (.gk (.gk (.gk (.pT Y Y (.an Y (.condT Y (.region (.m Y (.cv func29 [_] (Cb t τ) ?_)))))))))))))
 refine .fa Y HV (.st Y Y Y CC ?_)
 refine .fa Y Ib (.st Y Y Y CC ?_)
 refine .a Y (.nil (.blk_n (.then_n (.sr (.q (.loadA Y EK O (by simp)) Y (.m Y (.sa Y Y Iq (by simp [BV, AB]) ?_)))))))
 refine .an Y (.ret ?_)
 have hz : CH τ a = ((2, (a.2.1, τ.zx)), true) := by unfold CH; rw [if_neg h29, if_pos (by first | exact .inl hth | exact .inr h38 | exact .inr (by simpa using h38))]
 rw [hz]
 refine .pc b4 (BV ((2, (a.2.1, τ.zx)), true).1) ?_
 exact .d2 Y (.cellA Y EK O (by simp [BV]) Y) (.tmp Y) ⟨Y, Y⟩
theorem Vl (t u : Nat) (ω : List Wt) (τ : Tr) (s : Int) (va : Value) (l : List If) (p : HP) (hl : Tz p va l) (N : Nat) (ho : τ.Ok N) (hN : N ≤ 1099511627776) (h1 : 1 ≤ s) (hs : s ≤ 9223372036854775807) : Fn prog 54 #[AI t, AA s, AI u, va] [LB t ω, AZ u τ, p] fun v L => ∃ a c, v = .slice a (Bg τ s ω l).2.length c ∧ L = [LB t (Bg τ s ω l).1, AZ u τ, p, Af 50 3 v (Bg τ s ω l).2.length ((Bg τ s ω l).2.flatMap BV)] := by
 refine Fn.intro func54 Y Y fun F W => ?_
 refine .rdAny (p := p) hl.cells O fun aa ca e0 _ => ?_
 subst e0
 have hll := hl.len
 refine .sr (.an Y (.seq (.sm Y (.q (.as (v' := .bool false) (by simp; omega) (.int Y Y Y)) Y (.m Y (.gr (.m Y (.gr (.q (.as (v' := .bool false) (by rfl) (.ptreq Y Y underlying76)) Y (.pF Y Y (.nt (.condF Y (.sk (.seq (.add (AO 50 3) (.region (.an Y (.seq (.sm Y (.q (.slen Y underlying31 Y) Y (.m Y (.nt (.block (.tbCast (t := t) (ω' := (Bg τ s ω (l.take 0)).1) O (by rw [take_zero]; rfl) (.loopK (ι := Nat × Value) (fun q E => (22, AA q.1) :: (9, q.2) :: E) (fun q => [LB t (Bg τ s ω (l.take q.1)).1, Af 50 3 q.2 (Bg τ s ω (l.take q.1)).2.length ((Bg τ s ω (l.take q.1)).2.flatMap BV)]) (fun q => q.1 ≤ l.length ∧ ∃ a c, q.2 = .slice a (Bg τ s ω (l.take q.1)).2.length c) (fun q => l.length - q.1) (0, .slice none 0 0) (ts := [0, 1, 2, 8, 20, 21]) O (⟨Nat.zero_le _, none, 0, Y⟩) O O ?_)))))))))))))))))))))))))
 rintro ⟨i, w⟩ ⟨hi, au, cu, hw⟩
 dsimp only
 dsimp only at hi hw
 subst hw
 have hal := Jg τ s ω l i hi
 refine .sr (.ui Y Y Y (.nt (.seq (.condD Y (fun h23 => ?_) (fun h23 => ?_)))))
 ·have hi2 : i < l.length := by omega
  have hp1 := hl.paths _ (getElem_mem hi2)
  refine .rdShape (p := p) hl.cells O om fun bl ol e1 => ?_
  subst e1
  refine .sk (.seq (.block (.sr (.q (.indexAddr Y Y ABk om) Y (.q (.loadRdA (sz := 5) (j := i * 5) (k := 5) (p := p) (vs := Mr l[i]) Y WC O hl.cells (by simp) om om (A5 (f := Mr) (sz := 5) (fun _ _ => Y) om)) Y (.oq (.allocA ABb) ?_))))))
  rintro v L' ⟨b11, rfl, rfl⟩
  refine .sa Y Y AAp (by simp [Mr, AB]) ?_
  refine .nil (.pc b11 (Mr l[i]) ?_)
  refine .then_n (.seq (.sr (.fa Y H0 (.u (.ld Y AR) (.fa Y Gy (.u (.ld Y Ak) (.cv func98 [_, _] (QT l[i].1 l[i].2.1 hp1) ?_)))))))
  refine .u (.not Y) (.nt (.condB Y (fun h31 => ?_) (fun h31 => ?_)))
  ·have h31 : ¬ JU l[i].1 l[i].2.1 := by simpa using h31
   refine .exit (.then_e (.blk_e (.then_n (.region (.q (.add Y Y om) Y (.m Y (.nt ?_)))))))
   have hA : (Bg τ s ω (l.take (i + 1))) = (Bg τ s ω (l.take i)) := by rw [G1 τ s ω hi2]; unfold KJ; rw [if_pos h31]
   refine .tbCast (t := t) (ω' := (Bg τ s ω (l.take (i + 1))).1) O (by rw [hA]) ?_
   rw [show (Bg τ s ω (l.take i)).2.length = (Bg τ s ω (l.take (i + 1))).2.length by rw [hA]]
   refine .slCast (T := 50) (sz := 3) (m' := (Bg τ s ω (l.take (i + 1))).2.length) (xs' := (Bg τ s ω (l.take (i + 1))).2.flatMap BV) O (by exact rfl) (by rw [hA]) ?_
   exact .rk ((i + 1, .slice au (Bg τ s ω (l.take (i + 1))).2.length cu)) (⟨by dsimp only; omega, _, _, rfl⟩) (by dsimp only; omega) O
  have h31 : JU l[i].1 l[i].2.1 := by simpa using h31
  refine .sk (.sm Y (.q (.loadAs (vs := Mr l[i]) Y WC O (by simp [Mr]) Y) Y (.cv func99 [_, _] (Qu u τ l[i] N ho hN) ?_)))
  refine .m Y (.ex Y Y (.ex Y Y (.oq (.allocA Bt) ?_)))
  rintro v L' ⟨b12, rfl, rfl⟩
  refine .sa Y Y Iq (by simp [BV, AB]) ?_
  refine .a Y (.nil (.pc b12 (BV (CH τ l[i]).1) ?_))
  refine .then_n (.block (.sm Y (.u (.not Y) (.an Y (.condB Y (fun h38 => ?_) (fun h38 => ?_))))))
  ·have h38 : (CH τ l[i]).2 = false := by simpa using h38
   refine .region (.m Y (.m Y (.fa Y H0 (.u (.ld Y AR) (.fa Y Gy (.u (.ld Y Ak) (.cv func57 [_, _, _, _] (N9 t (Bg τ s ω (l.take i)).1 s l[i].1 l[i].2.1 hs hp1) ?_)))))))
   refine .nil (.blk_n (.blk_n (.then_n (.region (.q (.add Y Y om) Y (.m Y (.nt ?_)))))))
   have hA : (Bg τ s ω (l.take (i + 1))) = ((addW (Bg τ s ω (l.take i)).1 s l[i].1 l[i].2.1).1, (Bg τ s ω (l.take i)).2) := by rw [G1 τ s ω hi2]; unfold KJ; rw [if_neg (fun g => g h31), if_pos h38]
   refine .tbCast (t := t) (ω' := (Bg τ s ω (l.take (i + 1))).1) O (by rw [hA]) ?_
   rw [show (Bg τ s ω (l.take i)).2.length = (Bg τ s ω (l.take (i + 1))).2.length by rw [hA]]
   refine .slCast (T := 50) (sz := 3) (m' := (Bg τ s ω (l.take (i + 1))).2.length) (xs' := (Bg τ s ω (l.take (i + 1))).2.flatMap BV) O (by exact rfl) (by rw [hA]) ?_
   exact .rk ((i + 1, .slice au (Bg τ s ω (l.take (i + 1))).2.length cu)) (⟨by dsimp only; omega, _, _, rfl⟩) (by dsimp only; omega) O
  have h38 : (CH τ l[i]).2 = true := by simpa using h38
  refine .sm Y (.q (.loadAs (vs := BV (CH τ l[i]).1) Y EK O (by simp [BV]) Y) Y (.oq (.call func100 Y Y (vs := [_, _]) Y (Sa (Bg τ s ω (l.take i)).2 (CH τ l[i]).1 _ om)) ?_))
  rintro v L' ⟨rfl, rfl⟩
  refine .u (.not Y) (.an Y (.condB Y (fun h48 => ?_) (fun h48 => ?_)))
  ·have h48 : ¬ (CH τ l[i]).1 ∈ (Bg τ s ω (l.take i)).2 := by simpa using h48
   refine .region (.m Y (.q (.loadAs (vs := BV (CH τ l[i]).1) Y EK O (by simp [BV]) Y) Y (.oq (.buildSlice (vs := [_]) DP Bt Y Y Y Y cQ dQ) ?_)))
   rintro v L' ⟨b13, rfl, rfl⟩
   refine .oq (.append1 Y Y Y DP Bt Y Y ?c60 ?c61 (Nat.le_refl _) ?c62 dQ) ?_
   case c60 => simp only [map_cons, map_nil, flatten_cons, flatten_nil, append_nil]; simp [Value.cells, BV, AB]
   case c61 => rfl
   case c62 => omega
   rintro v L' ⟨⟨a12_3, c12_3, rfl⟩, rfl⟩
   refine .a Y (.nil (.blk_n (.blk_n (.then_n (.region (.q (.add Y Y om) Y (.m Y (.nt ?_))))))))
   have hA : (Bg τ s ω (l.take (i + 1))) = ((Bg τ s ω (l.take i)).1, (Bg τ s ω (l.take i)).2 ++ [(CH τ l[i]).1]) := by rw [G1 τ s ω hi2]; unfold KJ; rw [if_neg (fun g => g h31), if_neg (by rw [h38]; decide), if_neg h48]
   refine .tbCast (t := t) (ω' := (Bg τ s ω (l.take (i + 1))).1) O (by rw [hA]) ?_
   rw [show (Bg τ s ω (l.take i)).2.length + 1 = (Bg τ s ω (l.take (i + 1))).2.length by rw [hA]; simp]
   refine .slCast (T := 50) (sz := 3) (m' := (Bg τ s ω (l.take (i + 1))).2.length) (xs' := (Bg τ s ω (l.take (i + 1))).2.flatMap BV) O (by exact rfl) (by rw [hA]; rw [flatMap_append]; simp [Value.cells, BV]) ?_
   exact .rk ((i + 1, .slice a12_3 (Bg τ s ω (l.take (i + 1))).2.length c12_3)) (⟨by dsimp only; omega, _, _, rfl⟩) (by dsimp only; omega) O
  have h48 : (CH τ l[i]).1 ∈ (Bg τ s ω (l.take i)).2 := by simpa using h48
  refine .skip (.blk_n (.blk_n (.then_n (.region (.q (.add Y Y om) Y (.m Y (.nt ?_)))))))
  have hA : (Bg τ s ω (l.take (i + 1))) = (Bg τ s ω (l.take i)) := by rw [G1 τ s ω hi2]; unfold KJ; rw [if_neg (fun g => g h31), if_neg (by rw [h38]; decide), if_pos h48]
  refine .tbCast (t := t) (ω' := (Bg τ s ω (l.take (i + 1))).1) O (by rw [hA]) ?_
  rw [show (Bg τ s ω (l.take i)).2.length = (Bg τ s ω (l.take (i + 1))).2.length by rw [hA]]
  refine .slCast (T := 50) (sz := 3) (m' := (Bg τ s ω (l.take (i + 1))).2.length) (xs' := (Bg τ s ω (l.take (i + 1))).2.flatMap BV) O (by exact rfl) (by rw [hA]) ?_
  exact .rk ((i + 1, .slice au (Bg τ s ω (l.take (i + 1))).2.length cu)) (⟨by dsimp only; omega, _, _, rfl⟩) (by dsimp only; omega) O
 have hii : i = l.length := by omega
 rw [hii, take_length]
 refine .xe (.sm Y (.an Y (.ret ?_)))
 exact .dn Y Y ⟨_, _, Y, Y⟩
/-! ### Maps of slices -/
abbrev Sm (α : Type) := List (Int × (Value × List α))
def BS {α : Type} (m : Sm α) (s : Int) : Value × List α := (AD m s).getD (AF, [])
def SV {α : Type} (x : Value × List α) : Value := x.1
def Ws {α : Type} (m : Sm α) : List (Value × Value) := m.map fun x => (AA x.1, SV x.2)
theorem Fl {α : Type} {m : Sm α} {s : Int} (b : Value × List α) (h : AD m s = some b) : SV b = (BS m s).1 := by unfold BS SV; rw [h]; rfl
theorem Fo {α : Type} {m : Sm α} {s : Int} (h : AD m s = none) : Value.slice none 0 0 = (BS m s).1 := by unfold BS; rw [h]; rfl
theorem YY {α : Type} (m : Sm α) (s : Int) (w : Value × List α) (x : Int) : BS (BQ m s w) x = if x = s then w else BS m x := by
 unfold BS; rw [DG]; split <;> rfl
theorem YX {α : Type} {m : Sm α} (hn : (m.map (·.1)).Nodup) (s x : Int) : BS (BX m s) x = if x = s then (AF, []) else BS m x := by
 unfold BS; rw [GI hn]; split <;> rfl
def ET {β : Type} (f : Int → β) (s : Int) (v : β) : Int → β := fun x => if x = s then v else f x
theorem Ki {α : Type} {m : Sm α} {f : Int → List α} (h : ∀ x, f x = (BS m x).2) (s : Int) (w : Value × List α) (x : Int) : ET f s w.2 x = (BS (BQ m s w) x).2 := by
 unfold ET; rw [YY]; split
 ·rfl
 ·exact h x
theorem Kf {α : Type} {m : Sm α} (hn : (m.map (·.1)).Nodup) {f : Int → List α} (h : ∀ x, f x = (BS m x).2) (s : Int) (x : Int) : ET f s [] x = (BS (BX m s) x).2 := by
 unfold ET; rw [YX hn]; split
 ·rfl
 ·exact h x
def OE (x : Int × (Value × List Bs)) : HP := Af 9 1 x.2.1 x.2.2.length (A6 x.2.2)
def SR (x : Int × (Value × List Ev)) : HP := Af 50 3 x.2.1 x.2.2.length (x.2.2.flatMap BV)
theorem Z5 (s : Int) (h : Hp) : OE (s, (AF, [])) h := AO _ _ h
theorem Za (s : Int) (h : Hp) : SR (s, (AF, [])) h := AO _ _ h
section
variable {P : Program} {W : World} {n : Nat} {ds : List Deferred} {E : Bx} {L R : List HP} {X : Act → World → Prop} {α : Type} {f : Int × (Value × List α) → HP} {m : Sm α}
theorem G.smTake (s : Int) (h0 : ∀ h, f (s, (AF, [])) h) (hL : BJ (Ag f m) L R) (h : G W n ds E (f (s, BS m s) :: Ag f (BX m s) :: R) X) : G W n ds E L X := by
 rcases hb : AD m s with _ | b
 ·have e : BS m s = (AF, []) := by unfold BS; rw [hb]; rfl
  rw [e, EM hb] at h
  exact G.focus hL (G.add h0 h)
 ·have e : BS m s = b := by unfold BS; rw [hb]; rfl
  rw [e] at h
  exact G.bigTake hb hL h
theorem G.smBack (s : Int) {p : HP} (hp : p = f (s, BS m s)) (hL : BC [p, Ag f (BX m s)] L R) (h : G W n ds E (Ag f m :: R) X) : G W n ds E L X := by
 subst hp
 refine G.fold hL (fun w hw => ?_) h
 rcases hb : AD m s with _ | b
 ·rw [EM hb] at hw
  obtain ⟨h1, h2, hd, a1, a2, hq, g1, g2, gd, b1, b2, hr, -⟩ := hw
  exact EZ (EZ hr b1) a2
 ·have e : BS m s = b := by unfold BS; rw [hb]; rfl
  rw [e] at hw
  have := UT hw
  rwa [Ce hb] at this
end
section
variable {P : Program} {W : World} {n : Nat} {ds : List Deferred} {E : Bx} {L R : List HP} {X : Act → World → Prop}
theorem G.evTake {m : Sm Ev} (s : Int) (hL : BJ (Ag SR m) L R) (h : G W n ds E (Af 50 3 (BS m s).1 (BS m s).2.length ((BS m s).2.flatMap BV) :: Ag SR (BX m s) :: R) X) : G W n ds E L X := G.smTake s (Za s) hL h
theorem G.idTake {m : Sm Bs} (s : Int) (hL : BJ (Ag OE m) L R) (h : G W n ds E (Af 9 1 (BS m s).1 (BS m s).2.length (A6 (BS m s).2) :: Ag OE (BX m s) :: R) X) : G W n ds E L X := G.smTake s (Z5 s) hL h
theorem G.idBack {m : Sm Bs} (s : Int) (hL : BC [Af 9 1 (BS m s).1 (BS m s).2.length (A6 (BS m s).2), Ag OE (BX m s)] L R) (h : G W n ds E (Ag OE m :: R) X) : G W n ds E L X := G.smBack s rfl hL h
theorem G.evPut {m : Sm Ev} (s : Int) {v : Value} {k : Nat} {xs : List Value} (ys : List Ev) (hL : BC [Af 50 3 v k xs, Ag SR (BX m s)] L R) (hk : k = ys.length) (hx : xs = ys.flatMap BV) (h : G W n ds E (Ag SR (BQ m s (v, ys)) :: R) X) : G W n ds E L X := by
 subst hk; subst hx
 exact G.bigPut (f := SR) (m := m) s (v, ys) rfl hL h
theorem G.idPut {m : Sm Bs} (s : Int) {v : Value} {k : Nat} {xs : List Value} (ys : List Bs) (hL : BC [Af 9 1 v k xs, Ag OE (BX m s)] L R) (hk : k = ys.length) (hx : xs = A6 ys) (h : G W n ds E (Ag OE (BQ m s (v, ys)) :: R) X) : G W n ds E L X := by
 subst hk; subst hx
 exact G.bigPut (f := OE) (m := m) s (v, ys) rfl hL h
end
/-! ### The service -/
theorem G.evTakeS {W : World} {n : Nat} {ds : List Deferred} {E : Bx} {L R : List HP} {X : Act → World → Prop} {m : Sm Ev} (s : Int) (hL : BJ (Ag SR m) L R)
  (h : ∀ a c, (BS m s).1 = .slice a (BS m s).2.length c → G W n ds E (Af 50 3 (.slice a (BS m s).2.length c) (BS m s).2.length ((BS m s).2.flatMap BV) :: Ag SR (BX m s) :: R) X) : G W n ds E L X := by
 refine G.evTake s hL (G.slAny .here fun a c e _ => ?_)
 have := h a c e
 rw [← e] at this
 exact this
theorem G.idTakeS {W : World} {n : Nat} {ds : List Deferred} {E : Bx} {L R : List HP} {X : Act → World → Prop} {m : Sm Bs} (s : Int) (hL : BJ (Ag OE m) L R)
  (h : ∀ a c, (BS m s).1 = .slice a (BS m s).2.length c → G W n ds E (Af 9 1 (.slice a (BS m s).2.length c) (BS m s).2.length (A6 (BS m s).2) :: Ag OE (BX m s) :: R) X) : G W n ds E L X := by
 refine G.idTake s hL (G.slAny .here fun a c e _ => ?_)
 have := h a c e
 rw [← e] at this
 exact this
theorem G.forget {W : World} {n : Nat} {ds : List Deferred} {E : Bx} {L : List HP} {X : Act → World → Prop} {p : HP} (h : G W n ds E L X) : G W n ds E (p :: L) X := fun a w he hk hs => h a w he hk hs.tail
theorem G.idPost {W : World} {n : Nat} {ds : List Deferred} {E : Bx} {L R : List HP} {X : Act → World → Prop} {m m' : Sm Bs} {c : Prop} [Decidable c] {o : Int} (hm : m' = if c then BX m o else m) (hL : BJ (Ag OE m) L R) (h : G W n ds E (Ag OE m' :: R) X) : G W n ds E L X := by
 subst hm
 by_cases g : c
 ·rw [if_pos g] at h
  exact G.idTake o hL (G.forget h)
 ·rw [if_neg g] at h
  exact G.focus hL h
structure Pl where
 τ : Tr
 ω : List Wt
 ord : List En
 opened : Int
 ids : Int → List Bs
 ev : Int → List Ev
def Jx : Pl := ⟨Du, [], [], 0, fun _ => [], fun _ => []⟩
structure Lc (π : Pl) (mi : Sm Bs) (me : Sm Ev) : Prop where
 i1 : (mi.map (·.1)).Nodup
 e1 : (me.map (·.1)).Nodup
 i2 : ∀ s, π.ids s = (BS mi s).2
 e2 : ∀ s, π.ev s = (BS me s).2
structure Ve where
 t : Nat
 u : Nat
 rid : Nat
 rev : Nat
def Vv (k : Ve) (ov : Value) (o : Int) : List Value := [AI k.t, AI k.u, ov, AA o, .map (some k.rid), .map (some k.rev)]
abbrev Py (v : Value) (l : List En) : HP := Af 62 11 v l.length (l.flatMap DE)
structure PlX where
 ov : Value
 mi : Sm Bs
 me : Sm Ev
def plL (b : Nat) (k : Ve) (π : Pl) (x : PlX) : List HP := [Ad b (Vv k x.ov π.opened) 85, AZ k.t π.τ, LB k.u π.ω, Py x.ov π.ord, Ag entR π.ord, mapR k.rid (Ws x.mi), Ag OE x.mi, mapR k.rev (Ws x.me), Ag SR x.me]
def Pq (b : Nat) (k : Ve) (π : Pl) : HP := fun h => ∃ x : PlX, Lc π x.mi x.me ∧ CD (plL b k π x) h
section
variable {P : Program} {W : World} {n : Nat} {ds : List Deferred} {E : Bx} {L R : List HP} {X : Act → World → Prop}
theorem G.plOpen {b : Nat} {k : Ve} {π : Pl} (hL : BJ (Pq b k π) L R) (h : ∀ ov mi me, Lc π mi me → G W n ds E (Ad b (Vv k ov π.opened) 85 :: AZ k.t π.τ :: LB k.u π.ω :: Py ov π.ord :: Ag entR π.ord :: mapR k.rid (Ws mi) :: Ag OE mi :: mapR k.rev (Ws me) :: Ag SR me :: R) X) : G W n ds E L X :=
 G.focus hL (G.open (q := fun x : PlX => plL b k π x) (φ := fun x : PlX => Lc π x.mi x.me) (fun _ hp => hp) fun x hI => h x.ov x.mi x.me hI)
theorem G.plFold {b : Nat} {k : Ve} (π : Pl) {ov : Value} {mi : Sm Bs} {me : Sm Ev} {τ : Tr} {ω : List Wt} {ord : List En} {l : List Value} {e1 e2 : List (Value × Value)} (hI : Lc π mi me)
  (hL : BC [Ad b l 85, AZ k.t τ, LB k.u ω, Py ov ord, Ag entR ord, mapR k.rid e1, Ag OE mi, mapR k.rev e2, Ag SR me] L R) (hl : l = Vv k ov π.opened) (h1 : τ = π.τ) (h2 : ω = π.ω) (h3 : ord = π.ord) (h4 : e1 = Ws mi) (h5 : e2 = Ws me)
  (h : G W n ds E (Pq b k π :: R) X) : G W n ds E L X := by
 subst hl; subst h1; subst h2; subst h3; subst h4; subst h5
 exact G.fold hL (fun w hw => ⟨⟨ov, mi, me⟩, hI, hw⟩) h
end
def FQ (ev : Int → List Ev) (l : List Z1) : Int → List Ev := l.foldl (fun f x => ET f x.1 (f x.1 ++ [x.2])) ev
theorem VZ (ev : Int → List Ev) {l : List Z1} {i : Nat} (h : i < l.length) : FQ ev (l.take (i + 1)) = ET (FQ ev (l.take i)) l[i].1 (FQ ev (l.take i) l[i].1 ++ [l[i].2]) := by
 unfold FQ
 rw [take_succ_eq_append_getElem h, foldl_append]; rfl
theorem Oh (ev : Int → List Ev) (l : List Z1) (s : Int) : (FQ ev l s).length ≤ (ev s).length + l.length := by
 have H : ∀ (l : List Z1) (f : Int → List Ev), ((l.foldl (fun f x => ET f x.1 (f x.1 ++ [x.2])) f) s).length ≤ (f s).length + l.length := by
  intro l
  induction l with
  | nil => intro f; exact Nat.le_refl _
  | cons x l ih =>
   intro f
   rw [foldl_cons]
   refine Nat.le_trans (ih _) ?_
   unfold ET
   split
   ·rename_i h; rw [h, length_append, length_cons, length_nil, length_cons]; omega
   ·rw [length_cons]; omega
 exact H l ev
def Cp (π : Pl) : Int := 4294967296 + (π.ord.length : Int) + 1
def Bo (π : Pl) (s x : Int) (y : Pt) (ys : List Pt) : En := ⟨Cp π, s, x, y, ys⟩
def Bl (π : Pl) (s x : Int) (y : Pt) (ys : List Pt) : Pl where
 τ := (AC π.τ (Cp π) y ys).1
 ω := if y.kind = 6 then Qj (Be π.ω (AC π.τ (Cp π) y ys).2.1).1 y.own else (Be π.ω (AC π.τ (Cp π) y ys).2.1).1
 ord := π.ord ++ [Bo π s x y ys]
 opened := π.opened
 ids := if y.kind = 6 then ET π.ids y.own [] else π.ids
 ev := if y.kind = 6 then ET (FQ π.ev (Be π.ω (AC π.τ (Cp π) y ys).2.1).2) y.own [] else FQ π.ev (Be π.ω (AC π.τ (Cp π) y ys).2.1).2
theorem Lc.put {π : Pl} {mi : Sm Bs} {me0 me : Sm Ev} (h : Lc π mi me0) (s x : Int) (y : Pt) (ys : List Pt) (hn : (me.map (·.1)).Nodup) (hk : ¬ y.kind = 6) (he : ∀ i, FQ π.ev (Be π.ω (AC π.τ (Cp π) y ys).2.1).2 i = (BS me i).2) : Lc (Bl π s x y ys) mi me := by
 refine ⟨h.i1, hn, fun i => ?_, fun i => ?_⟩
 ·show (if y.kind = 6 then ET π.ids y.own [] else π.ids) i = _
  rw [if_neg hk]; exact h.i2 i
 ·show (if y.kind = 6 then _ else FQ π.ev _) i = _
  rw [if_neg hk]; exact he i
theorem Lc.put6 {π : Pl} {mi : Sm Bs} {me0 me : Sm Ev} (h : Lc π mi me0) (s x : Int) (y : Pt) (ys : List Pt) (hn : (me.map (·.1)).Nodup) (hk : y.kind = 6) (he : ∀ i, FQ π.ev (Be π.ω (AC π.τ (Cp π) y ys).2.1).2 i = (BS me i).2) : Lc (Bl π s x y ys) (BX mi y.own) (BX me y.own) := by
 refine ⟨DF h.i1 _, DF hn _, fun i => ?_, fun i => ?_⟩
 ·show (if y.kind = 6 then ET π.ids y.own [] else π.ids) i = _
  rw [if_pos hk]; exact Kf h.i1 h.i2 _ i
 ·show (if y.kind = 6 then ET (FQ π.ev _) y.own [] else _) i = _
  rw [if_pos hk]; exact Kf hn he _ i
theorem Lc.tell0 {π : Pl} {mi : Sm Bs} {me : Sm Ev} (h : Lc π mi me) (l : List Z1) : (me.map (·.1)).Nodup ∧ ∀ i, FQ π.ev (l.take 0) i = (BS me i).2 := ⟨h.e1, fun i => by rw [take_zero]; exact h.e2 i⟩
theorem Z2 {f : Int → List Ev} {me : Sm Ev} {l : List Z1} {i : Nat} (hi : i < l.length) (hn : (me.map (·.1)).Nodup) (h : ∀ s, FQ f (l.take i) s = (BS me s).2) (v : Value) :
  ((BQ me l[i].1 (v, (BS me l[i].1).2 ++ [l[i].2])).map (·.1)).Nodup ∧ ∀ s, FQ f (l.take (i + 1)) s = (BS (BQ me l[i].1 (v, (BS me l[i].1).2 ++ [l[i].2])) s).2 := by
 refine ⟨Bv hn _ _, fun s => ?_⟩
 rw [VZ f hi, h]
 exact Ki h _ (v, (BS me l[i].1).2 ++ [l[i].2]) s
theorem XL (τ : Tr) (z : Int) (y : Pt) (ys : List Pt) : (AC τ z y ys).2.1.length ≤ 2 * (1 + ys.length) := by
 unfold AC
 dsimp only
 split
 ·exact Nat.zero_le _
 split
 ·have h1 := Gq (zxT τ z) z (ys.filter Ai)
  have h2 := length_filter_le Ai ys
  show (AH (zxT τ z) z (ys.filter Ai)).2.length ≤ _
  omega
 split
 ·have h1 := Gq (zxT τ z) z ys
  show (AH (zxT τ z) z ys).2.length ≤ _
  omega
 split
 ·exact Nat.zero_le _
 ·have h1 := IS (zxT τ z) y z
  show (AJ (zxT τ z) y z).2.length ≤ _
  omega
def B7 (r : Rq) (e : Int) : Int :=
 if r.watch = false then 0 else if r.kind = 10 ∧ e = 60 then 2 else if e ≠ 0 then 0 else if r.kind = 9 ∨ r.kind = 10 then 1 else if r.kind = 11 then 3 else 0
end Go.Proofs.YtmbnebafdhpgpaaGreatDoor
