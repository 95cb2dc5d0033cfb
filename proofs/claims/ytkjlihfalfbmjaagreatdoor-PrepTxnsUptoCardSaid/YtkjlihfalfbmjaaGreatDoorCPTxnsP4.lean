/- Own work, in part by program, for prepTxns.proved. -/
import Derived.Test.YtkjlihfalfbmjaaGreatDoorCPTxnsP3
import Derived.Test.YtkjlihfalfbmjaaGreatDoorCPTxnsP2
import Derived.Test.YtkjlihfalfbmjaaGreatDoorCPTxnsP1
import Derived.Test.YtkjlihfalfbmjaaGreatDoorCPTxnsP0
import Derived.RangeFuncRecord
set_option maxRecDepth 100000
namespace Go.Proofs.YtkjlihfalfbmjaaGreatDoor
open Go
theorem rqs_cells {p : HP} {l : List Rq} (h : ∀ x ∈ l, OpL p x) : ∀ y ∈ l.flatMap rqC, isCell y = true := by
 intro y hy
 obtain ⟨x, hx, h2⟩ := List.mem_flatMap.1 hy
 exact (h x hx).cells y h2
theorem own_cells {r : Rq} {a b : Option Addr} {n m c d : Nat} (h3 : isCell r.armV = true) : ∀ v ∈ rqC (ownQ r (.slice a n c) (.slice b m d)), isCell v = true := by
 intro v hv
 simp only [rqC, ownQ, List.mem_cons, List.not_mem_nil, or_false] at hv
 rcases hv with rfl | rfl | rfl | rfl | rfl | rfl | rfl | rfl | rfl | rfl
 case inr.inr.inr.inr.inr.inr.inr.inr.inr => exact h3
 all_goals rfl
theorem lent12_spec (r : Rq) (subs : List Rq) (arm : List Am) (p : HP) (h : RqL p r subs arm) : Fn Tryz.prog 17 #[.agg (rqC r).toArray] [p] fun v L => ∃ va vs : Value, v = .agg (rqC (ownQ r va vs)).toArray ∧ (∃ a n c, va = .slice a n c) ∧ (∃ a n c, vs = .slice a n c) ∧ L = [lentA12 va r.acl, lentS12 vs subs, p] := by
 refine Fn.intro Tryz.func17 rfl rfl fun F W => ?_
 have hfa := h.op.acl.few
 have hfs := h.few
 refine .rdAny (p := p) h.op.racl (by repeat' constructor) fun ae ce hav _ => (.rdAny (p := p) h.rd (by repeat' constructor) fun as1 cs1 hsv _ => ?_)
 have hra : ∀ g : Hp, p g → rdS 2 g (.slice ae r.acl.length ce) r.acl.length (r.acl.flatMap acC) := fun g hp => hav ▸ h.op.racl g hp
 have hrs : ∀ g : Hp, p g → rdS 10 g (.slice as1 subs.length cs1) subs.length (subs.flatMap rqC) := fun g hp => hsv ▸ h.rd g hp
 refine .sr (.oq (.box rfl) ?_)
 rintro v L' ⟨b1, rfl, rfl⟩
 refine .oq (.allocA ze_28) ?_
 rintro v L' ⟨b2, rfl, rfl⟩
 refine .nil (.pc b1 (rqC r) ?_)
 refine .then_n (.seq (.add (slR_nil 85 2) (.draw [2, 4, 5, 11] [[0, 1, 3, 6, 7, 8, 2, 4, 5], [9, 10, 11]] mixed (by kernel_rfl) (.go [ptc b1 _ _] (by repeat' constructor) (.k rfl (.fieldAddr rfl fo_28_4) (.k rfl (.to (v' := .slice ae r.acl.length ce) (.load rfl ag_24 (by repeat' constructor) (by rfl)) hav) (.k rfl (.to (v' := .agg (acC over77).toArray) (.build (us := [(0, _)]) fl_85 ze_85 rfl rfl (by simp [isCell])) rfl) (.k rfl (.fieldAddr rfl fo_28_4) (.k rfl (.to (v' := .slice ae r.acl.length ce) (.load rfl ag_24 (by repeat' constructor) (by rfl)) hav) (.k rfl (.slen rfl Tryz.underlying24 rfl) (.h2 (k := 4) rfl rfl (by kernel_rfl) rfl (.append (n := 0) (m := r.acl.length) (ys := r.acl.flatMap acC) (p := p) rfl rfl rfl el_24 (.inl ⟨_, Tryz.underlying24⟩) ze_85 rfl rfl ?hc11 hra ?hb12 (by decide)) (by repeat' constructor) (.buildSlice (vs := [_]) el_24 ze_85 rfl rfl rfl rfl (by first | (simp [Value.cells]; done) | (intro v hv; simp only [List.mem_cons, List.not_mem_nil, or_false] at hv; (repeat (first | (subst hv; rfl) | (rcases hv with hv | hv; (subst hv; rfl)))))) (by decide)) (by repeat' constructor) ?_ ?_)))))))))))
 case hc11 => exact acC_cells _
 case hb12 => omega
 ·rintro v L' ⟨⟨a3, c3, rfl⟩, rfl⟩; rw [Nat.zero_add, List.nil_append]
  refine D.hh rfl (.buildSlice (vs := [_]) el_24 ze_85 rfl rfl rfl rfl (by first | (simp [Value.cells]; done) | (intro v hv; simp only [List.mem_cons, List.not_mem_nil, or_false] at hv; (repeat (first | (subst hv; rfl) | (rcases hv with hv | hv; (subst hv; rfl)))))) (by decide)) ?_
  rintro v L' ⟨b4, rfl, rfl⟩
  refine D.hh rfl (.shapedS (k := r.acl.length + 1) ?hk18 (.append1 rfl rfl rfl el_24 ze_85 rfl rfl ?h119 ?h220 (Nat.le_refl _) ?h321 (by decide))) ?_
  case hk18 => omega
  case h119 => simp only [List.map_cons, List.map_nil, List.flatten_cons, List.flatten_nil, List.append_nil]; simp [Value.cells, acC, over77, rqC, rq77, isCell]
  case h220 => rfl
  case h321 => omega
  rintro v L' ⟨b5, c5, hc5, rfl, rfl⟩
  refine D.ph (.g0 (.kv rfl (.to (v' := .slice (some ⟨b5, 0, none⟩) r.acl.length c5) (.slTo rfl el_24 rfl (by omega) (.inr ⟨_, _, rfl⟩)) (by simp)) (.kv rfl (.fieldAddr rfl fo_28_4) (.hh rfl (.store rfl rfl rfl sz_24 ?c26 (nfz0 _ _)) ?_))))
  case c26 => simp [rqC]
  rintro v L' rfl
  refine D.ph (.fin (.pc b1 (rqC (ownQ r (.slice (some ⟨b5, 0, none⟩) r.acl.length c5) r.subsV)) ?_))
  refine .lentPack (T := 85) (sz := 2) (m := r.acl.length) (b := b5) (c := c5) (xs := (r.acl ++ [over77]).flatMap acC) hc5 (by rw [List.flatMap_append]; (repeat' constructor)) (.add (slR_nil 28 10) (.then_n (.seq (.draw [2, 4, 5, 11] [[0, 1, 3, 6, 7, 8, 2, 4, 5], [9, 10, 11]] mixed (by kernel_rfl) (.go [ptc b1 _ _] (by repeat' constructor) (.k rfl (.fieldAddr rfl fo_28_8) (.k rfl (.to (v' := .slice as1 subs.length cs1) (.load rfl ag_25 (by repeat' constructor) (by rfl)) hsv) (.k rfl (.to (v' := .agg (rqC rq77).toArray) (.build (us := [(0, _)]) fl_28 ze_28 rfl rfl (by simp [isCell])) rfl) (.k rfl (.fieldAddr rfl fo_28_8) (.k rfl (.to (v' := .slice as1 subs.length cs1) (.load rfl ag_25 (by repeat' constructor) (by rfl)) hsv) (.k rfl (.slen rfl Tryz.underlying25 rfl) (.h2 (k := 4) rfl rfl (by kernel_rfl) rfl (.append (n := 0) (m := subs.length) (ys := subs.flatMap rqC) (p := p) rfl rfl rfl el_25 (.inl ⟨_, Tryz.underlying25⟩) ze_28 rfl rfl ?hc35 hrs ?hb36 (by decide)) (by repeat' constructor) (.buildSlice (vs := [_]) el_25 ze_28 rfl rfl rfl rfl (by first | (simp [Value.cells]; done) | (intro v hv; simp only [List.mem_cons, List.not_mem_nil, or_false] at hv; (repeat (first | (subst hv; rfl) | (rcases hv with hv | hv; (subst hv; rfl)))))) (by decide)) (by repeat' constructor) ?_ ?_))))))))))))
  case hc35 => exact rqs_cells h.each
  case hb36 => omega
  ·rintro v L' ⟨⟨a8, c8, rfl⟩, rfl⟩; rw [Nat.zero_add, List.nil_append]
   refine D.hh rfl (.buildSlice (vs := [_]) el_25 ze_28 rfl rfl rfl rfl (by first | (simp [Value.cells]; done) | (intro v hv; simp only [List.mem_cons, List.not_mem_nil, or_false] at hv; (repeat (first | (subst hv; rfl) | (rcases hv with hv | hv; (subst hv; rfl)))))) (by decide)) ?_
   rintro v L' ⟨b7, rfl, rfl⟩
   refine D.hh rfl (.shapedS (k := subs.length + 1) ?hk42 (.append1 rfl rfl rfl el_25 ze_28 rfl rfl ?h143 ?h244 (Nat.le_refl _) ?h345 (by decide))) ?_
   case hk42 => omega
   case h143 => simp only [List.map_cons, List.map_nil, List.flatten_cons, List.flatten_nil, List.append_nil]; simp [Value.cells, acC, over77, rqC, rq77, isCell]
   case h244 => rfl
   case h345 => omega
   rintro v L' ⟨b6, c6, hc6, rfl, rfl⟩
   refine D.ph (.g0 (.kv rfl (.to (v' := .slice (some ⟨b6, 0, none⟩) subs.length c6) (.slTo rfl el_25 rfl (by omega) (.inr ⟨_, _, rfl⟩)) (by simp)) (.kv rfl (.fieldAddr rfl fo_28_8) (.hh rfl (.store rfl rfl rfl sz_25 ?c50 (nfz0 _ _)) ?_))))
   case c50 => simp [rqC]
   rintro v L' rfl
   refine D.ph (.fin (.pc b1 (rqC (ownQ r (.slice (some ⟨b5, 0, none⟩) r.acl.length c5) (.slice (some ⟨b6, 0, none⟩) subs.length c6))) ?_))
   refine .lentPack (T := 28) (sz := 10) (m := subs.length) (b := b6) (c := c6) (xs := (subs ++ [rq77]).flatMap rqC) hc6 (by rw [List.flatMap_append]; (repeat' constructor)) (.then_n (.sr (.q (.la (rqC (ownQ r (.slice (some ⟨b5, 0, none⟩) r.acl.length c5) (.slice (some ⟨b6, 0, none⟩) subs.length c6))) rfl ag_28) rfl (.sa rfl rfl sz_28 (by exact own_cells h.op.c3) ?_))))
   refine .nil (.pc b2 (rqC (ownQ r (.slice (some ⟨b5, 0, none⟩) r.acl.length c5) (.slice (some ⟨b6, 0, none⟩) subs.length c6))) ?_)
   refine .then_n (.ret ?_)
   exact .d1 rfl (.cellA rfl ag_28 (by repeat' constructor) (by simp [rqC]) rfl) ⟨.slice (some ⟨b5, 0, none⟩) r.acl.length c5, .slice (some ⟨b6, 0, none⟩) subs.length c6, rfl, ⟨_, _, _, rfl⟩, ⟨_, _, _, rfl⟩, rfl⟩
  rintro v L' ⟨b7, rfl, rfl⟩
  refine D.hh rfl (.append (n := 0) (m := subs.length) (ys := subs.flatMap rqC) (p := p) rfl rfl rfl el_25 (.inl ⟨_, Tryz.underlying25⟩) ze_28 rfl rfl ?hc60 hrs ?hb61 (by decide)) ?_
  case hc60 => exact rqs_cells h.each
  case hb61 => omega
  rintro v L' ⟨⟨a8, c8, rfl⟩, rfl⟩; rw [Nat.zero_add, List.nil_append]
  refine D.hh rfl (.shapedS (k := subs.length + 1) ?hk64 (.append1 rfl rfl rfl el_25 ze_28 rfl rfl ?h165 ?h266 (Nat.le_refl _) ?h367 (by decide))) ?_
  case hk64 => omega
  case h165 => simp only [List.map_cons, List.map_nil, List.flatten_cons, List.flatten_nil, List.append_nil]; simp [Value.cells, acC, over77, rqC, rq77, isCell]
  case h266 => rfl
  case h367 => omega
  rintro v L' ⟨b6, c6, hc6, rfl, rfl⟩
  refine D.ph (.g0 (.kv rfl (.to (v' := .slice (some ⟨b6, 0, none⟩) subs.length c6) (.slTo rfl el_25 rfl (by omega) (.inr ⟨_, _, rfl⟩)) (by simp)) (.kv rfl (.fieldAddr rfl fo_28_8) (.hh rfl (.store rfl rfl rfl sz_25 ?c72 (nfz0 _ _)) ?_))))
  case c72 => simp [rqC]
  rintro v L' rfl
  refine D.ph (.fin (.pc b1 (rqC (ownQ r (.slice (some ⟨b5, 0, none⟩) r.acl.length c5) (.slice (some ⟨b6, 0, none⟩) subs.length c6))) ?_))
  refine .lentPack (T := 28) (sz := 10) (m := subs.length) (b := b6) (c := c6) (xs := (subs ++ [rq77]).flatMap rqC) hc6 (by rw [List.flatMap_append]; (repeat' constructor)) (.then_n (.sr (.q (.la (rqC (ownQ r (.slice (some ⟨b5, 0, none⟩) r.acl.length c5) (.slice (some ⟨b6, 0, none⟩) subs.length c6))) rfl ag_28) rfl (.sa rfl rfl sz_28 (by exact own_cells h.op.c3) ?_))))
  refine .nil (.pc b2 (rqC (ownQ r (.slice (some ⟨b5, 0, none⟩) r.acl.length c5) (.slice (some ⟨b6, 0, none⟩) subs.length c6))) ?_)
  refine .then_n (.ret ?_)
  exact .d1 rfl (.cellA rfl ag_28 (by repeat' constructor) (by simp [rqC]) rfl) ⟨.slice (some ⟨b5, 0, none⟩) r.acl.length c5, .slice (some ⟨b6, 0, none⟩) subs.length c6, rfl, ⟨_, _, _, rfl⟩, ⟨_, _, _, rfl⟩, rfl⟩
 rintro v L' ⟨b4, rfl, rfl⟩
 refine D.hh rfl (.append (n := 0) (m := r.acl.length) (ys := r.acl.flatMap acC) (p := p) rfl rfl rfl el_24 (.inl ⟨_, Tryz.underlying24⟩) ze_85 rfl rfl ?hc82 hra ?hb83 (by decide)) ?_
 case hc82 => exact acC_cells _
 case hb83 => omega
 rintro v L' ⟨⟨a3, c3, rfl⟩, rfl⟩; rw [Nat.zero_add, List.nil_append]
 refine D.hh rfl (.shapedS (k := r.acl.length + 1) ?hk86 (.append1 rfl rfl rfl el_24 ze_85 rfl rfl ?h187 ?h288 (Nat.le_refl _) ?h389 (by decide))) ?_
 case hk86 => omega
 case h187 => simp only [List.map_cons, List.map_nil, List.flatten_cons, List.flatten_nil, List.append_nil]; simp [Value.cells, acC, over77, rqC, rq77, isCell]
 case h288 => rfl
 case h389 => omega
 rintro v L' ⟨b5, c5, hc5, rfl, rfl⟩
 refine D.ph (.g0 (.kv rfl (.to (v' := .slice (some ⟨b5, 0, none⟩) r.acl.length c5) (.slTo rfl el_24 rfl (by omega) (.inr ⟨_, _, rfl⟩)) (by simp)) (.kv rfl (.fieldAddr rfl fo_28_4) (.hh rfl (.store rfl rfl rfl sz_24 ?c94 (nfz0 _ _)) ?_))))
 case c94 => simp [rqC]
 rintro v L' rfl
 refine D.ph (.fin (.pc b1 (rqC (ownQ r (.slice (some ⟨b5, 0, none⟩) r.acl.length c5) r.subsV)) ?_))
 refine .lentPack (T := 85) (sz := 2) (m := r.acl.length) (b := b5) (c := c5) (xs := (r.acl ++ [over77]).flatMap acC) hc5 (by rw [List.flatMap_append]; (repeat' constructor)) (.add (slR_nil 28 10) (.then_n (.seq (.draw [2, 4, 5, 11] [[0, 1, 3, 6, 7, 8, 2, 4, 5], [9, 10, 11]] mixed (by kernel_rfl) (.go [ptc b1 _ _] (by repeat' constructor) (.k rfl (.fieldAddr rfl fo_28_8) (.k rfl (.to (v' := .slice as1 subs.length cs1) (.load rfl ag_25 (by repeat' constructor) (by rfl)) hsv) (.k rfl (.to (v' := .agg (rqC rq77).toArray) (.build (us := [(0, _)]) fl_28 ze_28 rfl rfl (by simp [isCell])) rfl) (.k rfl (.fieldAddr rfl fo_28_8) (.k rfl (.to (v' := .slice as1 subs.length cs1) (.load rfl ag_25 (by repeat' constructor) (by rfl)) hsv) (.k rfl (.slen rfl Tryz.underlying25 rfl) (.h2 (k := 4) rfl rfl (by kernel_rfl) rfl (.append (n := 0) (m := subs.length) (ys := subs.flatMap rqC) (p := p) rfl rfl rfl el_25 (.inl ⟨_, Tryz.underlying25⟩) ze_28 rfl rfl ?hc103 hrs ?hb104 (by decide)) (by repeat' constructor) (.buildSlice (vs := [_]) el_25 ze_28 rfl rfl rfl rfl (by first | (simp [Value.cells]; done) | (intro v hv; simp only [List.mem_cons, List.not_mem_nil, or_false] at hv; (repeat (first | (subst hv; rfl) | (rcases hv with hv | hv; (subst hv; rfl)))))) (by decide)) (by repeat' constructor) ?_ ?_))))))))))))
 case hc103 => exact rqs_cells h.each
 case hb104 => omega
 ·rintro v L' ⟨⟨a8, c8, rfl⟩, rfl⟩; rw [Nat.zero_add, List.nil_append]
  refine D.hh rfl (.buildSlice (vs := [_]) el_25 ze_28 rfl rfl rfl rfl (by first | (simp [Value.cells]; done) | (intro v hv; simp only [List.mem_cons, List.not_mem_nil, or_false] at hv; (repeat (first | (subst hv; rfl) | (rcases hv with hv | hv; (subst hv; rfl)))))) (by decide)) ?_
  rintro v L' ⟨b7, rfl, rfl⟩
  refine D.hh rfl (.shapedS (k := subs.length + 1) ?hk110 (.append1 rfl rfl rfl el_25 ze_28 rfl rfl ?h1111 ?h2112 (Nat.le_refl _) ?h3113 (by decide))) ?_
  case hk110 => omega
  case h1111 => simp only [List.map_cons, List.map_nil, List.flatten_cons, List.flatten_nil, List.append_nil]; simp [Value.cells, acC, over77, rqC, rq77, isCell]
  case h2112 => rfl
  case h3113 => omega
  rintro v L' ⟨b6, c6, hc6, rfl, rfl⟩
  refine D.ph (.g0 (.kv rfl (.to (v' := .slice (some ⟨b6, 0, none⟩) subs.length c6) (.slTo rfl el_25 rfl (by omega) (.inr ⟨_, _, rfl⟩)) (by simp)) (.kv rfl (.fieldAddr rfl fo_28_8) (.hh rfl (.store rfl rfl rfl sz_25 ?c118 (nfz0 _ _)) ?_))))
  case c118 => simp [rqC]
  rintro v L' rfl
  refine D.ph (.fin (.pc b1 (rqC (ownQ r (.slice (some ⟨b5, 0, none⟩) r.acl.length c5) (.slice (some ⟨b6, 0, none⟩) subs.length c6))) ?_))
  refine .lentPack (T := 28) (sz := 10) (m := subs.length) (b := b6) (c := c6) (xs := (subs ++ [rq77]).flatMap rqC) hc6 (by rw [List.flatMap_append]; (repeat' constructor)) (.then_n (.sr (.q (.la (rqC (ownQ r (.slice (some ⟨b5, 0, none⟩) r.acl.length c5) (.slice (some ⟨b6, 0, none⟩) subs.length c6))) rfl ag_28) rfl (.sa rfl rfl sz_28 (by exact own_cells h.op.c3) ?_))))
  refine .nil (.pc b2 (rqC (ownQ r (.slice (some ⟨b5, 0, none⟩) r.acl.length c5) (.slice (some ⟨b6, 0, none⟩) subs.length c6))) ?_)
  refine .then_n (.ret ?_)
  exact .d1 rfl (.cellA rfl ag_28 (by repeat' constructor) (by simp [rqC]) rfl) ⟨.slice (some ⟨b5, 0, none⟩) r.acl.length c5, .slice (some ⟨b6, 0, none⟩) subs.length c6, rfl, ⟨_, _, _, rfl⟩, ⟨_, _, _, rfl⟩, rfl⟩
 rintro v L' ⟨b7, rfl, rfl⟩
 refine D.hh rfl (.append (n := 0) (m := subs.length) (ys := subs.flatMap rqC) (p := p) rfl rfl rfl el_25 (.inl ⟨_, Tryz.underlying25⟩) ze_28 rfl rfl ?hc128 hrs ?hb129 (by decide)) ?_
 case hc128 => exact rqs_cells h.each
 case hb129 => omega
 rintro v L' ⟨⟨a8, c8, rfl⟩, rfl⟩; rw [Nat.zero_add, List.nil_append]
 refine D.hh rfl (.shapedS (k := subs.length + 1) ?hk132 (.append1 rfl rfl rfl el_25 ze_28 rfl rfl ?h1133 ?h2134 (Nat.le_refl _) ?h3135 (by decide))) ?_
 case hk132 => omega
 case h1133 => simp only [List.map_cons, List.map_nil, List.flatten_cons, List.flatten_nil, List.append_nil]; simp [Value.cells, acC, over77, rqC, rq77, isCell]
 case h2134 => rfl
 case h3135 => omega
 rintro v L' ⟨b6, c6, hc6, rfl, rfl⟩
 refine D.ph (.g0 (.kv rfl (.to (v' := .slice (some ⟨b6, 0, none⟩) subs.length c6) (.slTo rfl el_25 rfl (by omega) (.inr ⟨_, _, rfl⟩)) (by simp)) (.kv rfl (.fieldAddr rfl fo_28_8) (.hh rfl (.store rfl rfl rfl sz_25 ?c140 (nfz0 _ _)) ?_))))
 case c140 => simp [rqC]
 rintro v L' rfl
 refine D.ph (.fin (.pc b1 (rqC (ownQ r (.slice (some ⟨b5, 0, none⟩) r.acl.length c5) (.slice (some ⟨b6, 0, none⟩) subs.length c6))) ?_))
 refine .lentPack (T := 28) (sz := 10) (m := subs.length) (b := b6) (c := c6) (xs := (subs ++ [rq77]).flatMap rqC) hc6 (by rw [List.flatMap_append]; (repeat' constructor)) (.then_n (.sr (.q (.la (rqC (ownQ r (.slice (some ⟨b5, 0, none⟩) r.acl.length c5) (.slice (some ⟨b6, 0, none⟩) subs.length c6))) rfl ag_28) rfl (.sa rfl rfl sz_28 (by exact own_cells h.op.c3) ?_))))
 refine .nil (.pc b2 (rqC (ownQ r (.slice (some ⟨b5, 0, none⟩) r.acl.length c5) (.slice (some ⟨b6, 0, none⟩) subs.length c6))) ?_)
 refine .then_n (.ret ?_)
 exact .d1 rfl (.cellA rfl ag_28 (by repeat' constructor) (by simp [rqC]) rfl) ⟨.slice (some ⟨b5, 0, none⟩) r.acl.length c5, .slice (some ⟨b6, 0, none⟩) subs.length c6, rfl, ⟨_, _, _, rfl⟩, ⟨_, _, _, rfl⟩, rfl⟩
theorem RqL.at {p q : HP} {r : Rq} {subs : List Rq} {arm : List Am} (h : RqL p r subs arm) (hq : ∀ g : Hp, q g → ∃ g1, (∀ b o, g1 b = some o → g b = some o) ∧ p g1) : RqL q r subs arm := by
 have R : ∀ {sz n : Nat} {v : Value} {xs : List Value}, (∀ g : Hp, p g → rdS sz g v n xs) → ∀ g : Hp, q g → rdS sz g v n xs := fun hr g hg => by
  obtain ⟨g1, a1, p1⟩ := hq g hg
  exact rdS_mono (hr g1 p1) a1
 have O : ∀ x : Rq, OpL p x → OpL q x := fun x h => ⟨h.kind, h.xid, h.flags, h.ver, h.path, h.data, R h.racl, h.acl, h.c1, h.c2, h.c3⟩
 exact ⟨O _ h.op, R h.rd, h.few, fun x hx => O _ (h.each x hx), R h.rarm, h.afew, h.arms⟩
theorem rd_cutB {sz n c b : Nat} {xs ys : List Value} {g : Hp} (hl : xs.length = n * sz) (h : rdS sz g (.slice (some ⟨b, 0, none⟩) (n + 1) c) (n + 1) (xs ++ ys)) : rdS sz g (.slice (some ⟨b, 0, none⟩) n c) n xs := by
 obtain ⟨T, fr, l, hb, hl2, hys, hc⟩ := rdS_at h (Nat.succ_ne_zero _)
 refine .inr ⟨b, 0, c, l, T, fr, rfl, hb, ?_, ?_, by omega⟩
 ·have e := congrArg (List.take (n * sz)) hys
  rw [List.take_take, Nat.min_eq_left (Nat.mul_le_mul_right _ (Nat.le_succ _)), ← hl, List.take_left] at e
  rw [← hl]; exact e
 ·have : n * sz ≤ (n + 1) * sz := Nat.mul_le_mul_right _ (Nat.le_succ _)
  omega
theorem rd_less {b c : Nat} {l : List Ac} {p : HP} (h : ∀ g : Hp, p g → rdS 2 g (.slice (some ⟨b, 0, none⟩) (l.length + 1) c) (l.length + 1) ((l ++ [over77]).flatMap acC)) : ∀ g : Hp, p g → rdS 2 g (.slice (some ⟨b, 0, none⟩) l.length c) l.length (l.flatMap acC) := fun g hp => by
 have q := h g hp
 rw [List.flatMap_append] at q
 exact rd_cutB (flatMap_len (fun _ _ => rfl)) q
theorem rd_lessQ {b c : Nat} {l : List Rq} {p : HP} (h : ∀ g : Hp, p g → rdS 10 g (.slice (some ⟨b, 0, none⟩) (l.length + 1) c) (l.length + 1) ((l ++ [rq77]).flatMap rqC)) : ∀ g : Hp, p g → rdS 10 g (.slice (some ⟨b, 0, none⟩) l.length c) l.length (l.flatMap rqC) := fun g hp => by
 have q := h g hp
 rw [List.flatMap_append] at q
 exact rd_cutB (rqC_len l) q
theorem kept12_spec (r : Rq) (va vs : Value) (subs : List Rq) (arm : List Am) (p : HP) (h : RqL p r subs arm) : Fn Tryz.prog 18 #[.agg (rqC (ownQ r va vs)).toArray, .agg (rqC r).toArray] [lentA12 va r.acl, lentS12 vs subs, p] fun v L => v = .bool true ∧ L = [p] := by
 refine Fn.intro Tryz.func18 rfl rfl fun F W => ?_
 have hfa := h.op.acl.few
 have hfs := h.few
 refine .rdAny (p := p) h.op.racl (by repeat' constructor) fun ae ce hav _ => (.rdAny (p := p) h.rd (by repeat' constructor) fun as1 cs1 hsv _ => (.lentOpen (T := 85) (sz := 2) (m := r.acl.length) (v := va) (xs := ((r.acl ++ [over77]).flatMap acC)) (by repeat' constructor) fun ba ca hca hba => ?_))
 subst hba
 refine .lentOpen (T := 28) (sz := 10) (m := subs.length) (v := vs) (xs := ((subs ++ [rq77]).flatMap rqC)) (by repeat' constructor) fun bs cs hcs hbs => ?_
 subst hbs
 refine .fold (p := (sep [ownA12 ba ca r.acl, ownS12 bs cs subs, p])) (q := [ownA12 ba ca r.acl, ownS12 bs cs subs, p]) (by repeat' constructor) (fun _ h => h) ?_
 have hA3 : ∀ g : Hp, (sep [ownA12 ba ca r.acl, ownS12 bs cs subs, p]) g → rdS 2 g (.slice (some ⟨ba, 0, none⟩) (r.acl.length + 1) ca) (r.acl.length + 1) ((r.acl ++ [over77]).flatMap acC) := fun g hp => by obtain ⟨h1, a1, p1⟩ := sep_head hp; exact rdS_mono (slR_rd p1) a1
 have hS3 : ∀ g : Hp, (sep [ownA12 ba ca r.acl, ownS12 bs cs subs, p]) g → rdS 10 g (.slice (some ⟨bs, 0, none⟩) (subs.length + 1) cs) (subs.length + 1) ((subs ++ [rq77]).flatMap rqC) := fun g hp => by obtain ⟨h1, a1, p1⟩ := sep_head (sep_perm (List.Perm.swap _ _ _) hp); exact rdS_mono (slR_rd p1) a1
 have hp3 : ∀ g : Hp, (sep [ownA12 ba ca r.acl, ownS12 bs cs subs, p]) g → ∃ g1, (∀ b o, g1 b = some o → g b = some o) ∧ p g1 := fun g hp => by obtain ⟨h1, a1, p1⟩ := sep_head (sep_perm (show List.Perm [ownA12 ba ca r.acl, ownS12 bs cs subs, p] [p, ownA12 ba ca r.acl, ownS12 bs cs subs] from (List.Perm.cons _ (List.Perm.swap _ _ _)).trans (List.Perm.swap _ _ _)) hp); exact ⟨h1, a1, p1⟩
 have hR3 : RqL (sep [ownA12 ba ca r.acl, ownS12 bs cs subs, p]) r subs arm := h.at hp3
 have hO3 : RqL (sep [ownA12 ba ca r.acl, ownS12 bs cs subs, p]) (ownQ r (.slice (some ⟨ba, 0, none⟩) r.acl.length ca) (.slice (some ⟨bs, 0, none⟩) subs.length cs)) subs arm := hR3.own (fun g hp => rd_less hA3 g hp) (fun g hp => rd_lessQ hS3 g hp) rfl rfl
 refine .sr (.oq (.box rfl) ?_)
 rintro v L' ⟨b2, rfl, rfl⟩
 refine .oq (.box rfl) ?_
 rintro v L' ⟨b3, rfl, rfl⟩
 refine .a rfl (.nil (.pc b2 (rqC (ownQ r (.slice (some ⟨ba, 0, none⟩) r.acl.length ca) (.slice (some ⟨bs, 0, none⟩) subs.length cs))) ?_))
 refine .pc b3 (rqC r) ?_
 refine .then_n (.sr (.u (.fieldAddr rfl fo_28_4) (.q (.to (v' := .slice ae r.acl.length ce) (.load rfl ag_24 (by repeat' constructor) (by rfl)) hav) rfl (.q (.slen rfl Tryz.underlying24 rfl) rfl (.an rfl (.sr (.u (.fieldAddr rfl fo_28_8) (.q (.to (v' := .slice as1 subs.length cs1) (.load rfl ag_25 (by repeat' constructor) (by rfl)) hsv) rfl (.q (.slen rfl Tryz.underlying25 rfl) rfl (.an rfl (.seq (.draw [] [[0, 1, 2, 3, 4, 5, 6, 7, 8, 9, 10, 11, 12, 13, 14, 15, 16, 17, 18, 19, 20, 21, 22, 23, 24, 25, 26, 27, 28, 29]] mixed (by kernel_rfl) (.go [ptc b2 _ _, ptc b3 _ _, (sep [ownA12 ba ca r.acl, ownS12 bs cs subs, p])] (by repeat' constructor) (.kv rfl (.la (rqC (ownQ r (.slice (some ⟨ba, 0, none⟩) r.acl.length ca) (.slice (some ⟨bs, 0, none⟩) subs.length cs))) rfl ag_28) (.m rfl (by kernel_rfl) (.c Tryz.func53 [_] (r2rq_spec (ownQ r (.slice (some ⟨ba, 0, none⟩) r.acl.length ca) (.slice (some ⟨bs, 0, none⟩) subs.length cs)) subs arm (sep [ownA12 ba ca r.acl, ownS12 bs cs subs, p]) hO3)) (by repeat' constructor) ?_)))))))))))))))
 refine D.kv rfl (.la (rqC r) rfl ag_28) (.m rfl (by kernel_rfl) (.c Tryz.func53 [_] (r2rq_spec r subs arm (sep [ownA12 ba ca r.acl, ownS12 bs cs subs, p]) hR3)) (by repeat' constructor) ?_)
 refine D.kv rfl (.as (v' := .bool true) (by exact congrArg Value.bool (decide_eq_true rfl)) (.streq rfl rfl)) (.mv rfl rfl (.gv rfl (.fieldAddr rfl fo_28_4) (.gv rfl (.ld rfl ag_24) (.gv rfl (.move rfl) (.gv rfl (.add rfl rfl (by omega)) (.gv rfl (.to (v' := (.slice (some ⟨ba, 0, none⟩) (r.acl.length + 1) ca)) (.slTo rfl el_24 rfl (by omega) (.inr ⟨_, _, rfl⟩)) (by simp)) (.gv rfl (.move rfl) (.gv rfl (.indexAddr rfl rfl el_24 (by omega)) (.gv rfl (.fieldAddr rfl fo_85_0) (.gv rfl (.loadRd (sz := 2) (j := r.acl.length * 2 + 0) (p := (sep [ownA12 ba ca r.acl, ownS12 bs cs subs, p])) (v := vint 77) rfl ag_3 (by repeat' constructor) hA3 (by omega) (over_at _ rfl)) (.gv rfl (.as (v' := .bool true) (by rfl) (.int rfl rfl rfl)) (.kv rfl (.pickT rfl rfl) (.mv rfl rfl (.gv rfl (.fieldAddr rfl fo_28_8) (.gv rfl (.ld rfl ag_25) (.gv rfl (.move rfl) (.gv rfl (.add rfl rfl (by omega)) ?_)))))))))))))))))
 refine D.gv rfl (.to (v' := (.slice (some ⟨bs, 0, none⟩) (subs.length + 1) cs)) (.slTo rfl el_25 rfl (by omega) (.inr ⟨_, _, rfl⟩)) (by simp)) (.gv rfl (.move rfl) (.gv rfl (.indexAddr rfl rfl el_25 (by omega)) (.gv rfl (.fieldAddr rfl fo_28_0) (.gv rfl (.loadRd (sz := 10) (j := subs.length * 10 + 0) (p := (sep [ownA12 ba ca r.acl, ownS12 bs cs subs, p])) (v := vint 77) rfl ag_3 (by repeat' constructor) hS3 (by omega) (over_rq _ rfl)) (.gv rfl (.as (v' := .bool true) (by rfl) (.int rfl rfl rfl)) (.kv rfl (.pickT rfl rfl) (.kv rfl (.assign rfl) (.ph (.fin (.focus (p := (sep [ownA12 ba ca r.acl, ownS12 bs cs subs, p])) (by repeat' constructor) (.unfold (q := [ownA12 ba ca r.acl, ownS12 bs cs subs, p]) (fun _ h => h) (.then_n (.seq (.sr (.an rfl (.block ?_))))))))))))))))
 have hy0 : ((r.acl ++ [over77]).flatMap acC).length = (r.acl.length + 1) * 2 := by rw [flatMap_len (sz := 2) (fun _ _ => rfl)]; simp
 refine .loopK (ι := Nat × (List Value)) (fun q E => (8, vint q.1) :: E) (fun q => [slR 85 2 (.slice (some ⟨ba, 0, none⟩) (r.acl.length + 1) ca) (r.acl.length + 1) q.2]) (fun q => q.1 ≤ r.acl.length + 1 ∧ q.2.length = (r.acl.length + 1) * 2) (fun q => r.acl.length + 1 - q.1) (0, ((r.acl ++ [over77]).flatMap acC)) (ts := [2, 4, 5, 6, 7]) (.cons rfl (.cons rfl (.cons rfl (.cons rfl (.cons rfl (.nil)))))) (⟨Nat.zero_le _, hy0⟩) ⟨rfl, rfl, rfl, rfl, rfl, rfl, trivial⟩ (by repeat' constructor) ?_
 rintro ⟨j, ys⟩ ⟨hj, hyl⟩
 dsimp only
 dsimp only at hj hyl
 refine .seq (.sm rfl (.m rfl (.ui rfl rfl rfl (.nt (.condD rfl (fun h47 => ?_) (fun h47 => ?_))))))
 ·refine .sk (.seq (.block (.region (.u (.fieldAddr rfl fo_28_4) (.u (.ld rfl ag_24) (.m rfl (.q (.add rfl rfl (by omega)) rfl (.q (.to (v' := (.slice (some ⟨ba, 0, none⟩) (r.acl.length + 1) ca)) (.slTo rfl el_24 rfl (by omega) (.inr ⟨_, _, rfl⟩)) (by simp)) rfl (.m rfl (.q (.to (v' := .agg (acC (-1, [111, 118, 101, 114])).toArray) (.build (us := [(0, _), (1, _)]) fl_85 ze_85 rfl rfl (by simp [isCell])) rfl) rfl (.q (.indexAddr rfl rfl el_24 (by omega)) rfl (.oq (.storeRdA (sz := 2) (j := j * 2) (k := 2) (vs := [vint (-1), vstr [111, 118, 101, 114]]) rfl rfl (by simp [isCell]) sz_85 rfl ?ho47 ?hi48) ?_))))))))))))
  case ho47 => omega
  case hi48 => omega
  rintro v L' rfl
  refine .nil (.blk_n (.then_n (.region (.m rfl (.q (.add rfl rfl (by omega)) rfl (.an rfl ?_))))))
  exact .rk ((j + 1, spl ys (j * 2) [vint (-1), vstr [111, 118, 101, 114]])) (⟨by dsimp only; omega, by dsimp only; rw [spl_length (by simp; omega)]; exact hyl⟩) (by dsimp only; omega) ⟨rfl, rfl, rfl, rfl, rfl, rfl, trivial⟩
 refine .exit (.then_e (.then_e (.blk_e (.then_n (.seq (.sr (.an rfl (.block ?_))))))))
 have hz0 : ((subs ++ [rq77]).flatMap rqC).length = (subs.length + 1) * 10 := by rw [rqC_len]; simp
 refine .loopK (ι := Nat × (List Value)) (fun q E => (9, vint q.1) :: E) (fun q => [slR 28 10 (.slice (some ⟨bs, 0, none⟩) (subs.length + 1) cs) (subs.length + 1) q.2]) (fun q => q.1 ≤ subs.length + 1 ∧ q.2.length = (subs.length + 1) * 10) (fun q => subs.length + 1 - q.1) (0, ((subs ++ [rq77]).flatMap rqC)) (ts := [2, 4, 6, 7]) (.cons rfl (.cons rfl (.cons rfl (.cons rfl (.nil))))) (⟨Nat.zero_le _, hz0⟩) ⟨rfl, rfl, rfl, rfl, rfl, trivial⟩ (by repeat' constructor) ?_
 rintro ⟨j, zs⟩ ⟨hj, hzl⟩
 dsimp only
 dsimp only at hj hzl
 refine .seq (.sm rfl (.m rfl (.ui rfl rfl rfl (.nt (.condD rfl (fun h60 => ?_) (fun h60 => ?_))))))
 ·refine .sk (.seq (.block (.region (.u (.fieldAddr rfl fo_28_8) (.u (.ld rfl ag_25) (.m rfl (.q (.add rfl rfl (by omega)) rfl (.q (.to (v' := (.slice (some ⟨bs, 0, none⟩) (subs.length + 1) cs)) (.slTo rfl el_25 rfl (by omega) (.inr ⟨_, _, rfl⟩)) (by simp)) rfl (.m rfl (.q (.to (v' := .agg (rqC rqN1).toArray) (.build (us := [(0, _)]) fl_28 ze_28 rfl rfl (by simp [isCell])) rfl) rfl (.q (.indexAddr rfl rfl el_25 (by omega)) rfl (.oq (.storeRdA (sz := 10) (j := j * 10) (k := 10) (vs := rqC rqN1) rfl rfl (by simp [rqC, rqN1, isCell]) sz_28 rfl ?ho64 ?hi65) ?_))))))))))))
  case ho64 => omega
  case hi65 => omega
  rintro v L' rfl
  refine .nil (.blk_n (.then_n (.region (.m rfl (.q (.add rfl rfl (by omega)) rfl (.an rfl ?_))))))
  exact .rk ((j + 1, spl zs (j * 10) (rqC rqN1))) (⟨by dsimp only; omega, by dsimp only; rw [spl_length (by show j * 10 + 10 ≤ _; omega)]; exact hzl⟩) (by dsimp only; omega) ⟨rfl, rfl, rfl, rfl, rfl, trivial⟩
 refine .exit (.then_e (.then_e (.blk_e (.then_n (.sm rfl (.an rfl (.ret ?_)))))))
 exact .vv
theorem over12_spec (y : Pt) (ys : List Pt) (hc : isCell y.aclV = true ∧ ∃ a c, y.subsV = .slice a ys.length c) (ha : y.acl.length ≤ 1048576) (hn : ys.length ≤ 1048576) (hm : ∀ z ∈ ys, z.acl.length ≤ 1048576) : Fn Tryz.prog 19 #[.agg (ptC y).toArray] [aclR y, slR 43 8 y.subsV ys.length (ys.flatMap ptC), bigR aclR ys] fun v L => v = .tuple #[] ∧ L = [] := by
 refine Fn.intro Tryz.func19 rfl rfl fun F W => ?_
 refine .slAny (T := 85) (sz := 2) (m := y.acl.length) (v := y.aclV) (xs := y.acl.flatMap acC) (by repeat' constructor) fun aa ca hav hxl => ?_
 obtain ⟨at1, ct, hsv⟩ := hc.2
 refine .as (q := slR 85 2 (.slice aa y.acl.length ca) y.acl.length (y.acl.flatMap acC)) (p := aclR y) (by repeat' constructor) (by rw [← hav]; rfl) (.as (q := slR 43 8 (.slice at1 ys.length ct) ys.length (ys.flatMap ptC)) (p := slR 43 8 y.subsV ys.length (ys.flatMap ptC)) (by repeat' constructor) (by rw [hsv]) (.sr (.oq (.box rfl) ?_)))
 rintro v L' ⟨b1, rfl, rfl⟩
 refine .nil (.pc b1 (ptC y) ?_)
 refine .then_n (.seq (.sr (.an rfl (.block (.loopK (ι := Nat × (List Value)) (fun q E => (2, vint q.1) :: E) (fun q => [slR 85 2 (.slice aa y.acl.length ca) y.acl.length q.2]) (fun q => q.1 ≤ y.acl.length ∧ q.2.length = y.acl.length * 2) (fun q => y.acl.length - q.1) (0, y.acl.flatMap acC) (ts := [1]) (.cons rfl (.nil)) (⟨Nat.zero_le _, hxl⟩) ⟨rfl, rfl, trivial⟩ (by repeat' constructor) ?_)))))
 rintro ⟨j, xs⟩ ⟨hj, hyl⟩
 dsimp only
 dsimp only at hj hyl
 refine .seq (.sm rfl (.u (.fieldAddr rfl fo_43_3) (.q (.to (v' := .slice aa y.acl.length ca) (.load rfl ag_24 (by repeat' constructor) (by rfl)) hav) rfl (.q (.slen rfl Tryz.underlying24 rfl) rfl (.ui rfl rfl rfl (.nt (.condD rfl (fun h9 => ?_) (fun h9 => ?_))))))))
 ·have hj2 : j < y.acl.length := by omega
  refine .slShape (T := 85) (sz := 2) (v := .slice aa y.acl.length ca) (xs := xs) (by repeat' constructor) (by omega) fun bx cbx e0 _ _ => ?_
  simp only [Value.slice.injEq, true_and] at e0
  obtain ⟨rfl, rfl⟩ := e0
  refine .sk (.seq (.block (.region (.u (.fieldAddr rfl fo_43_3) (.q (.to (v' := .slice (some ⟨bx, 0, none⟩) y.acl.length ca) (.load rfl ag_24 (by repeat' constructor) (by rfl)) hav) rfl (.m rfl (.q (.to (v' := .agg (acC (-1, [])).toArray) (.build (us := [(0, _)]) fl_85 ze_85 rfl rfl (by simp [isCell])) rfl) rfl (.q (.indexAddr rfl rfl el_24 (by omega)) rfl (.oq (.storeRdA (sz := 2) (j := j * 2) (k := 2) (vs := [vint (-1), vstr []]) rfl rfl (by simp [isCell]) sz_85 rfl ?ho14 ?hi15) ?_)))))))))
  case ho14 => omega
  case hi15 => omega
  rintro v L' rfl
  refine .nil (.blk_n (.then_n (.region (.m rfl (.q (.add rfl rfl (by omega)) rfl (.an rfl ?_))))))
  exact .rk ((j + 1, spl xs (j * 2) [vint (-1), vstr []])) (⟨by dsimp only; omega, by dsimp only; rw [spl_length (by simp; omega)]; exact hyl⟩) (by dsimp only; omega) ⟨rfl, rfl, trivial⟩
 refine .exit (.then_e (.then_e (.blk_e (.then_n (.sr (.an rfl (.block ?_)))))))
 rw [show bigR aclR ys = bigR aclR (ys.drop 0) from rfl]
 refine .loopK (ι := Nat × (List Value)) (fun q E => (3, vint q.1) :: E) (fun q => [slR 43 8 (.slice at1 ys.length ct) ys.length q.2, bigR aclR (ys.drop q.1)]) (fun q => q.1 ≤ ys.length ∧ q.2.length = ys.length * 8 ∧ ∀ k (hk : k < ys.length), q.1 ≤ k → ((q.2.drop (k * 8)).take 8) = ptC ys[k]) (fun q => ys.length - q.1) (0, ys.flatMap ptC) (ts := [1]) (.cons rfl (.nil)) (⟨Nat.zero_le _, flatMap_len (fun _ _ => rfl), fun k hk _ => flatMap_at (f := ptC) (sz := 8) (fun _ _ => rfl) hk⟩) ⟨rfl, rfl, trivial⟩ (by repeat' constructor) ?_
 rintro ⟨i, zs⟩ ⟨hi, hzl, hzk⟩
 dsimp only
 dsimp only at hi hzl hzk
 refine .seq (.sm rfl (.u (.fieldAddr rfl fo_43_7) (.q (.to (v' := .slice at1 ys.length ct) (.load rfl ag_41 (by repeat' constructor) (by rfl)) hsv) rfl (.q (.slen rfl Tryz.underlying41 rfl) rfl (.ui rfl rfl rfl (.nt (.condD rfl (fun h21 => ?_) (fun h21 => ?_))))))))
 ·have hi2 : i < ys.length := by omega
  have hyi := hm _ (List.getElem_mem hi2)
  refine .slShape (T := 43) (sz := 8) (v := .slice at1 ys.length ct) (xs := zs) (by repeat' constructor) (by omega) fun bt cbt e0 _ _ => ?_
  simp only [Value.slice.injEq, true_and] at e0
  obtain ⟨rfl, rfl⟩ := e0
  refine .bigUncons (f := aclR) (x := ys[i]) (l := ys.drop (i + 1)) (m := ys.drop i) (List.drop_eq_getElem_cons hi2) (by repeat' constructor) (.slAny (T := 85) (sz := 2) (m := ys[i].acl.length) (v := ys[i].aclV) (xs := ys[i].acl.flatMap acC) (by repeat' constructor) fun az cz hzv hwl0 => (.as (q := slR 85 2 (.slice az ys[i].acl.length cz) ys[i].acl.length (ys[i].acl.flatMap acC)) (p := aclR ys[i]) (by repeat' constructor) (by rw [← hzv]; rfl) (.sk (.seq (.block (.seq (.sr (.an rfl (.block (.loopK (ι := Nat × (List Value)) (fun q E => (4, vint q.1) :: E) (fun q => [slR 85 2 (.slice az ys[i].acl.length cz) ys[i].acl.length q.2]) (fun q => q.1 ≤ ys[i].acl.length ∧ q.2.length = ys[i].acl.length * 2) (fun q => ys[i].acl.length - q.1) (0, ys[i].acl.flatMap acC) (ts := [1, 3, 17, 18, 19, 20, 21]) (.cons rfl (.cons rfl (.cons rfl (.cons rfl (.cons rfl (.cons rfl (.cons rfl (.nil)))))))) (⟨Nat.zero_le _, hwl0⟩) ⟨rfl, rfl, rfl, rfl, rfl, rfl, rfl, rfl, trivial⟩ (by repeat' constructor) ?_))))))))))
  rintro ⟨j, ws⟩ ⟨hj, hwl⟩
  dsimp only
  dsimp only at hj hwl
  refine .seq (.sm rfl (.u (.fieldAddr rfl fo_43_7) (.q (.to (v' := .slice (some ⟨bt, 0, none⟩) ys.length ct) (.load rfl ag_41 (by repeat' constructor) (by rfl)) hsv) rfl (.m rfl (.q (.indexAddr rfl rfl el_41 (by omega)) rfl (.u (.fieldAddr rfl fo_43_3) (.q (.to (v' := .slice az ys[i].acl.length cz) (.loadRd (sz := 8) (j := i * 8 + 3) (p := slR 43 8 _ ys.length zs) (v := ys[i].aclV) rfl ag_24 (by repeat' constructor) (fun h hp => slR_rd hp) (by omega) ((drop_cell12 (hzk i hi2 (Nat.le_refl _)) (by decide)).trans rfl)) hzv) rfl (.q (.slen rfl Tryz.underlying24 rfl) rfl (.ui rfl rfl rfl (.nt (.condD rfl (fun h32 => ?_) (fun h32 => ?_))))))))))))
  ·have hj2 : j < ys[i].acl.length := by omega
   refine .slShape (T := 85) (sz := 2) (v := .slice az ys[i].acl.length cz) (xs := ws) (by repeat' constructor) (by omega) fun bw cbw e0 _ _ => ?_
   simp only [Value.slice.injEq, true_and] at e0
   obtain ⟨rfl, rfl⟩ := e0
   refine .sk (.seq (.block (.region (.u (.fieldAddr rfl fo_43_7) (.q (.to (v' := .slice (some ⟨bt, 0, none⟩) ys.length ct) (.load rfl ag_41 (by repeat' constructor) (by rfl)) hsv) rfl (.m rfl (.q (.indexAddr rfl rfl el_41 (by omega)) rfl (.u (.fieldAddr rfl fo_43_3) (.q (.to (v' := .slice (some ⟨bw, 0, none⟩) ys[i].acl.length cz) (.loadRd (sz := 8) (j := i * 8 + 3) (p := slR 43 8 _ ys.length zs) (v := ys[i].aclV) rfl ag_24 (by repeat' constructor) (fun h hp => slR_rd hp) (by omega) ((drop_cell12 (hzk i hi2 (Nat.le_refl _)) (by decide)).trans rfl)) hzv) rfl (.m rfl (.q (.to (v' := .agg (acC (-1, [])).toArray) (.build (us := [(0, _)]) fl_85 ze_85 rfl rfl (by simp [isCell])) rfl) rfl (.q (.indexAddr rfl rfl el_24 (by omega)) rfl (.oq (.storeRdA (sz := 2) (j := j * 2) (k := 2) (vs := [vint (-1), vstr []]) rfl rfl (by simp [isCell]) sz_85 rfl ?ho44 ?hi45) ?_)))))))))))))
   case ho44 => omega
   case hi45 => omega
   rintro v L' rfl
   refine .nil (.blk_n (.then_n (.region (.m rfl (.q (.add rfl rfl (by omega)) rfl (.an rfl ?_))))))
   exact .rk ((j + 1, spl ws (j * 2) [vint (-1), vstr []])) (⟨by dsimp only; omega, by dsimp only; rw [spl_length (by simp; omega)]; exact hwl⟩) (by dsimp only; omega) ⟨rfl, rfl, rfl, rfl, rfl, rfl, rfl, rfl, trivial⟩
  refine .exit (.then_e (.then_e (.blk_e (.then_n (.region (.u (.fieldAddr rfl fo_43_7) (.q (.to (v' := .slice (some ⟨bt, 0, none⟩) ys.length ct) (.load rfl ag_41 (by repeat' constructor) (by rfl)) hsv) rfl (.m rfl (.q (.to (v' := .agg (ptC (⟨-1, [], [], nilV, [], 0, 0, 0, nilV⟩ : Pt)).toArray) (.build (us := [(0, _)]) fl_43 ze_43 rfl rfl (by simp [isCell])) rfl) rfl (.q (.indexAddr rfl rfl el_41 (by omega)) rfl (.oq (.storeRdA (sz := 8) (j := i * 8) (k := 8) (vs := ptC (⟨-1, [], [], nilV, [], 0, 0, 0, nilV⟩ : Pt)) rfl rfl (by simp [ptC, isCell]) sz_43 rfl ?ho54 ?hi55) ?_)))))))))))
  case ho54 => omega
  case hi55 => omega
  rintro v L' rfl
  refine .nil (.blk_n (.then_n (.region (.m rfl (.q (.add rfl rfl (by omega)) rfl (.an rfl ?_))))))
  exact .rk ((i + 1, spl zs (i * 8) (ptC (⟨-1, [], [], nilV, [], 0, 0, 0, nilV⟩ : Pt)))) (⟨by dsimp only; omega, by dsimp only; rw [spl_length (by show i * 8 + 8 ≤ _; omega)]; exact hzl, fun k hk hik => by dsimp only; rw [spl_drop12 (by show i * 8 + 8 ≤ _; omega) (by show i * 8 + 8 ≤ k * 8; dsimp only at hik; omega)]; exact hzk k hk (by dsimp only at hik; omega)⟩) (by dsimp only; omega) ⟨rfl, rfl, trivial⟩
 refine .exit (.then_e (.then_e (.blk_e (.done_n ?_))))
 exact .vv
theorem wrap_bv (x : BitVec 64) : BitVec.ofInt 64 (wrapI x.toNat) = x := by
 apply BitVec.eq_of_toNat_eq
 rw [BitVec.toNat_ofInt]
 have h := x.isLt
 show (IntKind.i64.wrap x.toNat % _).toNat = _
 simp only [IntKind.wrap, IntKind.signed, IntKind.bits, Bool.true_and]
 split <;> simp_all <;> omega
def subV (x y : BitVec 64) : Prop := ∀ i, i < 64 → x.getLsbD i = true → y.getLsbD i = true
theorem subV_iff (x y : BitVec 64) : x &&& ~~~ y = 0#64 ↔ subV x y := by
 constructor
 ·intro h i hi hx
  have := congrArg (fun z => z.getLsbD i) h
  simp [hi, hx] at this
  exact this
 ·intro h
  apply BitVec.eq_of_getLsbD_eq
  intro i hi
  have := h i hi
  simp [hi]
  exact this
theorem less_zero (a b : Int) : lessI a b = 0 ↔ subV (BitVec.ofInt 64 a) (BitVec.ofInt 64 b) := by
 rw [← subV_iff]
 unfold lessI
 constructor
 ·intro h
  have h2 := wrap_bv (BitVec.ofInt 64 a &&& ~~~ BitVec.ofInt 64 b)
  rw [show wrapI ((BitVec.ofInt 64 a &&& ~~~ BitVec.ofInt 64 b).toNat : Int) = 0 from h] at h2
  rw [← h2]; rfl
 ·intro h
  rw [h]; rfl
theorem or_bv (a b : Int) : BitVec.ofInt 64 (orI a b) = BitVec.ofInt 64 a ||| BitVec.ofInt 64 b := wrap_bv _
def givenB (l : List Ac) (bit : Int) (ids : List Bs) : Bool := l.any fun a => !decide (andI a.1 bit = 0) && hitsA ids a
def bitI (i : Nat) : Int := ((2 ^ i : Nat) : Int)
theorem bit_ofInt {i : Nat} (hi : i < 6) : BitVec.ofInt 64 (bitI i) = BitVec.twoPow 64 i := by
 have : i = 0 ∨ i = 1 ∨ i = 2 ∨ i = 3 ∨ i = 4 ∨ i = 5 := by omega
 rcases this with rfl | rfl | rfl | rfl | rfl | rfl <;> decide
theorem and_bit {a : Int} {i : Nat} (hi : i < 6) : andI a (bitI i) = 0 ↔ (BitVec.ofInt 64 a).getLsbD i = false := by
 have h : andI a (bitI i) = 0 ↔ BitVec.ofInt 64 a &&& BitVec.twoPow 64 i = 0#64 := by
  unfold andI
  rw [bit_ofInt hi]
  constructor
  ·intro h
   have h2 := wrap_bv (BitVec.ofInt 64 a &&& BitVec.twoPow 64 i)
   rw [show wrapI ((BitVec.ofInt 64 a &&& BitVec.twoPow 64 i).toNat : Int) = 0 from h] at h2
   rw [← h2]; rfl
  ·intro h
   rw [h]; rfl
 rw [h, BitVec.and_twoPow]
 cases e : (BitVec.ofInt 64 a).getLsbD i with
 | false => simp
 | true =>
  simp only [if_true]
  constructor
  ·intro g
   have := congrArg (fun z => z.getLsbD i) g
   simp [BitVec.getLsbD_twoPow] at this
   omega
  ·intro g; cases g
theorem given_bit {ids : List Bs} {i : Nat} (hi : i < 6) : ∀ (l : List Ac) (g : Int), (BitVec.ofInt 64 (l.foldl (fun g a => if hitsA ids a = true then orI g a.1 else g) g)).getLsbD i = ((BitVec.ofInt 64 g).getLsbD i || givenB l (bitI i) ids)
 | [], g => by simp [givenB]
 | a :: l, g => by
  rw [List.foldl_cons, given_bit hi l]
  have hb : (!decide (andI a.1 (bitI i) = 0)) = (BitVec.ofInt 64 a.1).getLsbD i := by
   cases e : (BitVec.ofInt 64 a.1).getLsbD i with
   | false => rw [decide_eq_true ((and_bit hi).2 e)]; rfl
   | true => rw [decide_eq_false (fun g => by have := (and_bit hi).1 g; rw [e] at this; cases this)]; rfl
  have hg : givenB (a :: l) (bitI i) ids = ((BitVec.ofInt 64 a.1).getLsbD i && hitsA ids a || givenB l (bitI i) ids) := by
   show ((!decide (andI a.1 (bitI i) = 0) && hitsA ids a) || givenB l (bitI i) ids) = _
   rw [hb]
  rw [hg]
  cases hh : hitsA ids a with
  | true => rw [if_pos rfl, or_bv, BitVec.getLsbD_or, Bool.and_true, Bool.or_assoc]
  | false => rw [if_neg (by decide), Bool.and_false, Bool.false_or]
def mayB (l : List Ac) (perms : Int) (ids : List Bs) : Prop := 0 ≤ perms ∧ perms ≤ 31 ∧ ∀ i, i < 5 → andI perms (bitI i) ≠ 0 → givenB l (bitI i) ids = true
theorem may_iff (l : List Ac) (perms : Int) (ids : List Bs) : mayZ l perms ids = true ↔ mayB l perms ids := by
 unfold mayZ mayB
 simp only [Bool.and_eq_true, decide_eq_true_eq, and_assoc]
 refine and_congr_right fun h0 => and_congr_right fun h1 => ?_
 rw [less_zero]
 have hp : ∀ i, i < 64 → (BitVec.ofInt 64 perms).getLsbD i = true → i < 5 := by
  obtain ⟨k, rfl⟩ := Int.eq_ofNat_of_zero_le h0
  have hk : k < 32 := by omega
  intro i hi hb
  have hb : (BitVec.ofNat 64 k).getLsbD i = true := hb
  rw [BitVec.getLsbD_ofNat] at hb
  refine Nat.lt_of_not_le fun g => ?_
  have : k.testBit i = false := Nat.testBit_lt_two_pow (Nat.lt_of_lt_of_le hk (by show 2 ^ 5 ≤ 2 ^ i; exact Nat.pow_le_pow_right (by decide) g))
  rw [this] at hb
  simp at hb
 have hg : ∀ i, i < 6 → (BitVec.ofInt 64 (givenZ ids l)).getLsbD i = givenB l (bitI i) ids := fun i hi => by
  have := given_bit (ids := ids) hi l 0
  unfold givenZ
  rw [this]
  simp
 constructor
 ·intro h i hi hb
  rw [← hg i (by omega)]
  refine h i (by omega) ?_
  cases e : (BitVec.ofInt 64 perms).getLsbD i with
  | true => rfl
  | false => exact absurd ((and_bit (by omega)).2 e) hb
 ·intro h i hi hb
  have h5 := hp i hi hb
  rw [hg i (by omega)]
  refine h i h5 fun g => ?_
  have := (and_bit (a := perms) (show i < 6 by omega)).1 g
  rw [hb] at this; cases this
theorem given_at {l : List Ac} {bit : Int} {ids : List Bs} {i : Nat} (hi : i < l.length) (h1 : ¬ andI l[i].1 bit = 0) (h2 : hitsA ids l[i] = true) : givenB l bit ids = true := by
 unfold givenB
 rw [List.any_eq_true]
 exact ⟨l[i], List.getElem_mem hi, by rw [decide_eq_false h1, h2]; rfl⟩
theorem given_no {l : List Ac} {bit : Int} {ids : List Bs} (h : ∀ i (hi : i < l.length), ¬ (¬ andI l[i].1 bit = 0 ∧ hitsA ids l[i] = true)) : givenB l bit ids = false := by
 unfold givenB
 rw [List.any_eq_false]
 intro a ha
 obtain ⟨i, hi, rfl⟩ := List.mem_iff_getElem.1 ha
 have := h i hi
 by_cases e : andI l[i].1 bit = 0
 ·rw [decide_eq_true e]; simp
 ·rw [decide_eq_false e]
  intro g
  exact this ⟨e, by simpa using g⟩
theorem hits_world {ids : List Bs} {a : Ac} (h : a.2 = worldB) : hitsA ids a = true := by unfold hitsA; rw [decide_eq_true h]; rfl
theorem hits_mem {ids : List Bs} {a : Ac} {k : Nat} (hk : k < ids.length) (h : ids[k] = a.2) : hitsA ids a = true := by
 unfold hitsA
 rw [decide_eq_true (show a.2 ∈ ids from h ▸ List.getElem_mem hk), Bool.or_true]
theorem hits_no {ids : List Bs} {a : Ac} (h1 : ¬ a.2 = worldB) (h2 : ∀ k (hk : k < ids.length), ids[k] ≠ a.2) : ¬ hitsA ids a = true := by
 unfold hitsA
 rw [decide_eq_false h1, decide_eq_false (fun g => by obtain ⟨k, hk, e⟩ := List.mem_iff_getElem.1 g; exact h2 k hk e)]
 decide
theorem bit_32 {i : Nat} (hi : i ≤ 5) : bitI i < 32 ↔ i < 5 := by
 have : i = 0 ∨ i = 1 ∨ i = 2 ∨ i = 3 ∨ i = 4 ∨ i = 5 := by omega
 rcases this with rfl | rfl | rfl | rfl | rfl | rfl <;> decide
theorem bit_next {i : Nat} (hi : i < 5) : bitI i * 2 = bitI (i + 1) ∧ 0 ≤ bitI i ∧ bitI i ≤ 16 := by
 have : i = 0 ∨ i = 1 ∨ i = 2 ∨ i = 3 ∨ i = 4 := by omega
 rcases this with rfl | rfl | rfl | rfl | rfl <;> decide
theorem colon_cut : ∀ {s : Bs}, (58 : UInt8) ∈ s → s = colon1 s ++ 58 :: colon2 s
 | [], h => by cases h
 | c :: s, h => by
  unfold colon1 colon2
  by_cases e : c = 58
  ·rw [if_pos e, if_pos e, e]; rfl
  ·rw [if_neg e, if_neg e]
   have := colon_cut (s := s) ((List.mem_cons.1 h).resolve_left (fun g => e g.symm))
   rw [List.cons_append, ← this]
theorem colon_of : ∀ {a : Bs} (b : Bs), (58 : UInt8) ∉ a → colon1 (a ++ 58 :: b) = a ∧ colon2 (a ++ 58 :: b) = b
 | [], b, _ => ⟨if_pos rfl, if_pos rfl⟩
 | c :: a, b, h => by
  have e : ¬ c = 58 := fun g => h (by rw [g]; exact List.mem_cons_self)
  obtain ⟨h1, h2⟩ := colon_of (a := a) b (fun g => h (List.mem_cons_of_mem _ g))
  constructor
  ·show (if c = 58 then [] else c :: colon1 (a ++ 58 :: b)) = _
   rw [if_neg e, h1]
  ·show (if c = 58 then a ++ 58 :: b else colon2 (a ++ 58 :: b)) = _
   rw [if_neg e, h2]
theorem user_len {s : Bs} (h : ¬ (1 ≤ s.length ∧ s.length ≤ 12)) : userZ s = false := by
 unfold userZ
 cases s with
 | nil => rfl
 | cons c s =>
  have : ¬ (c :: s).length ≤ 12 := fun g => h ⟨by rw [List.length_cons]; omega, g⟩
  rw [decide_eq_false this]; simp
theorem user_bad {s : Bs} {i : Nat} (hi : i < s.length) (h : userC s[i] = false) : userZ s = false := by
 unfold userZ
 rw [all_bad hi h, Bool.and_false]
theorem user_ok {s : Bs} (h1 : 1 ≤ s.length) (h2 : s.length ≤ 12) (h : s.all userC = true) : userZ s = true := by
 unfold userZ
 rw [h, decide_eq_true h2, decide_eq_false (fun e => by rw [e] at h1; exact absurd h1 (by decide))]; rfl
theorem user_all {s : Bs} (h : userZ s = true) : 1 ≤ s.length ∧ s.length ≤ 12 ∧ s.all userC = true := by
 unfold userZ at h
 simp only [Bool.and_eq_true, decide_eq_true_eq, Bool.not_eq_true', decide_eq_false_iff_not] at h
 exact ⟨List.length_pos_iff.2 h.1.1, h.1.2, h.2⟩
theorem user_colon {s : Bs} (h : userZ s = true) : (58 : UInt8) ∉ s := fun hm => by
 have := List.all_eq_true.1 (user_all h).2.2 _ hm
 exact absurd this (by decide)
theorem id_is {s : Bs} (h : isIDZ s = true) (hw : s ≠ worldB) : 17 < s.length ∧ s[s.length - 17]? = some 58 ∧ userZ (s.take (s.length - 17)) = true ∧ (s.drop (s.length - 16)).all hexC = true := by
 unfold isIDZ at h
 rw [decide_eq_false hw, Bool.false_or] at h
 simp only [Bool.and_eq_true, decide_eq_true_eq] at h
 obtain ⟨⟨⟨h1, h2⟩, h3⟩, h4⟩ := h
 have hc := colon_cut h1
 have hu := (user_all h2).1
 generalize colon1 s = a at *
 generalize colon2 s = b at *
 subst hc
 have e : (a ++ 58 :: b).length = a.length + 17 := by rw [List.length_append, List.length_cons, h3]
 rw [e, show a.length + 17 - 17 = a.length by omega, show a.length + 17 - 16 = a.length + 1 by omega]
 refine ⟨by omega, ?_, ?_, ?_⟩
 ·rw [List.getElem?_append_right (Nat.le_refl _)]; simp
 ·rw [List.take_left']; exact h2; rfl
 ·rw [show a ++ 58 :: b = (a ++ [58]) ++ b by simp, List.drop_left' (by simp)]; exact h4
theorem id_yes {s : Bs} (h1 : 17 < s.length) (h2 : s[s.length - 17]? = some 58) (h3 : userZ (s.take (s.length - 17)) = true) (h4 : (s.drop (s.length - 16)).all hexC = true) : isIDZ s = true := by
 obtain ⟨hlt, he⟩ := List.getElem?_eq_some_iff.1 h2
 have hs : s = s.take (s.length - 17) ++ 58 :: s.drop (s.length - 16) := by
  have g := (List.take_append_drop (s.length - 17) s).symm
  rw [List.drop_eq_getElem_cons hlt, he, show s.length - 17 + 1 = s.length - 16 by omega] at g
  exact g
 have hn := user_colon h3
 obtain ⟨c1, c2⟩ := colon_of (s.drop (s.length - 16)) hn
 rw [← hs] at c1 c2
 have hm : (58 : UInt8) ∈ s := by rw [hs]; simp
 unfold isIDZ
 rw [c1, c2, h3, h4, decide_eq_true hm, decide_eq_true (show (s.drop (s.length - 16)).length = 16 by rw [List.length_drop]; omega)]
 simp
theorem id_world : isIDZ worldB = true := by decide
theorem right_bad {l : List Ac} {i : Nat} (hi : i < l.length) (h : badAc l[i] = true) : rightZ l = false := by
 unfold rightZ
 rw [List.any_eq_true.2 ⟨l[i], List.getElem_mem hi, h⟩]; simp
theorem right_len {l : List Ac} (h : ¬ (1 ≤ l.length ∧ l.length ≤ 4)) : rightZ l = false := by
 unfold rightZ
 by_cases h1 : 0 < l.length
 ·rw [decide_eq_false (show ¬ l.length ≤ 4 by omega)]; simp
 ·rw [decide_eq_false h1]; simp
theorem right_ok {l : List Ac} (h1 : 1 ≤ l.length) (h2 : l.length ≤ 4) (h : l.any badAc = false) : rightZ l = true := by
 unfold rightZ
 rw [h, decide_eq_true (show 0 < l.length by omega), decide_eq_true h2]; rfl
theorem any_step {l : List Ac} {i : Nat} (hi : i < l.length) (h : (l.take i).any badAc = false) (hb : badAc l[i] = false) : (l.take (i + 1)).any badAc = false := by
 rw [List.take_succ_eq_append_getElem hi, List.any_append, h]; simp [hb]
theorem r6given_spec (va iv : Value) (l : List Ac) (ids : List Bs) (p q : HP) (hp : ∀ h : Hp, p h → rdS 2 h va l.length (l.flatMap acC)) (hq : ∀ h : Hp, q h → rdS 1 h iv ids.length (strs ids)) (hl : l.length ≤ 1048576) (hn : ids.length ≤ 1048576) (bit : Int) : Fn Tryz.prog 194 #[va, vint bit, iv] [p, q] fun v L => v = .bool (givenB l bit ids) ∧ L = [p, q] := by
 refine Fn.intro Tryz.func194 rfl rfl fun F W => ?_
 refine .rdAny (p := p) hp (by repeat' constructor) fun aa ca e0 _ => ?_
 subst e0
 refine .rdAny (p := q) hq (by repeat' constructor) fun ai ci e0 _ => ?_
 subst e0
 refine .sr (.an rfl (.seq (.sr (.an rfl (.block (.loopK (ι := Nat) (fun q E => (7, vint q) :: E) (fun q => []) (fun q => q ≤ l.length ∧ ∀ j (hj : j < q) (hj2 : j < l.length), ¬ (¬ andI l[j].1 bit = 0 ∧ hitsA ids l[j] = true)) (fun q => l.length - q) (0) (ts := [0, 1, 2]) (.cons rfl (.cons rfl (.cons rfl (.nil)))) (⟨Nat.zero_le _, fun j hj => by omega⟩) ⟨rfl, rfl, rfl, rfl, trivial⟩ (by repeat' constructor) ?_))))))
 rintro i ⟨hi, hno⟩
 refine .seq (.sm rfl (.m rfl (.q (.slen rfl Tryz.underlying24 rfl) rfl (.ui rfl rfl rfl (.nt (.condD rfl (fun h12 => ?_) (fun h12 => ?_)))))))
 ·have hi2 : i < l.length := by omega
  refine .rdShape (p := p) hp (by repeat' constructor) (by omega) fun ba oa e0 => ?_
  subst e0
  refine .sk (.seq (.block (.seq (.sm rfl (.m rfl (.q (.indexAddr rfl rfl el_24 (by omega)) rfl (.u (.fieldAddr rfl fo_85_0) (.q (.loadRd (sz := 2) (j := i * 2 + 0) (p := p) (v := vint l[i].1) rfl ag_3 (by repeat' constructor) hp (by first | omega | (simp; done) | (simp; omega)) ((ac_cell (k := 0) hi2 (by decide)).trans rfl)) rfl (.m rfl (.u (.andI rfl rfl) (.ui rfl rfl rfl (.nt (.condD rfl (fun h22 => ?_) (fun h22 => ?_))))))))))))))
  ·refine .exit (.then_e (.blk_e (.then_n (.region (.m rfl (.q (.add rfl rfl (by omega)) rfl (.an rfl ?_)))))))
   exact .rk (i + 1) (⟨by omega, fun j hj hj2 => by by_cases e : j = i; (subst e; exact fun g => g.1 h22); exact hno j (by omega) hj2⟩) (by omega) ⟨rfl, rfl, rfl, rfl, trivial⟩
  refine .sk (.seq (.sm rfl (.m rfl (.q (.indexAddr rfl rfl el_24 (by omega)) rfl (.u (.fieldAddr rfl fo_85_1) (.q (.loadRd (sz := 2) (j := i * 2 + 1) (p := p) (v := vstr l[i].2) rfl ag_9 (by repeat' constructor) hp (by first | omega | (simp; done) | (simp; omega)) ((ac_cell (k := 1) hi2 (by decide)).trans rfl)) rfl (.u (.streq rfl rfl) (.nt (.condD rfl (fun h28 => ?_) (fun h28 => ?_))))))))))
  ·refine .sr (.an rfl (.rt (.blk_r (.then_r (.then_r (.blk_r (.then_r ?_)))))))
   exact .dn rfl rfl ⟨by rw [given_at hi2 h22 (hits_world h28)], rfl⟩
  refine .sk (.sr (.an rfl (.block (.loopK (ι := Nat) (fun q E => (8, vint q) :: E) (fun q => []) (fun q => q ≤ ids.length ∧ ∀ m (hm : m < q) (hm2 : m < ids.length), ids[m] ≠ l[i].2) (fun q => ids.length - q) (0) (ts := [0, 1, 2, 7, 9, 10, 11, 12, 15, 16, 17, 18, 19, 20, 21, 22, 23, 24, 25, 26, 27, 28]) (.cons rfl (.cons rfl (.cons rfl (.cons rfl (.cons rfl (.cons rfl (.cons rfl (.cons rfl (.cons rfl (.cons rfl (.cons rfl (.cons rfl (.cons rfl (.cons rfl (.cons rfl (.cons rfl (.cons rfl (.cons rfl (.cons rfl (.cons rfl (.cons rfl (.cons rfl (.nil))))))))))))))))))))))) (⟨Nat.zero_le _, fun m hm => by omega⟩) ⟨rfl, rfl, rfl, rfl, rfl, rfl, rfl, rfl, rfl, rfl, rfl, rfl, rfl, rfl, rfl, rfl, rfl, rfl, rfl, rfl, rfl, rfl, rfl, trivial⟩ (by repeat' constructor) ?_))))
  rintro k ⟨hk, hk2⟩
  refine .seq (.sm rfl (.m rfl (.q (.slen rfl Tryz.underlying23 rfl) rfl (.ui rfl rfl rfl (.nt (.condD rfl (fun h32 => ?_) (fun h32 => ?_)))))))
  ·have hk3 : k < ids.length := by omega
   refine .rdShape (p := q) hq (by repeat' constructor) (by omega) fun bb ob e0 => ?_
   subst e0
   refine .sk (.seq (.block (.seq (.draw [] [[0, 1, 2, 3, 4, 5, 6, 7, 8, 9]] mixed (by kernel_rfl) (.g0 (.mv rfl rfl (.mv rfl rfl (.kv rfl (.indexAddr rfl rfl el_23 (by omega)) (.kv rfl (.loadEl (p := q) (i := k * 1) (v := vstr ids[k]) rfl ag_9 (by repeat' constructor) hq (by rw [Nat.mul_one]; simp [hk3])) (.mv rfl rfl (.mv rfl rfl (.kv rfl (.indexAddr rfl rfl el_24 (by omega)) (.kv rfl (.fieldAddr rfl fo_85_1) (.kv rfl (.loadRd (sz := 2) (j := i * 2 + 1) (p := p) (v := vstr l[i].2) rfl ag_9 (by repeat' constructor) hp (by first | omega | (simp; done) | (simp; omega)) ((ac_cell (k := 1) hi2 (by decide)).trans rfl)) (.kv rfl (.streq rfl rfl) (.pf (.condD rfl (fun h44 => ?_) (fun h44 => ?_))))))))))))))))))
   ·refine .sr (.an rfl (.ret (.blk_r (.then_r (.then_r (.blk_r (.blk_r (.then_r (.then_r (.blk_r (.then_r ?_)))))))))))
    exact .dn rfl rfl ⟨by rw [given_at hi2 h22 (hits_mem hk3 h44)], rfl⟩
   refine .skip (.blk_n (.then_n (.region (.m rfl (.q (.add rfl rfl (by omega)) rfl (.an rfl ?_))))))
   exact .rk (k + 1) (⟨by omega, fun m hm hm2 => by by_cases e : m = k; (subst e; exact h44); exact hk2 m (by omega) hm2⟩) (by omega) ⟨rfl, rfl, rfl, rfl, rfl, rfl, rfl, rfl, rfl, rfl, rfl, rfl, rfl, rfl, rfl, rfl, rfl, rfl, rfl, rfl, rfl, rfl, rfl, trivial⟩
  refine .exit (.then_e (.then_e (.blk_e (.blk_n (.then_n (.region (.m rfl (.q (.add rfl rfl (by omega)) rfl (.an rfl ?_)))))))))
  exact .rk (i + 1) (⟨by omega, fun j hj hj2 => by by_cases e : j = i; (subst e; exact fun g => hits_no h28 (fun m hm => hk2 m (by omega) hm) g.2); exact hno j (by omega) hj2⟩) (by omega) ⟨rfl, rfl, rfl, rfl, trivial⟩
 refine .exit (.then_e (.then_e (.blk_e (.then_n (.sr (.an rfl (.ret ?_)))))))
 exact .dn rfl rfl ⟨by rw [given_no (fun j hj => hno j (by omega) hj)], rfl⟩
theorem r6may_spec (va iv : Value) (l : List Ac) (ids : List Bs) (p q : HP) (hp : ∀ h : Hp, p h → rdS 2 h va l.length (l.flatMap acC)) (hq : ∀ h : Hp, q h → rdS 1 h iv ids.length (strs ids)) (hl : l.length ≤ 1048576) (hn : ids.length ≤ 1048576) (perms : Int) : Fn Tryz.prog 140 #[va, vint perms, iv] [p, q] fun v L => v = .bool (mayZ l perms ids) ∧ L = [p, q] := by
 refine Fn.intro Tryz.func140 rfl rfl fun F W => ?_
 refine .sr (.an rfl (.seq (.sm rfl (.ui rfl rfl rfl (.m rfl (.dec (t := 11) rfl (fun h1_11 => ?_) (fun h1_11 => ?_)))))))
 ·refine .kDT (t := 10) rfl h1_11 (.gk (.gk (.u (.pickT rfl rfl) (.nt (.condT rfl (.sr (.an rfl (.rt ?_))))))))
  exact .dn rfl rfl ⟨by rw [show mayZ l perms ids = false from Bool.eq_false_iff.2 (fun g => by have h := (may_iff _ _ _).1 g; have h1 := h.1; have h2 := h.2.1; first | omega | exact absurd (h.2.2 i hi2 h7_27) (by simpa using h30))], rfl⟩
 refine .kDF (t := 10) rfl h1_11 (.grun (t := 11) rfl rfl rfl (.m rfl (.grun (t := 11) rfl rfl rfl (.ui rfl rfl rfl (.u (.pickF rfl rfl) (.nt (.condD rfl (fun h14 => ?_) (fun h14 => ?_))))))))
 ·refine .sr (.an rfl (.rt ?_))
  exact .dn rfl rfl ⟨by rw [show mayZ l perms ids = false from Bool.eq_false_iff.2 (fun g => by have h := (may_iff _ _ _).1 g; have h1 := h.1; have h2 := h.2.1; first | omega | exact absurd (h.2.2 i hi2 h7_27) (by simpa using h30))], rfl⟩
 refine .sk (.seq (.sr (.an rfl (.block (.loopK (ι := Nat) (fun q E => (7, vint (bitI q)) :: E) (fun q => []) (fun q => q ≤ 5 ∧ ∀ j, j < q → andI perms (bitI j) ≠ 0 → givenB l (bitI j) ids = true) (fun q => 5 - q) (0) (ts := [0, 1, 2]) (.cons rfl (.cons rfl (.cons rfl (.nil)))) (⟨Nat.zero_le _, fun j hj => by omega⟩) ⟨rfl, rfl, rfl, rfl, trivial⟩ (by repeat' constructor) ?_)))))
 rintro i ⟨hi, hall⟩
 refine .seq (.sm rfl (.ui rfl rfl rfl (.nt (.condD rfl (fun h16 => ?_) (fun h16 => ?_)))))
 ·have hi2 : i < 5 := (bit_32 hi).1 h16
  have hbn := bit_next hi2
  refine .sk (.seq (.block (.sm rfl (.m rfl (.m rfl (.cv Tryz.func194 [_, _, _] (r6given_spec va iv l ids p q hp hq hl hn (bitI i)) ?_))))))
  refine .an rfl (.sm rfl (.m rfl (.u (.andI rfl rfl) (.ui rfl rfl rfl (.m rfl (.ndec (t := 27) rfl (fun h7_27 => ?_) (fun h7_27 => ?_)))))))
  ·refine .kNT (t := 26) rfl h7_27 (.grun (t := 27) rfl rfl rfl (.m rfl (.grun (t := 27) rfl rfl rfl (.u (.not rfl) (.u (.pickT rfl rfl) (.nt (.condB rfl (fun h30 => ?_) (fun h30 => ?_))))))))
   ·refine .sr (.an rfl (.ret (.blk_r (.then_r (.then_r (.blk_r (.then_r ?_)))))))
    exact .dn rfl rfl ⟨by rw [show mayZ l perms ids = false from Bool.eq_false_iff.2 (fun g => by have h := (may_iff _ _ _).1 g; have h1 := h.1; have h2 := h.2.1; first | omega | exact absurd (h.2.2 i hi2 h7_27) (by simpa using h30))], rfl⟩
   have hgv : givenB l (bitI i) ids = true := by simpa using h30
   refine .skip (.blk_n (.then_n (.region (.m rfl (.q (.to (v' := vint (bitI (i + 1))) (.mul rfl rfl (by omega)) (by rw [hbn.1])) rfl (.an rfl ?_))))))
   exact .rk (i + 1) (⟨by omega, fun j hj hb => by by_cases e : j = i; (subst e; exact hgv); exact hall j (by omega) hb⟩) (by omega) ⟨rfl, rfl, rfl, rfl, trivial⟩
  refine .kNF (t := 26) rfl h7_27 (.gk (.gk (.u (.pickF rfl rfl) (.nt (.condF rfl (.skip (.blk_n (.then_n (.region (.m rfl (.q (.to (v' := vint (bitI (i + 1))) (.mul rfl rfl (by omega)) (by rw [hbn.1])) rfl (.an rfl ?_))))))))))))
  exact .rk (i + 1) (⟨by omega, fun j hj hb => by by_cases e : j = i; (subst e; exact absurd hb (by simpa using h7_27)); exact hall j (by omega) hb⟩) (by omega) ⟨rfl, rfl, rfl, rfl, trivial⟩
 refine .exit (.then_e (.then_e (.blk_e (.then_n (.sr (.an rfl (.ret ?_)))))))
 exact .dn rfl rfl ⟨by rw [(may_iff _ _ _).2 ⟨by omega, by omega, fun j hj hb => hall j (by have := (bit_32 hi).2; omega) hb⟩], rfl⟩
theorem r6user_spec (s : Bs) (hs : s.length ≤ 1048576) : Fn Tryz.prog 212 #[vstr s] [] fun v L => v = .bool (userZ s) ∧ L = [] := by
 refine Fn.intro Tryz.func212 rfl rfl fun F W => ?_
 refine .sr (.an rfl (.seq (.sm rfl (.q (.strlen rfl Tryz.underlying9 rfl) rfl (.ui rfl rfl rfl (.m rfl (.dec (t := 7) rfl (fun h1_7 => ?_) (fun h1_7 => ?_))))))))
 ·refine .kDT (t := 6) rfl h1_7 (.gk (.gk (.gk (.u (.pickT rfl rfl) (.nt (.condT rfl (.sr (.an rfl (.rt ?_)))))))))
  exact .dn rfl rfl ⟨congrArg Value.bool (user_len (by omega)).symm, rfl⟩
 refine .kDF (t := 6) rfl h1_7 (.grun (t := 7) rfl rfl rfl (.m rfl (.grun (t := 7) rfl rfl rfl (.q (.strlen rfl Tryz.underlying9 rfl) rfl (.grun (t := 7) rfl rfl rfl (.ui rfl rfl rfl (.u (.pickF rfl rfl) (.nt (.condD rfl (fun h11 => ?_) (fun h11 => ?_))))))))))
 ·refine .sr (.an rfl (.rt ?_))
  exact .dn rfl rfl ⟨congrArg Value.bool (user_len (by omega)).symm, rfl⟩
 refine .sk (.seq (.sr (.an rfl (.block (.loopK (ι := Nat) (fun q E => (3, vint q) :: E) (fun q => []) (fun q => q ≤ s.length ∧ (s.take q).all userC = true) (fun q => s.length - q) (0) (ts := [0]) (.cons rfl (.nil)) (⟨Nat.zero_le _, rfl⟩) ⟨rfl, rfl, trivial⟩ (by repeat' constructor) ?_)))))
 rintro i ⟨hi, hall⟩
 refine .seq (.sm rfl (.m rfl (.q (.strlen rfl Tryz.underlying9 rfl) rfl (.ui rfl rfl rfl (.nt (.condD rfl (fun h15 => ?_) (fun h15 => ?_)))))))
 ·have hi2 : i < s.length := by omega
  refine .sk (.seq (.block (.sm rfl (.m rfl (.q (.strIndex (c := s[i]) rfl rfl Tryz.underlying9 (by omega) (by simp)) rfl (.ui rfl rfl rfl (.m rfl (.dec (t := 22) rfl (fun h6_22 => ?_) (fun h6_22 => ?_)))))))))
  ·refine .kDT (t := 21) rfl h6_22 (.gk (.gk (.gk (.gk (.u (.pickT rfl rfl) (.m rfl (.grun (t := 28) rfl rfl rfl (.m rfl (.grun (t := 28) rfl rfl rfl (.m rfl (.grun (t := 28) rfl rfl rfl (.q (.strIndex (c := s[i]) rfl rfl Tryz.underlying9 (by omega) (by simp)) rfl (.grun (t := 28) rfl rfl rfl (.ui rfl rfl rfl (.grun (t := 28) rfl rfl rfl (.m rfl (.dec (t := 33) rfl (fun h6_33 => ?_) (fun h6_33 => ?_))))))))))))))))))
   ·refine .kDT (t := 32) rfl h6_33 (.gk (.gk (.gk (.gk (.grun (t := 28) rfl rfl rfl (.u (.pickT rfl rfl) (.u (.pickT rfl rfl) (.nt (.condT rfl (.seq ?_))))))))))
    have hb : userC s[i] = false := by unfold userC digB; simp only [Bool.or_eq_false_iff, Bool.and_eq_false_iff, decide_eq_false_iff_not]; omega
    refine .region (.an rfl (.ret (.blk_r (.then_r (.then_r (.blk_r (.then_r ?_)))))))
    exact .dn rfl rfl ⟨congrArg Value.bool (user_bad hi2 hb).symm, rfl⟩
   refine .kDF (t := 32) rfl h6_33 (.grun (t := 33) rfl rfl rfl (.m rfl (.grun (t := 33) rfl rfl rfl (.m rfl (.grun (t := 33) rfl rfl rfl (.q (.strIndex (c := s[i]) rfl rfl Tryz.underlying9 (by omega) (by simp)) rfl (.grun (t := 33) rfl rfl rfl (.ui rfl rfl rfl (.grun (t := 28) rfl rfl rfl (.u (.pickF rfl rfl) (.u (.pickT rfl rfl) (.nt (.condD rfl (fun h39 => ?_) (fun h39 => ?_))))))))))))))
   ·refine .seq ?_
    have hb : userC s[i] = false := by unfold userC digB; simp only [Bool.or_eq_false_iff, Bool.and_eq_false_iff, decide_eq_false_iff_not]; omega
    refine .region (.an rfl (.ret (.blk_r (.then_r (.then_r (.blk_r (.then_r ?_)))))))
    exact .dn rfl rfl ⟨congrArg Value.bool (user_bad hi2 hb).symm, rfl⟩
   refine .skip (.blk_n (.then_n (.region (.m rfl (.q (.add rfl rfl (by omega)) rfl (.an rfl ?_))))))
   have hb : userC s[i] = true := by unfold userC digB; simp only [Bool.or_eq_true, Bool.and_eq_true, decide_eq_true_eq]; omega
   exact .rk (i + 1) (⟨by omega, all_step hi2 hall hb⟩) (by omega) ⟨rfl, rfl, trivial⟩
  refine .kDF (t := 21) rfl h6_22 (.grun (t := 22) rfl rfl rfl (.m rfl (.grun (t := 22) rfl rfl rfl (.m rfl (.grun (t := 22) rfl rfl rfl (.q (.strIndex (c := s[i]) rfl rfl Tryz.underlying9 (by omega) (by simp)) rfl (.grun (t := 22) rfl rfl rfl (.ui rfl rfl rfl (.u (.pickF rfl rfl) (.m rfl (.dec (t := 28) rfl (fun h6_28 => ?_) (fun h6_28 => ?_))))))))))))
  ·refine .kDT (t := 26) rfl h6_28 (.kDT (t := 27) rfl h6_28 (.grun (t := 28) rfl rfl rfl (.m rfl (.grun (t := 28) rfl rfl rfl (.m rfl (.grun (t := 28) rfl rfl rfl (.q (.strIndex (c := s[i]) rfl rfl Tryz.underlying9 (by omega) (by simp)) rfl (.grun (t := 28) rfl rfl rfl (.ui rfl rfl rfl (.grun (t := 28) rfl rfl rfl (.m rfl (.dec (t := 33) rfl (fun h6_33 => ?_) (fun h6_33 => ?_)))))))))))))
   ·refine .kDT (t := 32) rfl h6_33 (.gk (.gk (.gk (.gk (.grun (t := 28) rfl rfl rfl (.u (.pickT rfl rfl) (.u (.pickT rfl rfl) (.nt (.condT rfl (.seq ?_))))))))))
    have hb : userC s[i] = false := by unfold userC digB; simp only [Bool.or_eq_false_iff, Bool.and_eq_false_iff, decide_eq_false_iff_not]; omega
    refine .region (.an rfl (.ret (.blk_r (.then_r (.then_r (.blk_r (.then_r ?_)))))))
    exact .dn rfl rfl ⟨congrArg Value.bool (user_bad hi2 hb).symm, rfl⟩
   refine .kDF (t := 32) rfl h6_33 (.grun (t := 33) rfl rfl rfl (.m rfl (.grun (t := 33) rfl rfl rfl (.m rfl (.grun (t := 33) rfl rfl rfl (.q (.strIndex (c := s[i]) rfl rfl Tryz.underlying9 (by omega) (by simp)) rfl (.grun (t := 33) rfl rfl rfl (.ui rfl rfl rfl (.grun (t := 28) rfl rfl rfl (.u (.pickF rfl rfl) (.u (.pickT rfl rfl) (.nt (.condD rfl (fun h39 => ?_) (fun h39 => ?_))))))))))))))
   ·refine .seq ?_
    have hb : userC s[i] = false := by unfold userC digB; simp only [Bool.or_eq_false_iff, Bool.and_eq_false_iff, decide_eq_false_iff_not]; omega
    refine .region (.an rfl (.ret (.blk_r (.then_r (.then_r (.blk_r (.then_r ?_)))))))
    exact .dn rfl rfl ⟨congrArg Value.bool (user_bad hi2 hb).symm, rfl⟩
   refine .skip (.blk_n (.then_n (.region (.m rfl (.q (.add rfl rfl (by omega)) rfl (.an rfl ?_))))))
   have hb : userC s[i] = true := by unfold userC digB; simp only [Bool.or_eq_true, Bool.and_eq_true, decide_eq_true_eq]; omega
   exact .rk (i + 1) (⟨by omega, all_step hi2 hall hb⟩) (by omega) ⟨rfl, rfl, trivial⟩
  refine .kDF (t := 26) rfl h6_28 (.kDF (t := 27) rfl h6_28 (.gk (.gk (.gk (.gk (.gk (.gskipU (t := 33) rfl rfl rfl (.gskipU (t := 33) rfl rfl rfl (.gskipU (t := 33) rfl rfl rfl (.gskipU (t := 33) rfl rfl rfl (.gk (.u (.pickF rfl rfl) (.nt (.condF rfl (.skip (.blk_n (.then_n (.region (.m rfl (.q (.add rfl rfl (by omega)) rfl (.an rfl ?_)))))))))))))))))))))
  have hb : userC s[i] = true := by unfold userC digB; simp only [Bool.or_eq_true, Bool.and_eq_true, decide_eq_true_eq]; omega
  exact .rk (i + 1) (⟨by omega, all_step hi2 hall hb⟩) (by omega) ⟨rfl, rfl, trivial⟩
 refine .exit (.then_e (.then_e (.blk_e (.then_n (.sr (.an rfl (.ret ?_)))))))
 exact .dn rfl rfl ⟨congrArg Value.bool (user_ok (by omega) (by omega) (by rw [List.take_of_length_le (by omega)] at hall; exact hall)).symm, rfl⟩
theorem r6isid_spec (s : Bs) (hs : s.length ≤ 1048576) : Fn Tryz.prog 173 #[vstr s] [] fun v L => v = .bool (isIDZ s) ∧ L = [] := by
 refine Fn.intro Tryz.func173 rfl rfl fun F W => ?_
 refine .sr (.an rfl (.seq (.sm rfl (.u (.streq rfl rfl) (.nt (.condD rfl (fun h6 => ?_) (fun h6 => ?_)))))))
 ·have hs0 : s = worldB := by first | exact h6 | exact (by simpa [worldB] using h6)
  subst hs0
  refine .sr (.an rfl (.rt ?_))
  exact .dn rfl rfl ⟨congrArg Value.bool id_world.symm, rfl⟩
 have hw : s ≠ worldB := h6
 refine .sk (.sm rfl (.q (.strlen rfl Tryz.underlying9 rfl) rfl (.q (.sub rfl rfl (by omega)) rfl (.an rfl (.seq (.sm rfl (.ui rfl rfl rfl (.m rfl (.dec (t := 12) rfl (fun h4_12 => ?_) (fun h4_12 => ?_))))))))))
 ·refine .kDT (t := 11) rfl h4_12 (.gk (.gk (.gk (.gk (.u (.pickT rfl rfl) (.m rfl (.gk (.gk (.gk (.gk (.gk (.u (.pickT rfl rfl) (.nt (.condT rfl (.sr (.an rfl (.rt ?_)))))))))))))))))
  exact .dn rfl rfl ⟨congrArg Value.bool (Bool.eq_false_iff.2 fun g => by have h := id_is g hw; omega).symm, rfl⟩
 have hm : 17 < s.length := by omega
 obtain ⟨c, hc⟩ : ∃ c, s[((s.length : Int) - 17).toNat]? = some c := ⟨s[s.length - 17], by rw [show ((s.length : Int) - 17).toNat = s.length - 17 by omega]; exact List.getElem?_eq_getElem (by omega)⟩
 have hc2 : s[s.length - 17]? = some c := by rw [← hc]; congr 1; omega
 refine .kDF (t := 11) rfl h4_12 (.grun (t := 12) rfl rfl rfl (.m rfl (.grun (t := 12) rfl rfl rfl (.m rfl (.grun (t := 12) rfl rfl rfl (.q (.strIndex (c := c) rfl rfl Tryz.underlying9 (by omega) hc) rfl (.grun (t := 12) rfl rfl rfl (.ui rfl rfl rfl (.u (.pickF rfl rfl) (.m rfl (.ndec (t := 18) rfl (fun h4_18 => ?_) (fun h4_18 => ?_))))))))))))
 ·refine .kNT (t := 16) rfl h4_18 (.kNT (t := 17) rfl h4_18 (.gk (.gk (.gk (.gk (.gk (.u (.pickT rfl rfl) (.nt (.condT rfl (.sr (.an rfl (.rt ?_))))))))))))
  exact .dn rfl rfl ⟨congrArg Value.bool (Bool.eq_false_iff.2 fun g => by have h := (id_is g hw).2.1; rw [hc2] at h; exact h4_18 (by cases h; rfl)).symm, rfl⟩
 refine .kNF (t := 16) rfl h4_18 (.kNF (t := 17) rfl h4_18 (.grun (t := 18) rfl rfl rfl (.m rfl (.grun (t := 18) rfl rfl rfl (.m rfl (.grun (t := 18) rfl rfl rfl (.q (.to (v' := vstr (s.take (s.length - 17))) (.strTo rfl rfl Tryz.underlying9 (by omega)) (by rw [show ((s.length : Int) - 17).toNat = s.length - 17 by omega])) rfl (.grun (t := 18) rfl rfl rfl (.oq (.call Tryz.func212 rfl rfl (vs := [_]) rfl (r6user_spec _ (by rw [List.length_take]; omega))) ?_)))))))))
 rintro v L' ⟨rfl, rfl⟩
 refine .grun (t := 18) rfl rfl rfl (.u (.not rfl) (.u (.pickF rfl rfl) (.nt (.condB rfl (fun h24 => ?_) (fun h24 => ?_)))))
 ·refine .sr (.an rfl (.rt ?_))
  exact .dn rfl rfl ⟨congrArg Value.bool (Bool.eq_false_iff.2 fun g => by have h := (id_is g hw).2.2.1; simp_all).symm, rfl⟩
 refine .sk (.seq (.seq ?_))
 have hc58 : c = 58 := byte_eq (d := 58) (by first | exact h4_18 | simpa using h4_18)
 subst hc58
 have hus : userZ (s.take (s.length - 17)) = true := by simpa using h24
 have hdl : (s.drop (s.length - 16)).length = 16 := by rw [List.length_drop]; omega
 refine .region (.m rfl (.q (.to (v' := vint ((s.length : Int) - 17 + 1 + ((0 : Nat) : Int))) (.add rfl rfl (by omega)) (by congr 1; omega)) rfl (.an rfl (.block (.loopK (ι := Nat) (fun q E => (4, vint ((s.length : Int) - 17 + 1 + (q : Int))) :: E) (fun q => []) (fun q => q ≤ 16 ∧ ((s.drop (s.length - 16)).take q).all hexC = true) (fun q => 16 - q) (0) (ts := [0]) (.cons rfl (.nil)) (⟨Nat.zero_le _, rfl⟩) ⟨rfl, rfl, trivial⟩ (by repeat' constructor) ?_)))))
 rintro j ⟨hj, hall⟩
 refine .seq (.sm rfl (.m rfl (.q (.strlen rfl Tryz.underlying9 rfl) rfl (.ui rfl rfl rfl (.nt (.condD rfl (fun h30 => ?_) (fun h30 => ?_)))))))
 ·have hj2 : j < (s.drop (s.length - 16)).length := by omega
  have hj3 : s[(((s.length : Int) - 17 + 1 + (j : Int))).toNat]? = some (s.drop (s.length - 16))[j] := by rw [← List.getElem?_eq_getElem hj2, List.getElem?_drop]; congr 1; omega
  refine .sk (.seq (.block (.sm rfl (.m rfl (.q (.strIndex (c := (s.drop (s.length - 16))[j]) rfl rfl Tryz.underlying9 (by omega) hj3) rfl (.ui rfl rfl rfl (.m rfl (.dec (t := 37) rfl (fun h9_37 => ?_) (fun h9_37 => ?_)))))))))
  ·refine .kDT (t := 36) rfl h9_37 (.gk (.gk (.gk (.gk (.u (.pickT rfl rfl) (.m rfl (.grun (t := 43) rfl rfl rfl (.m rfl (.grun (t := 43) rfl rfl rfl (.m rfl (.grun (t := 43) rfl rfl rfl (.q (.strIndex (c := (s.drop (s.length - 16))[j]) rfl rfl Tryz.underlying9 (by omega) hj3) rfl (.grun (t := 43) rfl rfl rfl (.ui rfl rfl rfl (.grun (t := 43) rfl rfl rfl (.m rfl (.dec (t := 48) rfl (fun h9_48 => ?_) (fun h9_48 => ?_))))))))))))))))))
   ·refine .kDT (t := 47) rfl h9_48 (.gk (.gk (.gk (.gk (.grun (t := 43) rfl rfl rfl (.u (.pickT rfl rfl) (.u (.pickT rfl rfl) (.nt (.condT rfl (.seq ?_))))))))))
    have hb : hexC (s.drop (s.length - 16))[j] = false := by unfold hexC digB; simp only [Bool.or_eq_false_iff, Bool.and_eq_false_iff, decide_eq_false_iff_not]; omega
    refine .region (.an rfl (.ret (.blk_r (.then_r (.then_r (.blk_r (.then_r ?_)))))))
    exact .dn rfl rfl ⟨congrArg Value.bool (Bool.eq_false_iff.2 fun g => by have h := (id_is g hw).2.2.2; rw [all_bad hj2 hb] at h; cases h).symm, rfl⟩
   refine .kDF (t := 47) rfl h9_48 (.grun (t := 48) rfl rfl rfl (.m rfl (.grun (t := 48) rfl rfl rfl (.m rfl (.grun (t := 48) rfl rfl rfl (.q (.strIndex (c := (s.drop (s.length - 16))[j]) rfl rfl Tryz.underlying9 (by omega) hj3) rfl (.grun (t := 48) rfl rfl rfl (.ui rfl rfl rfl (.grun (t := 43) rfl rfl rfl (.u (.pickF rfl rfl) (.u (.pickT rfl rfl) (.nt (.condD rfl (fun h54 => ?_) (fun h54 => ?_))))))))))))))
   ·refine .seq ?_
    have hb : hexC (s.drop (s.length - 16))[j] = false := by unfold hexC digB; simp only [Bool.or_eq_false_iff, Bool.and_eq_false_iff, decide_eq_false_iff_not]; omega
    refine .region (.an rfl (.ret (.blk_r (.then_r (.then_r (.blk_r (.then_r ?_)))))))
    exact .dn rfl rfl ⟨congrArg Value.bool (Bool.eq_false_iff.2 fun g => by have h := (id_is g hw).2.2.2; rw [all_bad hj2 hb] at h; cases h).symm, rfl⟩
   refine .skip (.blk_n (.then_n (.region (.m rfl (.q (.to (v' := vint ((s.length : Int) - 17 + 1 + (((j + 1 : Nat)) : Int))) (.add rfl rfl (by omega)) (by congr 1; omega)) rfl (.an rfl ?_))))))
   have hb : hexC (s.drop (s.length - 16))[j] = true := by unfold hexC digB; simp only [Bool.or_eq_true, Bool.and_eq_true, decide_eq_true_eq]; omega
   exact .rk (j + 1) (⟨by omega, all_step hj2 hall hb⟩) (by omega) ⟨rfl, rfl, trivial⟩
  refine .kDF (t := 36) rfl h9_37 (.grun (t := 37) rfl rfl rfl (.m rfl (.grun (t := 37) rfl rfl rfl (.m rfl (.grun (t := 37) rfl rfl rfl (.q (.strIndex (c := (s.drop (s.length - 16))[j]) rfl rfl Tryz.underlying9 (by omega) hj3) rfl (.grun (t := 37) rfl rfl rfl (.ui rfl rfl rfl (.u (.pickF rfl rfl) (.m rfl (.dec (t := 43) rfl (fun h9_43 => ?_) (fun h9_43 => ?_))))))))))))
  ·refine .kDT (t := 41) rfl h9_43 (.kDT (t := 42) rfl h9_43 (.grun (t := 43) rfl rfl rfl (.m rfl (.grun (t := 43) rfl rfl rfl (.m rfl (.grun (t := 43) rfl rfl rfl (.q (.strIndex (c := (s.drop (s.length - 16))[j]) rfl rfl Tryz.underlying9 (by omega) hj3) rfl (.grun (t := 43) rfl rfl rfl (.ui rfl rfl rfl (.grun (t := 43) rfl rfl rfl (.m rfl (.dec (t := 48) rfl (fun h9_48 => ?_) (fun h9_48 => ?_)))))))))))))
   ·refine .kDT (t := 47) rfl h9_48 (.gk (.gk (.gk (.gk (.grun (t := 43) rfl rfl rfl (.u (.pickT rfl rfl) (.u (.pickT rfl rfl) (.nt (.condT rfl (.seq ?_))))))))))
    have hb : hexC (s.drop (s.length - 16))[j] = false := by unfold hexC digB; simp only [Bool.or_eq_false_iff, Bool.and_eq_false_iff, decide_eq_false_iff_not]; omega
    refine .region (.an rfl (.ret (.blk_r (.then_r (.then_r (.blk_r (.then_r ?_)))))))
    exact .dn rfl rfl ⟨congrArg Value.bool (Bool.eq_false_iff.2 fun g => by have h := (id_is g hw).2.2.2; rw [all_bad hj2 hb] at h; cases h).symm, rfl⟩
   refine .kDF (t := 47) rfl h9_48 (.grun (t := 48) rfl rfl rfl (.m rfl (.grun (t := 48) rfl rfl rfl (.m rfl (.grun (t := 48) rfl rfl rfl (.q (.strIndex (c := (s.drop (s.length - 16))[j]) rfl rfl Tryz.underlying9 (by omega) hj3) rfl (.grun (t := 48) rfl rfl rfl (.ui rfl rfl rfl (.grun (t := 43) rfl rfl rfl (.u (.pickF rfl rfl) (.u (.pickT rfl rfl) (.nt (.condD rfl (fun h54 => ?_) (fun h54 => ?_))))))))))))))
   ·refine .seq ?_
    have hb : hexC (s.drop (s.length - 16))[j] = false := by unfold hexC digB; simp only [Bool.or_eq_false_iff, Bool.and_eq_false_iff, decide_eq_false_iff_not]; omega
    refine .region (.an rfl (.ret (.blk_r (.then_r (.then_r (.blk_r (.then_r ?_)))))))
    exact .dn rfl rfl ⟨congrArg Value.bool (Bool.eq_false_iff.2 fun g => by have h := (id_is g hw).2.2.2; rw [all_bad hj2 hb] at h; cases h).symm, rfl⟩
   refine .skip (.blk_n (.then_n (.region (.m rfl (.q (.to (v' := vint ((s.length : Int) - 17 + 1 + (((j + 1 : Nat)) : Int))) (.add rfl rfl (by omega)) (by congr 1; omega)) rfl (.an rfl ?_))))))
   have hb : hexC (s.drop (s.length - 16))[j] = true := by unfold hexC digB; simp only [Bool.or_eq_true, Bool.and_eq_true, decide_eq_true_eq]; omega
   exact .rk (j + 1) (⟨by omega, all_step hj2 hall hb⟩) (by omega) ⟨rfl, rfl, trivial⟩
  refine .kDF (t := 41) rfl h9_43 (.kDF (t := 42) rfl h9_43 (.gk (.gk (.gk (.gk (.gk (.gskipU (t := 48) rfl rfl rfl (.gskipU (t := 48) rfl rfl rfl (.gskipU (t := 48) rfl rfl rfl (.gskipU (t := 48) rfl rfl rfl (.gk (.u (.pickF rfl rfl) (.nt (.condF rfl (.skip (.blk_n (.then_n (.region (.m rfl (.q (.to (v' := vint ((s.length : Int) - 17 + 1 + (((j + 1 : Nat)) : Int))) (.add rfl rfl (by omega)) (by congr 1; omega)) rfl (.an rfl ?_)))))))))))))))))))))
  have hb : hexC (s.drop (s.length - 16))[j] = true := by unfold hexC digB; simp only [Bool.or_eq_true, Bool.and_eq_true, decide_eq_true_eq]; omega
  exact .rk (j + 1) (⟨by omega, all_step hj2 hall hb⟩) (by omega) ⟨rfl, rfl, trivial⟩
 have hj16 : j = 16 := by omega
 have hall2 : (s.drop (s.length - 16)).all hexC = true := by rw [List.take_of_length_le (by omega)] at hall; exact hall
 refine .exit (.then_e (.then_e (.blk_e (.then_n (.sr (.an rfl (.ret ?_)))))))
 exact .dn rfl rfl ⟨congrArg Value.bool (id_yes hm hc2 hus hall2).symm, rfl⟩
theorem r6right_spec (va : Value) (l : List Ac) (p : HP) (hp : ∀ h : Hp, p h → rdS 2 h va l.length (l.flatMap acC)) (hl : l.length ≤ 1048576) (hs : ∀ a ∈ l, a.2.length ≤ 1048576) : Fn Tryz.prog 113 #[va] [p] fun v L => v = .bool (rightZ l) ∧ L = [p] := by
 refine Fn.intro Tryz.func113 rfl rfl fun F W => ?_
 refine .rdAny (p := p) hp (by repeat' constructor) fun aa ca e0 _ => ?_
 subst e0
 refine .sr (.an rfl (.seq (.sm rfl (.q (.slen rfl Tryz.underlying24 rfl) rfl (.ui rfl rfl rfl (.m rfl (.dec (t := 8) rfl (fun h1_8 => ?_) (fun h1_8 => ?_))))))))
 ·refine .kDT (t := 7) rfl h1_8 (.gk (.gk (.gk (.u (.pickT rfl rfl) (.nt (.condT rfl (.sr (.an rfl (.rt ?_)))))))))
  exact .dn rfl rfl ⟨congrArg Value.bool (right_len (by omega)).symm, rfl⟩
 refine .kDF (t := 7) rfl h1_8 (.grun (t := 8) rfl rfl rfl (.m rfl (.grun (t := 8) rfl rfl rfl (.q (.slen rfl Tryz.underlying24 rfl) rfl (.grun (t := 8) rfl rfl rfl (.ui rfl rfl rfl (.u (.pickF rfl rfl) (.nt (.condD rfl (fun h12 => ?_) (fun h12 => ?_))))))))))
 ·refine .sr (.an rfl (.rt ?_))
  exact .dn rfl rfl ⟨congrArg Value.bool (right_len (by omega)).symm, rfl⟩
 refine .sk (.seq (.sr (.an rfl (.block (.loopK (ι := Nat) (fun q E => (3, vint q) :: E) (fun q => []) (fun q => q ≤ l.length ∧ (l.take q).any badAc = false) (fun q => l.length - q) (0) (ts := [0]) (.cons rfl (.nil)) (⟨Nat.zero_le _, rfl⟩) ⟨rfl, rfl, trivial⟩ (by repeat' constructor) ?_)))))
 rintro i ⟨hi, hall⟩
 refine .seq (.sm rfl (.m rfl (.q (.slen rfl Tryz.underlying24 rfl) rfl (.ui rfl rfl rfl (.nt (.condD rfl (fun h16 => ?_) (fun h16 => ?_)))))))
 ·have hi2 : i < l.length := by omega
  refine .rdShape (p := p) hp (by repeat' constructor) (by omega) fun ba oa e0 => ?_
  subst e0
  refine .sk (.seq (.block (.sm rfl (.m rfl (.q (.indexAddr rfl rfl el_24 (by omega)) rfl (.u (.fieldAddr rfl fo_85_1) (.q (.loadRd (sz := 2) (j := i * 2 + 1) (p := p) (v := vstr l[i].2) rfl ag_9 (by repeat' constructor) hp (by first | omega | (simp; done) | (simp; omega)) ((ac_cell (k := 1) hi2 (by decide)).trans rfl)) rfl (.cv Tryz.func173 [_] (r6isid_spec l[i].2 (hs _ (List.getElem_mem hi2))) ?_))))))))
  refine .an rfl (.sm rfl (.m rfl (.q (.indexAddr rfl rfl el_24 (by omega)) rfl (.u (.fieldAddr rfl fo_85_0) (.q (.loadRd (sz := 2) (j := i * 2 + 0) (p := p) (v := vint l[i].1) rfl ag_3 (by repeat' constructor) hp (by first | omega | (simp; done) | (simp; omega)) ((ac_cell (k := 0) hi2 (by decide)).trans rfl)) rfl (.ui rfl rfl rfl (.m rfl (.dec (t := 31) rfl (fun h7_31 => ?_) (fun h7_31 => ?_)))))))))
  ·refine .kDT (t := 30) rfl h7_31 (.gk (.gk (.gk (.gk (.gk (.gk (.u (.pickT rfl rfl) (.m rfl (.gk (.gk (.u (.pickT rfl rfl) (.nt (.condT rfl (.seq ?_))))))))))))))
   have hb : badAc l[i] = true := by unfold badAc; simp_all
   refine .region (.an rfl (.ret (.blk_r (.then_r (.then_r (.blk_r (.then_r ?_)))))))
   exact .dn rfl rfl ⟨congrArg Value.bool (right_bad hi2 hb).symm, rfl⟩
  refine .kDF (t := 30) rfl h7_31 (.grun (t := 31) rfl rfl rfl (.m rfl (.grun (t := 31) rfl rfl rfl (.m rfl (.grun (t := 31) rfl rfl rfl (.q (.indexAddr rfl rfl el_24 (by omega)) rfl (.grun (t := 31) rfl rfl rfl (.u (.fieldAddr rfl fo_85_0) (.grun (t := 31) rfl rfl rfl (.q (.loadRd (sz := 2) (j := i * 2 + 0) (p := p) (v := vint l[i].1) rfl ag_3 (by repeat' constructor) hp (by first | omega | (simp; done) | (simp; omega)) ((ac_cell (k := 0) hi2 (by decide)).trans rfl)) rfl (.grun (t := 31) rfl rfl rfl (.ui rfl rfl rfl (.u (.pickF rfl rfl) (.m rfl (.dec (t := 39) rfl (fun h7_39 => ?_) (fun h7_39 => ?_))))))))))))))))
  ·refine .kDT (t := 37) rfl h7_39 (.kDT (t := 38) rfl h7_39 (.gk (.gk (.u (.pickT rfl rfl) (.nt (.condT rfl (.seq ?_)))))))
   have hb : badAc l[i] = true := by unfold badAc; simp_all
   refine .region (.an rfl (.ret (.blk_r (.then_r (.then_r (.blk_r (.then_r ?_)))))))
   exact .dn rfl rfl ⟨congrArg Value.bool (right_bad hi2 hb).symm, rfl⟩
  refine .kDF (t := 37) rfl h7_39 (.kDF (t := 38) rfl h7_39 (.grun (t := 39) rfl rfl rfl (.m rfl (.grun (t := 39) rfl rfl rfl (.u (.not rfl) (.u (.pickF rfl rfl) (.nt (.condB rfl (fun h42 => ?_) (fun h42 => ?_)))))))))
  ·refine .seq ?_
   have hb : badAc l[i] = true := by unfold badAc; simp_all
   refine .region (.an rfl (.ret (.blk_r (.then_r (.then_r (.blk_r (.then_r ?_)))))))
   exact .dn rfl rfl ⟨congrArg Value.bool (right_bad hi2 hb).symm, rfl⟩
  refine .skip (.blk_n (.then_n (.region (.m rfl (.q (.add rfl rfl (by omega)) rfl (.an rfl ?_))))))
  have hb : badAc l[i] = false := by unfold badAc; simp_all
  exact .rk (i + 1) (⟨by omega, any_step hi2 hall hb⟩) (by omega) ⟨rfl, rfl, trivial⟩
 refine .exit (.then_e (.then_e (.blk_e (.then_n (.sr (.an rfl (.ret ?_)))))))
 exact .dn rfl rfl ⟨congrArg Value.bool (right_ok (by omega) (by omega) (by rw [List.take_of_length_le (by omega)] at hall; exact hall)).symm, rfl⟩
def digS : Nat → Nat → Bs
 | 0, _ => []
 | k + 1, u => UInt8.ofNat (48 + u / 10 ^ k % 10) :: digS k u
theorem dig_back : ∀ (k u : Nat), digS (k + 1) u = digS k (u / 10) ++ [UInt8.ofNat (48 + u % 10)]
 | 0, u => by
  show [UInt8.ofNat (48 + u / 10 ^ 0 % 10)] = [UInt8.ofNat (48 + u % 10)]
  rw [Nat.pow_zero, Nat.div_one]
 | k + 1, u => by
  show UInt8.ofNat (48 + u / 10 ^ (k + 1) % 10) :: digS (k + 1) u = (UInt8.ofNat (48 + u / 10 / 10 ^ k % 10) :: digS k (u / 10)) ++ [UInt8.ofNat (48 + u % 10)]
  rw [dig_back k u, Nat.div_div_eq_div_mul, Nat.pow_succ, Nat.mul_comm 10 (10 ^ k)]; rfl
theorem dig_len : ∀ (k u : Nat), (digS k u).length = k
 | 0, _ => rfl
 | k + 1, u => by
  show (digS k u).length + 1 = k + 1
  rw [dig_len k u]
theorem dig_zero : ∀ k, digS k 0 = List.replicate k (48 : UInt8)
 | 0 => rfl
 | k + 1 => by
  show UInt8.ofNat (48 + 0 / 10 ^ k % 10) :: digS k 0 = _
  rw [dig_zero k, Nat.zero_div]; rfl
theorem dig_dec : ∀ (u k : Nat), (List.replicate k (48 : UInt8) ++ Lib.decDigits u).drop (Lib.decDigits u).length = digS k u := by
 intro u
 induction u using Nat.strongRecOn with
 | ind u ih =>
  intro k
  cases k with
  | zero => rw [List.replicate_zero, List.nil_append, List.drop_length]; rfl
  | succ k =>
   rw [dig_back, Lib.decDigits]
   by_cases h : u < 10
   ·rw [dif_pos h, show u / 10 = 0 by omega, dig_zero, show u % 10 = u by omega, List.replicate_succ]; rfl
   ·rw [dif_neg h, ← ih (u / 10) (by omega) k, List.length_append, List.length_singleton, List.replicate_succ, List.cons_append, List.drop_succ_cons, ← List.append_assoc, List.drop_append_of_le_length (by rw [List.length_append]; omega)]
theorem numbered_dig (p : Bs) (n : Int) : numbered p n = p ++ digS 10 (max n 0).toNat := by
 unfold numbered
 rw [show Lib.itoa (max n 0) = Lib.decDigits (max n 0).toNat from if_neg (by omega), dig_dec]
def nbB (M j : Nat) : List Value := (List.replicate (10 - j) (0 : UInt8) ++ digS j M).map vbyte
theorem nb_set {M j : Nat} (hj : j < 10) : (nbB M j).set (0 + ((9 : Int) - j).toNat * 1) (vbyte (UInt8.ofNat (48 + M / 10 ^ j % 10))) = nbB M (j + 1) := by
 have e : 0 + ((9 : Int) - j).toNat * 1 = 9 - j := by omega
 rw [e]
 unfold nbB
 have e2 : List.replicate (10 - j) (0 : UInt8) = List.replicate (9 - j) 0 ++ [0] := by
  rw [show 10 - j = (9 - j) + 1 by omega, List.replicate_succ']
 rw [e2, ← List.map_set, List.append_assoc, List.set_append_right _ _ (by rw [List.length_replicate]; exact Nat.le_refl _), List.length_replicate, Nat.sub_self, show 10 - (j + 1) = 9 - j by omega]
 rfl
theorem digit_wrap : ∀ r : Nat, r < 10 → IntKind.u8.wrap (48 + (r : Int)) = ((UInt8.ofNat (48 + r)).toNat : Int) := by decide
theorem nb_len {M j : Nat} (hj : j ≤ 10) : (nbB M j).length = 10 := by
 unfold nbB
 rw [List.length_map, List.length_append, List.length_replicate, dig_len]; omega
theorem rnumbered_spec (s : Bs) (n : Int) (hn : I64 n) (hs : s.length ≤ 1048576) : Fn Tryz.prog 172 #[vstr s, vint n] [] fun v L => v = vstr (numbered s n) ∧ L = [] := by
 refine Fn.intro Tryz.func172 rfl rfl fun F W => ?_
 have hm0 : (max n 0).toNat < 9223372036854775808 := by unfold I64 at hn; omega
 refine .sr (.an rfl (.sm rfl (.q (.to (v' := vint (((max n 0).toNat / 10 ^ 0 : Nat) : Int)) (.max2 rfl rfl) (by congr 1; rw [Nat.pow_zero, Nat.div_one]; omega)) rfl (.an rfl (.sr (.oq (.make rfl rfl el_229 ze_5 rfl ⟨by simp, by simp; rfl⟩ ?c4) ?_))))))
 case c4 => omega
 rintro v L' ⟨b5, rfl, rfl⟩
 refine .a rfl (.nil (.ptCast (b := b5) (l' := nbB (max n 0).toNat 0) (by repeat' constructor) (by rfl) ?_))
 refine .then_n (.seq (.sr (.an rfl (.block (.loopK (ι := Nat) (fun q E => (6, vint ((9 : Int) - q)) :: (1, vint (((max n 0).toNat / 10 ^ q : Nat) : Int)) :: E) (fun q => [ptc b5 (nbB (max n 0).toNat q) 5]) (fun q => q ≤ 10) (fun q => 10 - q) (0) (ts := [0, 4, 5]) (.cons rfl (.cons rfl (.cons rfl (.nil)))) (Nat.zero_le _) ⟨rfl, rfl, rfl, rfl, rfl, trivial⟩ (by repeat' constructor) ?_)))))
 rintro j hj
 have hmj : (max n 0).toNat / 10 ^ j ≤ (max n 0).toNat := Nat.div_le_self _ _
 have hnl := nb_len (M := (max n 0).toNat) hj
 refine .seq (.sm rfl (.ui rfl rfl rfl (.nt (.condD rfl (fun h11 => ?_) (fun h11 => ?_)))))
 ·have hj2 : j < 10 := by omega
  have hr10 : (max n 0).toNat / 10 ^ j % 10 < 10 := Nat.mod_lt _ (by decide)
  refine .sk (.seq (.block (.sm rfl (.m rfl (.m rfl (.q (.to (v' := vint (((max n 0).toNat / 10 ^ j % 10 : Nat) : Int)) (.remE rfl rfl (Int.natCast_nonneg _) (by decide)) (by congr 1)) rfl (.q (.add rfl rfl (by omega)) rfl (.q (.to (v' := vbyte (UInt8.ofNat (48 + (max n 0).toNat / 10 ^ j % 10))) (.conv rfl Tryz.underlying3 Tryz.underlying5) (congrArg (Value.int .u8) (digit_wrap _ hr10))) rfl (.q (.indexAddr rfl rfl el_229 (by omega)) rfl (.oq (.store rfl rfl rfl sz_5 ?c17 (nfz0 _ _)) ?_))))))))))
  case c17 => rw [hnl]; omega
  rintro v L' rfl
  refine .nil (.ptCast (b := b5) (l' := nbB (max n 0).toNat (j + 1)) (by repeat' constructor) (by exact nb_set hj2) ?_)
  refine .then_n (.region (.m rfl (.q (.to (v' := vint (((max n 0).toNat / 10 ^ (j + 1) : Nat) : Int)) (.quoE rfl rfl ⟨Int.natCast_nonneg _, Int.le_trans (Int.ofNat_le.2 hmj) (by omega)⟩ (by decide)) (by congr 1; rw [Nat.pow_succ, ← Nat.div_div_eq_div_mul]; rfl)) rfl (.a rfl (.nil (.blk_n (.then_n (.region (.m rfl (.q (.to (v' := vint ((9 : Int) - ((j + 1 : Nat) : Int))) (.sub rfl rfl (by omega)) (by congr 1; omega)) rfl (.an rfl ?_)))))))))))
  exact .rk (j + 1) (by omega) (by omega) ⟨rfl, rfl, rfl, rfl, rfl, trivial⟩
 refine .exit (.then_e (.then_e (.blk_e (.then_n (.seq ?_)))))
 have hje : j = 10 := by omega
 subst hje
 have hdl := dig_len 10 (max n 0).toNat
 refine .region (.m rfl (.m rfl (.q (.bytesPt (n := 10) (c := 10) (off := 0) (l := nbB (max n 0).toNat 10) (cs := digS 10 (max n 0).toNat) rfl Tryz.underlying229 Tryz.underlying5 Tryz.underlying9 (by repeat' constructor) (by rw [List.drop_zero, List.take_of_length_le (by rw [hnl]; decide)]; rfl) (by rw [hnl]; decide) (by decide)) rfl (.q (.concat rfl rfl (by omega)) rfl (.an rfl (.ret ?_))))))
 exact .dn rfl rfl ⟨by rw [numbered_dig], rfl⟩
theorem rkids_spec (x : Nat) (τ : Tr) (p : Bs) (N : Nat) (ho : τ.Ok N) (hN : N ≤ 1073741824) : Fn Tryz.prog 60 #[vptr x, vstr p] [refR x τ] fun v L => (∃ a c, v = .slice a (kidsZ τ p).length c) ∧ L = [refR x τ, slR 9 1 v (kidsZ τ p).length (strs (kidsZ τ p))] := by
 refine Fn.intro Tryz.func60 rfl rfl fun F W => ?_
 refine .rtOpen (x := x) (τ := τ) (by repeat' constructor) fun an cn as1 cs l hl => ?_
 have hll := nds_len hl
 have hofew := ho.few
 refine .add (slR_nil 9 1) (.sr (.an rfl (.sr (.an rfl (.seq (.sr (.an rfl (.block (.loopK (ι := Nat × Value) (fun q E => (6, vint q.1) :: (5, q.2) :: E) (fun q => [slR 9 1 q.2 (kidsN (l.take q.1) p).length (strs (kidsN (l.take q.1) p))]) (fun q => q.1 ≤ l.length ∧ ∃ a c, q.2 = .slice a (kidsN (l.take q.1) p).length c) (fun q => l.length - q.1) (0, .slice none 0 0) (ts := [0, 1, 4]) (.cons rfl (.cons rfl (.cons rfl (.nil)))) (⟨Nat.zero_le _, none, 0, rfl⟩) ⟨rfl, rfl, rfl, rfl, rfl, trivial⟩ (by repeat' constructor) ?_)))))))))
 rintro ⟨i, u⟩ ⟨hi, au, cu, hu⟩
 dsimp only
 dsimp only at hi hu
 subst hu
 have hkl := kidsN_len (l.take i) p
 rw [List.length_take] at hkl
 refine .seq (.sm rfl (.m rfl (.nf rfl fo_110_0 (.u (.ld rfl ag_107) (.q (.slen rfl Tryz.underlying107 rfl) rfl (.ui rfl rfl rfl (.nt (.condD rfl (fun h13 => ?_) (fun h13 => ?_)))))))))
 ·have hi2 : i < l.length := by omega
  have hpi : l[i].1.length ≤ 60 := by have := nds_get hl hi2; have h2 := able_len (ho.able _ (List.getElem_mem (l := τ.nodes) (n := i) (by omega))); rw [this] at h2; exact h2
  refine .slShape (T := 112) (sz := 12) (v := .slice an l.length cn) (xs := l.flatMap rnC) (by repeat' constructor) (by omega) fun bn bn' e0 mbn _ => ?_
  simp only [Value.slice.injEq, true_and] at e0
  obtain ⟨rfl, rfl⟩ := e0
  refine .sk (.seq (.block (.sm rfl (.nf rfl fo_110_0 (.u (.ld rfl ag_107) (.m rfl (.q (.indexAddr rfl rfl el_107 (by omega)) rfl (.u (.fieldAddr rfl fo_112_0) (.q (.loadRd (sz := 12) (j := i * 12 + 0) (p := rnR _ l) rfl ag_9 (by repeat' constructor) (fun h hp => slR_rd hp) (by omega) ((rn_cell (l := l) (i := i) (k := 0) (by omega) (by decide)).trans rfl)) rfl (.u (.strne rfl rfl) (.m rfl (.ndec (t := 25) rfl (fun h5_25 => ?_) (fun h5_25 => ?_)))))))))))))
  ·refine .kNT (t := 24) rfl h5_25 (.grun (t := 25) rfl rfl rfl (.m rfl (.grun (t := 25) rfl rfl rfl (.u (.nilp rfl) (.grun (t := 25) rfl rfl rfl (.u (.fieldAddr rfl fo_110_0) (.grun (t := 25) rfl rfl rfl (.u (.ld rfl ag_107) (.grun (t := 25) rfl rfl rfl (.m rfl (.grun (t := 25) rfl rfl rfl (.q (.indexAddr rfl rfl el_107 (by omega)) rfl (.grun (t := 25) rfl rfl rfl (.u (.fieldAddr rfl fo_112_0) (.grun (t := 25) rfl rfl rfl (.q (.loadRd (sz := 12) (j := i * 12 + 0) (p := rnR _ l) rfl ag_9 (by repeat' constructor) (fun h hp => slR_rd hp) (by omega) ((rn_cell (l := l) (i := i) (k := 0) (by omega) (by decide)).trans rfl)) rfl (.grun (t := 25) rfl rfl rfl (.cv Tryz.func110 [_] (rparent_spec l[i].1 (by omega)) ?_))))))))))))))))))
   refine .grun (t := 25) rfl rfl rfl (.m rfl (.grun (t := 25) rfl rfl rfl (.u (.streq rfl rfl) (.u (.pickT rfl rfl) (.nt (.condD rfl (fun h37 => ?_) (fun h37 => ?_)))))))
   ·refine .region (.m rfl (.m rfl (.nf rfl fo_110_0 (.u (.ld rfl ag_107) (.m rfl (.q (.indexAddr rfl rfl el_107 (by omega)) rfl (.u (.fieldAddr rfl fo_112_0) (.q (.loadRd (sz := 12) (j := i * 12 + 0) (p := rnR _ l) rfl ag_9 (by repeat' constructor) (fun h hp => slR_rd hp) (by omega) ((rn_cell (l := l) (i := i) (k := 0) (by omega) (by decide)).trans rfl)) rfl (.cv Tryz.func121 [_] (rbase_spec l[i].1 (by omega)) ?_)))))))))
    refine .oq (.buildSlice1 (vs := [_]) el_23 ze_9 rfl rfl rfl rfl rfl (by decide)) ?_
    rintro v L' ⟨b6_10, rfl, rfl⟩
    refine .oq (.append1 rfl rfl rfl el_23 ze_9 rfl rfl ?c45 ?c46 (Nat.le_refl _) ?c47 (by decide)) ?_
    case c45 => (first | (simp [isCell]; done) | (simp [isCell, setAll, Value.cells]; done))
    case c46 => rfl
    case c47 => first | omega | (simp; omega)
    rintro v L' ⟨⟨a6_11, c6_11, rfl⟩, rfl⟩
    refine .a rfl (.nil (.blk_n (.then_n (.region (.m rfl (.q (.add rfl rfl (by omega)) rfl (.an rfl ?_)))))))
    have hst : (kidsN (l.take (i + 1)) p) = (kidsN (l.take i) p) ++ [baseZ l[i].1] := by unfold kidsN; rw [List.take_succ_eq_append_getElem hi2, List.filter_append, List.map_append]; simp [show ¬ l[i].1 = [47] from h5_25, show parentZ l[i].1 = p from h37]
    rw [show strs (kidsN (l.take i) p) ++ [vstr (baseZ l[i].1)] = strs (kidsN (l.take (i + 1)) p) by rw [hst]; simp [strs], show (kidsN (l.take i) p).length + 1 = (kidsN (l.take (i + 1)) p).length by rw [hst, List.length_append]; rfl]
    exact .rk ((i + 1, .slice a6_11 (kidsN (l.take (i + 1)) p).length c6_11)) (⟨by dsimp only; omega, _, _, rfl⟩) (by dsimp only; omega) ⟨rfl, rfl, rfl, rfl, rfl, trivial⟩
   refine .skip (.blk_n (.then_n (.region (.m rfl (.q (.add rfl rfl (by omega)) rfl (.an rfl ?_))))))
   have hst : (kidsN (l.take (i + 1)) p) = (kidsN (l.take i) p) := by unfold kidsN; rw [List.take_succ_eq_append_getElem hi2, List.filter_append, List.map_append]; simp; exact fun g1 g2 => h37 g2
   rw [← hst]
   exact .rk ((i + 1, .slice au (kidsN (l.take (i + 1)) p).length cu)) (⟨by dsimp only; omega, _, _, rfl⟩) (by dsimp only; omega) ⟨rfl, rfl, rfl, rfl, rfl, trivial⟩
  refine .kNF (t := 24) rfl h5_25 (.gk (.gk (.gk (.gk (.gk (.gk (.gk (.gk (.gk (.gk (.gk (.u (.pickF rfl rfl) (.nt (.condF rfl (.skip (.blk_n (.then_n (.region (.m rfl (.q (.add rfl rfl (by omega)) rfl (.an rfl ?_)))))))))))))))))))))
  have hst : (kidsN (l.take (i + 1)) p) = (kidsN (l.take i) p) := by unfold kidsN; rw [List.take_succ_eq_append_getElem hi2, List.filter_append, List.map_append]; simp; exact fun g1 _ => g1 h5_25
  rw [← hst]
  exact .rk ((i + 1, .slice au (kidsN (l.take (i + 1)) p).length cu)) (⟨by dsimp only; omega, _, _, rfl⟩) (by dsimp only; omega) ⟨rfl, rfl, rfl, rfl, rfl, trivial⟩
 have hii : i = l.length := by omega
 rw [hii, List.take_length, kidsN_eq hl]
 refine .exit (.then_e (.then_e (.blk_e (.then_n (.sm rfl (.an rfl (.ret (.rtFold (x := x) (τ := τ) (l := l) hl (by repeat' constructor) rfl rfl rfl rfl rfl ?_))))))))
 exact .dn rfl rfl ⟨⟨_, _, rfl⟩, rfl⟩
theorem rowned_spec (x : Nat) (τ : Tr) (s : Int) (N : Nat) (ho : τ.Ok N) (hN : N ≤ 1073741824) : Fn Tryz.prog 61 #[vptr x, vint s] [refR x τ] fun v L => (∃ a c, v = .slice a (ownedZ τ s).length c) ∧ L = [refR x τ, slR 9 1 v (ownedZ τ s).length (strs (ownedZ τ s))] := by
 refine Fn.intro Tryz.func61 rfl rfl fun F W => ?_
 refine .rtOpen (x := x) (τ := τ) (by repeat' constructor) fun an cn as1 cs l hl => ?_
 have hll := nds_len hl
 have hofew := ho.few
 refine .add (slR_nil 9 1) (.sr (.an rfl (.sr (.an rfl (.seq (.sr (.an rfl (.block (.loopK (ι := Nat × Value) (fun q E => (6, vint q.1) :: (5, q.2) :: E) (fun q => [slR 9 1 q.2 (ownN (l.take q.1) s).length (strs (ownN (l.take q.1) s))]) (fun q => q.1 ≤ l.length ∧ ∃ a c, q.2 = .slice a (ownN (l.take q.1) s).length c) (fun q => l.length - q.1) (0, .slice none 0 0) (ts := [0, 1, 4]) (.cons rfl (.cons rfl (.cons rfl (.nil)))) (⟨Nat.zero_le _, none, 0, rfl⟩) ⟨rfl, rfl, rfl, rfl, rfl, trivial⟩ (by repeat' constructor) ?_)))))))))
 rintro ⟨i, u⟩ ⟨hi, au, cu, hu⟩
 dsimp only
 dsimp only at hi hu
 subst hu
 have hkl := ownN_len (l.take i) s
 rw [List.length_take] at hkl
 refine .seq (.sm rfl (.m rfl (.nf rfl fo_110_0 (.u (.ld rfl ag_107) (.q (.slen rfl Tryz.underlying107 rfl) rfl (.ui rfl rfl rfl (.nt (.condD rfl (fun h13 => ?_) (fun h13 => ?_)))))))))
 ·have hi2 : i < l.length := by omega
  have hpi : l[i].1.length ≤ 60 := by have := nds_get hl hi2; have h2 := able_len (ho.able _ (List.getElem_mem (l := τ.nodes) (n := i) (by omega))); rw [this] at h2; exact h2
  refine .slShape (T := 112) (sz := 12) (v := .slice an l.length cn) (xs := l.flatMap rnC) (by repeat' constructor) (by omega) fun bn bn' e0 mbn _ => ?_
  simp only [Value.slice.injEq, true_and] at e0
  obtain ⟨rfl, rfl⟩ := e0
  refine .sk (.seq (.block (.sm rfl (.ui rfl rfl rfl (.m rfl (.ndec (t := 18) rfl (fun h5_18 => ?_) (fun h5_18 => ?_)))))))
  ·refine .kNT (t := 17) rfl h5_18 (.grun (t := 18) rfl rfl rfl (.m rfl (.grun (t := 18) rfl rfl rfl (.u (.nilp rfl) (.grun (t := 18) rfl rfl rfl (.u (.fieldAddr rfl fo_110_0) (.grun (t := 18) rfl rfl rfl (.u (.ld rfl ag_107) (.grun (t := 18) rfl rfl rfl (.m rfl (.grun (t := 18) rfl rfl rfl (.q (.indexAddr rfl rfl el_107 (by omega)) rfl (.grun (t := 18) rfl rfl rfl (.u (.fieldAddr rfl fo_112_3) (.grun (t := 18) rfl rfl rfl (.u (.fieldAddr rfl fo_37_6) (.grun (t := 18) rfl rfl rfl (.q (.loadRd (sz := 12) (j := i * 12 + 9) (p := rnR _ l) rfl ag_3 (by repeat' constructor) (fun h hp => slR_rd hp) (by omega) ((rn_cell (l := l) (i := i) (k := 9) (by omega) (by decide)).trans rfl)) rfl (.grun (t := 18) rfl rfl rfl (.m rfl (.grun (t := 18) rfl rfl rfl (.ui rfl rfl rfl (.u (.pickT rfl rfl) (.nt (.condD rfl (fun h30 => ?_) (fun h30 => ?_))))))))))))))))))))))))))
   ·refine .region (.m rfl (.m rfl (.nf rfl fo_110_0 (.u (.ld rfl ag_107) (.m rfl (.q (.indexAddr rfl rfl el_107 (by omega)) rfl (.u (.fieldAddr rfl fo_112_0) (.q (.loadRd (sz := 12) (j := i * 12 + 0) (p := rnR _ l) rfl ag_9 (by repeat' constructor) (fun h hp => slR_rd hp) (by omega) ((rn_cell (l := l) (i := i) (k := 0) (by omega) (by decide)).trans rfl)) rfl (.oq (.buildSlice1 (vs := [_]) el_23 ze_9 rfl rfl rfl rfl rfl (by decide)) ?_)))))))))
    rintro v L' ⟨b6_9, rfl, rfl⟩
    refine .oq (.append1 rfl rfl rfl el_23 ze_9 rfl rfl ?c35 ?c36 (Nat.le_refl _) ?c37 (by decide)) ?_
    case c35 => (first | (simp [isCell]; done) | (simp [isCell, setAll, Value.cells]; done))
    case c36 => rfl
    case c37 => first | omega | (simp; omega)
    rintro v L' ⟨⟨a6_10, c6_10, rfl⟩, rfl⟩
    refine .a rfl (.nil (.blk_n (.then_n (.region (.m rfl (.q (.add rfl rfl (by omega)) rfl (.an rfl ?_)))))))
    have hst : (ownN (l.take (i + 1)) s) = (ownN (l.take i) s) ++ [l[i].1] := by unfold ownN; rw [List.take_succ_eq_append_getElem hi2, List.filter_append, List.map_append]; simp [show ¬ s = 0 from h5_18, show l[i].2.2.st.own = s from h30]
    rw [show strs (ownN (l.take i) s) ++ [vstr (l[i].1)] = strs (ownN (l.take (i + 1)) s) by rw [hst]; simp [strs], show (ownN (l.take i) s).length + 1 = (ownN (l.take (i + 1)) s).length by rw [hst, List.length_append]; rfl]
    exact .rk ((i + 1, .slice a6_10 (ownN (l.take (i + 1)) s).length c6_10)) (⟨by dsimp only; omega, _, _, rfl⟩) (by dsimp only; omega) ⟨rfl, rfl, rfl, rfl, rfl, trivial⟩
   refine .skip (.blk_n (.then_n (.region (.m rfl (.q (.add rfl rfl (by omega)) rfl (.an rfl ?_))))))
   have hst : (ownN (l.take (i + 1)) s) = (ownN (l.take i) s) := by unfold ownN; rw [List.take_succ_eq_append_getElem hi2, List.filter_append, List.map_append]; simp; exact fun g1 g2 => h30 g2
   rw [← hst]
   exact .rk ((i + 1, .slice au (ownN (l.take (i + 1)) s).length cu)) (⟨by dsimp only; omega, _, _, rfl⟩) (by dsimp only; omega) ⟨rfl, rfl, rfl, rfl, rfl, trivial⟩
  refine .kNF (t := 17) rfl h5_18 (.gk (.gk (.gk (.gk (.gk (.gk (.gk (.gk (.gk (.gk (.gk (.u (.pickF rfl rfl) (.nt (.condF rfl (.skip (.blk_n (.then_n (.region (.m rfl (.q (.add rfl rfl (by omega)) rfl (.an rfl ?_)))))))))))))))))))))
  have hst : (ownN (l.take (i + 1)) s) = (ownN (l.take i) s) := by unfold ownN; rw [List.take_succ_eq_append_getElem hi2, List.filter_append, List.map_append]; simp; exact fun g1 _ => g1 h5_18
  rw [← hst]
  exact .rk ((i + 1, .slice au (ownN (l.take (i + 1)) s).length cu)) (⟨by dsimp only; omega, _, _, rfl⟩) (by dsimp only; omega) ⟨rfl, rfl, rfl, rfl, rfl, trivial⟩
 have hii : i = l.length := by omega
 rw [hii, List.take_length, ownN_eq hl]
 refine .exit (.then_e (.then_e (.blk_e (.then_n (.sm rfl (.an rfl (.ret (.rtFold (x := x) (τ := τ) (l := l) hl (by repeat' constructor) rfl rfl rfl rfl rfl ?_))))))))
 exact .dn rfl rfl ⟨⟨_, _, rfl⟩, rfl⟩
theorem rsession_spec (x : Nat) (τ : Tr) (id : Int) (hn : τ.sess.length ≤ 1073741824) : Fn Tryz.prog 49 #[vptr x, vint id] [refR x τ] fun v L => v = vint (sesP τ id) ∧ L = [refR x τ] := by
 refine Fn.intro Tryz.func49 rfl rfl fun F W => ?_
 refine .rtOpen (x := x) (τ := τ) (by repeat' constructor) fun an cn as1 cs l hl => (.sr (.an rfl (.seq (.sr (.an rfl (.block (.loopK (ι := Nat) (fun q E => (5, vint q) :: E) (fun q => []) (fun q => q ≤ τ.sess.length ∧ ∀ j (hj : j < q), ∀ (hj2 : j < τ.sess.length), τ.sess[j].1 ≠ id) (fun q => τ.sess.length - q) (0) (ts := [0, 1]) (.cons rfl (.cons rfl (.nil))) (⟨Nat.zero_le _, fun j hj => by omega⟩) ⟨rfl, rfl, rfl, trivial⟩ (by repeat' constructor) ?_)))))))
 rintro i ⟨hi, hno⟩
 refine .seq (.sm rfl (.m rfl (.nf rfl fo_110_1 (.u (.ld rfl ag_108) (.q (.slen rfl Tryz.underlying108 rfl) rfl (.ui rfl rfl rfl (.nt (.condD rfl (fun h12 => ?_) (fun h12 => ?_)))))))))
 ·have hi2 : i < τ.sess.length := by omega
  refine .slShape (T := 122) (sz := 3) (v := .slice as1 τ.sess.length cs) (xs := τ.sess.flatMap rsC) (by repeat' constructor) (by omega) fun bs bs' e0 mbs _ => ?_
  simp only [Value.slice.injEq, true_and] at e0
  obtain ⟨rfl, rfl⟩ := e0
  refine .sk (.seq (.block (.sm rfl (.nf rfl fo_110_1 (.u (.ld rfl ag_108) (.m rfl (.q (.indexAddr rfl rfl el_108 (by omega)) rfl (.u (.fieldAddr rfl fo_122_0) (.q (.loadRd (sz := 3) (j := i * 3 + 0) (p := rsR _ τ.sess) rfl ag_3 (by repeat' constructor) (fun h hp => slR_rd hp) (by omega) ((rs_cell (l := τ.sess) (i := i) (k := 0) (by omega) (by decide)).trans rfl)) rfl (.m rfl (.ui rfl rfl rfl (.nt (.condD rfl (fun h24 => ?_) (fun h24 => ?_))))))))))))))
  ·refine .sm rfl (.an rfl (.ret (.blk_r (.then_r (.then_r (.blk_r (.then_r ?_)))))))
   have hz : sesP τ id = (i : Int) := by exact ses_at hi2 h24 (fun j hj => hno j hj (by omega))
   refine .rtFold (x := x) (τ := τ) (l := l) hl (by repeat' constructor) rfl rfl rfl rfl rfl ?_
   exact .dn rfl rfl ⟨by rw [hz], rfl⟩
  refine .skip (.blk_n (.then_n (.region (.m rfl (.q (.add rfl rfl (by omega)) rfl (.an rfl ?_))))))
  exact .rk (i + 1) (⟨by omega, fun j hj hj2 => by by_cases e : j = i; (subst e; exact h24); exact hno j (by omega) hj2⟩) (by omega) ⟨rfl, rfl, rfl, trivial⟩
 refine .exit (.then_e (.then_e (.blk_e (.then_n (.sr (.an rfl (.ret ?_)))))))
 have hz : sesP τ id = -1 := by exact ses_none (fun j hj => hno j (by omega) hj)
 refine .rtFold (x := x) (τ := τ) (l := l) hl (by repeat' constructor) rfl rfl rfl rfl rfl ?_
 exact .dn rfl rfl ⟨by rw [hz], rfl⟩
theorem rclone_spec (x : Nat) (τ : Tr) (N : Nat) (ho : τ.Ok N) (hN : N ≤ 1073741824) : Fn Tryz.prog 69 #[vptr x] [refR x τ] fun v L => ∃ u, v = vptr u ∧ L = [refR u τ, refR x τ] := by
 refine Fn.intro Tryz.func69 rfl rfl fun F W => ?_
 refine .rtOpen (x := x) (τ := τ) (by repeat' constructor) fun an cn as1 cs l hl => ?_
 have hll := nds_len hl
 have hofew := ho.few
 have hosf := ho.sfew
 refine .sr (.an rfl (.sm rfl (.nf rfl fo_110_2 (.u (.ld rfl ag_3) (.q (.build (us := [(2, _)]) fl_110 ze_110 rfl rfl (by simp [isCell])) rfl (.oq (.box rfl) ?_))))))
 rintro v L' ⟨u, rfl, rfl⟩
 refine .an rfl (.seq (.add (slR_nil 122 3) (.ptCast (b := u) (l' := [.slice none 0 0, .slice none 0 0, vint τ.zx]) (by repeat' constructor) rfl ?_)))
 refine .draw [9, 12] [[0, 1, 2, 3, 4, 5, 6, 7, 8, 9], [10, 11, 12]] mixed (by kernel_rfl) (.go [ptc x _ _] (by repeat' constructor) (.k rfl (.move rfl) (.mv rfl rfl (.nf rfl rfl rfl fo_110_1 (.kv rfl (.ld rfl ag_108) (.mv rfl rfl (.nf rfl rfl rfl fo_110_1 (.kv rfl (.ld rfl ag_108) (.hh rfl (.append (n := 0) (m := τ.sess.length) (ys := τ.sess.flatMap rsC) (p := rsR (.slice as1 τ.sess.length cs) τ.sess) rfl rfl rfl el_108 (.inl ⟨_, Tryz.underlying108⟩) ze_122 rfl rfl ?hc16 ?hr17 ?hb18 (by decide)) ?_)))))))))
 case hc16 => exact rsl_cells _
 case hr17 => exact fun h hp => slR_rd hp
 case hb18 => omega
 rintro v L' ⟨⟨a2, c2, rfl⟩, rfl⟩; rw [Nat.zero_add, List.nil_append]
 refine D.ph (.g0 (.nf rfl rfl rfl fo_110_1 (.hh rfl (.store rfl rfl rfl sz_108 ?c23 (nfz0 _ _)) ?_)))
 case c23 => first | decide | (simp; omega) | simp
 rintro v L' rfl
 refine D.pf (.seq (.seq (.ptCast (b := u) (l' := [.slice none 0 0, .slice a2 τ.sess.length c2, vint τ.zx]) (by repeat' constructor) rfl ?_)))
 refine .add (slR_nil 112 12) (.add (p := bigR inA []) big_nil (.region (.an rfl (.block (.loopK (ι := Nat × Value × (List Rno)) (fun q E => (4, vint q.1) :: E) (fun q => [ptc u [q.2.1, .slice a2 τ.sess.length c2, vint τ.zx] 110, rnR q.2.1 q.2.2, bigR inA q.2.2]) (fun q => q.1 ≤ l.length ∧ ndsZ q.2.2 = ndsZ (l.take q.1) ∧ ∃ a c, q.2.1 = .slice a q.2.2.length c) (fun q => l.length - q.1) (0, .slice none 0 0, []) (ts := [0, 2, 3]) (.cons rfl (.cons rfl (.cons rfl (.nil)))) (⟨Nat.zero_le _, rfl, none, 0, rfl⟩) ⟨rfl, rfl, rfl, rfl, trivial⟩ (by repeat' constructor) ?_)))))
 rintro ⟨i, w, acc⟩ ⟨hi, hac, aw, cw, hw⟩
 dsimp only
 dsimp only at hi hac hw
 subst hw
 have hal : acc.length = i := by have := congrArg List.length hac; simp [ndsZ] at this; omega
 refine .seq (.sm rfl (.m rfl (.nf rfl fo_110_0 (.u (.ld rfl ag_107) (.q (.slen rfl Tryz.underlying107 rfl) rfl (.ui rfl rfl rfl (.nt (.condD rfl (fun h30 => ?_) (fun h30 => ?_)))))))))
 ·have hi2 : i < l.length := by omega
  refine .slShape (T := 112) (sz := 12) (v := .slice an l.length cn) (xs := l.flatMap rnC) (by repeat' constructor) (by omega) fun bn bn' e0 mbn _ => ?_
  simp only [Value.slice.injEq, true_and] at e0
  obtain ⟨rfl, rfl⟩ := e0
  refine .sk (.seq (.block (.seq (.aclShape (l := l) (i := i) hi2 (by repeat' constructor) fun hcl => (.region (.m rfl (.nf rfl fo_110_0 (.u (.ld rfl ag_107) (.m rfl (.q (.indexAddr rfl rfl el_107 (by omega)) rfl (.q (.loadRdA (sz := 12) (j := i * 12) (k := 12) (p := rnR _ l) (vs := rnC l[i]) rfl ag_112 (by repeat' constructor) (fun h hp => slR_rd hp) (by omega) (by omega) (by omega) (flatMap_at (f := rnC) (sz := 12) (fun _ _ => rfl) (by omega))) rfl (.oq (.allocA ze_112) ?_))))))))))))
  rintro v L' ⟨b5, rfl, rfl⟩
  refine .sa rfl rfl sz_112 (by intro v hv; exact rn_cells hcl v (by simpa [Value.cells] using hv)) ?_
  refine .nil (.ptCast (b := b5) (l' := rnC l[i]) (by repeat' constructor) rfl ?_)
  refine .then_n (.sr (.u (.fieldAddr rfl fo_112_2) (.u (.ld rfl ag_24) (.oq (.call Tryz.func126 rfl rfl (vs := [_]) rfl (rrows_spec l[i].2.1 l[i].2.2.acl (bigR inA l) (big_rd hi2) (by have := ho.acls _ (List.getElem_mem (l := τ.nodes) (n := i) (by omega)); rw [nds_get hl hi2] at this; exact this))) ?_))))
  rintro v L' ⟨⟨a7, c7, rfl⟩, rfl⟩
  refine .u (.fieldAddr rfl fo_112_2) (.sw rfl rfl rfl sz_24 ?_)
  refine .nil (.ptCast (b := b5) (l' := rnC ((l[i].1, (.slice a7 l[i].2.2.acl.length c7, l[i].2.2)) : Rno)) (by repeat' constructor) rfl ?_)
  refine .then_n (.draw [6, 7, 10] [[0, 1, 2, 3, 4, 5, 6, 7], [8, 9, 10]] mixed (by kernel_rfl) (.go [ptc b5 _ _, ptc u _ _] (by repeat' constructor) (.k rfl (.move rfl) (.k rfl (.move rfl) (.k rfl (.nilp rfl) (.k rfl (.fieldAddr rfl fo_110_0) (.k rfl (.ld rfl ag_107) (.kv rfl (.loadAs (vs := rnC ((l[i].1, (.slice a7 l[i].2.2.acl.length c7, l[i].2.2)) : Rno)) rfl ag_112 (by repeat' constructor) (by simp [rnC]) rfl) (.hh rfl (.buildSlice (vs := [_]) el_107 ze_112 rfl rfl rfl rfl (by first | (simp [Value.cells]; done) | (intro v hv; simp only [List.mem_cons, List.not_mem_nil, or_false] at hv; (repeat (first | (subst hv; rfl) | (rcases hv with hv | hv; (subst hv; rfl)))))) (by decide)) ?_)))))))))
  rintro v L' ⟨b8_6, rfl, rfl⟩
  refine D.hh rfl (.append1 rfl rfl rfl el_107 ze_112 rfl rfl ?c64 ?c65 (Nat.le_refl _) ?c66 (by decide)) ?_
  case c64 => first | exact rn_cells rfl | (simp only [List.map_cons, List.map_nil, List.flatten_cons, List.flatten_nil, List.append_nil]; exact rn_cells rfl)
  case c65 => rfl
  case c66 => first | omega | (simp; omega)
  rintro v L' ⟨⟨a8_7, c8_7, rfl⟩, rfl⟩
  refine D.ph (.g0 (.nf rfl rfl rfl fo_110_0 (.hh rfl (.store rfl rfl rfl sz_107 ?c71 (nfz0 _ _)) ?_)))
  case c71 => first | decide | (simp; omega) | simp
  rintro v L' rfl
  refine D.ph (.fin (.blk_n (.then_n (.region (.m rfl (.q (.add rfl rfl (by omega)) rfl (.an rfl (.toRd (v := .slice a7 l[i].2.2.acl.length c7) (by repeat' constructor) (.bigSnoc (l := acc) ((l[i].1, (.slice a7 l[i].2.2.acl.length c7, l[i].2.2)) : Rno) (p := rdO 2 (.slice a7 l[i].2.2.acl.length c7) l[i].2.2.acl.length (l[i].2.2.acl.flatMap acC)) rfl (by repeat' constructor) ?_)))))))))
  rw [show acc.length + 1 = (acc ++ [((l[i].1, (.slice a7 l[i].2.2.acl.length c7, l[i].2.2)) : Rno)]).length by rw [List.length_append]; rfl]
  refine .slCast (T := 112) (sz := 12) (m' := (acc ++ [((l[i].1, (.slice a7 l[i].2.2.acl.length c7, l[i].2.2)) : Rno)]).length) (xs' := (acc ++ [((l[i].1, (.slice a7 l[i].2.2.acl.length c7, l[i].2.2)) : Rno)]).flatMap rnC) (by repeat' constructor) rfl (by rw [List.flatMap_append]; simp; rfl) (.ptCast (b := u) (l' := [.slice a8_7 (acc ++ [((l[i].1, (.slice a7 l[i].2.2.acl.length c7, l[i].2.2)) : Rno)]).length c8_7, .slice a2 τ.sess.length c2, vint τ.zx]) (by repeat' constructor) rfl ?_)
  exact .rk ((i + 1, .slice a8_7 (acc ++ [((l[i].1, (.slice a7 l[i].2.2.acl.length c7, l[i].2.2)) : Rno)]).length c8_7, acc ++ [((l[i].1, (.slice a7 l[i].2.2.acl.length c7, l[i].2.2)) : Rno)])) (⟨by dsimp only; omega, by dsimp only; rw [List.take_succ_eq_append_getElem hi2]; unfold ndsZ at hac ⊢; rw [List.map_append, List.map_append, hac]; rfl, _, _, rfl⟩) (by dsimp only; omega) ⟨rfl, rfl, rfl, rfl, trivial⟩
 have hii : i = l.length := by omega
 rw [hii, List.take_length, hl] at hac
 refine .exit (.then_e (.then_e (.blk_e (.then_n (.sm rfl (.an rfl (.ret (.rtFold (x := u) (τ := τ) (l := acc) hac (by repeat' constructor) rfl rfl rfl rfl rfl (.rtFold (x := x) (τ := τ) (l := l) hl (by repeat' constructor) rfl rfl rfl rfl rfl ?_)))))))))
 exact .dn rfl rfl ⟨_, rfl, rfl⟩
theorem rn_stat {l : List Rno} {k : Nat} (hk : k < l.length) : ((l.flatMap rnC).drop (k * 12 + 3)).take 9 = stC l[k].2.2.st := by
 have h := flatMap_at (f := rnC) (sz := 12) (l := l) (i := k) (fun _ _ => rfl) hk
 have h2 := congrArg (List.drop 3) h
 rw [List.drop_take, List.drop_drop] at h2
 exact h2
theorem al_get' {β : Type} {l : List (Bs × β)} (hn : (l.map (·.1)).Nodup) {i : Nat} (hi : i < l.length) : alook l l[i].1 = some l[i].2 := al_of_mem hn (List.getElem_mem hi)
theorem stat_none {τ : Tr} {p : Bs} (h : ¬ thereT τ p) : statD τ p = st0 := by
 unfold statD statZ
 unfold thereT at h
 cases e : alook τ.nodes p with
 | none => rfl
 | some y => rw [e] at h; exact absurd rfl h
theorem stat_some {τ : Tr} {p : Bs} {n : Nd} (h : alook τ.nodes p = some n) : statD τ p = { n.st with len := n.data.length, kids := (kidsZ τ p).length } := by
 unfold statD statZ; rw [h]; rfl
theorem there_some' {τ : Tr} {p : Bs} : thereT τ p ↔ ∃ n, alook τ.nodes p = some n := Option.isSome_iff_exists
theorem rstat_spec (x : Nat) (τ : Tr) (p : Bs) (N : Nat) (ho : τ.Ok N) (hN : N ≤ 1073741824) : Fn Tryz.prog 55 #[vptr x, vstr p] [refR x τ] fun v L => v = .tuple #[.agg (stC (statD τ p)).toArray, .bool (decide (thereT τ p))] ∧ L = [refR x τ] := by
 refine Fn.intro Tryz.func55 rfl rfl fun F W => ?_
 have hof := ho.few
 refine .sr (.oq (.allocA ze_37) ?_)
 rintro v L' ⟨b4, rfl, rfl⟩
 refine .an rfl (.sm rfl (.m rfl (.cv Tryz.func95 [_, _] (rplace_spec x τ p (by omega)) ?_)))
 refine .an rfl (.seq (.sm rfl (.ui rfl rfl rfl (.nt (.condD rfl (fun h12 => ?_) (fun h12 => ?_))))))
 ·refine .sr (.q (.to (v' := .agg (stC st0).toArray) (.build (us := []) fl_37 ze_37 rfl rfl (by simp [isCell])) rfl) rfl (.sa rfl rfl sz_37 (by intro v hv; simp only [stC, List.mem_cons, List.not_mem_nil, or_false] at hv; rcases hv with rfl | rfl | rfl | rfl | rfl | rfl | rfl | rfl | rfl <;> rfl) ?_))
  refine .an rfl (.rt ?_)
  have hth : ¬ thereT τ p := fun g => absurd (place_iff.2 g) (by have h0 : placeTo τ.nodes p < 0 := h12; omega)
  refine .ptCast (b := b4) (l' := stC (statD τ p)) (by repeat' constructor) (by rw [stat_none hth]; rfl) ?_
  exact .d2 rfl (.cellA rfl ag_37 (by repeat' constructor) (by simp [stC]) rfl) (.tmp rfl) ⟨by rw [decide_eq_false hth]; rfl, rfl⟩
 have h12b : 0 ≤ placeTo τ.nodes p := by have h0 : ¬ placeTo τ.nodes p < 0 := h12; omega
 obtain ⟨k, hk, hpk, hkp⟩ := place_get (l := τ.nodes) h12b
 have hpz : placeZ τ p = k := hpk
 rw [hpz]
 obtain ⟨nd, hnd⟩ : ∃ nd, alook τ.nodes p = some nd := by have g2 : alook τ.nodes (τ.nodes[k]).1 = some (τ.nodes[k]).2 := al_get' (ho.sorted.nodup linB) (i := k) hk; rw [hkp] at g2; exact ⟨_, g2⟩
 have hsd := stat_some hnd
 refine .sk (.seq (.rtOpen (x := x) (τ := τ) (by repeat' constructor) fun am cm as2 cs2 m hm => ?_))
 have hml := nds_len hm
 have hkm : k < m.length := by omega
 refine .slShape (T := 112) (sz := 12) (v := .slice am m.length cm) (xs := m.flatMap rnC) (by repeat' constructor) (by omega) fun bm bm' e0 mbm _ => ?_
 simp only [Value.slice.injEq, true_and] at e0
 obtain ⟨rfl, rfl⟩ := e0
 have hlk : alook τ.nodes p = some m[k].2.2 := by have g := nds_get hm (i := k) hkm; have g2 : alook τ.nodes (τ.nodes[k]).1 = some (τ.nodes[k]).2 := al_get' (ho.sorted.nodup linB) (i := k) hk; rw [hkp, show τ.nodes[k] = (m[k].1, m[k].2.2) from g] at g2; exact g2
 have hmn : m[k].2.2 = nd := by rw [hnd] at hlk; exact (Option.some.inj hlk).symm
 refine .region (.m rfl (.nf rfl fo_110_0 (.u (.ld rfl ag_107) (.m rfl (.q (.indexAddr rfl rfl el_107 (by omega)) rfl (.u (.fieldAddr rfl fo_112_3) (.q (.loadRdA (sz := 12) (j := k * 12 + 3) (k := 9) (p := rnR _ m) (vs := stC m[k].2.2.st) rfl ag_37 (by repeat' constructor) (fun h hp => slR_rd hp) (by simp) (by omega) (by omega) (rn_stat hkm)) rfl (.oq (.allocA ze_37) ?_))))))))
 rintro v L' ⟨b7, rfl, rfl⟩
 refine .sa rfl rfl sz_37 (by intro v hv; simp only [stC, List.mem_cons, List.not_mem_nil, or_false] at hv; rcases hv with rfl | rfl | rfl | rfl | rfl | rfl | rfl | rfl | rfl <;> rfl) ?_
 refine .nil (.ptCast (b := b7) (l' := stC nd.st) (by repeat' constructor) (by rw [hmn]; rfl) ?_)
 refine .then_n (.sm rfl (.nf rfl fo_110_0 (.u (.ld rfl ag_107) (.m rfl (.q (.indexAddr rfl rfl el_107 (by omega)) rfl (.u (.fieldAddr rfl fo_112_1) (.q (.loadRd (sz := 12) (j := k * 12 + 1) (p := rnR _ m) rfl ag_9 (by repeat' constructor) (fun h hp => slR_rd hp) (by omega) ((rn_cell (l := m) (i := k) (k := 1) (by omega) (by decide)).trans rfl)) rfl (.q (.strlen rfl Tryz.underlying9 rfl) rfl (.u (.fieldAddr rfl fo_37_7) (.sw rfl rfl rfl sz_3 ?_))))))))))
 refine .nil (.ptCast (b := b7) (l' := stC { nd.st with len := nd.data.length }) (by repeat' constructor) (by rw [hmn]; rfl) ?_)
 refine .rtFold (x := x) (τ := τ) (l := m) hm (by repeat' constructor) rfl rfl rfl rfl rfl (.then_n (.sm rfl (.m rfl (.oq (.c Tryz.func60 [_, _] (rkids_spec x τ p N ho (by omega))) ?_))))
 rintro v L' ⟨⟨a7, c7, rfl⟩, rfl⟩
 refine .q (.slen rfl Tryz.underlying23 rfl) rfl (.u (.fieldAddr rfl fo_37_8) (.sw rfl rfl rfl sz_3 ?_))
 refine .nil (.ptCast (b := b7) (l' := stC (statD τ p)) (by repeat' constructor) (by rw [hsd]; rfl) ?_)
 refine .then_n (.sr (.q (.loadAs (vs := stC (statD τ p)) rfl ag_37 (by repeat' constructor) (by simp [stC]) rfl) rfl (.sa rfl rfl sz_37 (by intro v hv; simp only [stC, List.mem_cons, List.not_mem_nil, or_false] at hv; rcases hv with rfl | rfl | rfl | rfl | rfl | rfl | rfl | rfl | rfl <;> rfl) ?_)))
 refine .an rfl (.ret ?_)
 have hth : thereT τ p := there_some'.2 ⟨nd, hnd⟩
 refine .ptCast (b := b4) (l' := stC (statD τ p)) (by repeat' constructor) rfl ?_
 exact .d2 rfl (.cellA rfl ag_37 (by repeat' constructor) (by simp [stC]) rfl) (.tmp rfl) ⟨by rw [decide_eq_true hth]; rfl, rfl⟩
theorem rrowseq_spec (va vb : Value) (xs ys : List Ac) (p q : HP) (hp : ∀ h : Hp, p h → rdS 2 h va xs.length (xs.flatMap acC)) (hq : ∀ h : Hp, q h → rdS 2 h vb ys.length (ys.flatMap acC)) (hn : xs.length ≤ 1048576) : Fn Tryz.prog 58 #[va, vb] [p, q] fun v L => v = .bool (decide (xs = ys)) ∧ L = [p, q] := by
 refine Fn.intro Tryz.func58 rfl rfl fun F W => ?_
 refine .rdAny (p := p) hp (by repeat' constructor) fun aa ca e0 _ => ?_
 subst e0
 refine .rdAny (p := q) hq (by repeat' constructor) fun ab cb e0 _ => ?_
 subst e0
 refine .sr (.an rfl (.seq (.sm rfl (.q (.slen rfl Tryz.underlying24 rfl) rfl (.m rfl (.q (.slen rfl Tryz.underlying24 rfl) rfl (.ui rfl rfl rfl (.nt (.condN rfl (fun h10 => ?_) (fun h10 => ?_))))))))))
 ·refine .sr (.an rfl (.rt ?_))
  exact .dn rfl rfl ⟨by rw [decide_eq_false (fun e => h10 (by rw [e]))], rfl⟩
 have hlen : xs.length = ys.length := by omega
 refine .sk (.seq (.sr (.an rfl (.block (.loopK (ι := Nat) (fun q E => (5, vint q) :: E) (fun q => []) (fun q => q ≤ xs.length ∧ xs.take q = ys.take q) (fun q => xs.length - q) (0) (ts := [0, 1]) (.cons rfl (.cons rfl (.nil))) (⟨Nat.zero_le _, rfl⟩) ⟨rfl, rfl, rfl, trivial⟩ (by repeat' constructor) ?_)))))
 rintro i ⟨hi, hpre⟩
 refine .seq (.sm rfl (.m rfl (.q (.slen rfl Tryz.underlying24 rfl) rfl (.ui rfl rfl rfl (.nt (.condD rfl (fun h14 => ?_) (fun h14 => ?_)))))))
 ·have hi2 : i < xs.length := by omega
  have hi3 : i < ys.length := by omega
  refine .rdShape (p := p) hp (by repeat' constructor) (by omega) fun ba oa e0 => ?_
  subst e0
  refine .rdShape (p := q) hq (by repeat' constructor) (by omega) fun bb ob e0 => ?_
  subst e0
  refine .sk (.seq (.block (.seq (.draw [] [[0, 1, 2, 3, 4, 5, 6, 7, 8]] mixed (by kernel_rfl) (.g0 (.mv rfl rfl (.mv rfl rfl (.kv rfl (.indexAddr rfl rfl el_24 (by omega)) (.kv rfl (.loadRdA (sz := 2) (j := i * 2) (k := 2) (p := p) (vs := acC xs[i]) rfl ag_85 (by repeat' constructor) hp (by simp) (by omega) (by omega) (flatMap_at (f := acC) (sz := 2) (fun _ _ => rfl) (by omega))) (.mv rfl rfl (.mv rfl rfl (.kv rfl (.indexAddr rfl rfl el_24 (by omega)) (.kv rfl (.loadRdA (sz := 2) (j := i * 2) (k := 2) (p := q) (vs := acC ys[i]) rfl ag_85 (by repeat' constructor) hq (by simp) (by omega) (by omega) (flatMap_at (f := acC) (sz := 2) (fun _ _ => rfl) (by omega))) (.kv rfl (.structNe (r := decide (xs[i] = ys[i])) rfl rfl (by kernel_rfl) (ac_eq 9998 _ _)) ?_))))))))))))))
  refine D.pf (.condN rfl (fun h25 => ?_) (fun h25 => ?_))
  ·refine .sr (.an rfl (.ret (.blk_r (.then_r (.then_r (.blk_r (.then_r ?_)))))))
   exact .dn rfl rfl ⟨by rw [decide_eq_false (fun e => h25 (by simp only [e]))], rfl⟩
  refine .skip (.blk_n (.then_n (.region (.m rfl (.q (.add rfl rfl (by omega)) rfl (.an rfl ?_))))))
  exact .rk (i + 1) (⟨by omega, by rw [List.take_succ_eq_append_getElem hi2, List.take_succ_eq_append_getElem hi3, hpre, h25]⟩) (by omega) ⟨rfl, rfl, rfl, trivial⟩
 refine .exit (.then_e (.then_e (.blk_e (.then_n (.sr (.an rfl (.ret ?_)))))))
 exact .dn rfl rfl ⟨by rw [decide_eq_true (by have hii : i = xs.length := (by omega); rw [hii, List.take_length] at hpre; rw [hlen, List.take_length] at hpre; exact hpre)], rfl⟩
theorem r12may_spec (z : Rno) (perms : Int) (iv : Value) (ids : List Bs) (p q : HP) (hp : ∀ h : Hp, p h → rdS 2 h z.2.1 z.2.2.acl.length (z.2.2.acl.flatMap acC)) (hq : ∀ h : Hp, q h → rdS 1 h iv ids.length (strs ids)) (hl : z.2.2.acl.length ≤ 1048576) (hn : ids.length ≤ 1048576) : Fn Tryz.prog 96 #[.agg (rnC z).toArray, vint perms, iv] [p, q] fun v L => v = .bool (mayZ z.2.2.acl perms ids) ∧ L = [p, q] := by
 refine Fn.intro Tryz.func96 rfl rfl fun F W => ?_
 refine .sr (.oq (.box rfl) ?_)
 rintro v L' ⟨b3, rfl, rfl⟩
 refine .a rfl (.nil (.pc b3 (rnC z) ?_))
 refine .then_n (.sr (.u (.fieldAddr rfl fo_112_2) (.u (.ld rfl ag_24) (.m rfl (.m rfl (.cv Tryz.func140 [_, _, _] (r6may_spec z.2.1 iv z.2.2.acl ids p q hp hq hl hn perms) ?_))))))
 refine .an rfl (.ret ?_)
 exact .vv
theorem r12rows_spec (v : Value) (xs : List Ac) (p : HP) (hp : ∀ h : Hp, p h → rdS 2 h v xs.length (xs.flatMap acC)) (hn : xs.length ≤ 1048576) : Fn Tryz.prog 97 #[v] [p] fun u L => (∃ a c, u = .slice a xs.length c) ∧ L = [p, slR 85 2 u xs.length (xs.flatMap acC)] := by
 refine Fn.intro Tryz.func97 rfl rfl fun F W => ?_
 refine .rdAny (p := p) hp (by repeat' constructor) fun a c e0 hl => ?_
 subst e0
 refine .add (slR_nil 85 2) (.sr (.an rfl (.sr (.an rfl (.sm rfl (.m rfl (.oq (.append (n := 0) (m := xs.length) (ys := xs.flatMap acC) (p := p) rfl rfl rfl el_24 (.inl ⟨_, Tryz.underlying24⟩) ze_85 rfl rfl ?hc4 hp ?hb5 (by decide)) ?_)))))))
 case hc4 => exact acC_cells _
 case hb5 => omega
 rintro v L' ⟨⟨a3, c3, rfl⟩, rfl⟩; rw [Nat.zero_add, List.nil_append]
 refine .an rfl (.ret ?_)
 exact .dn rfl rfl ⟨⟨_, _, rfl⟩, rfl⟩
theorem st_of {τ : Tr} {p : Bs} {n : Nd} (h : alook τ.nodes p = some n) : statD τ p = { n.st with len := n.data.length, kids := (kidsZ τ p).length } := by
 unfold statD statZ
 rw [h]; rfl
theorem acl_of {τ : Tr} {p : Bs} {n : Nd} (h : alook τ.nodes p = some n) : aclD τ p = n.acl := by
 unfold aclD
 rw [h]; rfl
theorem flag1 {f : Int} (h : 0 ≤ f ∧ f ≤ 3) : andI f 1 ≠ 0 ↔ f % 2 = 1 := by
 have : f = 0 ∨ f = 1 ∨ f = 2 ∨ f = 3 := by omega
 rcases this with rfl | rfl | rfl | rfl <;> decide
theorem flag2 {f : Int} (h : 0 ≤ f ∧ f ≤ 3) : andI f 2 ≠ 0 ↔ f ≥ 2 := by
 have : f = 0 ∨ f = 1 ∨ f = 2 ∨ f = 3 := by omega
 rcases this with rfl | rfl | rfl | rfl <;> decide
theorem first0 (l : List Int) : firstZ (0 :: l) = firstZ l := if_neg (by decide)
theorem firstE {e : Int} (h : e ≠ 0) (l : List Int) : firstZ (e :: l) = e := if_pos h
theorem wh1 {b : Prop} [Decidable b] (h : b) (e : Int) : whenZ b e = e := if_pos h
theorem wh0 {b : Prop} [Decidable b] (h : ¬ b) (e : Int) : whenZ b e = 0 := if_neg h
theorem r12fits_spec (a b : Int) : Fn Tryz.prog 115 #[vint a, vint b] [] fun v L => v = .bool (decide (¬ (a ≠ -1 ∧ a ≠ b))) ∧ L = [] := by
 refine Fn.intro Tryz.func115 rfl rfl fun F W => ?_
 refine .sr (.an rfl (.sm rfl (.ui rfl rfl rfl (.m rfl (.dec (t := 7) rfl (fun h1_7 => ?_) (fun h1_7 => ?_))))))
 ·refine .kDT (t := 6) rfl h1_7 (.gk (.gk (.gk (.u (.pickT rfl rfl) (.an rfl (.ret ?_))))))
  exact .dn rfl rfl ⟨by congr 1; simp_all, rfl⟩
 refine .kDF (t := 6) rfl h1_7 (.grun (t := 7) rfl rfl rfl (.m rfl (.grun (t := 7) rfl rfl rfl (.m rfl (.grun (t := 7) rfl rfl rfl (.ui rfl rfl rfl (.u (.pickF rfl rfl) (.an rfl (.ret ?_)))))))))
 exact .dn rfl rfl ⟨by congr 1; simp_all, rfl⟩
theorem bad0 {F e : Int} {Q : Prop} (hE : F = e) (he : e ≠ 0) : F = 0 → Q := fun g => absurd (hE.symm.trans g) he
theorem own_ses {τ : Tr} {u : Who} {r : Rq} {ow : Int} (h : ow = (createX τ u r).own) (h0 : ow ≠ 0) : andI r.flags 1 ≠ 0 ∧ ow = u.ses := by
 have h : ow = if andI r.flags 1 ≠ 0 then u.ses else 0 := h
 split at h
 ·rename_i g; exact ⟨g, h⟩
 ·exact absurd h h0
theorem own_none {τ : Tr} {u : Who} {r : Rq} {ow : Int} (h : ow = (createX τ u r).own) (h0 : ow = 0) : ¬ (andI r.flags 1 ≠ 0 ∧ (ownedZ τ u.ses).length ≥ 32) := fun g => by
 have h : ow = if andI r.flags 1 ≠ 0 then u.ses else 0 := h
 rw [if_pos g.1] at h
 have g2 := g.2
 rw [show u.ses = 0 from h.symm.trans h0, owned_zero] at g2
 exact absurd g2 (by decide)
theorem r12create_spec (x : Nat) (τ : Tr) (u : Who) (iv : Value) (r : Rq) (p : HP) (hA : WiA p u iv r) (N : Nat) (ho : τ.Ok N) (hN : N ≤ 1073741824) (hw : TrW τ) : Fn Tryz.prog 111 #[vptr x, vint u.ses, iv, .agg (rqC r).toArray] [refR x τ, p] fun v L => ∃ X : Pt, v = .tuple #[.agg (ptC X).toArray, vint (firstZ (createE τ u r))] ∧ (firstZ (createE τ u r) = 0 → X.pl = createX τ u r) ∧ isCell X.aclV = true ∧ X.subsV = nilV ∧ L = [refR x τ, p, aclR X] := by
 refine Fn.intro Tryz.func111 rfl rfl fun F W => ?_
 have hof := ho.few
 have hrp := hA.rq.path
 have hrd := hA.rq.data
 refine .sr (.oq (.box rfl) ?_)
 rintro v L' ⟨b7, rfl, rfl⟩
 refine .oq (.allocA ze_43) ?_
 rintro v L' ⟨b8, rfl, rfl⟩
 refine .a rfl (.nil (.pc b7 (rqC r) ?_))
 refine .then_n (.sr (.u (.fieldAddr rfl fo_28_2) (.u (.ld rfl ag_9) (.cv Tryz.func39 [_] (rcheck_spec r.path (by omega)) ?_))))
 refine .an rfl (.seq (.sm rfl (.ui rfl rfl rfl (.nt (.condN rfl (fun h21 => ?_) (fun h21 => ?_))))))
 ·refine .sr (.q (.to (v' := .agg (ptC noopX).toArray) (.build (us := []) fl_43 ze_43 rfl rfl (by simp [isCell])) rfl) rfl (.m rfl (.sa rfl rfl sz_43 (by exact pt_cells (y := noopX) rfl rfl) ?_)))
  refine .a rfl (.nil (.pc b8 (ptC noopX) ?_))
  refine .add (slR_nil 85 2) ?_
  have hE : firstZ (createE τ u r) = checkZ r.path := by unfold createE; (try simp only [first0]); exact firstE (by first | decide | assumption) _
  refine .then_n (.rt ?_)
  exact .d2 rfl (.cellA rfl ag_43 (by repeat' constructor) (by simp [ptC]) rfl) (.tmp rfl) ⟨noopX, by rw [hE]; rfl, bad0 hE (by first | decide | assumption), rfl, rfl, rfl⟩
 have c1 : checkZ r.path = 0 := by omega
 refine .sk (.seq (.sr (.u (.fieldAddr rfl fo_28_3) (.u (.ld rfl ag_9) (.q (.strlen rfl Tryz.underlying9 rfl) rfl (.ui rfl rfl rfl (.m rfl (.dec (t := 28) rfl (fun h4_28 => ?_) (fun h4_28 => ?_)))))))))
 ·refine .kDT (t := 27) rfl h4_28 (.gk (.gk (.gk (.u (.pickT rfl rfl) (.m rfl (.gk (.gk (.gk (.u (.pickT rfl rfl) (.nt (.condT rfl (.seq ?_))))))))))))
  have d2 : r.data.length > 100 ∨ r.flags < 0 ∨ r.flags > 3 := by omega
  refine .region (.q (.to (v' := .agg (ptC noopX).toArray) (.build (us := []) fl_43 ze_43 rfl rfl (by simp [isCell])) rfl) rfl (.sa rfl rfl sz_43 (by exact pt_cells (y := noopX) rfl rfl) ?_))
  refine .a rfl (.nil (.pc b8 (ptC noopX) ?_))
  refine .add (slR_nil 85 2) ?_
  have hE : firstZ (createE τ u r) = 1 := by unfold createE; (try simp only [c1, wh1 d2, first0]); exact firstE (by first | decide | assumption) _
  refine .then_n (.rt ?_)
  exact .d2 rfl (.cellA rfl ag_43 (by repeat' constructor) (by simp [ptC]) rfl) (.tmp rfl) ⟨noopX, by rw [hE]; rfl, bad0 hE (by first | decide | assumption), rfl, rfl, rfl⟩
 refine .kDF (t := 27) rfl h4_28 (.grun (t := 28) rfl rfl rfl (.u (.fieldAddr rfl fo_28_5) (.grun (t := 28) rfl rfl rfl (.u (.ld rfl ag_3) (.grun (t := 28) rfl rfl rfl (.ui rfl rfl rfl (.u (.pickF rfl rfl) (.m rfl (.dec (t := 33) rfl (fun h4_33 => ?_) (fun h4_33 => ?_))))))))))
 ·refine .kDT (t := 31) rfl h4_33 (.kDT (t := 32) rfl h4_33 (.gk (.gk (.gk (.u (.pickT rfl rfl) (.nt (.condT rfl (.seq ?_))))))))
  have d2 : r.data.length > 100 ∨ r.flags < 0 ∨ r.flags > 3 := by omega
  refine .region (.q (.to (v' := .agg (ptC noopX).toArray) (.build (us := []) fl_43 ze_43 rfl rfl (by simp [isCell])) rfl) rfl (.sa rfl rfl sz_43 (by exact pt_cells (y := noopX) rfl rfl) ?_))
  refine .a rfl (.nil (.pc b8 (ptC noopX) ?_))
  refine .add (slR_nil 85 2) ?_
  have hE : firstZ (createE τ u r) = 1 := by unfold createE; (try simp only [c1, wh1 d2, first0]); exact firstE (by first | decide | assumption) _
  refine .then_n (.rt ?_)
  exact .d2 rfl (.cellA rfl ag_43 (by repeat' constructor) (by simp [ptC]) rfl) (.tmp rfl) ⟨noopX, by rw [hE]; rfl, bad0 hE (by first | decide | assumption), rfl, rfl, rfl⟩
 refine .kDF (t := 31) rfl h4_33 (.kDF (t := 32) rfl h4_33 (.grun (t := 33) rfl rfl rfl (.u (.fieldAddr rfl fo_28_5) (.grun (t := 33) rfl rfl rfl (.u (.ld rfl ag_3) (.grun (t := 33) rfl rfl rfl (.ui rfl rfl rfl (.u (.pickF rfl rfl) (.nt (.condD rfl (fun h37 => ?_) (fun h37 => ?_)))))))))))
 ·refine .seq ?_
  have d2 : r.data.length > 100 ∨ r.flags < 0 ∨ r.flags > 3 := by omega
  refine .region (.q (.to (v' := .agg (ptC noopX).toArray) (.build (us := []) fl_43 ze_43 rfl rfl (by simp [isCell])) rfl) rfl (.sa rfl rfl sz_43 (by exact pt_cells (y := noopX) rfl rfl) ?_))
  refine .a rfl (.nil (.pc b8 (ptC noopX) ?_))
  refine .add (slR_nil 85 2) ?_
  have hE : firstZ (createE τ u r) = 1 := by unfold createE; (try simp only [c1, wh1 d2, first0]); exact firstE (by first | decide | assumption) _
  refine .then_n (.rt ?_)
  exact .d2 rfl (.cellA rfl ag_43 (by repeat' constructor) (by simp [ptC]) rfl) (.tmp rfl) ⟨noopX, by rw [hE]; rfl, bad0 hE (by first | decide | assumption), rfl, rfl, rfl⟩
 refine .sk (.seq ?_)
 have hfl : 0 ≤ r.flags ∧ r.flags ≤ 3 := by omega
 have c2 : whenZ (r.data.length > 100 ∨ r.flags < 0 ∨ r.flags > 3) 1 = 0 := wh0 (by omega) 1
 refine .region (.u (.fieldAddr rfl fo_28_4) (.u (.ld rfl ag_24) (.cv Tryz.func113 [_] (r6right_spec r.aclV r.acl p hA.rq.acl hA.rq.many (fun a ha => (hA.rq.ids a ha).2)) ?_)))
 refine .an rfl (.seq (.sm rfl (.u (.not rfl) (.nt (.condB rfl (fun h43 => ?_) (fun h43 => ?_))))))
 ·have d3 : ¬ rightZ r.acl = true := by simpa using h43
  refine .sr (.q (.to (v' := .agg (ptC noopX).toArray) (.build (us := []) fl_43 ze_43 rfl rfl (by simp [isCell])) rfl) rfl (.sa rfl rfl sz_43 (by exact pt_cells (y := noopX) rfl rfl) ?_))
  refine .a rfl (.nil (.pc b8 (ptC noopX) ?_))
  refine .add (slR_nil 85 2) ?_
  have hE : firstZ (createE τ u r) = 50 := by unfold createE; (try simp only [c1, c2, wh1 d3, first0]); exact firstE (by first | decide | assumption) _
  refine .then_n (.rt ?_)
  exact .d2 rfl (.cellA rfl ag_43 (by repeat' constructor) (by simp [ptC]) rfl) (.tmp rfl) ⟨noopX, by rw [hE]; rfl, bad0 hE (by first | decide | assumption), rfl, rfl, rfl⟩
 have c3 : whenZ (¬ rightZ r.acl = true) 50 = 0 := wh0 (by simpa using h43) 50
 refine .sk (.sm rfl (.u (.fieldAddr rfl fo_28_2) (.u (.ld rfl ag_9) (.cv Tryz.func110 [_] (rparent_spec r.path (by omega)) ?_))))
 refine .cv Tryz.func95 [_, _] (rplace_spec x τ (parentZ r.path) (by omega)) ?_
 refine .an rfl (.seq (.sm rfl (.ui rfl rfl rfl (.nt (.condD rfl (fun h51 => ?_) (fun h51 => ?_))))))
 ·have d4 : ¬ thereT τ (parentZ r.path) := fun g => absurd (place_iff.2 g) (by have h0 : placeTo τ.nodes (parentZ r.path) < 0 := h51; omega)
  refine .sr (.q (.to (v' := .agg (ptC noopX).toArray) (.build (us := []) fl_43 ze_43 rfl rfl (by simp [isCell])) rfl) rfl (.sa rfl rfl sz_43 (by exact pt_cells (y := noopX) rfl rfl) ?_))
  refine .a rfl (.nil (.pc b8 (ptC noopX) ?_))
  refine .add (slR_nil 85 2) ?_
  have hE : firstZ (createE τ u r) = 60 := by unfold createE; (try simp only [c1, c2, c3, wh1 d4, first0]); exact firstE (by first | decide | assumption) _
  refine .then_n (.rt ?_)
  exact .d2 rfl (.cellA rfl ag_43 (by repeat' constructor) (by simp [ptC]) rfl) (.tmp rfl) ⟨noopX, by rw [hE]; rfl, bad0 hE (by first | decide | assumption), rfl, rfl, rfl⟩
 have hthk : thereT τ (parentZ r.path) := place_iff.1 (by have h0 : ¬ placeTo τ.nodes (parentZ r.path) < 0 := h51; omega)
 have c4 : whenZ (¬ thereT τ (parentZ r.path)) 60 = 0 := wh0 (fun g => g hthk) 60
 obtain ⟨k, hkk, hpkk, hkpk⟩ := place_get (l := τ.nodes) (place_iff.2 hthk)
 have hpzk : placeZ τ (parentZ r.path) = k := hpkk
 rw [hpzk]
 refine .sk (.seq (.rtOpen (x := x) (τ := τ) (by repeat' constructor) fun an cn as1 cs l hl => ?_))
 have hll := nds_len hl
 have hkl : k < l.length := by omega
 refine .slShape (T := 112) (sz := 12) (v := .slice an l.length cn) (xs := l.flatMap rnC) (by repeat' constructor) (by omega) fun bn bn' e0 mbn _ => ?_
 simp only [Value.slice.injEq, true_and] at e0
 obtain ⟨rfl, rfl⟩ := e0
 have hlk : alook τ.nodes (parentZ r.path) = some l[k].2.2 := by have g := nds_get hl (i := k) hkl; have g2 : alook τ.nodes (τ.nodes[k]).1 = some (τ.nodes[k]).2 := al_get' (ho.sorted.nodup linB) (i := k) hkk; rw [hkpk, show τ.nodes[k] = (l[k].1, l[k].2.2) from g] at g2; exact g2
 have hst := st_of hlk
 have hac := acl_of hlk
 have hlac : l[k].2.2.acl.length ≤ 1048576 := by have hacl := ho.acls _ (List.getElem_mem hkk); have g := nds_get hl (i := k) hkl; rw [show τ.nodes[k] = (l[k].1, l[k].2.2) from g] at hacl; exact hacl
 refine .rdAny (p := bigR inA l) (big_rd hkl) (by repeat' constructor) fun aw cw haw _ => ?_
 have hzc : isCell l[k].2.1 = true := by rw [haw]; rfl
 have hup : upS τ r = { l[k].2.2.st with len := l[k].2.2.data.length, kids := (kidsZ τ (parentZ r.path)).length } := hst
 have hcv : (upS τ r).cver = l[k].2.2.st.cver := by rw [hup]
 have hci : I64 l[k].2.2.st.cver := by rw [← hcv]; exact cver_i64 hw _
 refine .region (.m rfl (.nf rfl fo_110_0 (.u (.ld rfl ag_107) (.m rfl (.q (.indexAddr rfl rfl el_107 (by omega)) rfl (.q (.loadRdA (sz := 12) (j := k * 12) (k := 12) (p := rnR _ l) (vs := rnC l[k]) rfl ag_112 (by repeat' constructor) (fun h hp => slR_rd hp) (by omega) (by omega) (by omega) (flatMap_at (f := rnC) (sz := 12) (fun _ _ => rfl) (by omega))) rfl (.oq (.allocA ze_112) ?_)))))))
 rintro v L' ⟨b13, rfl, rfl⟩
 refine .sa rfl rfl sz_112 (by exact rn_cells hzc) ?_
 refine .nil (.pc b13 (rnC l[k]) ?_)
 refine .then_n (.seq (.sr (.u (.fieldAddr rfl fo_112_3) (.u (.fieldAddr rfl fo_37_6) (.u (.ld rfl ag_3) (.ui rfl rfl rfl (.nt (.condN rfl (fun h63 => ?_) (fun h63 => ?_)))))))))
 ·have d5 : (upS τ r).own ≠ 0 := by rw [hup]; exact h63
  refine .sr (.q (.to (v' := .agg (ptC noopX).toArray) (.build (us := []) fl_43 ze_43 rfl rfl (by simp [isCell])) rfl) rfl (.sa rfl rfl sz_43 (by exact pt_cells (y := noopX) rfl rfl) ?_))
  refine .a rfl (.nil (.rtFold (x := x) (τ := τ) (l := l) hl (by repeat' constructor) rfl rfl rfl rfl rfl (.pc b8 (ptC noopX) ?_)))
  refine .add (slR_nil 85 2) ?_
  have hE : firstZ (createE τ u r) = 63 := by unfold createE; (try simp only [c1, c2, c3, c4, wh1 d5, first0]); exact firstE (by first | decide | assumption) _
  refine .then_n (.rt ?_)
  exact .d2 rfl (.cellA rfl ag_43 (by repeat' constructor) (by simp [ptC]) rfl) (.tmp rfl) ⟨noopX, by rw [hE]; rfl, bad0 hE (by first | decide | assumption), rfl, rfl, rfl⟩
 have c5 : whenZ ((upS τ r).own ≠ 0) 63 = 0 := wh0 (by rw [hup]; exact fun g => g h63) 63
 refine .sk (.sr (.q (.la (rnC l[k]) rfl ag_112) rfl (.m rfl (.oq (.c Tryz.func96 [_, _, _] (r12may_spec l[k] 4 iv u.ids (bigR inA l) p (big_rd hkl) hA.ids hlac hA.few)) ?_))))
 rintro v L' ⟨rfl, rfl⟩; rw [← hac]
 refine .a rfl (.nil (.rtFold (x := x) (τ := τ) (l := l) hl (by repeat' constructor) rfl rfl rfl rfl rfl (.then_n (.seq (.sm rfl (.u (.not rfl) (.nt (.condB rfl (fun h69 => ?_) (fun h69 => ?_)))))))))
 ·have d6 : ¬ mayT τ u.ids (parentZ r.path) 4 := fun g => by have := g.2; simp_all
  refine .sr (.q (.to (v' := .agg (ptC noopX).toArray) (.build (us := []) fl_43 ze_43 rfl rfl (by simp [isCell])) rfl) rfl (.sa rfl rfl sz_43 (by exact pt_cells (y := noopX) rfl rfl) ?_))
  refine .a rfl (.nil (.pc b8 (ptC noopX) ?_))
  refine .add (slR_nil 85 2) ?_
  have hE : firstZ (createE τ u r) = 65 := by unfold createE; (try simp only [c1, c2, c3, c4, c5, wh1 d6, first0]); exact firstE (by first | decide | assumption) _
  refine .then_n (.rt ?_)
  exact .d2 rfl (.cellA rfl ag_43 (by repeat' constructor) (by simp [ptC]) rfl) (.tmp rfl) ⟨noopX, by rw [hE]; rfl, bad0 hE (by first | decide | assumption), rfl, rfl, rfl⟩
 have c6 : whenZ (¬ mayT τ u.ids (parentZ r.path) 4) 65 = 0 := wh0 (fun g => g ⟨hthk, by simpa using h69⟩) 65
 refine .sk (.sr (.u (.fieldAddr rfl fo_28_2) (.u (.ld rfl ag_9) (.an rfl (.seq (.joinK (ι := Bs) (fun q E => (15, vstr q) :: E) (fun q => []) (fun q => q = fullZ τ r) (pre := []) (ts := [0, 1, 7, 8, 9, 13]) (.cons rfl (.cons rfl (.cons rfl (.cons rfl (.cons rfl (.cons rfl (.nil))))))) (by repeat' constructor) ?_ ?_))))))
 ·refine .sr (.u (.fieldAddr rfl fo_28_5) (.u (.ld rfl ag_3) (.ui rfl rfl rfl (.nt (.condD rfl (fun h75 => ?_) (fun h75 => ?_))))))
  ·refine .region (.m rfl (.u (.fieldAddr rfl fo_112_3) (.u (.fieldAddr rfl fo_37_4) (.u (.ld rfl ag_3) (.cv Tryz.func172 [_, _] (rnumbered_spec r.path l[k].2.2.st.cver hci (by omega)) ?_)))))
   refine .an rfl ?_
   exact .mk (numbered r.path l[k].2.2.st.cver) (by unfold fullZ; rw [if_pos ((flag2 hfl).2 h75), hcv]) ⟨rfl, rfl, rfl, rfl, rfl, rfl, rfl, trivial⟩
  refine .sk ?_
  exact .mk (r.path) (by unfold fullZ; rw [if_neg (fun g => h75 ((flag2 hfl).1 g))]) ⟨rfl, rfl, rfl, rfl, rfl, rfl, rfl, trivial⟩
 rintro pth hpth
 subst hpth
 refine .seq (.sm rfl (.cv Tryz.func39 [_] (rcheck_spec (fullZ τ r) (by have := whole_len hA τ; omega)) ?_))
 refine .ui rfl rfl rfl (.nt (.condN rfl (fun h83 => ?_) (fun h83 => ?_)))
 ·have d7 : checkZ (fullZ τ r) ≠ 0 := h83
  refine .sr (.q (.to (v' := .agg (ptC noopX).toArray) (.build (us := []) fl_43 ze_43 rfl rfl (by simp [isCell])) rfl) rfl (.sa rfl rfl sz_43 (by exact pt_cells (y := noopX) rfl rfl) ?_))
  refine .a rfl (.nil (.pc b8 (ptC noopX) ?_))
  refine .add (slR_nil 85 2) ?_
  have hE : firstZ (createE τ u r) = 41 := by unfold createE; (try simp only [c1, c2, c3, c4, c5, c6, wh1 d7, first0]); exact firstE (by first | decide | assumption) _
  refine .then_n (.rt ?_)
  exact .d2 rfl (.cellA rfl ag_43 (by repeat' constructor) (by simp [ptC]) rfl) (.tmp rfl) ⟨noopX, by rw [hE]; rfl, bad0 hE (by first | decide | assumption), rfl, rfl, rfl⟩
 have c7 : whenZ (checkZ (fullZ τ r) ≠ 0) 41 = 0 := wh0 (fun g => g (by omega)) 41
 refine .sk (.seq (.sm rfl (.m rfl (.cv Tryz.func95 [_, _] (rplace_spec x τ (fullZ τ r) (by omega)) ?_))))
 refine .ui rfl rfl rfl (.nt (.condD rfl (fun h88 => ?_) (fun h88 => ?_)))
 ·have d8 : thereT τ (fullZ τ r) := place_iff.1 h88
  refine .sr (.q (.to (v' := .agg (ptC noopX).toArray) (.build (us := []) fl_43 ze_43 rfl rfl (by simp [isCell])) rfl) rfl (.sa rfl rfl sz_43 (by exact pt_cells (y := noopX) rfl rfl) ?_))
  refine .a rfl (.nil (.pc b8 (ptC noopX) ?_))
  refine .add (slR_nil 85 2) ?_
  have hE : firstZ (createE τ u r) = 61 := by unfold createE; (try simp only [c1, c2, c3, c4, c5, c6, c7, wh1 d8, first0]); exact firstE (by first | decide | assumption) _
  refine .then_n (.rt ?_)
  exact .d2 rfl (.cellA rfl ag_43 (by repeat' constructor) (by simp [ptC]) rfl) (.tmp rfl) ⟨noopX, by rw [hE]; rfl, bad0 hE (by first | decide | assumption), rfl, rfl, rfl⟩
 have c8 : whenZ (thereT τ (fullZ τ r)) 61 = 0 := wh0 (fun g => h88 (place_iff.2 g)) 61
 refine .sk (.sr (.an rfl (.seq (.joinK (ι := Int) (fun q E => (16, vint q) :: E) (fun q => []) (fun q => q = (createX τ u r).own) (pre := []) (ts := [0, 7, 8, 9, 13, 15]) (.cons rfl (.cons rfl (.cons rfl (.cons rfl (.cons rfl (.cons rfl (.nil))))))) (by repeat' constructor) ?_ ?_))))
 ·refine .sr (.u (.fieldAddr rfl fo_28_5) (.u (.ld rfl ag_3) (.q (.remE rfl rfl hfl.1 (by decide)) rfl (.ui rfl rfl rfl (.nt (.condD rfl (fun h93 => ?_) (fun h93 => ?_)))))))
  ·refine .region (.m rfl (.an rfl ?_))
   exact .mk (u.ses) ((if_pos ((flag1 hfl).2 h93)).symm) ⟨rfl, rfl, rfl, rfl, rfl, rfl, rfl, trivial⟩
  refine .sk ?_
  exact .mk (0) ((if_neg (fun g => h93 ((flag1 hfl).1 g))).symm) ⟨rfl, rfl, rfl, rfl, rfl, rfl, rfl, trivial⟩
 rintro ow how
 refine .seq (.seq (.rtOpen (x := x) (τ := τ) (by repeat' constructor) fun an2 cn2 as2 cs2 l2 hl2 => ?_))
 have hll2 := nds_len hl2
 have hpzl : (pathsZ τ).length = τ.nodes.length := List.length_map _
 refine .region (.m rfl (.nf rfl fo_110_0 (.u (.ld rfl ag_107) (.q (.slen rfl Tryz.underlying107 rfl) rfl (.rtFold (x := x) (τ := τ) (l := l2) hl2 (by repeat' constructor) rfl rfl rfl rfl rfl (.ui rfl rfl rfl (.m rfl (.dec (t := 101) rfl (fun h28_101 => ?_) (fun h28_101 => ?_)))))))))
 ·refine .kDT (t := 100) rfl h28_101 (.gk (.gk (.gk (.gskipU (t := 104) rfl rfl rfl (.gskipU (t := 104) rfl rfl rfl (.gskipU (t := 104) rfl rfl rfl (.gskipU (t := 104) rfl rfl rfl (.gskipU (t := 104) rfl rfl rfl (.gk (.u (.pickT rfl rfl) (.nt (.condT rfl (.seq ?_)))))))))))))
  have d9 : (pathsZ τ).length ≥ 64 := by omega
  have hE : firstZ (createE τ u r) = 64 := by unfold createE; simp only [c1, c2, c3, c4, c5, c6, c7, c8, wh1 d9, first0]; exact firstE (by decide) _
  refine .region (.q (.to (v' := .agg (ptC noopX).toArray) (.build (us := []) fl_43 ze_43 rfl rfl (by simp [isCell])) rfl) rfl (.sa rfl rfl sz_43 (by exact pt_cells (y := noopX) rfl rfl) ?_))
  refine .a rfl (.nil (.pc b8 (ptC noopX) ?_))
  refine .add (slR_nil 85 2) (.then_n (.rt ?_))
  exact .d2 rfl (.cellA rfl ag_43 (by repeat' constructor) (by simp [ptC]) rfl) (.tmp rfl) ⟨noopX, by rw [hE]; rfl, bad0 hE (by first | decide | assumption), rfl, rfl, rfl⟩
 refine .kDF (t := 100) rfl h28_101 (.grun (t := 101) rfl rfl rfl (.m rfl (.grun (t := 101) rfl rfl rfl (.ui rfl rfl rfl (.grun (t := 101) rfl rfl rfl (.m rfl (.ndec (t := 104) rfl (fun h28_104 => ?_) (fun h28_104 => ?_))))))))
 ·refine .kNT (t := 103) rfl h28_104 (.grun (t := 104) rfl rfl rfl (.m rfl (.grun (t := 104) rfl rfl rfl (.m rfl (.grun (t := 104) rfl rfl rfl (.oq (.c Tryz.func61 [_, _] (rowned_spec x τ ow N ho hN)) ?_))))))
  rintro v L' ⟨⟨a28, c28, rfl⟩, rfl⟩
  refine .grun (t := 104) rfl rfl rfl (.q (.slen rfl Tryz.underlying23 rfl) rfl (.grun (t := 104) rfl rfl rfl (.ui rfl rfl rfl (.grun (t := 101) rfl rfl rfl (.u (.pickT rfl rfl) (.u (.pickF rfl rfl) (.nt (.condD rfl (fun h111 => ?_) (fun h111 => ?_)))))))))
  ·refine .seq ?_
   have c9 : whenZ ((pathsZ τ).length ≥ 64) 64 = 0 := wh0 (by omega) 64
   have how2 := own_ses how h28_104
   have d10 : andI r.flags 1 ≠ 0 ∧ (ownedZ τ u.ses).length ≥ 32 := ⟨how2.1, by rw [← how2.2]; omega⟩
   have hE : firstZ (createE τ u r) = 64 := by unfold createE; simp only [c1, c2, c3, c4, c5, c6, c7, c8, c9, wh1 d10, first0]; exact firstE (by decide) _
   refine .region (.q (.to (v' := .agg (ptC noopX).toArray) (.build (us := []) fl_43 ze_43 rfl rfl (by simp [isCell])) rfl) rfl (.sa rfl rfl sz_43 (by exact pt_cells (y := noopX) rfl rfl) ?_))
   refine .a rfl (.nil (.pc b8 (ptC noopX) ?_))
   refine .add (slR_nil 85 2) (.then_n (.rt ?_))
   exact .d2 rfl (.cellA rfl ag_43 (by repeat' constructor) (by simp [ptC]) rfl) (.tmp rfl) ⟨noopX, by rw [hE]; rfl, bad0 hE (by first | decide | assumption), rfl, rfl, rfl⟩
  refine .sk (.seq ?_)
  have c9 : whenZ ((pathsZ τ).length ≥ 64) 64 = 0 := wh0 (by omega) 64
  have c10 : whenZ (andI r.flags 1 ≠ 0 ∧ (ownedZ τ u.ses).length ≥ 32) 64 = 0 := wh0 (fun g => by have h2 := own_ses how h28_104; rw [← h2.2] at g; have := g.2; omega) 64
  have hE : firstZ (createE τ u r) = 0 := by unfold createE; simp only [c1, c2, c3, c4, c5, c6, c7, c8, c9, c10, first0]; rfl
  refine .draw [5, 12] [[0, 1, 2, 3, 4, 6, 7, 8, 9, 10, 5], [11, 12], [13]] mixed (by kernel_rfl) (.go [ptc b7 _ _, ptc b13 _ _] (by repeat' constructor) (.k rfl (.move rfl) (.k rfl (.fieldAddr rfl fo_28_3) (.k rfl (.ld rfl ag_9) (.kv rfl (.fieldAddr rfl fo_28_4) (.kv rfl (.ld rfl ag_24) (.k rfl (.move rfl) (.k rfl (.fieldAddr rfl fo_112_3) (.k rfl (.fieldAddr rfl fo_37_4) (.k rfl (.ld rfl ag_3) (.k rfl (.addW rfl rfl) (.hh rfl (.c Tryz.func97 [_] (r12rows_spec r.aclV r.acl p hA.rq.acl hA.rq.many)) ?_))))))))))))
  rintro v L' ⟨⟨a30, c30, rfl⟩, rfl⟩
  refine D.ph (.g0 (.kv rfl (.to (v' := .agg (ptC (⟨1, fullZ τ r, r.data, .slice a30 r.acl.length c30, r.acl, ow, wrapI (l[k].2.2.st.cver + 1), 0, nilV⟩ : Pt)).toArray) (.build (us := [(0, _), (1, _), (2, _), (3, _), (4, _), (5, _)]) fl_43 ze_43 rfl rfl (by simp [isCell])) rfl) (.sa rfl rfl rfl sz_43 (by exact pt_cells (y := (⟨1, fullZ τ r, r.data, .slice a30 r.acl.length c30, r.acl, ow, wrapI (l[k].2.2.st.cver + 1), 0, nilV⟩ : Pt)) rfl rfl) ?_)))
  refine D.ph (.g0 (.kv rfl (.assign rfl) (.ph (.fin (.pc b8 (ptC (⟨1, fullZ τ r, r.data, .slice a30 r.acl.length c30, r.acl, ow, wrapI (l[k].2.2.st.cver + 1), 0, nilV⟩ : Pt)) ?_)))))
  refine .then_n (.ret ?_)
  exact .d2 rfl (.cellA rfl ag_43 (by repeat' constructor) (by simp [ptC]) rfl) (.tmp rfl) ⟨⟨1, fullZ τ r, r.data, .slice a30 r.acl.length c30, r.acl, ow, wrapI (l[k].2.2.st.cver + 1), 0, nilV⟩, by rw [hE]; rfl, fun _ => by rw [how]; unfold createX; rw [hcv]; rfl, rfl, rfl, rfl⟩
 refine .kNF (t := 103) rfl h28_104 (.gk (.gk (.gk (.gk (.gk (.grun (t := 101) rfl rfl rfl (.u (.pickF rfl rfl) (.u (.pickF rfl rfl) (.nt (.condF rfl (.sk (.seq ?_))))))))))))
 have c9 : whenZ ((pathsZ τ).length ≥ 64) 64 = 0 := wh0 (by omega) 64
 have c10 : whenZ (andI r.flags 1 ≠ 0 ∧ (ownedZ τ u.ses).length ≥ 32) 64 = 0 := wh0 (own_none how h28_104) 64
 have hE : firstZ (createE τ u r) = 0 := by unfold createE; simp only [c1, c2, c3, c4, c5, c6, c7, c8, c9, c10, first0]; rfl
 refine .draw [5, 12] [[0, 1, 2, 3, 4, 6, 7, 8, 9, 10, 5], [11, 12], [13]] mixed (by kernel_rfl) (.go [ptc b7 _ _, ptc b13 _ _] (by repeat' constructor) (.k rfl (.move rfl) (.k rfl (.fieldAddr rfl fo_28_3) (.k rfl (.ld rfl ag_9) (.kv rfl (.fieldAddr rfl fo_28_4) (.kv rfl (.ld rfl ag_24) (.k rfl (.move rfl) (.k rfl (.fieldAddr rfl fo_112_3) (.k rfl (.fieldAddr rfl fo_37_4) (.k rfl (.ld rfl ag_3) (.k rfl (.addW rfl rfl) (.hh rfl (.c Tryz.func97 [_] (r12rows_spec r.aclV r.acl p hA.rq.acl hA.rq.many)) ?_))))))))))))
 rintro v L' ⟨⟨a30, c30, rfl⟩, rfl⟩
 refine D.ph (.g0 (.kv rfl (.to (v' := .agg (ptC (⟨1, fullZ τ r, r.data, .slice a30 r.acl.length c30, r.acl, ow, wrapI (l[k].2.2.st.cver + 1), 0, nilV⟩ : Pt)).toArray) (.build (us := [(0, _), (1, _), (2, _), (3, _), (4, _), (5, _)]) fl_43 ze_43 rfl rfl (by simp [isCell])) rfl) (.sa rfl rfl rfl sz_43 (by exact pt_cells (y := (⟨1, fullZ τ r, r.data, .slice a30 r.acl.length c30, r.acl, ow, wrapI (l[k].2.2.st.cver + 1), 0, nilV⟩ : Pt)) rfl rfl) ?_)))
 refine D.ph (.g0 (.kv rfl (.assign rfl) (.ph (.fin (.pc b8 (ptC (⟨1, fullZ τ r, r.data, .slice a30 r.acl.length c30, r.acl, ow, wrapI (l[k].2.2.st.cver + 1), 0, nilV⟩ : Pt)) ?_)))))
 refine .then_n (.ret ?_)
 exact .d2 rfl (.cellA rfl ag_43 (by repeat' constructor) (by simp [ptC]) rfl) (.tmp rfl) ⟨⟨1, fullZ τ r, r.data, .slice a30 r.acl.length c30, r.acl, ow, wrapI (l[k].2.2.st.cver + 1), 0, nilV⟩, by rw [hE]; rfl, fun _ => by rw [how]; unfold createX; rw [hcv]; rfl, rfl, rfl, rfl⟩
theorem r12erase_spec (x : Nat) (τ : Tr) (u : Who) (iv : Value) (r : Rq) (p : HP) (hA : WiA p u iv r) (N : Nat) (ho : τ.Ok N) (hN : N ≤ 1073741824) : Fn Tryz.prog 112 #[vptr x, iv, .agg (rqC r).toArray] [refR x τ, p] fun v L => ∃ X : Pt, v = .tuple #[.agg (ptC X).toArray, vint (firstZ (eraseE τ u r))] ∧ (firstZ (eraseE τ u r) = 0 → X.pl = eraseX τ r) ∧ isCell X.aclV = true ∧ X.subsV = nilV ∧ L = [refR x τ, p, aclR X] := by
 refine Fn.intro Tryz.func112 rfl rfl fun F W => ?_
 have hof := ho.few
 have hrp := hA.rq.path
 refine .sr (.oq (.box rfl) ?_)
 rintro v L' ⟨b5, rfl, rfl⟩
 refine .oq (.allocA ze_43) ?_
 rintro v L' ⟨b8, rfl, rfl⟩
 refine .a rfl (.nil (.pc b5 (rqC r) ?_))
 refine .then_n (.sr (.u (.fieldAddr rfl fo_28_2) (.u (.ld rfl ag_9) (.cv Tryz.func39 [_] (rcheck_spec r.path (by omega)) ?_))))
 refine .an rfl (.seq (.sm rfl (.ui rfl rfl rfl (.nt (.condN rfl (fun h16 => ?_) (fun h16 => ?_))))))
 ·refine .sr (.q (.to (v' := .agg (ptC noopX).toArray) (.build (us := []) fl_43 ze_43 rfl rfl (by simp [isCell])) rfl) rfl (.m rfl (.sa rfl rfl sz_43 (by exact pt_cells (y := noopX) rfl rfl) ?_)))
  refine .a rfl (.nil (.pc b8 (ptC noopX) ?_))
  refine .add (slR_nil 85 2) ?_
  have hE : firstZ (eraseE τ u r) = checkZ r.path := by unfold eraseE; (try simp only [first0]); exact firstE (by first | decide | assumption) _
  refine .then_n (.rt ?_)
  exact .d2 rfl (.cellA rfl ag_43 (by repeat' constructor) (by simp [ptC]) rfl) (.tmp rfl) ⟨noopX, by rw [hE]; rfl, bad0 hE (by first | decide | assumption), rfl, rfl, rfl⟩
 have c1 : checkZ r.path = 0 := by omega
 refine .sk (.seq (.sr (.u (.fieldAddr rfl fo_28_2) (.u (.ld rfl ag_9) (.u (.streq rfl rfl) (.nt (.condD rfl (fun h21 => ?_) (fun h21 => ?_))))))))
 ·have d2 : r.path = [47] := by first | exact h21 | simpa using h21
  refine .sr (.q (.to (v' := .agg (ptC noopX).toArray) (.build (us := []) fl_43 ze_43 rfl rfl (by simp [isCell])) rfl) rfl (.sa rfl rfl sz_43 (by exact pt_cells (y := noopX) rfl rfl) ?_))
  refine .a rfl (.nil (.pc b8 (ptC noopX) ?_))
  refine .add (slR_nil 85 2) ?_
  have hE : firstZ (eraseE τ u r) = 1 := by unfold eraseE; (try simp only [c1, wh1 d2, first0]); exact firstE (by first | decide | assumption) _
  refine .then_n (.rt ?_)
  exact .d2 rfl (.cellA rfl ag_43 (by repeat' constructor) (by simp [ptC]) rfl) (.tmp rfl) ⟨noopX, by rw [hE]; rfl, bad0 hE (by first | decide | assumption), rfl, rfl, rfl⟩
 have hne : r.path ≠ [47] := h21
 have c2 : whenZ (r.path = [47]) 1 = 0 := wh0 hne 1
 refine .sk (.sm rfl (.u (.fieldAddr rfl fo_28_2) (.u (.ld rfl ag_9) (.cv Tryz.func95 [_, _] (rplace_spec x τ r.path (by omega)) ?_))))
 refine .an rfl (.seq (.sm rfl (.ui rfl rfl rfl (.nt (.condD rfl (fun h28 => ?_) (fun h28 => ?_))))))
 ·have d3 : ¬ thereT τ r.path := fun g => absurd (place_iff.2 g) (by have h0 : placeTo τ.nodes r.path < 0 := h28; omega)
  refine .sr (.q (.to (v' := .agg (ptC noopX).toArray) (.build (us := []) fl_43 ze_43 rfl rfl (by simp [isCell])) rfl) rfl (.sa rfl rfl sz_43 (by exact pt_cells (y := noopX) rfl rfl) ?_))
  refine .a rfl (.nil (.pc b8 (ptC noopX) ?_))
  refine .add (slR_nil 85 2) ?_
  have hE : firstZ (eraseE τ u r) = 60 := by unfold eraseE; (try simp only [c1, c2, wh1 d3, first0]); exact firstE (by first | decide | assumption) _
  refine .then_n (.rt ?_)
  exact .d2 rfl (.cellA rfl ag_43 (by repeat' constructor) (by simp [ptC]) rfl) (.tmp rfl) ⟨noopX, by rw [hE]; rfl, bad0 hE (by first | decide | assumption), rfl, rfl, rfl⟩
 have hthi : thereT τ r.path := place_iff.1 (by have h0 : ¬ placeTo τ.nodes r.path < 0 := h28; omega)
 have c3 : whenZ (¬ thereT τ r.path) 60 = 0 := wh0 (fun g => g hthi) 60
 obtain ⟨i, hki, hpki, hkpi⟩ := place_get (l := τ.nodes) (place_iff.2 hthi)
 have hpzi : placeZ τ (r.path) = i := hpki
 rw [hpzi]
 refine .sk (.sm rfl (.u (.fieldAddr rfl fo_28_2) (.u (.ld rfl ag_9) (.cv Tryz.func110 [_] (rparent_spec r.path (by omega)) ?_))))
 refine .cv Tryz.func95 [_, _] (rplace_spec x τ (parentZ r.path) (by omega)) ?_
 refine .an rfl (.seq (.sm rfl (.ui rfl rfl rfl (.m rfl (.dec (t := 37) rfl (fun h10_37 => ?_) (fun h10_37 => ?_))))))
 ·have d4 : ¬ mayT τ u.ids (parentZ r.path) 8 := fun g => absurd (place_iff.2 g.1) (by have h0 : placeTo τ.nodes (parentZ r.path) < 0 := h10_37; omega)
  refine .kDT (t := 36) rfl h10_37 (.gk (.gk (.gk (.gk (.gk (.gk (.gk (.gk (.gk (.gk (.u (.pickT rfl rfl) (.nt (.condT rfl (.sr (.q (.to (v' := .agg (ptC noopX).toArray) (.build (us := []) fl_43 ze_43 rfl rfl (by simp [isCell])) rfl) rfl (.sa rfl rfl sz_43 (by exact pt_cells (y := noopX) rfl rfl) ?_))))))))))))))))
  refine .a rfl (.nil (.pc b8 (ptC noopX) ?_))
  refine .add (slR_nil 85 2) ?_
  have hE : firstZ (eraseE τ u r) = 65 := by unfold eraseE; (try simp only [c1, c2, c3, wh1 d4, first0]); exact firstE (by first | decide | assumption) _
  refine .then_n (.rt ?_)
  exact .d2 rfl (.cellA rfl ag_43 (by repeat' constructor) (by simp [ptC]) rfl) (.tmp rfl) ⟨noopX, by rw [hE]; rfl, bad0 hE (by first | decide | assumption), rfl, rfl, rfl⟩
 have hthk : thereT τ (parentZ r.path) := place_iff.1 (by have h0 : ¬ placeTo τ.nodes (parentZ r.path) < 0 := h10_37; omega)
 obtain ⟨k, hkk, hpkk, hkpk⟩ := place_get (l := τ.nodes) (place_iff.2 hthk)
 have hpzk : placeZ τ (parentZ r.path) = k := hpkk
 rw [hpzk]
 rw [hpzk] at h10_37
 refine .rtOpen (x := x) (τ := τ) (by repeat' constructor) fun an cn as1 cs l hl => ?_
 have hll := nds_len hl
 have hkl : k < l.length := by omega
 refine .slShape (T := 112) (sz := 12) (v := .slice an l.length cn) (xs := l.flatMap rnC) (by repeat' constructor) (by omega) fun bn bn' e0 mbn _ => ?_
 simp only [Value.slice.injEq, true_and] at e0
 obtain ⟨rfl, rfl⟩ := e0
 have hlk : alook τ.nodes (parentZ r.path) = some l[k].2.2 := by have g := nds_get hl (i := k) hkl; have g2 : alook τ.nodes (τ.nodes[k]).1 = some (τ.nodes[k]).2 := al_get' (ho.sorted.nodup linB) (i := k) hkk; rw [hkpk, show τ.nodes[k] = (l[k].1, l[k].2.2) from g] at g2; exact g2
 have hst := st_of hlk
 have hac := acl_of hlk
 have hlac : l[k].2.2.acl.length ≤ 1048576 := by have hacl := ho.acls _ (List.getElem_mem hkk); have g := nds_get hl (i := k) hkl; rw [show τ.nodes[k] = (l[k].1, l[k].2.2) from g] at hacl; exact hacl
 refine .kDF (t := 36) rfl h10_37 (.grun (t := 37) rfl rfl rfl (.m rfl (.grun (t := 37) rfl rfl rfl (.u (.nilp rfl) (.grun (t := 37) rfl rfl rfl (.u (.fieldAddr rfl fo_110_0) (.grun (t := 37) rfl rfl rfl (.u (.ld rfl ag_107) (.grun (t := 37) rfl rfl rfl (.m rfl (.grun (t := 37) rfl rfl rfl (.q (.indexAddr rfl rfl el_107 (by omega)) rfl (.grun (t := 37) rfl rfl rfl (.q (.loadRdA (sz := 12) (j := k * 12) (k := 12) (p := rnR _ l) (vs := rnC l[k]) rfl ag_112 (by repeat' constructor) (fun h hp => slR_rd hp) (by omega) (by omega) (by omega) (flatMap_at (f := rnC) (sz := 12) (fun _ _ => rfl) (by omega))) rfl (.grun (t := 37) rfl rfl rfl (.m rfl (.grun (t := 37) rfl rfl rfl (.oq (.c Tryz.func96 [_, _, _] (r12may_spec l[k] 8 iv u.ids (bigR inA l) p (big_rd hkl) hA.ids hlac hA.few)) ?_))))))))))))))))))
 rintro v L' ⟨rfl, rfl⟩; rw [← hac]
 refine .grun (t := 37) rfl rfl rfl (.u (.not rfl) (.u (.pickF rfl rfl) (.nil (.rtFold (x := x) (τ := τ) (l := l) hl (by repeat' constructor) rfl rfl rfl rfl rfl (.then_n (.condB rfl (fun h48 => ?_) (fun h48 => ?_)))))))
 ·refine .seq ?_
  have d4 : ¬ mayT τ u.ids (parentZ r.path) 8 := fun g => by have := g.2; simp_all
  refine .region (.q (.to (v' := .agg (ptC noopX).toArray) (.build (us := []) fl_43 ze_43 rfl rfl (by simp [isCell])) rfl) rfl (.sa rfl rfl sz_43 (by exact pt_cells (y := noopX) rfl rfl) ?_))
  refine .a rfl (.nil (.pc b8 (ptC noopX) ?_))
  refine .add (slR_nil 85 2) ?_
  have hE : firstZ (eraseE τ u r) = 65 := by unfold eraseE; (try simp only [c1, c2, c3, wh1 d4, first0]); exact firstE (by first | decide | assumption) _
  refine .then_n (.rt ?_)
  exact .d2 rfl (.cellA rfl ag_43 (by repeat' constructor) (by simp [ptC]) rfl) (.tmp rfl) ⟨noopX, by rw [hE]; rfl, bad0 hE (by first | decide | assumption), rfl, rfl, rfl⟩
 refine .sk (.seq ?_)
 have c4 : whenZ (¬ mayT τ u.ids (parentZ r.path) 8) 65 = 0 := wh0 (fun g => g ⟨hthk, by simpa using h48⟩) 65
 refine .rtOpen (x := x) (τ := τ) (by repeat' constructor) fun an cn as1 cs l hl => ?_
 have hll := nds_len hl
 have hkl : i < l.length := by omega
 refine .slShape (T := 112) (sz := 12) (v := .slice an l.length cn) (xs := l.flatMap rnC) (by repeat' constructor) (by omega) fun bi bi' e0 mbi _ => ?_
 simp only [Value.slice.injEq, true_and] at e0
 obtain ⟨rfl, rfl⟩ := e0
 have hlk : alook τ.nodes (r.path) = some l[i].2.2 := by have g := nds_get hl (i := i) hkl; have g2 : alook τ.nodes (τ.nodes[i]).1 = some (τ.nodes[i]).2 := al_get' (ho.sorted.nodup linB) (i := i) hki; rw [hkpi, show τ.nodes[i] = (l[i].1, l[i].2.2) from g] at g2; exact g2
 have hst := st_of hlk
 have hac := acl_of hlk
 have hlac : l[i].2.2.acl.length ≤ 1048576 := by have hacl := ho.acls _ (List.getElem_mem hki); have g := nds_get hl (i := i) hkl; rw [show τ.nodes[i] = (l[i].1, l[i].2.2) from g] at hacl; exact hacl
 refine .draw [11] [[0, 1, 2, 3, 4, 5, 6, 7, 8, 9, 10, 11], [12]] mixed (by kernel_rfl) (.g0 (.kv rfl (.fieldAddr rfl fo_28_6) (.kv rfl (.ld rfl ag_3) (.mv rfl rfl (.nf rfl rfl rfl fo_110_0 (.kv rfl (.ld rfl ag_107) (.mv rfl rfl (.kv rfl (.indexAddr rfl rfl el_107 (by omega)) (.kv rfl (.fieldAddr rfl fo_112_3) (.kv rfl (.fieldAddr rfl fo_37_3) (.kv rfl (.to (v' := vint (statD τ r.path).ver) (.loadRd (sz := 12) (j := i * 12 + 6) (p := rnR _ l) rfl ag_3 (by repeat' constructor) (fun h hp => slR_rd hp) (by omega) ((rn_cell (l := l) (i := i) (k := 6) (by omega) (by decide)).trans rfl)) (by rw [hst])) (.hh rfl (.c Tryz.func115 [_, _] (r12fits_spec r.ver (statD τ r.path).ver)) ?_))))))))))))
 rintro v L' ⟨rfl, rfl⟩
 refine D.ph (.g0 (.kv rfl (.assign rfl) (.ph (.fin (.rtFold (x := x) (τ := τ) (l := l) hl (by repeat' constructor) rfl rfl rfl rfl rfl (.then_n (.seq (.sm rfl (.u (.not rfl) (.nt (.condB rfl (fun h63 => ?_) (fun h63 => ?_))))))))))))
 ·have d5 : r.ver ≠ -1 ∧ r.ver ≠ (statD τ r.path).ver := by have := h63; simp only [Bool.not_eq_true', decide_eq_false_iff_not, Decidable.not_not] at this; exact this
  refine .sr (.q (.to (v' := .agg (ptC noopX).toArray) (.build (us := []) fl_43 ze_43 rfl rfl (by simp [isCell])) rfl) rfl (.sa rfl rfl sz_43 (by exact pt_cells (y := noopX) rfl rfl) ?_))
  refine .a rfl (.nil (.pc b8 (ptC noopX) ?_))
  refine .add (slR_nil 85 2) ?_
  have hE : firstZ (eraseE τ u r) = 66 := by unfold eraseE; (try simp only [c1, c2, c3, c4, wh1 d5, first0]); exact firstE (by first | decide | assumption) _
  refine .then_n (.rt ?_)
  exact .d2 rfl (.cellA rfl ag_43 (by repeat' constructor) (by simp [ptC]) rfl) (.tmp rfl) ⟨noopX, by rw [hE]; rfl, bad0 hE (by first | decide | assumption), rfl, rfl, rfl⟩
 have c5 : whenZ (r.ver ≠ -1 ∧ r.ver ≠ (statD τ r.path).ver) 66 = 0 := wh0 (by have := h63; simp only [Bool.not_eq_false', decide_eq_true_eq] at this; exact this) 66
 refine .sk (.seq (.sm rfl (.u (.fieldAddr rfl fo_28_2) (.u (.ld rfl ag_9) (.oq (.c Tryz.func60 [_, _] (rkids_spec x τ r.path N ho hN)) ?_)))))
 rintro v L' ⟨⟨a15, c15, rfl⟩, rfl⟩
 refine .q (.slen rfl Tryz.underlying23 rfl) rfl (.ui rfl rfl rfl (.nil ?_))
 obtain ⟨ni, hni⟩ : ∃ n, alook τ.nodes r.path = some n := Option.isSome_iff_exists.1 hthi
 have hkd : (statD τ r.path).kids = ((kidsZ τ r.path).length : Int) := by rw [st_of hni]
 refine .then_n (.condD rfl (fun h70 => ?_) (fun h70 => ?_))
 ·have d6 : (statD τ r.path).kids > 0 := by omega
  refine .sr (.q (.to (v' := .agg (ptC noopX).toArray) (.build (us := []) fl_43 ze_43 rfl rfl (by simp [isCell])) rfl) rfl (.sa rfl rfl sz_43 (by exact pt_cells (y := noopX) rfl rfl) ?_))
  refine .a rfl (.nil (.pc b8 (ptC noopX) ?_))
  refine .add (slR_nil 85 2) ?_
  have hE : firstZ (eraseE τ u r) = 62 := by unfold eraseE; (try simp only [c1, c2, c3, c4, c5, wh1 d6, first0]); exact firstE (by first | decide | assumption) _
  refine .then_n (.rt ?_)
  exact .d2 rfl (.cellA rfl ag_43 (by repeat' constructor) (by simp [ptC]) rfl) (.tmp rfl) ⟨noopX, by rw [hE]; rfl, bad0 hE (by first | decide | assumption), rfl, rfl, rfl⟩
 have c6 : whenZ ((statD τ r.path).kids > 0) 62 = 0 := wh0 (by omega) 62
 have hE : firstZ (eraseE τ u r) = 0 := by unfold eraseE; simp only [c1, c2, c3, c4, c5, c6, first0]; rfl
 refine .sk (.seq (.rtOpen (x := x) (τ := τ) (by repeat' constructor) fun an cn as1 cs l hl => ?_))
 have hll := nds_len hl
 have hkl : k < l.length := by omega
 refine .slShape (T := 112) (sz := 12) (v := .slice an l.length cn) (xs := l.flatMap rnC) (by repeat' constructor) (by omega) fun bn bn' e0 mbn _ => ?_
 simp only [Value.slice.injEq, true_and] at e0
 obtain ⟨rfl, rfl⟩ := e0
 have hlk : alook τ.nodes (parentZ r.path) = some l[k].2.2 := by have g := nds_get hl (i := k) hkl; have g2 : alook τ.nodes (τ.nodes[k]).1 = some (τ.nodes[k]).2 := al_get' (ho.sorted.nodup linB) (i := k) hkk; rw [hkpk, show τ.nodes[k] = (l[k].1, l[k].2.2) from g] at g2; exact g2
 have hst := st_of hlk
 have hac := acl_of hlk
 have hlac : l[k].2.2.acl.length ≤ 1048576 := by have hacl := ho.acls _ (List.getElem_mem hkk); have g := nds_get hl (i := k) hkl; rw [show τ.nodes[k] = (l[k].1, l[k].2.2) from g] at hacl; exact hacl
 have hcv : (upS τ r).cver = l[k].2.2.st.cver := by unfold upS; rw [hst]
 refine .draw [13] [[0, 1, 2, 3, 4, 5, 6, 7, 8, 9, 10, 11, 12, 13], [14]] mixed (by kernel_rfl) (.g0 (.kv rfl (.fieldAddr rfl fo_28_2) (.kv rfl (.ld rfl ag_9) (.mv rfl rfl (.nf rfl rfl rfl fo_110_0 (.kv rfl (.ld rfl ag_107) (.mv rfl rfl (.kv rfl (.indexAddr rfl rfl el_107 (by omega)) (.kv rfl (.fieldAddr rfl fo_112_3) (.kv rfl (.fieldAddr rfl fo_37_4) (.kv rfl (.to (v' := vint (upS τ r).cver) (.loadRd (sz := 12) (j := k * 12 + 7) (p := rnR _ l) rfl ag_3 (by repeat' constructor) (fun h hp => slR_rd hp) (by omega) ((rn_cell (l := l) (i := k) (k := 7) (by omega) (by decide)).trans rfl)) (by rw [hcv])) (.kv rfl (.addW rfl rfl) (.kv rfl (.to (v' := .agg (ptC (⟨2, r.path, [], nilV, [], 0, wrapI ((upS τ r).cver + 1), 0, nilV⟩ : Pt)).toArray) (.build (us := [(0, _), (1, _), (5, _)]) fl_43 ze_43 rfl rfl (by simp [isCell])) rfl) (.sa rfl rfl rfl sz_43 (by exact pt_cells (y := (⟨2, r.path, [], nilV, [], 0, wrapI ((upS τ r).cver + 1), 0, nilV⟩ : Pt)) rfl rfl) ?_))))))))))))))
 refine D.ph (.g0 (.kv rfl (.assign rfl) (.ph (.fin (.pc b8 (ptC (⟨2, r.path, [], nilV, [], 0, wrapI ((upS τ r).cver + 1), 0, nilV⟩ : Pt)) ?_)))))
 refine .add (slR_nil 85 2) (.rtFold (x := x) (τ := τ) (l := l) hl (by repeat' constructor) rfl rfl rfl rfl rfl (.then_n (.ret ?_)))
 exact .d2 rfl (.cellA rfl ag_43 (by repeat' constructor) (by simp [ptC]) rfl) (.tmp rfl) ⟨(⟨2, r.path, [], nilV, [], 0, wrapI ((upS τ r).cver + 1), 0, nilV⟩ : Pt), by rw [hE]; rfl, fun _ => rfl, rfl, rfl, rfl⟩
theorem r12node_spec (x : Nat) (τ : Tr) (perm : Int) (iv : Value) (ids : List Bs) (q : Bs) (p : HP) (hq : ∀ h : Hp, p h → rdS 1 h iv ids.length (strs ids)) (hn : ids.length ≤ 1048576) (N : Nat) (ho : τ.Ok N) (hN : N ≤ 1073741824) : Fn Tryz.prog 114 #[vptr x, vint perm, iv, vstr q] [refR x τ, p] fun v L => ∃ i : Int, v = .tuple #[vint i, vint (firstZ [whenZ (¬ thereT τ q) 60, whenZ (¬ mayT τ ids q perm) 65])] ∧ (firstZ [whenZ (¬ thereT τ q) 60, whenZ (¬ mayT τ ids q perm) 65] = 0 → i = placeZ τ q) ∧ L = [refR x τ, p] := by
 refine Fn.intro Tryz.func114 rfl rfl fun F W => ?_
 have hof := ho.few
 refine .sr (.a rfl (.an rfl (.sm rfl (.m rfl (.cv Tryz.func95 [_, _] (rplace_spec x τ q (by omega)) ?_)))))
 refine .an rfl (.seq (.sm rfl (.ui rfl rfl rfl (.nt (.condD rfl (fun h16 => ?_) (fun h16 => ?_))))))
 ·have d1 : ¬ thereT τ q := fun g => absurd (place_iff.2 g) (by have h0 : placeTo τ.nodes q < 0 := h16; omega)
  have hE : firstZ [whenZ (¬ thereT τ q) 60, whenZ (¬ mayT τ ids q perm) 65] = 60 := by rw [wh1 d1]; exact firstE (by decide) _
  refine .sr (.a rfl (.an rfl (.rt ?_)))
  exact .dn rfl rfl ⟨_, by rw [hE], fun g => by rw [hE] at g; exact absurd g (by decide), rfl⟩
 have hthk : thereT τ q := place_iff.1 (by have h0 : ¬ placeTo τ.nodes q < 0 := h16; omega)
 have c1 : whenZ (¬ thereT τ q) 60 = 0 := wh0 (fun g => g hthk) 60
 obtain ⟨k, hkk, hpkk, hkpk⟩ := place_get (l := τ.nodes) (place_iff.2 hthk)
 have hpzk : placeZ τ (q) = k := hpkk
 rw [hpzk]
 refine .sk (.seq (.rtOpen (x := x) (τ := τ) (by repeat' constructor) fun an cn as1 cs l hl => ?_))
 have hll := nds_len hl
 have hkl : k < l.length := by omega
 refine .slShape (T := 112) (sz := 12) (v := .slice an l.length cn) (xs := l.flatMap rnC) (by repeat' constructor) (by omega) fun bn bn' e0 mbn _ => ?_
 simp only [Value.slice.injEq, true_and] at e0
 obtain ⟨rfl, rfl⟩ := e0
 have hlk : alook τ.nodes (q) = some l[k].2.2 := by have g := nds_get hl (i := k) hkl; have g2 : alook τ.nodes (τ.nodes[k]).1 = some (τ.nodes[k]).2 := al_get' (ho.sorted.nodup linB) (i := k) hkk; rw [hkpk, show τ.nodes[k] = (l[k].1, l[k].2.2) from g] at g2; exact g2
 have hst := st_of hlk
 have hac := acl_of hlk
 have hlac : l[k].2.2.acl.length ≤ 1048576 := by have hacl := ho.acls _ (List.getElem_mem hkk); have g := nds_get hl (i := k) hkl; rw [show τ.nodes[k] = (l[k].1, l[k].2.2) from g] at hacl; exact hacl
 refine .region (.m rfl (.nf rfl fo_110_0 (.u (.ld rfl ag_107) (.m rfl (.q (.indexAddr rfl rfl el_107 (by omega)) rfl (.q (.loadRdA (sz := 12) (j := k * 12) (k := 12) (p := rnR _ l) (vs := rnC l[k]) rfl ag_112 (by repeat' constructor) (fun h hp => slR_rd hp) (by omega) (by omega) (by omega) (flatMap_at (f := rnC) (sz := 12) (fun _ _ => rfl) (by omega))) rfl (.m rfl (.m rfl (.oq (.c Tryz.func96 [_, _, _] (r12may_spec l[k] perm iv ids (bigR inA l) p (big_rd hkl) hq hlac hn)) ?_)))))))))
 rintro v L' ⟨rfl, rfl⟩; rw [← hac]
 refine .a rfl (.nil (.rtFold (x := x) (τ := τ) (l := l) hl (by repeat' constructor) rfl rfl rfl rfl rfl (.then_n (.seq (.sm rfl (.u (.not rfl) (.nt (.condB rfl (fun h28 => ?_) (fun h28 => ?_)))))))))
 ·have hE : firstZ [whenZ (¬ thereT τ q) 60, whenZ (¬ mayT τ ids q perm) 65] = 65 := by rw [c1, wh1 (show ¬ mayT τ ids q perm from fun g => by have := g.2; simp_all), first0]; exact firstE (by decide) _
  refine .sr (.a rfl (.an rfl (.rt ?_)))
  exact .dn rfl rfl ⟨_, by rw [hE], fun g => by rw [hE] at g; exact absurd g (by decide), rfl⟩
 have hE : firstZ [whenZ (¬ thereT τ q) 60, whenZ (¬ mayT τ ids q perm) 65] = 0 := by rw [c1, wh0 (show ¬ ¬ mayT τ ids q perm from fun g => g ⟨hthk, by simpa using h28⟩), first0]; rfl
 refine .sk (.sm rfl (.a rfl (.an rfl (.ret ?_))))
 exact .dn rfl rfl ⟨_, by rw [hE], fun _ => by first | rfl | exact hpkk.symm, rfl⟩
theorem node_err {τ : Tr} {u : Who} {r : Rq} (c1 : checkZ r.path = 0) (c2 : wrongE r = 0) : nodeE τ u r = 0 :: 0 :: ([whenZ (¬ thereT τ r.path) 60, whenZ (¬ mayT τ u.ids r.path (permK r.kind)) 65] ++ [whenZ (r.ver ≠ -1 ∧ r.ver ≠ stampK r.kind (statD τ r.path)) 66]) := by
 unfold nodeE
 rw [c1, c2]; rfl
theorem node_first {τ : Tr} {u : Who} {r : Rq} (c1 : checkZ r.path = 0) (c2 : wrongE r = 0) : firstZ (nodeE τ u r) = if firstZ [whenZ (¬ thereT τ r.path) 60, whenZ (¬ mayT τ u.ids r.path (permK r.kind)) 65] ≠ 0 then firstZ [whenZ (¬ thereT τ r.path) 60, whenZ (¬ mayT τ u.ids r.path (permK r.kind)) 65] else whenZ (r.ver ≠ -1 ∧ r.ver ≠ stampK r.kind (statD τ r.path)) 66 := by
 rw [node_err c1 c2]
 rw [first0, first0, first_app]
 split
 ·rfl
 ·by_cases h : (r.ver ≠ -1 ∧ r.ver ≠ stampK r.kind (statD τ r.path))
  ·rw [wh1 h]; rfl
  ·rw [wh0 h]; rfl
theorem part_three12 {τ : Tr} {u : Who} {r : Rq} (h : r.kind = 3 ∨ r.kind = 4 ∨ r.kind = 5) : partP τ u r = (nodeX τ r, firstZ (nodeE τ u r)) := by
 unfold partP
 rw [if_neg (by omega), if_neg (by omega), if_pos h]
theorem part_two12 {τ : Tr} {u : Who} {r : Rq} (h : r.kind = 2) : partP τ u r = (eraseX τ r, firstZ (eraseE τ u r)) := by
 unfold partP
 rw [if_neg (by omega), if_pos h]
theorem part_one12 {τ : Tr} {u : Who} {r : Rq} (h : r.kind = 1) : partP τ u r = (createX τ u r, firstZ (createE τ u r)) := if_pos h
theorem part_none12 {τ : Tr} {u : Who} {r : Rq} (h : r.kind ≠ 1 ∧ r.kind ≠ 2 ∧ r.kind ≠ 3 ∧ r.kind ≠ 4 ∧ r.kind ≠ 5) : partP τ u r = (noopX, 110) := by
 unfold partP
 rw [if_neg h.1, if_neg h.2.1, if_neg (by omega)]
theorem r12part_spec (x : Nat) (τ : Tr) (u : Who) (iv : Value) (r : Rq) (p : HP) (hA : WiA p u iv r) (N : Nat) (ho : τ.Ok N) (hN : N ≤ 1073741824) (hw : TrW τ) : Fn Tryz.prog 52 #[vptr x, vint u.ses, iv, .agg (rqC r).toArray] [refR x τ, p] fun v L => ∃ X : Pt, v = .tuple #[.agg (ptC X).toArray, vint ((partP τ u r).2)] ∧ ((partP τ u r).2 = 0 → X.pl = (partP τ u r).1) ∧ isCell X.aclV = true ∧ X.subsV = nilV ∧ L = [refR x τ, p, aclR X] := by
 refine Fn.intro Tryz.func52 rfl rfl fun F W => ?_
 have hof := ho.few
 have hrp := hA.rq.path
 refine .sr (.oq (.box rfl) ?_)
 rintro v L' ⟨b7, rfl, rfl⟩
 refine .oq (.allocA ze_43) ?_
 rintro v L' ⟨b8, rfl, rfl⟩
 refine .a rfl (.nil (.pc b7 (rqC r) ?_))
 refine .then_n (.sr (.an rfl (.seq (.joinK (ι := Int) (fun q E => (10, vint q) :: E) (fun q => []) (fun q => (r.kind = 3 ∨ r.kind = 4 ∨ r.kind = 5) ∧ q = permK r.kind) (pre := []) (ts := [0, 2, 7, 8]) (.cons rfl (.cons rfl (.cons rfl (.cons rfl (.nil))))) (by repeat' constructor) ?_ ?_))))
 ·refine .sr (.u (.fieldAddr rfl fo_28_0) (.u (.ld rfl ag_3) (.nt (.block (.sr (.ui rfl rfl rfl (.an rfl (.condD rfl (fun h20 => ?_) (fun h20 => ?_)))))))))
  ·refine .sm rfl (.m rfl (.m rfl (.q (.la (rqC r) rfl ag_28) rfl (.oq (.c Tryz.func111 [_, _, _, _] (r12create_spec x τ u iv r p hA N ho hN hw)) ?_))))
   rintro v L' ⟨X, rfl, hX, hxa, hxs, rfl⟩
   refine .u (.extract rfl rfl) (.u (.extract rfl rfl) (.sa rfl rfl sz_43 (by exact pt_cells hxa (by rw [hxs]; rfl)) ?_))
   refine .a rfl (.nil (.pc b8 (ptC X) ?_))
   have hP := part_one12 (τ := τ) (u := u) h20
   refine .then_n (.ret (.blk_r (.then_r ?_)))
   exact .d2 rfl (.cellA rfl ag_43 (by repeat' constructor) (by simp [ptC]) rfl) (.tmp rfl) ⟨X, by rw [hP]; rfl, fun g => by rw [hP] at g ⊢; exact hX g, hxa, hxs, rfl⟩
  refine .sr (.ui rfl rfl rfl (.an rfl (.condD rfl (fun h29 => ?_) (fun h29 => ?_))))
  ·refine .sm rfl (.m rfl (.q (.la (rqC r) rfl ag_28) rfl (.oq (.c Tryz.func112 [_, _, _] (r12erase_spec x τ u iv r p hA N ho hN)) ?_)))
   rintro v L' ⟨X, rfl, hX, hxa, hxs, rfl⟩
   refine .u (.extract rfl rfl) (.u (.extract rfl rfl) (.sa rfl rfl sz_43 (by exact pt_cells hxa (by rw [hxs]; rfl)) ?_))
   refine .a rfl (.nil (.pc b8 (ptC X) ?_))
   have hP := part_two12 (τ := τ) (u := u) h29
   refine .then_n (.ret (.blk_r (.then_r ?_)))
   exact .d2 rfl (.cellA rfl ag_43 (by repeat' constructor) (by simp [ptC]) rfl) (.tmp rfl) ⟨X, by rw [hP]; rfl, fun g => by rw [hP] at g ⊢; exact hX g, hxa, hxs, rfl⟩
  refine .sr (.ui rfl rfl rfl (.an rfl (.condD rfl (fun h37 => ?_) (fun h37 => ?_))))
  ·refine .region (.a rfl (.nil (.blk_n (.then_n ?_))))
   exact .mk (2) (⟨.inl h37, by unfold permK; rw [if_pos h37]⟩) ⟨rfl, rfl, rfl, rfl, rfl, trivial⟩
  refine .sr (.ui rfl rfl rfl (.an rfl (.condD rfl (fun h39 => ?_) (fun h39 => ?_))))
  ·refine .region (.a rfl (.nil (.blk_n (.then_n ?_))))
   exact .mk (16) (⟨.inr (.inl h39), by unfold permK; rw [if_neg (by omega), if_pos h39]⟩) ⟨rfl, rfl, rfl, rfl, rfl, trivial⟩
  refine .sr (.ui rfl rfl rfl (.an rfl (.condD rfl (fun h41 => ?_) (fun h41 => ?_))))
  ·refine .skip (.blk_n (.then_n ?_))
   exact .mk (1) (⟨.inr (.inr h41), by unfold permK; rw [if_neg (by omega), if_neg (by omega)]⟩) ⟨rfl, rfl, rfl, rfl, rfl, trivial⟩
  refine .sr (.q (.to (v' := .agg (ptC noopX).toArray) (.build (us := []) fl_43 ze_43 rfl rfl (by simp [isCell])) rfl) rfl (.sa rfl rfl sz_43 (by exact pt_cells (y := noopX) rfl rfl) ?_))
  refine .a rfl (.nil (.pc b8 (ptC noopX) ?_))
  refine .add (slR_nil 85 2) ?_
  have hE : (partP τ u r).2 = 110 := by rw [part_none12 (by omega)]
  refine .then_n (.ret (.blk_r (.then_r ?_)))
  exact .d2 rfl (.cellA rfl ag_43 (by repeat' constructor) (by simp [ptC]) rfl) (.tmp rfl) ⟨noopX, by rw [hE]; rfl, bad0 hE (by first | decide | assumption), rfl, rfl, rfl⟩
 rintro pm ⟨hk3, hpm⟩
 refine .sr (.u (.fieldAddr rfl fo_28_2) (.u (.ld rfl ag_9) (.cv Tryz.func39 [_] (rcheck_spec r.path (by omega)) ?_)))
 refine .an rfl (.seq (.sm rfl (.ui rfl rfl rfl (.nt (.condN rfl (fun h47 => ?_) (fun h47 => ?_))))))
 ·refine .sr (.q (.to (v' := .agg (ptC noopX).toArray) (.build (us := []) fl_43 ze_43 rfl rfl (by simp [isCell])) rfl) rfl (.m rfl (.sa rfl rfl sz_43 (by exact pt_cells (y := noopX) rfl rfl) ?_)))
  refine .a rfl (.nil (.pc b8 (ptC noopX) ?_))
  refine .add (slR_nil 85 2) ?_
  have hE : (partP τ u r).2 = checkZ r.path := by rw [part_three12 hk3]; show firstZ (nodeE τ u r) = _; unfold nodeE; exact firstE h47 _
  refine .then_n (.rt ?_)
  exact .d2 rfl (.cellA rfl ag_43 (by repeat' constructor) (by simp [ptC]) rfl) (.tmp rfl) ⟨noopX, by rw [hE]; rfl, bad0 hE (by first | decide | assumption), rfl, rfl, rfl⟩
 have c1 : checkZ r.path = 0 := by omega
 refine .sk (.seq (.joinK (ι := Unit) (fun q E => E) (fun q => []) (fun q => r.kind = 3 → ¬ r.data.length > 100) (pre := []) (ts := [0, 2, 7, 8, 10, 11]) (.cons rfl (.cons rfl (.cons rfl (.cons rfl (.cons rfl (.cons rfl (.nil))))))) (by repeat' constructor) ?_ ?_))
 ·refine .sr (.u (.fieldAddr rfl fo_28_0) (.u (.ld rfl ag_3) (.ui rfl rfl rfl (.m rfl (.dec (t := 53) rfl (fun h16_53 => ?_) (fun h16_53 => ?_))))))
  ·refine .kDT (t := 52) rfl h16_53 (.grun (t := 53) rfl rfl rfl (.u (.fieldAddr rfl fo_28_3) (.grun (t := 53) rfl rfl rfl (.u (.ld rfl ag_9) (.grun (t := 53) rfl rfl rfl (.q (.strlen rfl Tryz.underlying9 rfl) rfl (.grun (t := 53) rfl rfl rfl (.ui rfl rfl rfl (.u (.pickT rfl rfl) (.nt (.condD rfl (fun h58 => ?_) (fun h58 => ?_))))))))))))
   ·refine .seq ?_
    have d2 : wrongE r = 1 := by unfold wrongE; rw [if_pos (by omega)]; exact wh1 (by omega) 1
    refine .region (.q (.to (v' := .agg (ptC noopX).toArray) (.build (us := []) fl_43 ze_43 rfl rfl (by simp [isCell])) rfl) rfl (.sa rfl rfl sz_43 (by exact pt_cells (y := noopX) rfl rfl) ?_))
    refine .a rfl (.nil (.pc b8 (ptC noopX) ?_))
    refine .add (slR_nil 85 2) ?_
    have hE : (partP τ u r).2 = 1 := by rw [part_three12 hk3]; show firstZ (nodeE τ u r) = _; unfold nodeE; rw [c1, d2, first0]; exact firstE (by decide) _
    refine .then_n (.rt ?_)
    exact .d2 rfl (.cellA rfl ag_43 (by repeat' constructor) (by simp [ptC]) rfl) (.tmp rfl) ⟨noopX, by rw [hE]; rfl, bad0 hE (by first | decide | assumption), rfl, rfl, rfl⟩
   refine .sk ?_
   exact .mk (()) (by omega) ⟨rfl, rfl, rfl, rfl, rfl, rfl, trivial⟩
  refine .kDF (t := 52) rfl h16_53 (.gk (.gk (.gk (.gk (.u (.pickF rfl rfl) (.nt (.condF rfl (.sk ?_))))))))
  exact .mk (()) (by omega) ⟨rfl, rfl, rfl, rfl, rfl, rfl, trivial⟩
 rintro _u hw3
 refine .sr (.u (.fieldAddr rfl fo_28_4) (.u (.ld rfl ag_24) (.cv Tryz.func113 [_] (r6right_spec r.aclV r.acl p hA.rq.acl hA.rq.many (fun a ha => (hA.rq.ids a ha).2)) ?_)))
 refine .an rfl (.seq (.joinK (ι := Unit) (fun q E => E) (fun q => []) (fun q => r.kind = 4 → rightZ r.acl = true) (pre := []) (ts := [0, 2, 7, 8, 10, 11]) (.cons rfl (.cons rfl (.cons rfl (.cons rfl (.cons rfl (.cons rfl (.nil))))))) (by repeat' constructor) ?_ ?_))
 ·refine .sr (.u (.fieldAddr rfl fo_28_0) (.u (.ld rfl ag_3) (.ui rfl rfl rfl (.m rfl (.dec (t := 66) rfl (fun h19_66 => ?_) (fun h19_66 => ?_))))))
  ·refine .kDT (t := 65) rfl h19_66 (.grun (t := 66) rfl rfl rfl (.m rfl (.grun (t := 66) rfl rfl rfl (.u (.not rfl) (.u (.pickT rfl rfl) (.nt (.condB rfl (fun h69 => ?_) (fun h69 => ?_))))))))
   ·refine .seq ?_
    have d3 : wrongE r = 50 := by unfold wrongE; rw [if_neg (by omega), if_pos (by omega)]; exact wh1 (by simp_all) 50
    refine .region (.q (.to (v' := .agg (ptC noopX).toArray) (.build (us := []) fl_43 ze_43 rfl rfl (by simp [isCell])) rfl) rfl (.sa rfl rfl sz_43 (by exact pt_cells (y := noopX) rfl rfl) ?_))
    refine .a rfl (.nil (.pc b8 (ptC noopX) ?_))
    refine .add (slR_nil 85 2) ?_
    have hE : (partP τ u r).2 = 50 := by rw [part_three12 hk3]; show firstZ (nodeE τ u r) = _; unfold nodeE; rw [c1, d3, first0]; exact firstE (by decide) _
    refine .then_n (.rt ?_)
    exact .d2 rfl (.cellA rfl ag_43 (by repeat' constructor) (by simp [ptC]) rfl) (.tmp rfl) ⟨noopX, by rw [hE]; rfl, bad0 hE (by first | decide | assumption), rfl, rfl, rfl⟩
   refine .sk ?_
   exact .mk (()) (by simp_all) ⟨rfl, rfl, rfl, rfl, rfl, rfl, trivial⟩
  refine .kDF (t := 65) rfl h19_66 (.gk (.gk (.u (.pickF rfl rfl) (.nt (.condF rfl (.sk ?_))))))
  exact .mk (()) (by simp_all) ⟨rfl, rfl, rfl, rfl, rfl, rfl, trivial⟩
 rintro _u hw4
 refine .seq ?_
 have c2 : wrongE r = 0 := by
    unfold wrongE
    by_cases e3 : r.kind = 3
    · rw [if_pos e3]; exact wh0 (hw3 e3) 1
    rw [if_neg e3]
    by_cases e4 : r.kind = 4
    · rw [if_pos e4]; exact wh0 (fun g => g (hw4 e4)) 50
    exact if_neg e4
 have hnf := node_first (τ := τ) (u := u) c1 c2
 refine .region (.m rfl (.m rfl (.m rfl (.u (.fieldAddr rfl fo_28_2) (.u (.ld rfl ag_9) (.oq (.c Tryz.func114 [_, _, _, _] (r12node_spec x τ pm iv u.ids r.path p hA.ids hA.few N ho hN)) ?_))))))
 rintro v L' ⟨i, rfl, hi, rfl⟩; rw [hpm] at *
 refine .m rfl (.u (.extract rfl rfl) (.u (.extract rfl rfl) (.a rfl (.an rfl (.seq (.sm rfl (.ui rfl rfl rfl (.nt (.condN rfl (fun h81 => ?_) (fun h81 => ?_))))))))))
 ·refine .sr (.q (.to (v' := .agg (ptC noopX).toArray) (.build (us := []) fl_43 ze_43 rfl rfl (by simp [isCell])) rfl) rfl (.m rfl (.sa rfl rfl sz_43 (by exact pt_cells (y := noopX) rfl rfl) ?_)))
  refine .a rfl (.nil (.pc b8 (ptC noopX) ?_))
  refine .add (slR_nil 85 2) ?_
  have hE : (partP τ u r).2 = firstZ [whenZ (¬ thereT τ r.path) 60, whenZ (¬ mayT τ u.ids r.path (permK r.kind)) 65] := by rw [part_three12 hk3]; show firstZ (nodeE τ u r) = _; rw [hnf, if_pos h81]
  refine .then_n (.rt ?_)
  exact .d2 rfl (.cellA rfl ag_43 (by repeat' constructor) (by simp [ptC]) rfl) (.tmp rfl) ⟨noopX, by rw [hE]; rfl, bad0 hE (by first | decide | assumption), rfl, rfl, rfl⟩
 have hn0 : firstZ [whenZ (¬ thereT τ r.path) 60, whenZ (¬ mayT τ u.ids r.path (permK r.kind)) 65] = 0 := by first | exact h81 | omega
 rw [if_neg (fun g => g hn0)] at hnf
 have hip := hi hn0
 have hthk : thereT τ r.path := Decidable.not_not.1 (fun g => by have h := first_zero _ hn0 _ List.mem_cons_self; rw [wh1 g] at h; cases h)
 obtain ⟨k, hkk, hpkk, hkpk⟩ := place_get (l := τ.nodes) (place_iff.2 hthk)
 have hik : i = k := hip.trans hpkk
 subst hik
 refine .sk (.seq (.rtOpen (x := x) (τ := τ) (by repeat' constructor) fun an cn as1 cs l hl => ?_))
 have hll := nds_len hl
 have hkl : k < l.length := by omega
 refine .slShape (T := 112) (sz := 12) (v := .slice an l.length cn) (xs := l.flatMap rnC) (by repeat' constructor) (by omega) fun bn bn' e0 mbn _ => ?_
 simp only [Value.slice.injEq, true_and] at e0
 obtain ⟨rfl, rfl⟩ := e0
 have hlk : alook τ.nodes (r.path) = some l[k].2.2 := by have g := nds_get hl (i := k) hkl; have g2 : alook τ.nodes (τ.nodes[k]).1 = some (τ.nodes[k]).2 := al_get' (ho.sorted.nodup linB) (i := k) hkk; rw [hkpk, show τ.nodes[k] = (l[k].1, l[k].2.2) from g] at g2; exact g2
 have hst := st_of hlk
 have hac := acl_of hlk
 have hlac : l[k].2.2.acl.length ≤ 1048576 := by have hacl := ho.acls _ (List.getElem_mem hkk); have g := nds_get hl (i := k) hkl; rw [show τ.nodes[k] = (l[k].1, l[k].2.2) from g] at hacl; exact hacl
 have hkm : k < l.length := hkl
 refine .region (.m rfl (.nf rfl fo_110_0 (.u (.ld rfl ag_107) (.m rfl (.q (.indexAddr rfl rfl el_107 (by omega)) rfl (.u (.fieldAddr rfl fo_112_3) (.q (.loadRdA (sz := 12) (j := k * 12 + 3) (k := 9) (p := rnR _ l) (vs := stC l[k].2.2.st) rfl ag_37 (by repeat' constructor) (fun h hp => slR_rd hp) (by simp) (by omega) (by omega) (rn_stat hkm)) rfl (.oq (.allocA ze_37) ?_))))))))
 rintro v L' ⟨b14, rfl, rfl⟩
 refine .sa rfl rfl sz_37 (by intro v hv; simp only [stC, List.mem_cons, List.not_mem_nil, or_false] at hv; rcases hv with rfl | rfl | rfl | rfl | rfl | rfl | rfl | rfl | rfl <;> rfl) ?_
 refine .nil (.pc b14 (stC l[k].2.2.st) ?_)
 refine .rtFold (x := x) (τ := τ) (l := l) hl (by repeat' constructor) rfl rfl rfl rfl rfl (.then_n (.sr (.u (.fieldAddr rfl fo_37_3) (.u (.ld rfl ag_3) (.an rfl (.seq (.joinK (ι := Int) (fun q E => (15, vint q) :: E) (fun q => []) (fun q => q = stampK r.kind (statD τ r.path)) (pre := []) (ts := [7, 8]) (.cons rfl (.cons rfl (.nil))) (by repeat' constructor) ?_ ?_)))))))
 ·refine .sr (.u (.fieldAddr rfl fo_28_0) (.u (.ld rfl ag_3) (.ui rfl rfl rfl (.nt (.condD rfl (fun h96 => ?_) (fun h96 => ?_))))))
  ·refine .region (.u (.fieldAddr rfl fo_37_5) (.u (.ld rfl ag_3) (.an rfl ?_)))
   exact .mk (l[k].2.2.st.av) (by rw [hst]; exact (if_pos h96).symm) ⟨rfl, rfl, rfl, trivial⟩
  refine .sk ?_
  exact .mk (l[k].2.2.st.ver) (by rw [hst]; exact (if_neg h96).symm) ⟨rfl, rfl, rfl, trivial⟩
 rintro num hnum
 refine .sr (.u (.fieldAddr rfl fo_28_6) (.u (.ld rfl ag_3) (.m rfl (.cv Tryz.func115 [_, _] (r12fits_spec r.ver num) ?_))))
 refine .an rfl (.seq (.sm rfl (.u (.not rfl) (.nt (.condB rfl (fun h104 => ?_) (fun h104 => ?_))))))
 ·have d5 : r.ver ≠ -1 ∧ r.ver ≠ stampK r.kind (statD τ r.path) := by have := h104; simp only [Bool.not_eq_true', decide_eq_false_iff_not, Decidable.not_not] at this; rw [← hnum]; exact this
  refine .sr (.q (.to (v' := .agg (ptC noopX).toArray) (.build (us := []) fl_43 ze_43 rfl rfl (by simp [isCell])) rfl) rfl (.sa rfl rfl sz_43 (by exact pt_cells (y := noopX) rfl rfl) ?_))
  refine .a rfl (.nil (.pc b8 (ptC noopX) ?_))
  refine .add (slR_nil 85 2) ?_
  have hE : (partP τ u r).2 = 66 := by rw [part_three12 hk3]; show firstZ (nodeE τ u r) = _; rw [hnf, wh1 d5]
  refine .then_n (.rt ?_)
  exact .d2 rfl (.cellA rfl ag_43 (by repeat' constructor) (by simp [ptC]) rfl) (.tmp rfl) ⟨noopX, by rw [hE]; rfl, bad0 hE (by first | decide | assumption), rfl, rfl, rfl⟩
 have hE : (partP τ u r).2 = 0 := by
    rw [part_three12 hk3]
    show firstZ (nodeE τ u r) = 0
    rw [hnf]
    exact wh0 (by have := h104; simp only [Bool.not_eq_false', decide_eq_true_eq] at this; rw [← hnum]; exact this) 66
 refine .sk (.seq (.sr (.u (.fieldAddr rfl fo_28_0) (.u (.ld rfl ag_3) (.nt (.block (.sr (.ui rfl rfl rfl (.an rfl (.condD rfl (fun h108 => ?_) (fun h108 => ?_)))))))))))
 ·refine .sr (.u (.fieldAddr rfl fo_28_2) (.u (.ld rfl ag_9) (.u (.fieldAddr rfl fo_28_3) (.u (.ld rfl ag_9) (.m rfl (.u (.addW rfl rfl) (.q (.to (v' := .agg (ptC (⟨3, r.path, r.data, nilV, [], 0, wrapI (num + 1), 0, nilV⟩ : Pt)).toArray) (.build (us := [(0, _), (1, _), (2, _), (5, _)]) fl_43 ze_43 rfl rfl (by simp [isCell])) rfl) rfl (.sa rfl rfl sz_43 (by exact pt_cells (y := (⟨3, r.path, r.data, nilV, [], 0, wrapI (num + 1), 0, nilV⟩ : Pt)) rfl rfl) ?_))))))))
  refine .a rfl (.nil (.pc b8 (ptC (⟨3, r.path, r.data, nilV, [], 0, wrapI (num + 1), 0, nilV⟩ : Pt)) ?_))
  refine .add (slR_nil 85 2) (.then_n (.ret (.blk_r (.then_r ?_))))
  exact .d2 rfl (.cellA rfl ag_43 (by repeat' constructor) (by simp [ptC]) rfl) (.tmp rfl) ⟨(⟨3, r.path, r.data, nilV, [], 0, wrapI (num + 1), 0, nilV⟩ : Pt), by rw [hE]; rfl, fun _ => by rw [part_three12 hk3]; show _ = nodeX τ r; unfold nodeX; rw [if_pos h108, hnum, h108]; rfl, rfl, rfl, rfl⟩
 refine .sr (.ui rfl rfl rfl (.an rfl (.condD rfl (fun h117 => ?_) (fun h117 => ?_))))
 ·refine .seq (.draw [4, 8] [[0, 1, 2, 3, 5, 6, 4], [7, 8], [9]] mixed (by kernel_rfl) (.go [ptc b7 _ _] (by repeat' constructor) (.k rfl (.fieldAddr rfl fo_28_2) (.k rfl (.ld rfl ag_9) (.kv rfl (.fieldAddr rfl fo_28_4) (.kv rfl (.ld rfl ag_24) (.k rfl (.move rfl) (.k rfl (.addW rfl rfl) (.hh rfl (.c Tryz.func97 [_] (r12rows_spec r.aclV r.acl p hA.rq.acl hA.rq.many)) ?_)))))))))
  rintro v L' ⟨⟨a35, c35, rfl⟩, rfl⟩
  refine D.ph (.g0 (.kv rfl (.to (v' := .agg (ptC (⟨4, r.path, [], .slice a35 r.acl.length c35, r.acl, 0, wrapI (num + 1), 0, nilV⟩ : Pt)).toArray) (.build (us := [(0, _), (1, _), (3, _), (5, _)]) fl_43 ze_43 rfl rfl (by simp [isCell])) rfl) (.sa rfl rfl rfl sz_43 (by exact pt_cells (y := (⟨4, r.path, [], .slice a35 r.acl.length c35, r.acl, 0, wrapI (num + 1), 0, nilV⟩ : Pt)) rfl rfl) ?_)))
  refine D.ph (.g0 (.kv rfl (.assign rfl) (.ph (.fin (.pc b8 (ptC (⟨4, r.path, [], .slice a35 r.acl.length c35, r.acl, 0, wrapI (num + 1), 0, nilV⟩ : Pt)) ?_)))))
  refine .then_n (.ret (.blk_r (.then_r ?_)))
  exact .d2 rfl (.cellA rfl ag_43 (by repeat' constructor) (by simp [ptC]) rfl) (.tmp rfl) ⟨(⟨4, r.path, [], .slice a35 r.acl.length c35, r.acl, 0, wrapI (num + 1), 0, nilV⟩ : Pt), by rw [hE]; rfl, fun _ => by rw [part_three12 hk3]; show _ = nodeX τ r; unfold nodeX; rw [if_neg h108, if_pos h117, hnum, h117]; rfl, rfl, rfl, rfl⟩
 refine .skip (.blk_n (.then_n (.sr (.q (.to (v' := .agg (ptC noopX).toArray) (.build (us := [(0, _)]) fl_43 ze_43 rfl rfl (by simp [isCell])) rfl) rfl (.sa rfl rfl sz_43 (by exact pt_cells (y := noopX) rfl rfl) ?_)))))
 refine .a rfl (.nil (.pc b8 (ptC noopX) ?_))
 refine .add (slR_nil 85 2) (.then_n (.ret ?_))
 exact .d2 rfl (.cellA rfl ag_43 (by repeat' constructor) (by simp [ptC]) rfl) (.tmp rfl) ⟨noopX, by rw [hE]; rfl, fun _ => by rw [part_three12 hk3]; show _ = nodeX τ r; unfold nodeX; rw [if_neg h108, if_neg h117]; rfl, rfl, rfl, rfl⟩
section
variable {P : Program} {ops : Array Oper} {n : Nat} {RO : List HP} {H : List Nat} {Fin : EF → List HP → Prop}
variable {j : Nat} {S : List Nat} {E : Env} {RW : List HP} {op : Op} {ty : TypeId} {pos : String} {aft : Array Edge}
end
section
variable {P : Program} {W : World} {n : Nat} {ds : List Deferred} {E : Env} {L R : List HP} {Q : Exit → Act → World → Prop}
theorem OpSpec.append1S {t e : TypeId} {ty : TypeId} {x y : Operand} {v : Value} {b n m c sz by' : Nat} {xs l : List Value} {T : TypeId} {z : Value} {zl : List Value} {ts : Array TypeId} (hts : ts = #[t, t]) (hx : ev E x = some v) (hy : ev E y = some (.slice (some ⟨b, 0, none⟩) m c)) (ht : elemOf' P t = some (e, sz, by'))
  (hz : zeroOf P e = some z) (hzc : z.cells = zl.toArray) (hzl : zl.length = sz) (hcell : ∀ y ∈ l, isCell y = true) (hl : l.length = m * sz) (hmc : m ≤ c) (hb : (n + m) * by' ≤ 140737488355328) (hb0 : 0 < by') (hm : 0 < m) :
  OpSpec P ⟨none, .call { callee := .builtin .append, args := #[x, y], argTypes := ts }, ty, "", #[], none⟩ E [slR e sz v n xs, ptc b l T] fun v' L' => ∃ b' c', v' = .slice (some ⟨b', 0, none⟩) (n + m) c' ∧ L' = [slR e sz v' (n + m) (xs ++ l)] := by
 intro ρ w F ha hs
 refine (OpSpec.append1 (ty := ty) hts hx hy ht hz hzc hzl hcell hl hmc hb hb0 ρ w F ha hs).mono ?_
 rintro v' w' ⟨L', ⟨⟨a, k, rfl⟩, rfl⟩, hs', hk⟩
 obtain ⟨h1, a1, hp⟩ := sep_head hs'
 rcases hp with ⟨h2, h3, -⟩ | ⟨b', cap, rest, fr, h2, -⟩
 ·omega
 ·simp only [Value.slice.injEq] at h2
  obtain ⟨rfl, -, rfl⟩ := h2
  exact ⟨_, ⟨b', k, rfl, rfl⟩, hs', hk⟩
/-! ### Code in a round's frame -/
abbrev FR (l : Nat) : Fence := Fence.wide.inRound l
def noDefer (o : Oper) : Bool := match o.op with
 | .defer _ => false
 | _ => true
theorem noDefer_op {o : Oper} (h : noDefer o = true) : ∀ c, o.op ≠ .defer c := by
 intro c e
 unfold noDefer at h
 rw [e] at h
 cases h
theorem rowsIn_of {F : Fence} (hF : ∀ m m', StepsIn (Machine.fenced P F) P m m' ↔ Steps P m m') {m : Nat} {row : String} {args : Array Value} {w : World} {K : Value → World → Prop} (h : Rows P row args w K) : RowsIn F m P row args w K :=
 fun c cs _ => let ⟨v, w', r, s⟩ := h c cs; ⟨v, w', r, (hF _ _).2 s⟩
theorem upon_round {l m : Nat} {o : Oper} {a : Act} {next next' : Act → World → Prop} (hn : ∀ a w, next a w → next' a w) {r : Result Next} (h : o.upon P a next Q r) : o.uponIn (FR l) m P a next' Q r := by
  cases r with
  | ok nx w' =>
    cases nx <;> first | exact hn _ _ h | exact h.elim | skip
    · refine ⟨(fun hd => by cases hd), ?_⟩
      have h1 : CallsIn Fence.wide (m - 1) P _ _ w' _ := callsIn_wide.2 h
      have h2 : CallsIn (FR l) (m - 1) P _ _ w' _ := CallsIn.mono h1 (R' := fun e w'' => match e with
        | .returned v => next' (a.put o.dst v) w''
        | .panicked chain => Q (.panic chain) a w''
        | .outgrown => LetsOut Q) (by
          intro e w'' hq
          cases e
          · exact hn _ _ hq
          · exact hq
          · exact hq)
      exact h2.mono (by intro e w'' hq; cases e <;> exact hq)
    · exact ⟨(fun hd => by cases hd), RowsIn.mono (rowsIn_of (F := FR l) (fun _ _ => stepsIn_wide) h) (fun v w'' hq => hn _ _ hq)⟩
  | halt x w' => cases x <;> first | exact h | exact h.elim
theorem ops_round {l m : Nat} {ops : Array Oper} (hQ : ¬ LetsOut Q) (hnd : ∀ (i : Nat) (o : Oper), ops[i]? = some o → noDefer o = true) : ∀ (idx : List Nat) (a : Act) (w : World), wpOps P ops Q idx a w → wpOpsIn (FR l) m P ops Q idx a w
 | [], _, _, h => h
 | i :: rest, a, w, h => by
  unfold wpOps at h
  unfold wpOpsIn
  cases ho : ops[i]? with
  | none => rw [ho] at h; exact ops_round hQ hnd rest a w h
  | some o =>
   rw [ho] at h
   dsimp only at h ⊢
   split at h
   ·rename_i hw
    rw [if_pos hw]
    rcases h with h | h
    ·refine ⟨fun _ _ => trivial, ?_⟩
     rw [Oper.semAt_eq _ _ _ (noDefer_op (hnd _ _ ho))]
     exact upon_round (fun a w => ops_round hQ hnd rest a w) h
    ·exact absurd h.2 hQ
   ·rename_i hw
    rw [if_neg hw]
    exact ⟨fun _ _ => trivial, ops_round hQ hnd rest _ _ h⟩
theorem noDefer_all {os : List Oper} (h : os.all noDefer = true) : ∀ (i : Nat) (o : Oper), os.toArray[i]? = some o → noDefer o = true := by
 intro i o ho
 rw [List.getElem?_toArray] at ho
 exact List.all_eq_true.1 h o (List.mem_of_getElem? ho)
theorem GR.seq {F : Fence} {m : Nat} {x y : Code} (h : G W n ds E L (x.wpIn F m P (Exit.then (y.wpIn F m P Q) Q))) : G W n ds E L ((Code.seq x y).wpIn F m P Q) := fun a w he hk hs => wpIn_seq (h a w he hk hs)
theorem GR.block {F : Fence} {m id : Nat} {c : Code} (h : G W n ds E L (c.wpIn F m P (Exit.inBlock id Q))) : G W n ds E L ((Code.block id c).wpIn F m P Q) := fun a w he hk hs => wpIn_block (h a w he hk hs)
theorem GR.region {l m id : Nat} {os : List Oper} (hQ : ¬ LetsOut Q) (hnd : os.all noDefer = true) (h : G W n ds E L (wpList P os.toArray Q os)) : G W n ds E L ((Code.region id os.toArray false).wpIn (FR l) m P Q) := by
 intro a w he hk hs
 refine wpIn_region (ops_round hQ (noDefer_all hnd) _ _ _ ?_)
 rw [List.range_eq_range', List.size_toArray, wpOps_eq_wpList os 0 (by simp)]
 exact h a w he hk hs
theorem draw_any {id : Nat} {l : List Oper} (H : List Nat) (Ss : List (List Nat))
  (hc : (directB l.toArray && permB l.toArray.size Ss.flatten && chainB l.toArray Ss) = true)
  (h : Phases P l.toArray n H W ds (Q .normal) Ss (look E) L) : G W n ds E L fun a w => wpAny P .any l.toArray Q l.toArray.size (Array.replicate l.toArray.size false) a { w with drawn := w.drawn + 1 } := by
 intro a w he hk hs
 simp only [Bool.and_eq_true] at hc
 have hp := hc.1.2
 simp only [permB, Bool.and_eq_true, Nat.beq_eq] at hp
 have hlen : Ss.flatten.length = l.toArray.size := hp.1.1.1
 have hmem : ∀ i, i ∈ Ss.flatten ↔ i < l.toArray.size := by
  intro i
  constructor
  ·intro hi; have := List.all_eq_true.1 hp.1.1.2 i hi; simpa [Nat.blt_eq] using this
  ·intro hi; have := List.all_eq_true.1 hp.2 i (List.mem_range.2 hi); simpa using this
 have hn : Ss.flatten.Nodup := nodup_of hp.1.2
 refine Phases.sound (H := H) hc.1.1 Ss hc.2 hn (look E) L _ _ _ _ h (by omega) ?_ (by simp) ⟨he.size, he.defers, he.slots⟩ (hk.trans (Keeps.drew w)) hs.drew
 intro i
 rw [hmem]
 simp only [Array.getD_eq_getD_getElem?, Array.getElem?_replicate, List.size_toArray]
 by_cases hlt : i < l.length <;> simp [hlt]
theorem GR.draw {r m id : Nat} {l : List Oper} (hQ : ¬ LetsOut Q) (hnd : l.all noDefer = true) (H : List Nat) (Ss : List (List Nat)) (hm : P.follows .mixedOrders = true)
  (hc : (directB l.toArray && permB l.toArray.size Ss.flatten && chainB l.toArray Ss) = true)
  (h : Phases P l.toArray n H W ds (Q .normal) Ss (look E) L) : G W n ds E L ((Code.region id l.toArray true).wpIn (FR r) m P Q) := by
 intro a w he hk hs
 refine wpIn_region_draw fun t => ops_round hQ (noDefer_all hnd) _ _ _ ?_
 simp only [Region.schedule, hm, Bool.true_or, if_true]
 exact wpAny_sound l.toArray.size t _ a _ (draw_any (id := id) H Ss hc h a w he hk hs)
/-! ### Who is ranged over, and what it calls -/
def yV (l : Nat) : Value := .func (.yield l) #[] #[]
def YieldH (P : Program) (l : Nat) (args : Array Value) (pre : List HP) (post : Value → List HP → Prop) : Prop :=
 ∀ (F : List HP) (w : World), St (pre ++ F) w → ∃ fn tmps assign body, (Instr.yield l args).run P w = .ok (.round l fn tmps assign body) w ∧
  RoundIn Fence.wide 0 P l fn tmps assign body w fun e w' => ∃ v L, post v L ∧ e = .returned v ∧ St (L ++ F) w' ∧ Keeps w w'
def IterV (P : Program) (g : Value) (N : Nat) (A : Nat → Array Value) (pre : List HP) : Prop :=
 ∃ (gf : FuncId) (lb : List Value) (fn : Func) (c : Code), g = .func (.func gf) #[] lb.toArray ∧ P.funcs[gf]? = some fn ∧ fn.body = some c ∧ (fn.name == "runtime.NumGoroutine") = false ∧
  ∀ (l : Nat) (J : Nat → HP), (∀ i, i < N → YieldH P l (A i) [J i] fun v L => v = .bool true ∧ L = [J (i + 1)]) → Fn P gf (yV l :: lb).toArray (J 0 :: pre) fun _ L => L = J N :: pre
def RndQ (J : HP) (F : List HP) (W : World) : Exit → Act → World → Prop
 | .normal, _, w => St (J :: F) w ∧ Keeps W w
 | _, _, _ => False
theorem G.rnd {J : HP} {F : List HP} (hL : Picks [J] L R) (hF : Suff F R) : G W n ds E L (RndQ J F W .normal) := fun _ _ _ hk hs => ⟨hF.st (L := [J]) (hs.picks hL), hk⟩
theorem St.swap {p q : HP} {w : World} (h : St (p :: q :: L) w) : St (q :: p :: L) w := h.perm (List.Perm.swap _ _ _)
theorem EnvOK.par {a : Act} (h : EnvOK n ds E a) {p : Nat} (hp : p < n) (v : Value) : EnvOK n ds ((p, v) :: E) { a with tmps := a.tmps.setIfInBounds p v } := by
 have hd : dstOk (some p) n = true := by simpa [dstOk, Nat.blt_eq] using hp
 have := h.put hd v
 exact ⟨by simpa using h.size, h.defers, by simpa [Act.put, putE] using this.slots⟩
theorem zip2 (p q : Nat) (x y : Value) (t : Array Value) : (#[p, q].zip #[x, y]).foldl (fun tmps (t, a) => tmps.setIfInBounds t a) t = (t.setIfInBounds p x).setIfInBounds q y := by simp
theorem G.rangeFunc {g : Operand} {p q : Nat} {assign body : Code} {gv : Value} {N : Nat} (A : Nat → Value × Value) (J : Nat → HP) (Ep : Nat → Env → Env) {pre : List HP} (hg : ev E g = some gv) (hi : IterV P gv N (fun i => #[(A i).1, (A i).2]) pre) (hp : Nat.blt p n = true) (hq : Nat.blt q n = true) (hL : Picks (J 0 :: pre) L R)
  (hassign : ∀ (l i : Nat) (F : List HP) (W' : World) (X : Act → World → Prop), i < N → G W' n [] (Ep i E) F X → G W' n [] ((q, (A i).2) :: (p, (A i).1) :: E) F (assign.wpIn (FR l) 0 P (Exit.then X fun _ _ _ => False)))
  (hround : ∀ (l i : Nat) (F : List HP) (W' : World), i < N → G W' n [] (Ep i E) (J i :: F) (body.wpIn (FR l) 0 P (RndQ (J (i + 1)) F W')))
  (hdone : ∀ D : Nat, G W n (⟨.collected D, #[]⟩ :: ds) E (J N :: pt D (.deferred (some [])) :: (pre ++ R)) (Q .normal)) : G W n ds E L ((Code.rangeFunc g #[p, q] assign body).wp P Q) := by
 intro a w he hk hs
 refine (wpIn_wide (n := 0)).1 (wpIn_rangeFunc ?_)
 intro fn _
 obtain ⟨gf, lb, gn, c, rfl, hgf, hgb, hgn, hit⟩ := hi
 have hge : a.eval g = .func (.func gf) #[] lb.toArray := he.agrees _ _ hg
 obtain ⟨rec, hrec⟩ : ∃ rec : LoopState → Option Code → Loop, rec = fun st pe => { state := st, pending := pe, fn, tmps := a.tmps, params := #[p, q], assign, body, defers := w.heap.size } := ⟨_, rfl⟩
 obtain ⟨W1, hW1⟩ : ∃ W1, (w.alloc (.deferred (some []))).alloc (.loop (rec .ready none)) = W1 := ⟨_, rfl⟩
 have hs0 : St (pt w.heap.size (.deferred (some [])) :: L) (w.alloc (.deferred (some []))) := hs.new _
 have hs1 : St (pt (w.heap.size + 1) (.loop (rec .ready none)) :: pt w.heap.size (.deferred (some [])) :: L) W1 := by
  rw [← hW1]
  have := hs0.new (.loop (rec .ready none))
  rwa [show (w.alloc (.deferred (some []))).heap.size = w.heap.size + 1 by simp] at this
 have hk1 : Keeps w W1 := by rw [← hW1]; exact (Keeps.new w _).trans (Keeps.new _ _)
 refine ⟨w.heap.size + 1, [{ target := .collected w.heap.size, args := #[] }], W1, { target := .fn (.func gf) lb.toArray, args := #[yV (w.heap.size + 1)] }, W1, gf, #[yV (w.heap.size + 1)] ++ lb.toArray, W1, ?_, ?_, fun _ _ => trivial, ?_, (fun h => by cases h), ?_⟩
 ·rw [← hW1, hrec]; exact run_enterLoop_outer _ _ _ _ _
 ·simp only [resolve, hge]
  simp [Deferred.ofValue, Bind.bind, Sem.bind, Pure.pure, Sem.run, yV, Act.eval]
 ·have hgn' : ¬ gn.name = "runtime.NumGoroutine" := by simpa using hgn
  simp [invoke, callFunc, program, Bind.bind, Sem.bind, Pure.pure, Sem.run, hgf, hgb, hgn']
 ·refine callsIn_wide.2 ?_
  obtain ⟨J', hJ'⟩ : ∃ J' : Nat → HP, J' = fun i => sep [J i, pt (w.heap.size + 1) (.loop (rec .ready none)), pt w.heap.size (.deferred (some []))] := ⟨_, rfl⟩
  have hs2 : St ((J' 0 :: pre) ++ R) W1 := by
   have h2 := hs1.perm (List.Perm.cons _ (List.Perm.cons _ hL.perm))
   rw [hJ']
   exact sep_fold (L1 := [J 0, _, _]) (sep_perm ((List.Perm.cons _ (List.Perm.swap _ _ _)).trans (List.Perm.swap _ _ _)) h2)
  have hy : ∀ i, i < N → YieldH P (w.heap.size + 1) #[(A i).1, (A i).2] [J' i] fun v L => v = .bool true ∧ L = [J' (i + 1)] := by
   intro i hiN F w2 hw2
   rw [hJ'] at hw2
   have hw3 : St (J i :: pt (w.heap.size + 1) (.loop (rec .ready none)) :: pt w.heap.size (.deferred (some [])) :: F) w2 := sep_flat (L1 := [J i, _, _]) hw2
   have hl := hw3.swap.pt
   have hyr := run_yield (P := P) (args := #[(A i).1, (A i).2]) hl (by rw [hrec]; rfl)
   rw [hrec] at hyr
   have h0 : EnvOK n [] E { tmps := a.tmps, defers := [] } := ⟨he.size, rfl, he.slots⟩
   have h1 := (h0.par (by simpa [Nat.blt_eq] using hp) (A i).1).par (by simpa [Nat.blt_eq] using hq) (A i).2
   refine ⟨fn, _, assign, body, hyr, roundIn_of_wpIn (F := Fence.wide) trivial (hassign (w.heap.size + 1) i _ w2 _ hiN ?_ _ _ (by simpa only [zip2] using h1) (Keeps.refl _) hw3)⟩
   intro a2 wb he2 hkb hwb
   have hlb := hwb.swap.pt
   refine ⟨_, run_beginRound hlb (by rw [hrec]), ?_⟩
   have hw4 : St (J i :: pt (w.heap.size + 1) (.loop { rec .ready none with state := .busy }) :: pt w.heap.size (.deferred (some [])) :: F) (wb.putObj (w.heap.size + 1) (.loop { rec .ready none with state := .busy })) := (St.set hwb.swap).swap
   refine wpIn_mono (hround (w.heap.size + 1) i _ _ hiN _ _ he2 (Keeps.refl _) hw4) ?_
   ·rintro e a3 w3 hp3
    cases e with
    | normal =>
     obtain ⟨hw5, hk5⟩ := hp3
     have hl5 := hw5.swap.pt
     have hend := run_endRound (P := P) none hl5
     refine ⟨_, _, hend, .bool true, [J' (i + 1)], ⟨rfl, rfl⟩, rfl, ?_, (hkb.trans ((Keeps.set _ _ _).trans hk5)).trans (Keeps.set _ _ _)⟩
     rw [hJ']
     refine sep_fold (L1 := [J (i + 1), _, _]) ?_
     have h6 := (St.set (o' := .loop (rec .ready none)) hw5.swap).swap
     rw [hrec] at h6 ⊢
     exact h6
    | _ => exact hp3.elim
  have ea : #[yV (w.heap.size + 1)] ++ lb.toArray = (yV (w.heap.size + 1) :: lb).toArray := by simp
  rw [ea]
  refine (hit (w.heap.size + 1) J' hy R W1 hs2).mono ?_
  rintro e w2 ⟨v, L', hL', rfl, hw2, hk2⟩
  subst hL'
  rw [hJ'] at hw2
  have hw3 : St (J N :: pt (w.heap.size + 1) (.loop (rec .ready none)) :: pt w.heap.size (.deferred (some [])) :: (pre ++ R)) w2 := sep_flat (L1 := [J N, _, _]) hw2
  have hl := hw3.swap.pt
  have hend := run_endLoop (P := P) hl (by rw [hrec]; simp)
  rw [hrec] at hend
  refine ⟨none, _, hend, ?_⟩
  refine hdone w.heap.size _ _ ⟨he.size, by show _ :: a.defers = _; rw [he.defers], he.slots⟩ ((hk.trans hk1).trans (hk2.trans (Keeps.set _ _ _))) ?_
  exact (St.set hw3.swap).tail
/-! ### A function that holds one -/
def FnQM (P : Program) (fn : Func) (post : Value → List HP → Prop) (F : List HP) (W : World) : Exit → Act → World → Prop :=
 bodyPostM Fence.wide 0 P fn fun e w' => ∃ v L, post v L ∧ e = .returned v ∧ St (L ++ F) w' ∧ Keeps W w'
theorem Fn.introM {f : FuncId} {fn : Func} {c : Code} {vs : List Value} {pre : List HP} {post : Value → List HP → Prop} {n : Nat}
    (hf : P.funcs[f]? = some fn) (hb : fn.body = some c) (hn : vs.length + (fn.ntmps - vs.length) = n)
    (h : ∀ F W, G W n [] (argE 0 vs) (pre ++ F) (c.wp P (FnQM P fn post F W))) : Fn P f vs.toArray pre post := by
  intro F w hs
  refine (callsIn_wide (n := 0)).1 (callsIn_of_wp_marks hf hb trivial (wpIn_wide.2 (h F w _ w ⟨?_, rfl, fun t v hl => ?_⟩ (.refl w) hs)) rfl)
  · simp [← hn]
  obtain ⟨-, h2⟩ := look_argE _ _ _ _ hl
  have hlt : t < vs.length := by
    rcases Nat.lt_or_ge t vs.length with h | h
    · exact h
    simp [List.getElem?_eq_none h] at h2
  simp only [Nat.sub_zero] at h2
  rw [List.getElem?_eq_getElem hlt] at h2
  simp only [Option.some.injEq] at h2
  simp [Array.getElem?_append, hlt, h2]
theorem G.doneM1 {fn : Func} {post : Value → List HP → Prop} {F : List HP} {L1 L' : List HP} {v : Value} {r : ResultVar} {D : Nat} (hl : fn.results = #[r]) (hD : Pick (pt D (.deferred (some []))) L L1) (hr : ResR P E L1 r v) (hp : post v L') (hL : Picks L' L1 R) (hF : Suff F R) :
  G W n [⟨.collected D, #[]⟩] E L (FnQM P fn post F W .ret) := by
 intro a w he hk hs
 show LeavesInM Fence.wide 0 P fn a.tmps _ a.defers .returning w
 rw [he.defers]
 have hs1 := hs.pick hD
 refine ⟨by simp, .inl ⟨D, _, rfl, run_takeDeferred hs1.pt, ?_⟩⟩
 have hs2 := (St.set (o' := .deferred none) hs1).tail
 exact ⟨v, results_1 hl (hr _ _ he.slots hs2), v, L', hp, rfl, hF.st (hs2.picks hL), hk.trans (Keeps.set _ _ _)⟩
/-! ### Who calls it -/
theorem GY.region {id : Nat} {os : List Oper} (h : G W n ds E L (wpListIn Fence.wide 0 P os.toArray Q os)) : G W n ds E L ((Code.region id os.toArray false).wp P Q) :=
 fun a w he hk hs => (wpIn_wide (n := 0)).1 (wpIn_region_list (by simpa using h a w he hk hs))
theorem GY.nil {ops : Array Oper} (h : G W n ds E L (Q .normal)) : G W n ds E L (wpListIn Fence.wide 0 P ops Q []) := h
theorem GY.q {ops : Array Oper} {d : Nat} {op : Op} {ty : TypeId} {pos : String} {aft : Array Edge} {rest : List Oper} {v : Value} (hnd : noDefer ⟨some d, op, ty, pos, aft, none⟩ = true)
  (hp : Quiet P ⟨none, op, ty, "", #[], none⟩ E L v) (hd : Nat.blt d n = true)
  (h : G W n ds ((d, v) :: E) L (wpListIn Fence.wide 0 P ops Q rest)) : G W n ds E L (wpListIn Fence.wide 0 P ops Q (⟨some d, op, ty, pos, aft, none⟩ :: rest)) := by
 intro a w he hk hs
 unfold wpListIn
 rw [if_pos (by simp [Region.wanted])]
 refine ⟨fun _ _ => trivial, ?_⟩
 rw [Oper.semAt_eq _ _ _ (noDefer_op hnd)]
 have := hp a.eval w he.agrees hs
 rw [show execOp a.eval ⟨some d, op, ty, pos, aft, none⟩ = execOp a.eval ⟨none, op, ty, "", #[], none⟩ from rfl, this]
 exact h _ _ (he.put (dst := some d) hd _) hk hs
theorem GY.yield {ops : Array Oper} {d l : Nat} {x : Operand} {xs : Array Operand} {ts : Array TypeId} {ty : TypeId} {pos : String} {aft : Array Edge} {rest : List Oper} {vs : List Value} {pre F : List HP} {post : Value → List HP → Prop}
  (hv : ev E x = some (yV l)) (hx : xs.toList.map (ev E) = vs.map some) (hy : YieldH P l vs.toArray pre post) (hL : Picks pre L F) (hd : Nat.blt d n = true)
  (h : ∀ v L', post v L' → G W n ds ((d, v) :: E) (L' ++ F) (wpListIn Fence.wide 0 P ops Q rest)) : G W n ds E L (wpListIn Fence.wide 0 P ops Q (⟨some d, .call { callee := .value x, args := xs, argTypes := ts }, ty, pos, aft, none⟩ :: rest)) := by
 intro a w he hk hs
 unfold wpListIn
 rw [if_pos (by simp [Region.wanted])]
 refine ⟨fun _ _ => trivial, ?_⟩
 rw [Oper.semAt_eq _ _ _ (fun c e => by cases e)]
 obtain ⟨fn, tmps, assign, body, hyr, hr⟩ := hy F w (hs.picks hL)
 have hvs : xs.map a.eval = vs.toArray := by
  apply Array.ext'
  rw [Array.toList_map]
  exact agree_list he.agrees _ _ hx
 have hxv : a.eval x = .func (.yield l) #[] #[] := he.agrees _ _ hv
 have hrun : (execOp a.eval ⟨some d, .call { callee := .value x, args := xs, argTypes := ts }, ty, pos, aft, none⟩).run P w = .ok (.round l fn tmps assign body) w := by
  have e : (execOp a.eval ⟨some d, .call { callee := .value x, args := xs, argTypes := ts }, ty, pos, aft, none⟩).run P w = (Instr.yield l vs.toArray).run P w := by
   simp [execOp, resolve, hxv, Deferred.ofValue, invoke, Bind.bind, Sem.bind, Pure.pure, Sem.run, hvs]
  rw [e]; exact hyr
 rw [hrun]
 refine ⟨(fun hd => by cases hd), hr.mono ?_⟩
 rintro e w' ⟨v, L', hv', rfl, hs', hk'⟩
 exact h v L' hv' _ _ (he.put (dst := some d) hd _) (hk.trans hk') hs'
end
theorem back_spec (a : Option Addr) (n c : Nat) : Fn Tryz.prog 101 #[.slice a n c] [] fun v L => ∃ b, v = .func (.func 144) #[] [vptr b].toArray ∧ L = [ptc b [.slice a n c] 23] := by
 refine Fn.intro Tryz.func101 rfl rfl fun F W => ?_
 refine .sr (.oq (.box rfl) ?_)
 rintro v L' ⟨b, rfl, rfl⟩
 refine .an rfl (.sr (.q (.func (us := []) (vs := [_]) rfl rfl) rfl (.an rfl (.ret ?_))))
 exact .dn rfl rfl ⟨b, rfl, rfl⟩
theorem back_at {xs : List Bs} {k : Nat} (hk : k < xs.length) : (strs xs)[((xs.length : Int) - 1 - k).toNat * 1]? = some (vstr (xs.reverse.getD k [])) := by
 have e : ((xs.length : Int) - 1 - k).toNat * 1 = xs.length - 1 - k := by omega
 rw [e, List.getElem?_map, ← List.getElem?_reverse hk, List.getD_eq_getElem?_getD]
 rw [List.getElem?_eq_getElem (by simpa using hk)]
 rfl
theorem back1_spec (va : Value) (xs : List Bs) (b : Nat) (q : HP) (hq : ∀ h : Hp, q h → rdS 1 h va xs.length (strs xs)) (hl : xs.length ≤ 1099511627776) (l : Nat) (J : Nat → HP) (hY : ∀ i, i < xs.length → YieldH Tryz.prog l (#[vint ((xs.length : Int) - 1 - (i : Nat)), vstr (xs.reverse.getD i [])]) [J i] fun v L => v = .bool true ∧ L = [J (i + 1)]) : Fn Tryz.prog 144 #[yV l, vptr b] [J 0, ptc b [va] 23, q] fun _ L => L = [J xs.length, ptc b [va] 23, q] := by
 refine Fn.intro Tryz.func144 rfl rfl fun F W => ?_
 refine .rdAny (p := q) hq (by repeat' constructor) fun aa ca ee _ => ?_
 subst ee
 have hJ : ∀ i j : Nat, i = j → J i = J j := fun i j e => by rw [e]
 refine .sr (.u (.ld rfl ag_23) (.q (.slen rfl Tryz.underlying23 rfl) rfl (.q (.to (v' := vint ((xs.length : Int) - 1 - ((0 : Nat) : Int))) (.sub rfl rfl (by omega)) (by congr 1; omega)) rfl (.an rfl (.block (.loopK (ι := Nat) (fun q E => (3, vint ((xs.length : Int) - 1 - q)) :: E) (fun q => [J q]) (fun q => q ≤ xs.length) (fun q => xs.length - q) (0) (ts := [0, 1]) (.cons rfl (.cons rfl (.nil))) (Nat.zero_le _) ⟨rfl, rfl, rfl, trivial⟩ (by repeat' constructor) ?_))))))
 rintro k hk
 refine .seq (.sm rfl (.ui rfl rfl rfl (.nt (.condD rfl (fun h8 => ?_) (fun h8 => ?_)))))
 ·have hkl : k < xs.length := by omega
  refine .rdShape (p := q) hq (by repeat' constructor) (by omega) fun ba oa e => ?_
  subst e
  refine .sk (.seq (.block (.seq (GY.region (GY.q rfl (.move rfl) rfl (GY.q rfl (.move rfl) rfl (GY.q rfl (.ld rfl ag_23) rfl (GY.q rfl (.move rfl) rfl (GY.q rfl (.indexAddr rfl rfl el_23 (by omega)) rfl (GY.q rfl (.loadEl (p := q) (i := ((xs.length : Int) - 1 - k).toNat * 1) (v := vstr (xs.reverse.getD k [])) rfl ag_9 (by repeat' constructor) hq (back_at hkl)) rfl (GY.yield (vs := [_, _]) rfl rfl (hY k hkl) (by repeat' constructor) rfl ?_)))))))))))
  rintro v L' ⟨rfl, rfl⟩
  refine GY.q rfl (.not rfl) rfl (GY.nil (.then_n (.condF rfl (.skip (.blk_n (.then_n (.region (.m rfl (.q (.to (v' := vint ((xs.length : Int) - 1 - ((k + 1 : Nat) : Int))) (.sub rfl rfl (by omega)) (by congr 1; omega)) rfl (.an rfl ?_))))))))))
  exact .rk (k + 1) (by omega) (by omega) ⟨rfl, rfl, rfl, trivial⟩
 have hkl : k = xs.length := by omega
 subst hkl
 refine .exit (.then_e (.then_e (.blk_e (.done_n ?_))))
 exact .dn rfl rfl rfl
theorem back_iter (va : Value) (xs : List Bs) (b : Nat) (q : HP) (hq : ∀ h : Hp, q h → rdS 1 h va xs.length (strs xs)) (hl : xs.length ≤ 1099511627776) : IterV Tryz.prog (.func (.func 144) #[] [vptr b].toArray) xs.length (fun i => #[vint ((xs.length : Int) - 1 - (i : Nat)), vstr (xs.reverse.getD i [])]) [ptc b [va] 23, q] :=
 ⟨_, [vptr b], _, _, rfl, Tryz.func144, rfl, rfl, fun l J hY => back1_spec va xs b q hq hl l J hY⟩
theorem pcloses_spec (t : Nat) (τ : Tr) (u : Who) (iv : Value) (r : Rq) (p : HP) (hA : WiA p u iv r) (N : Nat) (ho : τ.Ok N) (hN : N ≤ 1099511627776) (hN2 : N + N ≤ 1099511627776) : Fn Tryz.prog 46 #[.agg (wiC t u iv r).toArray] [treeR t τ, p] fun v L =>
    ∃ (w : Value) (ys : List Pt), v = .agg (ptC ((closeP τ u.ses).1.ws w)).toArray ∧ ys.map Pt.pl = (closeP τ u.ses).2 ∧ (∃ a c, w = .slice a ys.length c) ∧ (∀ y ∈ ys, isCell y.aclV = true ∧ y.subsV = nilV) ∧ L = [treeR t τ, p, slR 43 8 w ys.length (ys.flatMap ptC), bigR aclR ys] := by
 refine Fn.introM (vs := [.agg (wiC t u iv r).toArray]) Tryz.func46 rfl rfl ?_
 intro F W
 refine .add (p := nilP) nilP_ok ?_
 have hlr : (ownedZ τ u.ses).reverse.length = (ownedZ τ u.ses).length := List.length_reverse
 refine .sr (.oq (.box rfl) ?_)
 rintro v L' ⟨b1, rfl, rfl⟩
 refine .oq (.allocA ze_43) ?_
 rintro v L' ⟨bx, rfl, rfl⟩
 refine .nil (.pc b1 (wiC t u iv r) ?_)
 refine .then_n (.sr (.u (.fieldAddr rfl fo_99_0) (.u (.ld rfl ag_30) (.oq (.c Tryz.func32 [_] (trclone_spec t τ N ho hN)) ?_))))
 rintro v L' ⟨c, rfl, rfl⟩
 refine .oq (.alloc ze_30) ?_
 rintro v L' ⟨b3, rfl, rfl⟩
 refine .st rfl rfl rfl sz_30 ?_
 refine .nt (.sr (.u (.fieldAddr rfl fo_99_1) (.u (.ld rfl ag_3) (.q (.build (us := [(0, _), (4, _)]) fl_43 ze_43 rfl rfl (by simp [isCell])) rfl (.oq (.allocA ze_43) ?_)))))
 rintro v L' ⟨b4, rfl, rfl⟩
 refine .sa rfl rfl sz_43 (by (first | (simp [isCell]; done) | (simp [isCell, setAll, Value.cells]; done))) ?_
 refine .nil (.pc b4 (clsC u.ses (nilV)) ?_)
 refine .then_n (.seq (.sr (.u (.ld rfl ag_30) (.u (.fieldAddr rfl fo_99_1) (.u (.ld rfl ag_3) (.oq (.c Tryz.func37 [_, _] (trowned_spec c τ u.ses N ho hN)) ?_))))))
 rintro v L' ⟨⟨ao, co, rfl⟩, rfl⟩
 refine .oq (.c Tryz.func101 [_] (back_spec _ _ _)) ?_
 rintro v L' ⟨bb, rfl, rfl⟩
 refine .nt (.block (.add (slR_nil 43 8) (.fold (p := clsJ (ptc b3 [vptr c] 30) c b4 τ u.ses (ownedZ τ u.ses).reverse 0) (q := [ptc b3 [vptr c] 30, treeR c τ, ptc b4 (clsC u.ses nilV) 43, slR 43 8 nilV 0 []]) (by repeat' constructor) (fun h hp => ⟨nilV, ⟨none, 0, rfl⟩, hp⟩) (.rangeFunc (fun i => (vint (((ownedZ τ u.ses).length : Int) - 1 - (i : Nat)), vstr ((ownedZ τ u.ses).reverse.getD i []))) (fun i => clsJ (ptc b3 [vptr c] 30) c b4 τ u.ses (ownedZ τ u.ses).reverse i) (fun i E => (6, vstr ((ownedZ τ u.ses).reverse.getD i [])) :: (22, vstr ((ownedZ τ u.ses).reverse.getD i [])) :: (21, vint (((ownedZ τ u.ses).length : Int) - 1 - (i : Nat))) :: E) (pre := [ptc bb [.slice ao (ownedZ τ u.ses).length co] 23, slR 9 1 (.slice ao (ownedZ τ u.ses).length co) (ownedZ τ u.ses).length (strs (ownedZ τ u.ses))]) (N := (ownedZ τ u.ses).length) rfl (back_iter _ _ bb _ (fun _ hp => slR_rd hp) (by have := owned_len τ u.ses; have := ho.few; omega)) rfl rfl (by repeat' constructor) (fun lr i F2 W2 X hi hX => ?_) (fun lr i F2 W2 hi => ?_) (fun D => ?_)))))
 ·refine GR.region (by rintro ⟨_, _, h⟩; exact h) rfl (.a rfl (.nil ?_))
  exact .then_n hX
 ·have hi2 : i < (ownedZ τ u.ses).reverse.length := by rw [hlr]; exact hi
  have hget : (ownedZ τ u.ses).reverse.getD i [] = (ownedZ τ u.ses).reverse[i] := by rw [List.getD_eq_getElem?_getD, List.getElem?_eq_getElem hi2]; rfl
  rw [hget]
  have hshort : ((ownedZ τ u.ses).reverse[i]).length ≤ 60 := owned_short ho (List.mem_reverse.1 (List.getElem_mem hi2))
  have hok : (closeT ((ownedZ τ u.ses).reverse.take i) τ).Ok (N + N) := (closeT_ok ((ownedZ τ u.ses).reverse.take i) ho).more (by rw [List.length_take]; have := owned_len τ u.ses; have := ho.few; omega)
  refine .open (q := fun z : Value => [ptc b3 [vptr c] 30, treeR c (closeT ((ownedZ τ u.ses).reverse.take i) τ), ptc b4 (clsC u.ses z) 43, slR 43 8 z i ((closeL ((ownedZ τ u.ses).reverse.take i) τ).flatMap ptC)]) (φ := fun z : Value => ∃ a k, z = .slice a i k) (fun _ hp => hp) ?_
  rintro z ⟨az, cz, rfl⟩
  refine .add (p := nilP) nilP_ok (GR.block (GR.seq (GR.draw (by rintro ⟨_, _, h⟩; exact h) rfl [2, 3, 7, 8] [[0, 1, 2, 3, 4, 5, 6, 7, 8], [9]] mixed (by kernel_rfl) (.go [ptc b3 _ _] (by repeat' constructor) (.k rfl (.ld rfl ag_30) (.k rfl (.move rfl) (.h2 (k := 7) rfl rfl (by kernel_rfl) rfl (.c Tryz.func98 [_] (parent_spec ((ownedZ τ u.ses).reverse[i]) (by omega))) (by repeat' constructor) (.allocA ze_37) (by repeat' constructor) ?_ ?_)))))))
  ·rintro v L' ⟨rfl, rfl⟩
   refine D.h2 (k := 7) rfl rfl (by kernel_rfl) rfl (.c Tryz.func13 [_, _] (trstat_spec c (closeT ((ownedZ τ u.ses).reverse.take i) τ) (parentZ ((ownedZ τ u.ses).reverse[i])) (N + N) hok hN2)) (by repeat' constructor) (.allocA ze_37) (by repeat' constructor) ?_ ?_
   ·rintro v L' ⟨rfl, rfl⟩
    refine D.k rfl (.move rfl) (.k rfl (.extract rfl rfl) (.k rfl (.extract rfl rfl) (.hh rfl (.allocA ze_37) ?_)))
    rintro v L' ⟨b7, rfl, rfl⟩
    refine D.sa rfl rfl rfl sz_37 (by intro v hv; simp only [stC, List.mem_cons, List.not_mem_nil, or_false] at hv; rcases hv with rfl | rfl | rfl | rfl | rfl | rfl | rfl | rfl | rfl <;> rfl) ?_
    refine D.ph (.g0 (.kv rfl (.assign rfl) (.ph (.fin (.pc b7 (stC (statD (closeT ((ownedZ τ u.ses).reverse.take i) τ) (parentZ ((ownedZ τ u.ses).reverse[i])))) ?_)))))
    refine .then_n (GR.seq (GR.region (by rintro ⟨_, _, h⟩; exact h) rfl (.m rfl (.u (.fieldAddr rfl fo_37_4) (.u (.ld rfl ag_3) (.u (.addW rfl rfl) (.q (.build (us := [(0, _), (1, _), (5, _)]) fl_43 ze_43 rfl rfl (by simp [isCell])) rfl (.oq (.allocA ze_43) ?_))))))))
    rintro v L' ⟨b9, rfl, rfl⟩
    refine .sa rfl rfl sz_43 (by (first | (simp [isCell]; done) | (simp [isCell, setAll, Value.cells]; done))) ?_
    refine .nil (.pc b9 (ptC (delX (closeT ((ownedZ τ u.ses).reverse.take i) τ) (ownedZ τ u.ses).reverse[i])) ?_)
    refine .then_n (GR.seq (GR.draw (by rintro ⟨_, _, h⟩; exact h) rfl [2, 5] [[0, 1, 3, 2, 4], [5]] mixed (by kernel_rfl) (.go [ptc b3 _ _, ptc b9 _ _] (by repeat' constructor) (.k rfl (.ld rfl ag_30) (.kv rfl (.ld rfl ag_30) (.k rfl (.to (v' := .agg (ptC (delX (closeT ((ownedZ τ u.ses).reverse.take i) τ) (ownedZ τ u.ses).reverse[i])).toArray) (.loadA rfl ag_43 (by repeat' constructor) (by simp [ptC])) (by rfl)) (.hh rfl (.c Tryz.func64 [_] (trzxid_spec c (closeT ((ownedZ τ u.ses).reverse.take i) τ))) ?_)))))))
    rintro v L' ⟨rfl, rfl⟩
    refine D.kv rfl (.buildN (pl := [(0, 1), (1, 1), (2, 1), (3, 8)]) (us := [(0, vint (closeT ((ownedZ τ u.ses).reverse.take i) τ).zx), (3, .agg (ptC (delX (closeT ((ownedZ τ u.ses).reverse.take i) τ) (ownedZ τ u.ses).reverse[i])).toArray)]) (cells := [vint (closeT ((ownedZ τ u.ses).reverse.take i) τ).zx, vint 0, vint 0] ++ ptC (delX (closeT ((ownedZ τ u.ses).reverse.take i) τ) (ownedZ τ u.ses).reverse[i])) Tryz.underlying54 (by kernel_rfl) ze_54 rfl (fill_entry _ _ _ _ _ _ _ _ _)) (.ph (.g0 (.hh rfl (.call Tryz.func33 rfl rfl (vs := [_, _]) rfl (trapply_spec c (closeT ((ownedZ τ u.ses).reverse.take i) τ) (closeT ((ownedZ τ u.ses).reverse.take i) τ).zx 0 0 (delX (closeT ((ownedZ τ u.ses).reverse.take i) τ) (ownedZ τ u.ses).reverse[i]) [] nilP (txS_ok _ (by omega)) (N + N) hok (by show N + N + 0 ≤ _; omega))) ?_)))
    rintro v L' ⟨ue, ee, rfl, -, ⟨ae, ce, rfl⟩, rfl⟩; rw [← closeT_step hi2 τ]
    refine D.pf (GR.draw (by rintro ⟨_, _, h⟩; exact h) rfl [4, 5, 7, 9] [[0, 1, 2, 3, 4], [5], [6, 8, 7, 9]] mixed (by kernel_rfl) (.go [ptc b9 _ _, ptc b4 _ _] (by repeat' constructor) (.k rfl (.fieldAddr rfl fo_43_7) (.k rfl (.ld rfl ag_41) (.k rfl (.to (v' := .agg (ptC (delX (closeT ((ownedZ τ u.ses).reverse.take i) τ) (ownedZ τ u.ses).reverse[i])).toArray) (.loadA rfl ag_43 (by repeat' constructor) (by simp [ptC])) (by rfl)) (.k rfl (.slen rfl Tryz.underlying41 rfl) (.hh rfl (.buildSlice (vs := [_]) el_41 ze_43 rfl rfl rfl rfl (by first | (simp [Value.cells]; done) | (intro v hv; simp only [List.mem_cons, List.not_mem_nil, or_false] at hv; (repeat (first | (subst hv; rfl) | (rcases hv with hv | hv; (subst hv; rfl)))))) (by decide)) ?_)))))))
    rintro v L' ⟨b10, rfl, rfl⟩
    refine D.ph (.g0 (.hh rfl (.append1S rfl rfl rfl el_41 ze_43 rfl rfl ?c75 ?c76 (Nat.le_refl _) ?c77 (by decide) (by decide)) ?_))
    case c75 => simp only [List.map_cons, List.map_nil, List.flatten_cons, List.flatten_nil, List.append_nil]; simp only [Value.cells]; intro z hz; simp at hz; rcases hz with rfl | rfl | rfl | rfl | rfl | rfl | rfl | rfl <;> rfl
    case c76 => rfl
    case c77 => have := owned_len τ u.ses; have := ho.few; omega
    rintro v L' ⟨a8, c8, rfl, rfl⟩
    refine D.ph (.g0 (.k rfl (.indexAddr rfl rfl el_41 (by omega)) (.k rfl (.fieldAddr rfl fo_43_7) (.h2 (k := 9) rfl rfl (by kernel_rfl) rfl (.storeRdA (sz := 8) (j := i * 8) (k := 8) (vs := ptC (delX (closeT ((ownedZ τ u.ses).reverse.take i) τ) (ownedZ τ u.ses).reverse[i])) rfl rfl (pt_cells rfl rfl) sz_43 rfl ?ho82 ?hi83) (by repeat' constructor) (.store rfl rfl rfl sz_41 ?c84 (nfz0 _ _)) (by repeat' constructor) ?_ ?_))))
    case ho82 => simp
    case hi83 => omega
    case c84 => simp [clsC]
    ·rintro v L' rfl
     refine D.hh rfl (.store rfl rfl rfl sz_41 ?c88 (nfz0 _ _)) ?_
     case c88 => simp [clsC]
     rintro v L' rfl
     refine D.ph (.fin (.slCast (T := 43) (sz := 8) (m' := i + 1) (xs' := (closeL ((ownedZ τ u.ses).reverse.take (i + 1)) τ).flatMap ptC) (by repeat' constructor) (by exact rfl) (by rw [closeL_step hi2 τ, List.flatMap_append]; exact spl_app (by rw [flat8_len, closeL_len, List.length_take, Nat.min_eq_left (Nat.le_of_lt hi2)]) rfl) (.pc b4 (clsC u.ses (.slice (some ⟨a8, 0, none⟩) (i + 1) c8)) ?_)))
     refine .blk_n (.fold (p := clsJ (ptc b3 [vptr c] 30) c b4 τ u.ses (ownedZ τ u.ses).reverse (i + 1)) (q := [ptc b3 [vptr c] 30, treeR c (closeT ((ownedZ τ u.ses).reverse.take (i + 1)) τ), ptc b4 (clsC u.ses (.slice (some ⟨a8, 0, none⟩) (i + 1) c8)) 43, slR 43 8 (.slice (some ⟨a8, 0, none⟩) (i + 1) c8) (i + 1) ((closeL ((ownedZ τ u.ses).reverse.take (i + 1)) τ).flatMap ptC)]) (by repeat' constructor) (fun h hp => ⟨_, ⟨_, _, rfl⟩, hp⟩) ?_)
     exact .rnd (by repeat' constructor) (by repeat' constructor)
    rintro v L' rfl
    refine D.hh rfl (.storeRdA (sz := 8) (j := i * 8) (k := 8) (vs := ptC (delX (closeT ((ownedZ τ u.ses).reverse.take i) τ) (ownedZ τ u.ses).reverse[i])) rfl rfl (pt_cells rfl rfl) sz_43 rfl ?ho91 ?hi92) ?_
    case ho91 => simp
    case hi92 => omega
    rintro v L' rfl
    refine D.ph (.fin (.slCast (T := 43) (sz := 8) (m' := i + 1) (xs' := (closeL ((ownedZ τ u.ses).reverse.take (i + 1)) τ).flatMap ptC) (by repeat' constructor) (by exact rfl) (by rw [closeL_step hi2 τ, List.flatMap_append]; exact spl_app (by rw [flat8_len, closeL_len, List.length_take, Nat.min_eq_left (Nat.le_of_lt hi2)]) rfl) (.pc b4 (clsC u.ses (.slice (some ⟨a8, 0, none⟩) (i + 1) c8)) ?_)))
    refine .blk_n (.fold (p := clsJ (ptc b3 [vptr c] 30) c b4 τ u.ses (ownedZ τ u.ses).reverse (i + 1)) (q := [ptc b3 [vptr c] 30, treeR c (closeT ((ownedZ τ u.ses).reverse.take (i + 1)) τ), ptc b4 (clsC u.ses (.slice (some ⟨a8, 0, none⟩) (i + 1) c8)) 43, slR 43 8 (.slice (some ⟨a8, 0, none⟩) (i + 1) c8) (i + 1) ((closeL ((ownedZ τ u.ses).reverse.take (i + 1)) τ).flatMap ptC)]) (by repeat' constructor) (fun h hp => ⟨_, ⟨_, _, rfl⟩, hp⟩) ?_)
    exact .rnd (by repeat' constructor) (by repeat' constructor)
   rintro v L' ⟨b7, rfl, rfl⟩
   refine D.hh rfl (.c Tryz.func13 [_, _] (trstat_spec c (closeT ((ownedZ τ u.ses).reverse.take i) τ) (parentZ ((ownedZ τ u.ses).reverse[i])) (N + N) hok hN2)) ?_
   rintro v L' ⟨rfl, rfl⟩
   refine D.mv rfl rfl (.kv rfl (.extract rfl rfl) (.k rfl (.extract rfl rfl) (.sa rfl rfl rfl sz_37 (by intro v hv; simp only [stC, List.mem_cons, List.not_mem_nil, or_false] at hv; rcases hv with rfl | rfl | rfl | rfl | rfl | rfl | rfl | rfl | rfl <;> rfl) ?_)))
   refine D.ph (.g0 (.kv rfl (.assign rfl) (.ph (.fin (.pc b7 (stC (statD (closeT ((ownedZ τ u.ses).reverse.take i) τ) (parentZ ((ownedZ τ u.ses).reverse[i])))) ?_)))))
   refine .then_n (GR.seq (GR.region (by rintro ⟨_, _, h⟩; exact h) rfl (.m rfl (.u (.fieldAddr rfl fo_37_4) (.u (.ld rfl ag_3) (.u (.addW rfl rfl) (.q (.build (us := [(0, _), (1, _), (5, _)]) fl_43 ze_43 rfl rfl (by simp [isCell])) rfl (.oq (.allocA ze_43) ?_))))))))
   rintro v L' ⟨b9, rfl, rfl⟩
   refine .sa rfl rfl sz_43 (by (first | (simp [isCell]; done) | (simp [isCell, setAll, Value.cells]; done))) ?_
   refine .nil (.pc b9 (ptC (delX (closeT ((ownedZ τ u.ses).reverse.take i) τ) (ownedZ τ u.ses).reverse[i])) ?_)
   refine .then_n (GR.seq (GR.draw (by rintro ⟨_, _, h⟩; exact h) rfl [2, 5] [[0, 1, 3, 2, 4], [5]] mixed (by kernel_rfl) (.go [ptc b3 _ _, ptc b9 _ _] (by repeat' constructor) (.k rfl (.ld rfl ag_30) (.kv rfl (.ld rfl ag_30) (.k rfl (.to (v' := .agg (ptC (delX (closeT ((ownedZ τ u.ses).reverse.take i) τ) (ownedZ τ u.ses).reverse[i])).toArray) (.loadA rfl ag_43 (by repeat' constructor) (by simp [ptC])) (by rfl)) (.hh rfl (.c Tryz.func64 [_] (trzxid_spec c (closeT ((ownedZ τ u.ses).reverse.take i) τ))) ?_)))))))
   rintro v L' ⟨rfl, rfl⟩
   refine D.kv rfl (.buildN (pl := [(0, 1), (1, 1), (2, 1), (3, 8)]) (us := [(0, vint (closeT ((ownedZ τ u.ses).reverse.take i) τ).zx), (3, .agg (ptC (delX (closeT ((ownedZ τ u.ses).reverse.take i) τ) (ownedZ τ u.ses).reverse[i])).toArray)]) (cells := [vint (closeT ((ownedZ τ u.ses).reverse.take i) τ).zx, vint 0, vint 0] ++ ptC (delX (closeT ((ownedZ τ u.ses).reverse.take i) τ) (ownedZ τ u.ses).reverse[i])) Tryz.underlying54 (by kernel_rfl) ze_54 rfl (fill_entry _ _ _ _ _ _ _ _ _)) (.ph (.g0 (.hh rfl (.call Tryz.func33 rfl rfl (vs := [_, _]) rfl (trapply_spec c (closeT ((ownedZ τ u.ses).reverse.take i) τ) (closeT ((ownedZ τ u.ses).reverse.take i) τ).zx 0 0 (delX (closeT ((ownedZ τ u.ses).reverse.take i) τ) (ownedZ τ u.ses).reverse[i]) [] nilP (txS_ok _ (by omega)) (N + N) hok (by show N + N + 0 ≤ _; omega))) ?_)))
   rintro v L' ⟨ue, ee, rfl, -, ⟨ae, ce, rfl⟩, rfl⟩; rw [← closeT_step hi2 τ]
   refine D.pf (GR.draw (by rintro ⟨_, _, h⟩; exact h) rfl [4, 5, 7, 9] [[0, 1, 2, 3, 4], [5], [6, 8, 7, 9]] mixed (by kernel_rfl) (.go [ptc b9 _ _, ptc b4 _ _] (by repeat' constructor) (.k rfl (.fieldAddr rfl fo_43_7) (.k rfl (.ld rfl ag_41) (.k rfl (.to (v' := .agg (ptC (delX (closeT ((ownedZ τ u.ses).reverse.take i) τ) (ownedZ τ u.ses).reverse[i])).toArray) (.loadA rfl ag_43 (by repeat' constructor) (by simp [ptC])) (by rfl)) (.k rfl (.slen rfl Tryz.underlying41 rfl) (.hh rfl (.buildSlice (vs := [_]) el_41 ze_43 rfl rfl rfl rfl (by first | (simp [Value.cells]; done) | (intro v hv; simp only [List.mem_cons, List.not_mem_nil, or_false] at hv; (repeat (first | (subst hv; rfl) | (rcases hv with hv | hv; (subst hv; rfl)))))) (by decide)) ?_)))))))
   rintro v L' ⟨b10, rfl, rfl⟩
   refine D.ph (.g0 (.hh rfl (.append1S rfl rfl rfl el_41 ze_43 rfl rfl ?c130 ?c131 (Nat.le_refl _) ?c132 (by decide) (by decide)) ?_))
   case c130 => simp only [List.map_cons, List.map_nil, List.flatten_cons, List.flatten_nil, List.append_nil]; simp only [Value.cells]; intro z hz; simp at hz; rcases hz with rfl | rfl | rfl | rfl | rfl | rfl | rfl | rfl <;> rfl
   case c131 => rfl
   case c132 => have := owned_len τ u.ses; have := ho.few; omega
   rintro v L' ⟨a8, c8, rfl, rfl⟩
   refine D.ph (.g0 (.k rfl (.indexAddr rfl rfl el_41 (by omega)) (.k rfl (.fieldAddr rfl fo_43_7) (.h2 (k := 9) rfl rfl (by kernel_rfl) rfl (.storeRdA (sz := 8) (j := i * 8) (k := 8) (vs := ptC (delX (closeT ((ownedZ τ u.ses).reverse.take i) τ) (ownedZ τ u.ses).reverse[i])) rfl rfl (pt_cells rfl rfl) sz_43 rfl ?ho137 ?hi138) (by repeat' constructor) (.store rfl rfl rfl sz_41 ?c139 (nfz0 _ _)) (by repeat' constructor) ?_ ?_))))
   case ho137 => simp
   case hi138 => omega
   case c139 => simp [clsC]
   ·rintro v L' rfl
    refine D.hh rfl (.store rfl rfl rfl sz_41 ?c143 (nfz0 _ _)) ?_
    case c143 => simp [clsC]
    rintro v L' rfl
    refine D.ph (.fin (.slCast (T := 43) (sz := 8) (m' := i + 1) (xs' := (closeL ((ownedZ τ u.ses).reverse.take (i + 1)) τ).flatMap ptC) (by repeat' constructor) (by exact rfl) (by rw [closeL_step hi2 τ, List.flatMap_append]; exact spl_app (by rw [flat8_len, closeL_len, List.length_take, Nat.min_eq_left (Nat.le_of_lt hi2)]) rfl) (.pc b4 (clsC u.ses (.slice (some ⟨a8, 0, none⟩) (i + 1) c8)) ?_)))
    refine .blk_n (.fold (p := clsJ (ptc b3 [vptr c] 30) c b4 τ u.ses (ownedZ τ u.ses).reverse (i + 1)) (q := [ptc b3 [vptr c] 30, treeR c (closeT ((ownedZ τ u.ses).reverse.take (i + 1)) τ), ptc b4 (clsC u.ses (.slice (some ⟨a8, 0, none⟩) (i + 1) c8)) 43, slR 43 8 (.slice (some ⟨a8, 0, none⟩) (i + 1) c8) (i + 1) ((closeL ((ownedZ τ u.ses).reverse.take (i + 1)) τ).flatMap ptC)]) (by repeat' constructor) (fun h hp => ⟨_, ⟨_, _, rfl⟩, hp⟩) ?_)
    exact .rnd (by repeat' constructor) (by repeat' constructor)
   rintro v L' rfl
   refine D.hh rfl (.storeRdA (sz := 8) (j := i * 8) (k := 8) (vs := ptC (delX (closeT ((ownedZ τ u.ses).reverse.take i) τ) (ownedZ τ u.ses).reverse[i])) rfl rfl (pt_cells rfl rfl) sz_43 rfl ?ho146 ?hi147) ?_
   case ho146 => simp
   case hi147 => omega
   rintro v L' rfl
   refine D.ph (.fin (.slCast (T := 43) (sz := 8) (m' := i + 1) (xs' := (closeL ((ownedZ τ u.ses).reverse.take (i + 1)) τ).flatMap ptC) (by repeat' constructor) (by exact rfl) (by rw [closeL_step hi2 τ, List.flatMap_append]; exact spl_app (by rw [flat8_len, closeL_len, List.length_take, Nat.min_eq_left (Nat.le_of_lt hi2)]) rfl) (.pc b4 (clsC u.ses (.slice (some ⟨a8, 0, none⟩) (i + 1) c8)) ?_)))
   refine .blk_n (.fold (p := clsJ (ptc b3 [vptr c] 30) c b4 τ u.ses (ownedZ τ u.ses).reverse (i + 1)) (q := [ptc b3 [vptr c] 30, treeR c (closeT ((ownedZ τ u.ses).reverse.take (i + 1)) τ), ptc b4 (clsC u.ses (.slice (some ⟨a8, 0, none⟩) (i + 1) c8)) 43, slR 43 8 (.slice (some ⟨a8, 0, none⟩) (i + 1) c8) (i + 1) ((closeL ((ownedZ τ u.ses).reverse.take (i + 1)) τ).flatMap ptC)]) (by repeat' constructor) (fun h hp => ⟨_, ⟨_, _, rfl⟩, hp⟩) ?_)
   exact .rnd (by repeat' constructor) (by repeat' constructor)
  rintro v L' ⟨b7, rfl, rfl⟩
  refine D.hh rfl (.c Tryz.func98 [_] (parent_spec ((ownedZ τ u.ses).reverse[i]) (by omega))) ?_
  rintro v L' ⟨rfl, rfl⟩
  refine D.hh rfl (.c Tryz.func13 [_, _] (trstat_spec c (closeT ((ownedZ τ u.ses).reverse.take i) τ) (parentZ ((ownedZ τ u.ses).reverse[i])) (N + N) hok hN2)) ?_
  rintro v L' ⟨rfl, rfl⟩
  refine D.mv rfl rfl (.kv rfl (.extract rfl rfl) (.k rfl (.extract rfl rfl) (.sa rfl rfl rfl sz_37 (by intro v hv; simp only [stC, List.mem_cons, List.not_mem_nil, or_false] at hv; rcases hv with rfl | rfl | rfl | rfl | rfl | rfl | rfl | rfl | rfl <;> rfl) ?_)))
  refine D.ph (.g0 (.kv rfl (.assign rfl) (.ph (.fin (.pc b7 (stC (statD (closeT ((ownedZ τ u.ses).reverse.take i) τ) (parentZ ((ownedZ τ u.ses).reverse[i])))) ?_)))))
  refine .then_n (GR.seq (GR.region (by rintro ⟨_, _, h⟩; exact h) rfl (.m rfl (.u (.fieldAddr rfl fo_37_4) (.u (.ld rfl ag_3) (.u (.addW rfl rfl) (.q (.build (us := [(0, _), (1, _), (5, _)]) fl_43 ze_43 rfl rfl (by simp [isCell])) rfl (.oq (.allocA ze_43) ?_))))))))
  rintro v L' ⟨b9, rfl, rfl⟩
  refine .sa rfl rfl sz_43 (by (first | (simp [isCell]; done) | (simp [isCell, setAll, Value.cells]; done))) ?_
  refine .nil (.pc b9 (ptC (delX (closeT ((ownedZ τ u.ses).reverse.take i) τ) (ownedZ τ u.ses).reverse[i])) ?_)
  refine .then_n (GR.seq (GR.draw (by rintro ⟨_, _, h⟩; exact h) rfl [2, 5] [[0, 1, 3, 2, 4], [5]] mixed (by kernel_rfl) (.go [ptc b3 _ _, ptc b9 _ _] (by repeat' constructor) (.k rfl (.ld rfl ag_30) (.kv rfl (.ld rfl ag_30) (.k rfl (.to (v' := .agg (ptC (delX (closeT ((ownedZ τ u.ses).reverse.take i) τ) (ownedZ τ u.ses).reverse[i])).toArray) (.loadA rfl ag_43 (by repeat' constructor) (by simp [ptC])) (by rfl)) (.hh rfl (.c Tryz.func64 [_] (trzxid_spec c (closeT ((ownedZ τ u.ses).reverse.take i) τ))) ?_)))))))
  rintro v L' ⟨rfl, rfl⟩
  refine D.kv rfl (.buildN (pl := [(0, 1), (1, 1), (2, 1), (3, 8)]) (us := [(0, vint (closeT ((ownedZ τ u.ses).reverse.take i) τ).zx), (3, .agg (ptC (delX (closeT ((ownedZ τ u.ses).reverse.take i) τ) (ownedZ τ u.ses).reverse[i])).toArray)]) (cells := [vint (closeT ((ownedZ τ u.ses).reverse.take i) τ).zx, vint 0, vint 0] ++ ptC (delX (closeT ((ownedZ τ u.ses).reverse.take i) τ) (ownedZ τ u.ses).reverse[i])) Tryz.underlying54 (by kernel_rfl) ze_54 rfl (fill_entry _ _ _ _ _ _ _ _ _)) (.ph (.g0 (.hh rfl (.call Tryz.func33 rfl rfl (vs := [_, _]) rfl (trapply_spec c (closeT ((ownedZ τ u.ses).reverse.take i) τ) (closeT ((ownedZ τ u.ses).reverse.take i) τ).zx 0 0 (delX (closeT ((ownedZ τ u.ses).reverse.take i) τ) (ownedZ τ u.ses).reverse[i]) [] nilP (txS_ok _ (by omega)) (N + N) hok (by show N + N + 0 ≤ _; omega))) ?_)))
  rintro v L' ⟨ue, ee, rfl, -, ⟨ae, ce, rfl⟩, rfl⟩; rw [← closeT_step hi2 τ]
  refine D.pf (GR.draw (by rintro ⟨_, _, h⟩; exact h) rfl [4, 5, 7, 9] [[0, 1, 2, 3, 4], [5], [6, 8, 7, 9]] mixed (by kernel_rfl) (.go [ptc b9 _ _, ptc b4 _ _] (by repeat' constructor) (.k rfl (.fieldAddr rfl fo_43_7) (.k rfl (.ld rfl ag_41) (.k rfl (.to (v' := .agg (ptC (delX (closeT ((ownedZ τ u.ses).reverse.take i) τ) (ownedZ τ u.ses).reverse[i])).toArray) (.loadA rfl ag_43 (by repeat' constructor) (by simp [ptC])) (by rfl)) (.k rfl (.slen rfl Tryz.underlying41 rfl) (.hh rfl (.buildSlice (vs := [_]) el_41 ze_43 rfl rfl rfl rfl (by first | (simp [Value.cells]; done) | (intro v hv; simp only [List.mem_cons, List.not_mem_nil, or_false] at hv; (repeat (first | (subst hv; rfl) | (rcases hv with hv | hv; (subst hv; rfl)))))) (by decide)) ?_)))))))
  rintro v L' ⟨b10, rfl, rfl⟩
  refine D.ph (.g0 (.hh rfl (.append1S rfl rfl rfl el_41 ze_43 rfl rfl ?c187 ?c188 (Nat.le_refl _) ?c189 (by decide) (by decide)) ?_))
  case c187 => simp only [List.map_cons, List.map_nil, List.flatten_cons, List.flatten_nil, List.append_nil]; simp only [Value.cells]; intro z hz; simp at hz; rcases hz with rfl | rfl | rfl | rfl | rfl | rfl | rfl | rfl <;> rfl
  case c188 => rfl
  case c189 => have := owned_len τ u.ses; have := ho.few; omega
  rintro v L' ⟨a8, c8, rfl, rfl⟩
  refine D.ph (.g0 (.k rfl (.indexAddr rfl rfl el_41 (by omega)) (.k rfl (.fieldAddr rfl fo_43_7) (.h2 (k := 9) rfl rfl (by kernel_rfl) rfl (.storeRdA (sz := 8) (j := i * 8) (k := 8) (vs := ptC (delX (closeT ((ownedZ τ u.ses).reverse.take i) τ) (ownedZ τ u.ses).reverse[i])) rfl rfl (pt_cells rfl rfl) sz_43 rfl ?ho194 ?hi195) (by repeat' constructor) (.store rfl rfl rfl sz_41 ?c196 (nfz0 _ _)) (by repeat' constructor) ?_ ?_))))
  case ho194 => simp
  case hi195 => omega
  case c196 => simp [clsC]
  ·rintro v L' rfl
   refine D.hh rfl (.store rfl rfl rfl sz_41 ?c200 (nfz0 _ _)) ?_
   case c200 => simp [clsC]
   rintro v L' rfl
   refine D.ph (.fin (.slCast (T := 43) (sz := 8) (m' := i + 1) (xs' := (closeL ((ownedZ τ u.ses).reverse.take (i + 1)) τ).flatMap ptC) (by repeat' constructor) (by exact rfl) (by rw [closeL_step hi2 τ, List.flatMap_append]; exact spl_app (by rw [flat8_len, closeL_len, List.length_take, Nat.min_eq_left (Nat.le_of_lt hi2)]) rfl) (.pc b4 (clsC u.ses (.slice (some ⟨a8, 0, none⟩) (i + 1) c8)) ?_)))
   refine .blk_n (.fold (p := clsJ (ptc b3 [vptr c] 30) c b4 τ u.ses (ownedZ τ u.ses).reverse (i + 1)) (q := [ptc b3 [vptr c] 30, treeR c (closeT ((ownedZ τ u.ses).reverse.take (i + 1)) τ), ptc b4 (clsC u.ses (.slice (some ⟨a8, 0, none⟩) (i + 1) c8)) 43, slR 43 8 (.slice (some ⟨a8, 0, none⟩) (i + 1) c8) (i + 1) ((closeL ((ownedZ τ u.ses).reverse.take (i + 1)) τ).flatMap ptC)]) (by repeat' constructor) (fun h hp => ⟨_, ⟨_, _, rfl⟩, hp⟩) ?_)
   exact .rnd (by repeat' constructor) (by repeat' constructor)
  rintro v L' rfl
  refine D.hh rfl (.storeRdA (sz := 8) (j := i * 8) (k := 8) (vs := ptC (delX (closeT ((ownedZ τ u.ses).reverse.take i) τ) (ownedZ τ u.ses).reverse[i])) rfl rfl (pt_cells rfl rfl) sz_43 rfl ?ho203 ?hi204) ?_
  case ho203 => simp
  case hi204 => omega
  rintro v L' rfl
  refine D.ph (.fin (.slCast (T := 43) (sz := 8) (m' := i + 1) (xs' := (closeL ((ownedZ τ u.ses).reverse.take (i + 1)) τ).flatMap ptC) (by repeat' constructor) (by exact rfl) (by rw [closeL_step hi2 τ, List.flatMap_append]; exact spl_app (by rw [flat8_len, closeL_len, List.length_take, Nat.min_eq_left (Nat.le_of_lt hi2)]) rfl) (.pc b4 (clsC u.ses (.slice (some ⟨a8, 0, none⟩) (i + 1) c8)) ?_)))
  refine .blk_n (.fold (p := clsJ (ptc b3 [vptr c] 30) c b4 τ u.ses (ownedZ τ u.ses).reverse (i + 1)) (q := [ptc b3 [vptr c] 30, treeR c (closeT ((ownedZ τ u.ses).reverse.take (i + 1)) τ), ptc b4 (clsC u.ses (.slice (some ⟨a8, 0, none⟩) (i + 1) c8)) 43, slR 43 8 (.slice (some ⟨a8, 0, none⟩) (i + 1) c8) (i + 1) ((closeL ((ownedZ τ u.ses).reverse.take (i + 1)) τ).flatMap ptC)]) (by repeat' constructor) (fun h hp => ⟨_, ⟨_, _, rfl⟩, hp⟩) ?_)
  exact .rnd (by repeat' constructor) (by repeat' constructor)
 refine .open (q := fun z : Value => [ptc b3 [vptr c] 30, treeR c (closeT ((ownedZ τ u.ses).reverse.take (ownedZ τ u.ses).length) τ), ptc b4 (clsC u.ses z) 43, slR 43 8 z (ownedZ τ u.ses).length ((closeL ((ownedZ τ u.ses).reverse.take (ownedZ τ u.ses).length) τ).flatMap ptC)]) (φ := fun z : Value => ∃ a k, z = .slice a (ownedZ τ u.ses).length k) (fun _ hp => hp) ?_
 rintro z ⟨az, cz, rfl⟩
 have htk : (ownedZ τ u.ses).reverse.take (ownedZ τ u.ses).length = (ownedZ τ u.ses).reverse := List.take_of_length_le (by omega)
 rw [htk]
 refine .blk_n (.then_n (.sr (.q (.la (clsC u.ses (.slice az (ownedZ τ u.ses).length cz)) rfl ag_43) rfl (.sa rfl rfl sz_43 (by simp [clsC, isCell]) ?_))))
 refine .nil (.pc bx (clsC u.ses (.slice az (ownedZ τ u.ses).length cz)) ?_)
 have hcl : (closeL (ownedZ τ u.ses).reverse τ).length = (ownedZ τ u.ses).length := by rw [closeL_len, hlr]
 refine .slCast (T := 43) (sz := 8) (m' := (closeL (ownedZ τ u.ses).reverse τ).length) (xs' := (closeL (ownedZ τ u.ses).reverse τ).flatMap ptC) (by repeat' constructor) (by omega) rfl (.add (p := bigR aclR (closeL (ownedZ τ u.ses).reverse τ)) (big_none fun y hy => ⟨(closeL_plain _ _ y hy).1, (closeL_plain _ _ y hy).2.1⟩) (.then_n (.ret ?_)))
 exact .doneM1 rfl (by repeat' constructor) (.cellA rfl ag_43 (by repeat' constructor) (by simp [clsC]) rfl) ⟨.slice az (ownedZ τ u.ses).length cz, closeL (ownedZ τ u.ses).reverse τ, rfl, map_pl fun y hy => (closeL_plain _ _ y hy).2.2.2, ⟨az, cz, by rw [hcl]⟩, fun y hy => ⟨by rw [(closeL_plain _ _ y hy).1]; rfl, (closeL_plain _ _ y hy).2.2.1⟩, rfl⟩ (by repeat' constructor) (by repeat' constructor)
theorem ptxnA_spec (t : Nat) (τ : Tr) (u : Who) (iv : Value) (r : Rq) (p : HP) (hA : WiA p u iv r) (N : Nat) (ho : τ.Ok N) (hN : N ≤ 1099511627776) (hw : TrW τ) (hN2 : N + 16 ≤ 1099511627776) (subs : List Rq) (hr : ∀ h : Hp, p h → rdS 10 h r.subsV subs.length (subs.flatMap rqC)) (hS : ∀ x ∈ subs, WiA p u iv x) (hSa : ∀ x ∈ subs, AclW x.acl) (hN3 : N + N ≤ 1099511627776) : Fn Tryz.prog 14 #[vptr t, vint u.ses, iv, .agg (rqC r).toArray] [treeR t τ, p] fun v L =>
    ∃ (y : Pt) (ys : List Pt), v = .agg (ptC y).toArray ∧ y.pl = (txnP τ u r subs).1 ∧ ys.map Pt.pl = (txnP τ u r subs).2 ∧ (isCell y.aclV = true ∧ ∃ a c, y.subsV = .slice a ys.length c) ∧ (∀ z ∈ ys, isCell z.aclV = true ∧ z.subsV = nilV) ∧ L = [treeR t τ, p, aclR y, slR 43 8 y.subsV ys.length (ys.flatMap ptC), bigR aclR ys] := by
 refine Fn.intro Tryz.func14 rfl rfl fun F W => ?_
 have hcl := hA.cells t
 refine .sr (.oq (.box rfl) ?_)
 rintro v L' ⟨b7, rfl, rfl⟩
 refine .oq (.allocA ze_43) ?_
 rintro v L' ⟨b8, rfl, rfl⟩
 refine .nil (.pc b7 (rqC r) ?_)
 refine .then_n (.seq (.sm rfl (.q (.ptreq rfl rfl Tryz.underlying30) rfl (.nt (.condF rfl (.sk (.sm rfl (.m rfl (.cv Tryz.func44 [_, _] (trsession_spec t τ u.ses) ?_)))))))))
 refine .m rfl (.u (.extract rfl rfl) (.u (.extract rfl rfl) (.u (.extract rfl rfl) (.a rfl (.a rfl (.an rfl (.sm rfl (.m rfl (.m rfl (.q (.la (rqC r) rfl ag_28) rfl (.q (.to (v' := .agg (wiC t u iv r).toArray) (.buildN (pl := [(0, 1), (1, 1), (2, 1), (3, 10)]) (us := [(0, vptr t), (1, vint u.ses), (2, iv), (3, .agg (rqC r).toArray)]) (cells := wiC t u iv r) Tryz.underlying99 (by kernel_rfl) ze_99 rfl (fill_wish t u iv hA.shape r)) rfl) rfl (.oq (.allocA ze_99) ?_))))))))))))
 rintro v L' ⟨b1, rfl, rfl⟩
 refine .sa rfl rfl sz_99 (by exact fun v hv => List.all_eq_true.1 hcl v hv) ?_
 refine .nil (.pc b1 (wiC t u iv r) ?_)
 refine .then_n (.seq (.block (.sr (.u (.fieldAddr rfl fo_28_0) (.u (.ld rfl ag_3) (.cv Tryz.func21 [_] (pchanges_spec r.kind) ?_))))))
 refine .u (.not rfl) (.an rfl (.condB rfl (fun h30 => ?_) (fun h30 => ?_)))
 ·have hT : txnP τ u r subs = (refusal 110 (-1), []) := if_pos (by simpa using h30)
  refine .sr (.cv Tryz.func43 [_, _] (prefusal_spec 110 (-1)) ?_)
  refine .sa rfl rfl sz_43 (by simp [ptC, refusal, isCell]) ?_
  refine .nil (.pc b8 ([vint ((refusal 110 (-1))).kind, vstr ((refusal 110 (-1))).path, vstr ((refusal 110 (-1))).data, nilV, vint ((refusal 110 (-1))).own, vint ((refusal 110 (-1))).num, vint ((refusal 110 (-1))).err, nilV]) ?_)
  refine .add (slR_nil 85 2) (.add (slR_nil 43 8) (.add (p := bigR aclR []) (fun h => big_nil h) (.then_n (.ret (.blk_r (.then_r ?_))))))
  exact .d1 rfl (.cellA rfl ag_43 (by repeat' constructor) (by simp [spl, setAll]) rfl) ⟨refusal 110 (-1), [], rfl, by rw [hT]; rfl, by rw [hT]; rfl, ⟨rfl, none, 0, rfl⟩, (fun _ h => by cases h), rfl⟩
 have hc : changesK r.kind = true := by simpa using h30
 refine .sm rfl (.u (.not rfl) (.an rfl (.condN rfl (fun h36 => ?_) (fun h36 => ?_))))
 ·have hT : txnP τ u r subs = (refusal 67 (-1), []) := by unfold txnP; rw [if_neg (fun g => g hc), if_pos h36]
  refine .sr (.cv Tryz.func43 [_, _] (prefusal_spec 67 (-1)) ?_)
  refine .sa rfl rfl sz_43 (by simp [ptC, refusal, isCell]) ?_
  refine .nil (.pc b8 ([vint ((refusal 67 (-1))).kind, vstr ((refusal 67 (-1))).path, vstr ((refusal 67 (-1))).data, nilV, vint ((refusal 67 (-1))).own, vint ((refusal 67 (-1))).num, vint ((refusal 67 (-1))).err, nilV]) ?_)
  refine .add (slR_nil 85 2) (.add (slR_nil 43 8) (.add (p := bigR aclR []) (fun h => big_nil h) (.then_n (.ret (.blk_r (.then_r ?_))))))
  exact .d1 rfl (.cellA rfl ag_43 (by repeat' constructor) (by simp [spl, setAll]) rfl) ⟨refusal 67 (-1), [], rfl, by rw [hT]; rfl, by rw [hT]; rfl, ⟨rfl, none, 0, rfl⟩, (fun _ h => by cases h), rfl⟩
 refine .sr (.u (.fieldAddr rfl fo_28_0) (.u (.ld rfl ag_3) (.ui rfl rfl rfl (.an rfl (.condD rfl (fun h40 => ?_) (fun h40 => ?_))))))
 ·have hT : txnP τ u r subs = multiP τ u subs := by unfold txnP; rw [if_neg (fun g => g hc), if_neg (fun g => g h36), if_pos h40]
  refine .sr (.q (.la (wiC t u iv r) rfl ag_99) rfl (.oq (.c Tryz.func45 [_] (pmulti_spec t τ u iv r p hA N ho hN hw hN2 subs hr hS hSa)) ?_))
  rintro v L' ⟨w, ys, rfl, hys, ⟨aw, cw, rfl⟩, hyk, rfl⟩
  refine .sa rfl rfl sz_43 (by exact ptC_ws (by rw [(multi_acl τ u subs).1]; rfl)) ?_
  refine .nil (.pc b8 ([vint ((multiP τ u subs).1).kind, vstr ((multiP τ u subs).1).path, vstr ((multiP τ u subs).1).data, (multiP τ u subs).1.aclV, vint ((multiP τ u subs).1).own, vint ((multiP τ u subs).1).num, vint ((multiP τ u subs).1).err, .slice aw ys.length cw]) ?_)
  refine .add (slR_nil 85 2) (.as (q := aclR ((multiP τ u subs).1.ws (.slice aw ys.length cw))) (p := slR 85 2 nilV 0 []) (by repeat' constructor) (by show _ = slR _ _ (multiP τ u subs).1.aclV (multiP τ u subs).1.acl.length ((multiP τ u subs).1.acl.flatMap acC); rw [(multi_acl τ u subs).1, (multi_acl τ u subs).2]; rfl) (.then_n (.ret (.blk_r (.then_r ?_)))))
  exact .d1 rfl (.cellA rfl ag_43 (by repeat' constructor) (by simp [spl, setAll]) rfl) ⟨(multiP τ u subs).1.ws (.slice aw ys.length cw), ys, rfl, by rw [hT]; exact multi_pl τ u subs _, by rw [hT]; exact hys, ⟨by show isCell (multiP τ u subs).1.aclV = true; rw [(multi_acl τ u subs).1]; rfl, aw, cw, rfl⟩, hyk, rfl⟩
 refine .sr (.u (.fieldAddr rfl fo_28_0) (.u (.ld rfl ag_3) (.ui rfl rfl rfl (.an rfl (.condD rfl (fun h46 => ?_) (fun h46 => ?_))))))
 ·have hT : txnP τ u r subs = (noopX, []) := by unfold txnP; rw [if_neg (fun g => g hc), if_neg (fun g => g h36), if_neg h40, if_pos h46]
  refine .sr (.q (.build (us := [(0, _)]) fl_43 ze_43 rfl rfl (by simp [isCell])) rfl (.sa rfl rfl sz_43 (by (first | (simp [isCell]; done) | (simp [isCell, setAll, Value.cells]; done))) ?_))
  refine .nil (.pc b8 ([vint (noopX).kind, vstr (noopX).path, vstr (noopX).data, nilV, vint (noopX).own, vint (noopX).num, vint (noopX).err, nilV]) ?_)
  refine .add (slR_nil 85 2) (.add (slR_nil 43 8) (.add (p := bigR aclR []) (fun h => big_nil h) (.then_n (.ret (.blk_r (.then_r ?_))))))
  exact .d1 rfl (.cellA rfl ag_43 (by repeat' constructor) (by simp [spl, setAll]) rfl) ⟨noopX, [], rfl, by rw [hT]; rfl, by rw [hT]; rfl, ⟨rfl, none, 0, rfl⟩, (fun _ h => by cases h), rfl⟩
 refine .sr (.u (.fieldAddr rfl fo_28_0) (.u (.ld rfl ag_3) (.ui rfl rfl rfl (.an rfl (.condD rfl (fun h51 => ?_) (fun h51 => ?_))))))
 ·have hT : txnP τ u r subs = closeP τ u.ses := by unfold txnP; rw [if_neg (fun g => g hc), if_neg (fun g => g h36), if_neg h40, if_neg h46, if_pos h51]
  refine .sr (.q (.la (wiC t u iv r) rfl ag_99) rfl (.oq (.c Tryz.func46 [_] (pcloses_spec t τ u iv r p hA N ho hN hN3)) ?_))
  rintro v L' ⟨w, ys, rfl, hys, ⟨aw, cw, rfl⟩, hyk, rfl⟩
  refine .sa rfl rfl sz_43 (by exact ptC_ws (by rfl)) ?_
  refine .nil (.pc b8 ([vint ((closeP τ u.ses).1).kind, vstr ((closeP τ u.ses).1).path, vstr ((closeP τ u.ses).1).data, (closeP τ u.ses).1.aclV, vint ((closeP τ u.ses).1).own, vint ((closeP τ u.ses).1).num, vint ((closeP τ u.ses).1).err, .slice aw ys.length cw]) ?_)
  refine .add (slR_nil 85 2) (.as (q := aclR ((closeP τ u.ses).1.ws (.slice aw ys.length cw))) (p := slR 85 2 nilV 0 []) (by repeat' constructor) rfl (.then_n (.ret (.blk_r (.then_r ?_)))))
  exact .d1 rfl (.cellA rfl ag_43 (by repeat' constructor) (by simp [spl, setAll]) rfl) ⟨(closeP τ u.ses).1.ws (.slice aw ys.length cw), ys, rfl, by rw [hT]; rfl, by rw [hT]; exact hys, ⟨rfl, aw, cw, rfl⟩, hyk, rfl⟩
 have hk8 : r.kind ≠ 8 := h51
 refine .skip (.blk_n (.then_n (.sr (.q (.la (wiC t u iv r) rfl ag_99) rfl (.oq (.c Tryz.func47 [_] (ppart_spec t τ u iv r p hA N ho hN (cver_i64 hw _))) ?_)))))
 rintro v L' ⟨w, rfl, ⟨aw, cw, rfl⟩, rfl⟩
 refine .m rfl (.u (.extract rfl rfl) (.u (.extract rfl rfl) (.oq (.allocA ze_43) ?_)))
 rintro v L' ⟨b13, rfl, rfl⟩
 refine .sa rfl rfl sz_43 (by exact fun v hv => List.all_eq_true.1 (ptC_cells ⟨none, 0, 0, part_sub τ u r⟩) v hv) ?_
 refine .a rfl (.nil (.pc b13 ([vint ((partP τ u r).1).kind, vstr ((partP τ u r).1).path, vstr ((partP τ u r).1).data, .slice aw (partP τ u r).1.acl.length cw, vint ((partP τ u r).1).own, vint ((partP τ u r).1).num, vint ((partP τ u r).1).err, (partP τ u r).1.subsV]) ?_))
 refine .then_n (.seq (.sm rfl (.ui rfl rfl rfl (.nt (.condN rfl (fun h63 => ?_) (fun h63 => ?_))))))
 ·have hT : txnP τ u r subs = (refusal (partP τ u r).2 (-1), []) := by unfold txnP; rw [if_neg (fun g => g hc), if_neg (fun g => g h36), if_neg h40, if_neg h46, if_neg hk8, if_pos h63]
  refine .sm rfl (.cv Tryz.func43 [_, _] (prefusal_spec (partP τ u r).2 (-1)) ?_)
  refine .sa rfl rfl sz_43 (by simp [ptC, refusal, isCell]) ?_
  refine .nil (.pc b8 ([vint ((refusal (partP τ u r).2 (-1))).kind, vstr ((refusal (partP τ u r).2 (-1))).path, vstr ((refusal (partP τ u r).2 (-1))).data, nilV, vint ((refusal (partP τ u r).2 (-1))).own, vint ((refusal (partP τ u r).2 (-1))).num, vint ((refusal (partP τ u r).2 (-1))).err, nilV]) ?_)
  refine .add (slR_nil 85 2) (.add (slR_nil 43 8) (.add (p := bigR aclR []) (fun h => big_nil h) (.then_n (.rt ?_))))
  exact .d1 rfl (.cellA rfl ag_43 (by repeat' constructor) (by simp [spl, setAll]) rfl) ⟨refusal (partP τ u r).2 (-1), [], rfl, by rw [hT]; rfl, by rw [hT]; rfl, ⟨rfl, none, 0, rfl⟩, (fun _ h => by cases h), rfl⟩
 have hT : txnP τ u r subs = ((partP τ u r).1, []) := by unfold txnP; rw [if_neg (fun g => g hc), if_neg (fun g => g h36), if_neg h40, if_neg h46, if_neg hk8, if_neg (fun g => g h63)]
 refine .sk (.sr (.q (.to (v' := .agg ([vint ((partP τ u r).1).kind, vstr ((partP τ u r).1).path, vstr ((partP τ u r).1).data, .slice aw (partP τ u r).1.acl.length cw, vint ((partP τ u r).1).own, vint ((partP τ u r).1).num, vint ((partP τ u r).1).err, nilV]).toArray) (.loadA rfl ag_43 (by repeat' constructor) (by simp)) (by rw [← part_sub τ u r]; rfl)) rfl (.sa rfl rfl sz_43 (by simp [isCell]) ?_)))
 refine .nil (.pc b8 ([vint ((partP τ u r).1).kind, vstr ((partP τ u r).1).path, vstr ((partP τ u r).1).data, .slice aw (partP τ u r).1.acl.length cw, vint ((partP τ u r).1).own, vint ((partP τ u r).1).num, vint ((partP τ u r).1).err, nilV]) ?_)
 refine .add (slR_nil 43 8) (.add (p := bigR aclR []) (fun h => big_nil h) (.then_n (.ret ?_)))
 exact .d1 rfl (.cellA rfl ag_43 (by repeat' constructor) (by simp [spl, setAll]) rfl) ⟨(withA (partP τ u r).1 (.slice aw (partP τ u r).1.acl.length cw)).ws nilV, [], rfl, by rw [hT]; exact part_pl τ u r (.slice aw (partP τ u r).1.acl.length cw), by rw [hT]; rfl, ⟨rfl, none, 0, rfl⟩, (fun _ h => by cases h), rfl⟩
theorem ses_iff12 {τ : Tr} {id : Int} : sesP τ id < 0 ↔ ¬ sesT τ id := by
 unfold sesP sesT
 rw [al_isSome]
 cases e : posK id (τ.sess.map (·.1)) with
 | none =>
  refine ⟨fun _ hm => ?_, fun _ => by show (-1 : Int) < 0; decide⟩
  have key : ∀ l : List Int, id ∈ l → posK id l ≠ none := by
   intro l
   induction l with
   | nil => intro h; cases h
   | cons y l ih =>
    intro h
    unfold posK
    split
    ·simp
    ·rcases List.mem_cons.1 h with rfl | h
     ·rename_i g; exact absurd rfl g
     ·simpa using ih h
  exact key _ hm e
 | some i =>
  obtain ⟨g1, g2, -⟩ := posK_get e
  refine ⟨fun h => ?_, fun h => absurd (g2 ▸ List.getElem_mem g1) h⟩
  have h : (i : Int) < 0 := h
  omega
theorem Quiet.loadEx {P : Program} {E : Env} {L R : List HP} {ty : TypeId} {t : TypeId} {x : Operand} {b off : Nat} {v : Value} {p : HP} (hx : ev E x = some (.pointer (some ⟨b, off, none⟩)))
  (hp : aggOf P t = some none) (hL : Pick p L R) (hr : ∀ h : Hp, p h → ∃ (l : List Value) (T : TypeId) (fr : Nat × Nat), h b = some (.cells l.toArray T fr) ∧ l[off]? = some v) : Quiet P ⟨none, .load t x, ty, "", #[], none⟩ E L v := by
 intro ρ w ha hs
 obtain ⟨h1, a1, hp1⟩ := sep_head (hs.pick hL)
 obtain ⟨l, T, fr, h2, h3⟩ := hr _ hp1
 have hb := a1 _ _ h2
 show (do pure (Next.value (← Instr.loadAt t (ρ x))) : Sem Next).run P w = _
 rw [ha x _ hx]
 have : (Instr.loadAt t (.pointer (some ⟨b, off, none⟩))).run P w = .ok v w := by
  unfold Instr.loadAt; exact run_loadVar1 hp hb h3
 rw [run_bind this]; rfl
theorem refR_zx {x : Nat} {τ : Tr} : ∀ h : Hp, refR x τ h → ∃ (l : List Value) (T : TypeId) (fr : Nat × Nat), h x = some (.cells l.toArray T fr) ∧ l[2]? = some (vint τ.zx) := by
 intro h hp
 obtain ⟨y, -, hs⟩ := hp
 exact ⟨_, _, _, sep_pt hs, rfl⟩
theorem del_num {τ : Tr} {p : Bs} : (thereT τ (parentZ p) → ∀ n, alook τ.nodes (parentZ p) = some n → (delX τ p).num = wrapI (n.st.cver + 1)) ∧ (¬ thereT τ (parentZ p) → (delX τ p).num = 1) := by
 constructor
 ·intro _ n hn
  show wrapI ((statD τ (parentZ p)).cver + 1) = _
  rw [st_of hn]
 ·intro h
  show wrapI ((statD τ (parentZ p)).cver + 1) = 1
  have e : statD τ (parentZ p) = st0 := by
   unfold statD statZ
   unfold thereT at h
   cases e : alook τ.nodes (parentZ p) with
   | none => rfl
   | some y => rw [e] at h; exact absurd rfl h
  rw [e]; rfl
theorem r12refusal_spec (e n : Int) : Fn Tryz.prog 48 #[vint e, vint n] [] fun v L => v = .agg (ptC (refusal (e) (n))).toArray ∧ L = [] := by
 refine Fn.intro Tryz.func48 rfl rfl fun F W => ?_
 refine .sr (.oq (.allocA ze_43) ?_)
 rintro v L' ⟨b4, rfl, rfl⟩
 refine .nt (.sm rfl (.m rfl (.q (.to (v' := .agg (ptC (refusal (e) (n))).toArray) (.build (us := [(0, _), (6, _), (5, _)]) fl_43 ze_43 rfl rfl (by simp [isCell])) rfl) rfl (.sa rfl rfl sz_43 (by exact pt_cells (y := (refusal (e) (n))) rfl rfl) ?_))))
 refine .nil (.pc b4 (ptC (refusal (e) (n))) ?_)
 refine .then_n (.ret ?_)
 exact .d1 rfl (.cellA rfl ag_43 (by repeat' constructor) (by simp [ptC]) rfl) ⟨rfl, rfl⟩
theorem r12multi_spec (x : Nat) (τ : Tr) (u : Who) (iv : Value) (r : Rq) (p : HP) (hA : WiA p u iv r) (N : Nat) (ho : τ.Ok N) (hN : N ≤ 1073741824) (hw : TrW τ) (hN2 : N + 16 ≤ 1073741824) (subs : List Rq) (hr : ∀ h : Hp, p h → rdS 10 h r.subsV subs.length (subs.flatMap rqC)) (hS : ∀ x ∈ subs, WiA p u iv x) (hSa : ∀ x ∈ subs, AclW x.acl) : Fn Tryz.prog 50 #[vptr x, vint u.ses, iv, .agg (rqC r).toArray] [refR x τ, p] fun v L => ∃ (y : Pt) (ys : List Pt), v = .agg (ptC y).toArray ∧ y.pl = (multiP τ u subs).1 ∧ ys.map Pt.pl = (multiP τ u subs).2 ∧ (isCell y.aclV = true ∧ ∃ a c, y.subsV = .slice a ys.length c) ∧ (∀ z ∈ ys, isCell z.aclV = true ∧ z.subsV = nilV) ∧ L = [refR x τ, p, aclR y, slR 43 8 y.subsV ys.length (ys.flatMap ptC), bigR aclR ys] := by
 refine Fn.intro Tryz.func50 rfl rfl fun F W => ?_
 refine .rdAny (p := p) hr (by repeat' constructor) fun aa ca hsv _ => ?_
 have hr2 : ∀ h : Hp, p h → rdS 10 h (.slice aa subs.length ca) subs.length (subs.flatMap rqC) := fun h hp => hsv ▸ hr h hp
 refine .sr (.oq (.box rfl) ?_)
 rintro v L' ⟨b7, rfl, rfl⟩
 refine .oq (.allocA ze_43) ?_
 rintro v L' ⟨b8, rfl, rfl⟩
 refine .nil (.pc b7 (rqC r) ?_)
 refine .then_n (.seq (.sr (.u (.fieldAddr rfl fo_28_8) (.q (.to (v' := .slice _ subs.length ca) (.load rfl ag_25 (by repeat' constructor) (by rfl)) hsv) rfl (.q (.slen rfl Tryz.underlying25 rfl) rfl (.ui rfl rfl rfl (.m rfl (.dec (t := 18) rfl (fun h1_18 => ?_) (fun h1_18 => ?_)))))))))
 ·refine .kDT (t := 17) rfl h1_18 (.gk (.gk (.gk (.gk (.u (.pickT rfl rfl) (.nt (.condT rfl (.seq ?_))))))))
  have hm : multiP τ u subs = (refusal 1 (-1), []) := by unfold multiP; rw [if_pos (by omega)]
  refine .region (.cv Tryz.func48 [_, _] (r12refusal_spec 1 (-1)) ?_)
  refine .sa rfl rfl sz_43 (by exact pt_cells (y := refusal 1 (-1)) rfl rfl) ?_
  refine .nil (.pc b8 (ptC (refusal 1 (-1))) ?_)
  refine .add (slR_nil 85 2) (.add (slR_nil 43 8) (.add (p := bigR aclR []) (fun h => big_nil h) (.then_n (.rt ?_))))
  exact .d1 rfl (.cellA rfl ag_43 (by repeat' constructor) (by simp [ptC]) rfl) ⟨refusal 1 (-1), [], rfl, by rw [hm]; rfl, by rw [hm]; rfl, ⟨rfl, none, 0, rfl⟩, (fun _ h => by cases h), rfl⟩
 refine .kDF (t := 17) rfl h1_18 (.grun (t := 18) rfl rfl rfl (.u (.fieldAddr rfl fo_28_8) (.grun (t := 18) rfl rfl rfl (.q (.to (v' := .slice _ subs.length ca) (.load rfl ag_25 (by repeat' constructor) (by rfl)) hsv) rfl (.grun (t := 18) rfl rfl rfl (.q (.slen rfl Tryz.underlying25 rfl) rfl (.grun (t := 18) rfl rfl rfl (.ui rfl rfl rfl (.u (.pickF rfl rfl) (.nt (.condD rfl (fun h23 => ?_) (fun h23 => ?_))))))))))))
 ·refine .seq ?_
  have hm : multiP τ u subs = (refusal 1 (-1), []) := by unfold multiP; rw [if_pos (by omega)]
  refine .region (.cv Tryz.func48 [_, _] (r12refusal_spec 1 (-1)) ?_)
  refine .sa rfl rfl sz_43 (by exact pt_cells (y := refusal 1 (-1)) rfl rfl) ?_
  refine .nil (.pc b8 (ptC (refusal 1 (-1))) ?_)
  refine .add (slR_nil 85 2) (.add (slR_nil 43 8) (.add (p := bigR aclR []) (fun h => big_nil h) (.then_n (.rt ?_))))
  exact .d1 rfl (.cellA rfl ag_43 (by repeat' constructor) (by simp [ptC]) rfl) ⟨refusal 1 (-1), [], rfl, by rw [hm]; rfl, by rw [hm]; rfl, ⟨rfl, none, 0, rfl⟩, (fun _ h => by cases h), rfl⟩
 refine .sk (.seq ?_)
 have hlen8 : ¬ (subs.length = 0 ∨ subs.length > 8) := by omega
 refine .region (.m rfl (.oq (.c Tryz.func69 [_] (rclone_spec x τ N ho (by omega))) ?_))
 rintro v L' ⟨c, rfl, rfl⟩
 refine .an rfl (.sr (.q (.to (v' := .agg (ptC (⟨7, [], [], nilV, [], 0, 0, 0, nilV⟩ : Pt)).toArray) (.build (us := [(0, _)]) fl_43 ze_43 rfl rfl (by simp [isCell])) rfl) rfl (.oq (.allocA ze_43) ?_)))
 rintro v L' ⟨b10, rfl, rfl⟩
 refine .sa rfl rfl sz_43 (by exact pt_cells (y := (⟨7, [], [], nilV, [], 0, 0, 0, nilV⟩ : Pt)) rfl rfl) ?_
 refine .nil (.pc b10 (ptC (⟨7, [], [], nilV, [], 0, 0, 0, nilV⟩ : Pt)) ?_)
 refine .add (slR_nil 43 8) (.add (p := bigR aclR []) (fun h => big_nil h) (.then_n (.seq (.sr (.an rfl (.block (.loopK (ι := Nat × Tr × Value × (List Pt)) (fun q E => (11, vint q.1) :: E) (fun q => [refR c q.2.1, ptc b10 (ptC (⟨7, [], [], nilV, [], 0, 0, 0, q.2.2.1⟩ : Pt)) 43, slR 43 8 q.2.2.1 q.1 (q.2.2.2.flatMap ptC), bigR aclR q.2.2.2]) (fun q => q.1 ≤ subs.length ∧ (∃ a c, q.2.2.1 = .slice a q.1 c) ∧ MultiAt u subs τ q.1 q.2.1 (q.2.2.2.map Pt.pl) ∧ (∀ y ∈ q.2.2.2, isCell y.aclV = true ∧ y.subsV = nilV) ∧ q.2.1.Ok (N + q.1) ∧ TrW q.2.1) (fun q => subs.length - q.1) (0, τ, nilV, []) (ts := [1, 2, 7, 8, 9, 10]) (.cons rfl (.cons rfl (.cons rfl (.cons rfl (.cons rfl (.cons rfl (.nil))))))) (⟨Nat.zero_le _, ⟨none, 0, rfl⟩, MultiAt.zero u subs τ, (fun y hy => by cases hy), ho, hw⟩) ⟨rfl, rfl, rfl, rfl, rfl, rfl, rfl, trivial⟩ (by repeat' constructor) ?_)))))))
 rintro ⟨i, σ, z, ys⟩ ⟨hi, ⟨au, cu, hu⟩, hat, hyc, hok, hwσ⟩
 dsimp only
 dsimp only at hi hu hat hyc hok hwσ
 subst hu
 refine .seq (.sm rfl (.u (.fieldAddr rfl fo_28_8) (.q (.to (v' := .slice _ subs.length ca) (.load rfl ag_25 (by repeat' constructor) (by rfl)) hsv) rfl (.q (.slen rfl Tryz.underlying25 rfl) rfl (.ui rfl rfl rfl (.nt (.condD rfl (fun h32 => ?_) (fun h32 => ?_))))))))
 ·have hi2 : i < subs.length := by omega
  refine .rdShape (p := p) hr2 (by repeat' constructor) (by omega) fun ba oa e => ?_
  subst e
  refine .sk (.seq (.block (.sm rfl (.m rfl (.m rfl (.u (.fieldAddr rfl fo_28_8) (.q (.to (v' := .slice _ subs.length ca) (.load rfl ag_25 (by repeat' constructor) (by rfl)) hsv) rfl (.m rfl (.q (.indexAddr rfl rfl el_25 (by omega)) rfl (.q (.loadRdA (sz := 10) (j := i * 10) (k := 10) (p := p) (vs := rqC subs[i]) rfl ag_28 (by repeat' constructor) hr2 (by simp) (by omega) (by omega) (flatMap_at (f := rqC) (sz := 10) (fun _ _ => rfl) (by omega))) rfl (.oq (.call Tryz.func52 rfl rfl (vs := [_, _, _, _]) rfl (r12part_spec c σ u iv subs[i] p (hS _ (List.getElem_mem hi2)) (N + i) hok (by omega) hwσ)) ?_)))))))))))
  rintro v L' ⟨X, rfl, hX, hxa, hxs, rfl⟩
  refine .m rfl (.u (.extract rfl rfl) (.u (.extract rfl rfl) (.oq (.allocA ze_43) ?_)))
  rintro v L' ⟨b12, rfl, rfl⟩
  refine .sa rfl rfl sz_43 (by exact pt_cells hxa (by rw [hxs]; rfl)) ?_
  refine .a rfl (.nil (.pc b12 (ptC X) ?_))
  refine .then_n (.seq (.sm rfl (.ui rfl rfl rfl (.nt (.condN rfl (fun h48 => ?_) (fun h48 => ?_))))))
  ·have hm := hat.stop hi2 h48 hlen8
   refine .sm rfl (.m rfl (.cv Tryz.func48 [_, _] (r12refusal_spec _ _) ?_))
   refine .sa rfl rfl sz_43 (by exact pt_cells (y := refusal (partP σ u subs[i]).2 i) rfl rfl) ?_
   refine .nil (.pc b8 (ptC (refusal (partP σ u subs[i]).2 i)) ?_)
   refine .add (slR_nil 85 2) (.add (slR_nil 43 8) (.add (p := bigR aclR []) (fun h => big_nil h) (.then_n (.rt (.blk_r (.then_r (.then_r (.blk_r (.then_r ?_)))))))))
   exact .d1 rfl (.cellA rfl ag_43 (by repeat' constructor) (by simp [ptC]) rfl) ⟨refusal (partP σ u subs[i]).2 i, [], rfl, by rw [hm]; rfl, by rw [hm]; rfl, ⟨rfl, none, 0, rfl⟩, (fun _ h => by cases h), rfl⟩
  have h0 : (partP σ u subs[i]).2 = 0 := by omega
  have hpl := hX h0
  have hXR : PtR X := PtR.of (z := (partP σ u subs[i]).1) (by rw [← hpl]; rfl) (part_R (hS _ (List.getElem_mem hi2)) (hSa _ (List.getElem_mem hi2)))
  have hap : applyZ σ σ.zx X [] = applyZ σ σ.zx (partP σ u subs[i]).1 [] := by rw [← hpl]; rfl
  have hwa : TrW (applyZ σ σ.zx (partP σ u subs[i]).1 []).1 := hwσ.app (e := ⟨σ.zx, 0, 0, (partP σ u subs[i]).1, []⟩) ⟨hwσ.zx, part_n σ u hA.ses (by have := (hS _ (List.getElem_mem hi2)).rq.data; omega) (hSa _ (List.getElem_mem hi2)), fun _ h => by cases h⟩
  refine .sk (.seq (.draw [7] [[0, 1, 2, 3, 4, 5, 6, 7]] mixed (by kernel_rfl) (.g0 (.mv rfl rfl (.mv rfl rfl (.nf rfl rfl rfl fo_110_2 (.kv rfl (.loadEx (p := refR c σ) rfl ag_3 (by repeat' constructor) refR_zx) (.kv rfl (.la (ptC X) rfl ag_43) (.kv rfl (.buildN (pl := [(0, 1), (1, 1), (2, 1), (3, 8)]) (us := [(0, vint σ.zx), (3, .agg (ptC X).toArray)]) (cells := [vint σ.zx, vint 0, vint 0] ++ ptC X) Tryz.underlying54 (by kernel_rfl) ze_54 rfl (fill_entry _ _ _ _ _ _ _ _ _)) (.hh rfl (.call Tryz.func34 rfl rfl (vs := [_, _]) rfl (rapply_spec c σ σ.zx 0 0 X [] (aclR X) (aclR_tx hXR.many hXR.path hxs hxa) (N + i) hok (by show N + i + 0 + 1 ≤ _; omega))) ?_))))))))))
  rintro v L' ⟨ue, ee, rfl, -, ⟨ae, ce, rfl⟩, rfl⟩; rw [hap]
  refine D.pf (.region (.u (.fieldAddr rfl fo_43_7) (.u (.ld rfl ag_41) (.q (.la (ptC X) rfl ag_43) rfl (.oq (.buildSlice (vs := [_]) el_41 ze_43 rfl rfl rfl rfl (by first | (simp [Value.cells]; done) | (intro v hv; simp only [List.mem_cons, List.not_mem_nil, or_false] at hv; (repeat (first | (subst hv; rfl) | (rcases hv with hv | hv; (subst hv; rfl)))))) (by decide)) ?_)))))
  rintro v L' ⟨b13, rfl, rfl⟩
  refine .oq (.append1 rfl rfl rfl el_41 ze_43 rfl rfl ?c87 ?c88 (Nat.le_refl _) ?c89 (by decide)) ?_
  case c87 => simp only [List.map_cons, List.map_nil, List.flatten_cons, List.flatten_nil, List.append_nil]; simp only [Value.cells]; intro z hz; exact pt_cells (y := X) hxa (by rw [hxs]; rfl) z (by simpa using hz)
  case c88 => rfl
  case c89 => omega
  rintro v L' ⟨⟨a12, c12, rfl⟩, rfl⟩
  refine .u (.fieldAddr rfl fo_43_7) (.sw rfl rfl rfl sz_41 ?_)
  refine .nil (.pc b10 (ptC (⟨7, [], [], nilV, [], 0, 0, 0, (.slice a12 (i + 1) c12)⟩ : Pt)) ?_)
  refine .blk_n (.then_n (.region (.m rfl (.q (.add rfl rfl (by omega)) rfl (.an rfl (.bigAdd (f := aclR) (l := ys) (p := aclR X) X rfl (by repeat' constructor) (.slCast (T := 43) (sz := 8) (m' := i + 1) (xs' := (ys ++ [X]).flatMap ptC) (by repeat' constructor) (by exact rfl) (by rw [List.flatMap_append]; simp [Value.cells]) ?_)))))))
  exact .rk ((i + 1, (applyZ σ σ.zx (partP σ u subs[i]).1 []).1, .slice a12 (i + 1) c12, ys ++ [X])) (⟨by dsimp only; omega, ⟨_, _, rfl⟩, by have h5 := hat.step hi2 h0; show MultiAt u subs τ (i + 1) (applyZ σ σ.zx (partP σ u subs[i]).1 []).1 ((ys ++ [X]).map Pt.pl); rw [List.map_append, show List.map Pt.pl [X] = [(partP σ u subs[i]).1] from by rw [List.map_cons, hpl]; rfl]; exact h5, fun z hz => by rcases List.mem_append.1 hz with hz | hz; exact hyc z hz; rw [List.mem_singleton] at hz; subst hz; exact ⟨hxa, hxs⟩, by have := hok.apply σ.zx (partP σ u subs[i]).1 [] (part_acl (hS _ (List.getElem_mem hi2)) σ) (fun _ h => by cases h); exact this, hwa⟩) (by dsimp only; omega) ⟨rfl, rfl, rfl, rfl, rfl, rfl, rfl, trivial⟩
 have hie : i = subs.length := by omega
 have hat2 : MultiAt u subs τ subs.length σ (ys.map Pt.pl) := by rw [← hie]; exact hat
 have hm := hat2.done hlen8
 have hyl : ys.length = i := by have h := hat.2.2; rw [List.length_map] at h; exact h
 refine .slCast (T := 43) (sz := 8) (m' := ys.length) (xs' := ys.flatMap ptC) (by repeat' constructor) (by rw [hyl]) rfl (.exit (.then_e (.then_e (.blk_e (.then_n (.sr (.q (.la (ptC (⟨7, [], [], nilV, [], 0, 0, 0, (.slice au i cu)⟩ : Pt)) rfl ag_43) rfl (.sa rfl rfl sz_43 (by exact pt_cells (y := (⟨7, [], [], nilV, [], 0, 0, 0, (.slice au i cu)⟩ : Pt)) rfl rfl) ?_))))))))
 refine .nil (.pc b8 (ptC ((⟨7, [], [], nilV, [], 0, 0, 0, (.slice au i cu)⟩ : Pt))) ?_)
 refine .add (slR_nil 85 2) (.then_n (.ret ?_))
 exact .d1 rfl (.cellA rfl ag_43 (by repeat' constructor) (by simp [ptC]) rfl) ⟨(⟨7, [], [], nilV, [], 0, 0, 0, (.slice au i cu)⟩ : Pt), ys, rfl, by rw [hm]; rfl, by rw [hm], ⟨rfl, au, cu, by rw [hyl]⟩, hyc, rfl⟩
theorem r12closes_spec (x : Nat) (τ : Tr) (s : Int) (p : HP) (N : Nat) (ho : τ.Ok N) (hN : N + N + 1 ≤ 1073741824) : Fn Tryz.prog 51 #[vptr x, vint s] [refR x τ, p] fun v L => ∃ (y : Pt) (ys : List Pt), v = .agg (ptC y).toArray ∧ y.pl = (closeP τ s).1 ∧ ys.map Pt.pl = (closeP τ s).2 ∧ (isCell y.aclV = true ∧ ∃ a c, y.subsV = .slice a ys.length c) ∧ (∀ z ∈ ys, isCell z.aclV = true ∧ z.subsV = nilV) ∧ L = [refR x τ, p, aclR y, slR 43 8 y.subsV ys.length (ys.flatMap ptC), bigR aclR ys] := by
 refine Fn.intro Tryz.func51 rfl rfl fun F W => ?_
 have hlr : (ownedZ τ s).reverse.length = (ownedZ τ s).length := List.length_reverse
 have hol := owned_len τ s
 have hof := ho.few
 refine .sr (.oq (.allocA ze_43) ?_)
 rintro v L' ⟨b8, rfl, rfl⟩
 refine .nt (.sm rfl (.oq (.c Tryz.func69 [_] (rclone_spec x τ N ho (by omega))) ?_))
 rintro v L' ⟨c, rfl, rfl⟩
 refine .an rfl (.sm rfl (.q (.to (v' := .agg (ptC (⟨6, [], [], nilV, [], s, 0, 0, nilV⟩ : Pt)).toArray) (.build (us := [(0, _), (4, _)]) fl_43 ze_43 rfl rfl (by simp [isCell])) rfl) rfl (.oq (.allocA ze_43) ?_)))
 rintro v L' ⟨b6, rfl, rfl⟩
 refine .sa rfl rfl sz_43 (by exact pt_cells (y := (⟨6, [], [], nilV, [], s, 0, 0, nilV⟩ : Pt)) rfl rfl) ?_
 refine .nil (.pc b6 (ptC (⟨6, [], [], nilV, [], s, 0, 0, nilV⟩ : Pt)) ?_)
 refine .add (slR_nil 43 8) (.add (p := nilP) nilP_ok (.then_n (.sm rfl (.m rfl (.oq (.c Tryz.func61 [_, _] (rowned_spec x τ s N ho (by omega))) ?_)))))
 rintro v L' ⟨⟨ao, co, rfl⟩, rfl⟩
 refine .an rfl (.seq (.sm rfl (.q (.slen rfl Tryz.underlying23 rfl) rfl (.q (.to (v' := vint (((ownedZ τ s).length : Int) - 1 - ((0 : Nat) : Int))) (.sub rfl rfl (by omega)) (by congr 1; omega)) rfl (.an rfl (.block (.loopK (ι := Nat × Value) (fun q E => (8, vint (((ownedZ τ s).length : Int) - 1 - q.1)) :: E) (fun q => [refR c (closeT ((ownedZ τ s).reverse.take q.1) τ), ptc b6 (ptC (⟨6, [], [], nilV, [], s, 0, 0, q.2⟩ : Pt)) 43, slR 43 8 q.2 q.1 ((closeL ((ownedZ τ s).reverse.take q.1) τ).flatMap ptC)]) (fun q => q.1 ≤ (ownedZ τ s).length ∧ ∃ a c, q.2 = .slice a q.1 c) (fun q => (ownedZ τ s).length - q.1) (0, nilV) (ts := [4, 5, 6, 7]) (.cons rfl (.cons rfl (.cons rfl (.cons rfl (.nil))))) (⟨Nat.zero_le _, none, 0, rfl⟩) ⟨rfl, rfl, rfl, rfl, rfl, trivial⟩ (by repeat' constructor) ?_)))))))
 rintro ⟨i, z⟩ ⟨hi, au, cu, hu⟩
 dsimp only
 dsimp only at hi hu
 subst hu
 refine .seq (.sm rfl (.ui rfl rfl rfl (.nt (.condD rfl (fun h23 => ?_) (fun h23 => ?_)))))
 ·have hio : i < (ownedZ τ s).length := by omega
  have hi2 : i < (ownedZ τ s).reverse.length := by omega
  have hget : (ownedZ τ s).reverse.getD i [] = (ownedZ τ s).reverse[i] := by rw [List.getD_eq_getElem?_getD, List.getElem?_eq_getElem hi2]; rfl
  have hshort : ((ownedZ τ s).reverse[i]).length ≤ 60 := owned_short ho (List.mem_reverse.1 (List.getElem_mem hi2))
  have hok : (closeT ((ownedZ τ s).reverse.take i) τ).Ok (N + N) := (closeT_ok ((ownedZ τ s).reverse.take i) ho).more (by rw [List.length_take]; omega)
  have hokf := hok.few
  refine .slShape (T := 9) (sz := 1) (v := .slice ao (ownedZ τ s).length co) (xs := strs (ownedZ τ s)) (by repeat' constructor) (by omega) fun bo co' e0 mo _ => ?_
  simp only [Value.slice.injEq, true_and] at e0
  obtain ⟨rfl, rfl⟩ := e0
  refine .sk (.seq (.block (.sm rfl (.m rfl (.m rfl (.q (.indexAddr rfl rfl el_23 (by omega)) rfl (.q (.to (v' := vstr (ownedZ τ s).reverse[i]) (.loadRd (sz := 1) (j := (((ownedZ τ s).length : Int) - 1 - i).toNat * 1) (p := slR 9 1 _ (ownedZ τ s).length (strs (ownedZ τ s))) rfl ag_9 (by repeat' constructor) (fun h hp => slR_rd hp) (by omega) (back_at (xs := ownedZ τ s) hio)) (by rw [hget])) rfl (.cv Tryz.func110 [_] (rparent_spec (ownedZ τ s).reverse[i] (by omega)) ?_))))))))
  refine .cv Tryz.func95 [_, _] (rplace_spec c (closeT ((ownedZ τ s).reverse.take i) τ) (parentZ (ownedZ τ s).reverse[i]) (by omega)) ?_
  refine .an rfl (.sr (.an rfl (.seq (.joinK (ι := Int) (fun q E => (10, vint q) :: E) (fun q => [refR c (closeT ((ownedZ τ s).reverse.take i) τ)]) (fun q => q = (delX (closeT ((ownedZ τ s).reverse.take i) τ) (ownedZ τ s).reverse[i]).num) (pre := [refR c (closeT ((ownedZ τ s).reverse.take i) τ)]) (ts := [4, 5, 6, 7, 8, 9, 22, 23, 26, 27, 28, 29, 30, 31, 32]) (.cons rfl (.cons rfl (.cons rfl (.cons rfl (.cons rfl (.cons rfl (.cons rfl (.cons rfl (.cons rfl (.cons rfl (.cons rfl (.cons rfl (.cons rfl (.cons rfl (.cons rfl (.nil)))))))))))))))) (by repeat' constructor) ?_ ?_))))
  ·refine .sm rfl (.ui rfl rfl rfl (.nt (.condD rfl (fun h34 => ?_) (fun h34 => ?_))))
   ·have hthk : thereT (closeT ((ownedZ τ s).reverse.take i) τ) (parentZ (ownedZ τ s).reverse[i]) := place_iff.1 (by have h0 : placeTo (closeT ((ownedZ τ s).reverse.take i) τ).nodes (parentZ (ownedZ τ s).reverse[i]) ≥ 0 := h34; omega)
    obtain ⟨k, hkk, hpkk, hkpk⟩ := place_get (l := (closeT ((ownedZ τ s).reverse.take i) τ).nodes) (place_iff.2 hthk)
    have hpzk : placeZ (closeT ((ownedZ τ s).reverse.take i) τ) (parentZ (ownedZ τ s).reverse[i]) = k := hpkk
    rw [hpzk]
    refine .rtOpen (x := c) (τ := (closeT ((ownedZ τ s).reverse.take i) τ)) (by repeat' constructor) fun an cn as1 cs l hl => ?_
    have hll := nds_len hl
    have hkl : k < l.length := by omega
    refine .slShape (T := 112) (sz := 12) (v := .slice an l.length cn) (xs := l.flatMap rnC) (by repeat' constructor) (by omega) fun bn bn' e0 mbn _ => ?_
    simp only [Value.slice.injEq, true_and] at e0
    obtain ⟨rfl, rfl⟩ := e0
    have hlk : alook (closeT ((ownedZ τ s).reverse.take i) τ).nodes (parentZ (ownedZ τ s).reverse[i]) = some l[k].2.2 := by have g := nds_get hl (i := k) hkl; have g2 : alook (closeT ((ownedZ τ s).reverse.take i) τ).nodes ((closeT ((ownedZ τ s).reverse.take i) τ).nodes[k]).1 = some ((closeT ((ownedZ τ s).reverse.take i) τ).nodes[k]).2 := al_get' (hok.sorted.nodup linB) (i := k) hkk; rw [hkpk, show (closeT ((ownedZ τ s).reverse.take i) τ).nodes[k] = (l[k].1, l[k].2.2) from g] at g2; exact g2
    have hst := st_of hlk
    have hac := acl_of hlk
    have hlac : l[k].2.2.acl.length ≤ 1048576 := by have hacl := hok.acls _ (List.getElem_mem hkk); have g := nds_get hl (i := k) hkl; rw [show (closeT ((ownedZ τ s).reverse.take i) τ).nodes[k] = (l[k].1, l[k].2.2) from g] at hacl; exact hacl
    refine .region (.m rfl (.nf rfl fo_110_0 (.u (.ld rfl ag_107) (.m rfl (.q (.indexAddr rfl rfl el_107 (by omega)) rfl (.u (.fieldAddr rfl fo_112_3) (.u (.fieldAddr rfl fo_37_4) (.q (.loadRd (sz := 12) (j := k * 12 + 7) (p := rnR _ l) rfl ag_3 (by repeat' constructor) (fun h hp => slR_rd hp) (by omega) ((rn_cell (l := l) (i := k) (k := 7) (by omega) (by decide)).trans rfl)) rfl (.u (.addW rfl rfl) (.a rfl (.nil (.rtFold (x := c) (τ := (closeT ((ownedZ τ s).reverse.take i) τ)) (l := l) hl (by repeat' constructor) rfl rfl rfl rfl rfl (.then_n ?_)))))))))))))
    exact .mk (wrapI (l[k].2.2.st.cver + 1)) ((del_num.1 hthk _ hlk).symm) ⟨rfl, rfl, rfl, rfl, rfl, rfl, rfl, rfl, rfl, rfl, rfl, rfl, rfl, rfl, rfl, rfl, trivial⟩
   have hnth : ¬ thereT (closeT ((ownedZ τ s).reverse.take i) τ) (parentZ (ownedZ τ s).reverse[i]) := fun g => h34 (by have := place_iff.2 g; exact this)
   refine .sk ?_
   exact .mk (1) ((del_num.2 hnth).symm) ⟨rfl, rfl, rfl, rfl, rfl, rfl, rfl, rfl, rfl, rfl, rfl, rfl, rfl, rfl, rfl, rfl, trivial⟩
  rintro num hnum
  refine .sm rfl (.m rfl (.q (.indexAddr rfl rfl el_23 (by omega)) rfl (.q (.to (v' := vstr (ownedZ τ s).reverse[i]) (.loadRd (sz := 1) (j := (((ownedZ τ s).length : Int) - 1 - i).toNat * 1) (p := slR 9 1 _ (ownedZ τ s).length (strs (ownedZ τ s))) rfl ag_9 (by repeat' constructor) (fun h hp => slR_rd hp) (by omega) (back_at (xs := ownedZ τ s) hio)) (by rw [hget])) rfl (.m rfl (.q (.to (v' := .agg (ptC (delX (closeT ((ownedZ τ s).reverse.take i) τ) (ownedZ τ s).reverse[i])).toArray) (.build (us := [(0, _), (1, _), (5, _)]) fl_43 ze_43 rfl rfl (by simp [isCell])) (by rw [hnum]; rfl)) rfl (.oq (.allocA ze_43) ?_))))))
  rintro v L' ⟨b11, rfl, rfl⟩
  refine .sa rfl rfl sz_43 (by exact pt_cells (y := (delX (closeT ((ownedZ τ s).reverse.take i) τ) (ownedZ τ s).reverse[i])) rfl rfl) ?_
  refine .nil (.pc b11 (ptC (delX (closeT ((ownedZ τ s).reverse.take i) τ) (ownedZ τ s).reverse[i])) ?_)
  refine .then_n (.seq (.draw [7] [[0, 1, 2, 3, 4, 5, 6, 7]] mixed (by kernel_rfl) (.g0 (.mv rfl rfl (.mv rfl rfl (.nf rfl rfl rfl fo_110_2 (.kv rfl (.loadEx (p := refR c (closeT ((ownedZ τ s).reverse.take i) τ)) rfl ag_3 (by repeat' constructor) refR_zx) (.kv rfl (.to (v' := .agg (ptC (delX (closeT ((ownedZ τ s).reverse.take i) τ) (ownedZ τ s).reverse[i])).toArray) (.loadA rfl ag_43 (by repeat' constructor) (by simp [ptC])) (by rfl)) (.kv rfl (.buildN (pl := [(0, 1), (1, 1), (2, 1), (3, 8)]) (us := [(0, vint (closeT ((ownedZ τ s).reverse.take i) τ).zx), (3, .agg (ptC (delX (closeT ((ownedZ τ s).reverse.take i) τ) (ownedZ τ s).reverse[i])).toArray)]) (cells := [vint (closeT ((ownedZ τ s).reverse.take i) τ).zx, vint 0, vint 0] ++ ptC (delX (closeT ((ownedZ τ s).reverse.take i) τ) (ownedZ τ s).reverse[i])) Tryz.underlying54 (by kernel_rfl) ze_54 rfl (fill_entry _ _ _ _ _ _ _ _ _)) ?_)))))))))
  refine D.hh rfl (.call Tryz.func34 rfl rfl (vs := [_, _]) rfl (rapply_spec c (closeT ((ownedZ τ s).reverse.take i) τ) (closeT ((ownedZ τ s).reverse.take i) τ).zx 0 0 (delX (closeT ((ownedZ τ s).reverse.take i) τ) (ownedZ τ s).reverse[i]) [] nilP (txS_ok _ (by omega)) (N + N) hok (by show N + N + 0 + 1 ≤ _; omega))) ?_
  rintro v L' ⟨ue, ee, rfl, -, ⟨ae, ce, rfl⟩, rfl⟩; rw [← closeT_step hi2 τ]
  refine D.pf (.region (.u (.fieldAddr rfl fo_43_7) (.u (.ld rfl ag_41) (.q (.to (v' := .agg (ptC (delX (closeT ((ownedZ τ s).reverse.take i) τ) (ownedZ τ s).reverse[i])).toArray) (.loadA rfl ag_43 (by repeat' constructor) (by simp [ptC])) (by rfl)) rfl (.oq (.buildSlice (vs := [_]) el_41 ze_43 rfl rfl rfl rfl (by first | (simp [Value.cells]; done) | (intro v hv; simp only [List.mem_cons, List.not_mem_nil, or_false] at hv; (repeat (first | (subst hv; rfl) | (rcases hv with hv | hv; (subst hv; rfl)))))) (by decide)) ?_)))))
  rintro v L' ⟨b13, rfl, rfl⟩
  refine .oq (.append1 rfl rfl rfl el_41 ze_43 rfl rfl ?c70 ?c71 (Nat.le_refl _) ?c72 (by decide)) ?_
  case c70 => simp only [List.map_cons, List.map_nil, List.flatten_cons, List.flatten_nil, List.append_nil]; simp only [Value.cells]; intro z hz; exact pt_cells (y := (delX (closeT ((ownedZ τ s).reverse.take i) τ) (ownedZ τ s).reverse[i])) rfl rfl z (by simpa using hz)
  case c71 => rfl
  case c72 => omega
  rintro v L' ⟨⟨a13, c13, rfl⟩, rfl⟩
  refine .u (.fieldAddr rfl fo_43_7) (.sw rfl rfl rfl sz_41 ?_)
  refine .nil (.pc b6 (ptC (⟨6, [], [], nilV, [], s, 0, 0, (.slice a13 (i + 1) c13)⟩ : Pt)) ?_)
  refine .blk_n (.then_n (.region (.m rfl (.q (.to (v' := vint (((ownedZ τ s).length : Int) - 1 - ((i + 1 : Nat) : Int))) (.sub rfl rfl (by omega)) (by congr 1; omega)) rfl (.an rfl (.slCast (T := 43) (sz := 8) (m' := i + 1) (xs' := (closeL ((ownedZ τ s).reverse.take (i + 1)) τ).flatMap ptC) (by repeat' constructor) (by exact rfl) (by rw [closeL_step hi2 τ, List.flatMap_append]; simp [Value.cells]) ?_))))))
  exact .rk ((i + 1, .slice a13 (i + 1) c13)) (⟨by dsimp only; omega, a13, c13, rfl⟩) (by dsimp only; omega) ⟨rfl, rfl, rfl, rfl, rfl, trivial⟩
 have hie : i = (ownedZ τ s).length := by omega
 have htk : (ownedZ τ s).reverse.take i = (ownedZ τ s).reverse := List.take_of_length_le (by omega)
 have hcl : (closeL (ownedZ τ s).reverse τ).length = (ownedZ τ s).length := by rw [closeL_len, hlr]
 rw [htk]
 refine .slCast (T := 43) (sz := 8) (m' := (closeL (ownedZ τ s).reverse τ).length) (xs' := (closeL (ownedZ τ s).reverse τ).flatMap ptC) (by repeat' constructor) (by omega) rfl (.exit (.then_e (.then_e (.blk_e (.then_n (.sr (.q (.la (ptC (⟨6, [], [], nilV, [], s, 0, 0, (.slice au i cu)⟩ : Pt)) rfl ag_43) rfl (.sa rfl rfl sz_43 (by exact pt_cells (y := (⟨6, [], [], nilV, [], s, 0, 0, (.slice au i cu)⟩ : Pt)) rfl rfl) ?_))))))))
 refine .nil (.pc b8 (ptC ((⟨6, [], [], nilV, [], s, 0, 0, (.slice au i cu)⟩ : Pt))) ?_)
 refine .add (slR_nil 85 2) (.add (p := bigR aclR (closeL (ownedZ τ s).reverse τ)) (big_none fun y hy => ⟨(closeL_plain _ _ y hy).1, (closeL_plain _ _ y hy).2.1⟩) (.then_n (.ret ?_)))
 exact .d1 rfl (.cellA rfl ag_43 (by repeat' constructor) (by simp [ptC]) rfl) ⟨(⟨6, [], [], nilV, [], s, 0, 0, (.slice au i cu)⟩ : Pt), closeL (ownedZ τ s).reverse τ, rfl, rfl, map_pl fun y hy => (closeL_plain _ _ y hy).2.2.2, ⟨rfl, au, cu, by rw [hcl, ← hie]⟩, fun y hy => ⟨by rw [(closeL_plain _ _ y hy).1]; rfl, (closeL_plain _ _ y hy).2.2.1⟩, rfl⟩
end Go.Proofs.YtkjlihfalfbmjaaGreatDoor
