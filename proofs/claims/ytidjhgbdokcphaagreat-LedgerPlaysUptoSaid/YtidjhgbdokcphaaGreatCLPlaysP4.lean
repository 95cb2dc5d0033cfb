/- Own work, some of it printed by program, texts that were built one by one: a part of the proof of ledgerPlays.proved. -/
import Derived.Test.YtidjhgbdokcphaaGreatCLPlaysP3
import Derived.Test.YtidjhgbdokcphaaGreatCLPlaysP1
import Derived.Test.YtidjhgbdokcphaaGreatCLPlaysP2
set_option maxRecDepth 100000
namespace Go.Proofs.YtidjhgbdokcphaaGreat
open Go
theorem lrenew_spec (g x d : Nat) (δ : Dk) (ω : Wl) (Λ : Lg) (base : Int) (snap : Bs) (ve vz : Value) (es : List Bs) (zs : List Int) (ea : Option Addr) (ec : Nat) (za : Option Addr) (zc : Nat) (p : HP) (hI : WlI δ ω) (hb : I64 base) (hsn : snap.length ≤ 65536) (hre : ∀ h : Hp, p h → rdS 1 h ve es.length (strs es)) (hrz : ∀ h : Hp, p h → rdS 1 h vz zs.length (ints zs)) (hel : es.length ≤ 4294967296) (hzl : zs.length = es.length) :
    Fn Tryz.prog 139 #[vptr g, .agg [vint 0, vint 0, .pointer none, vint base, vstr snap, ve, vz, .bool false].toArray] [ptc g [vint Λ.acc, vint Λ.cur, vptr x, vint Λ.base, vstr Λ.snap, .slice ea Λ.ents.length ec, .slice za Λ.zxs.length zc, .bool Λ.doubt] 79, wlR x d ω, dkR d δ, p] fun v L => v = vint (lgRenew ⟨δ, ω, Λ⟩ base snap es zs).2 ∧ (((lgRenew ⟨δ, ω, Λ⟩ base snap es zs).2 = 0 ∧ L = [lgR g x (lgRenew ⟨δ, ω, Λ⟩ base snap es zs).1.Λ, wlR x d (lgRenew ⟨δ, ω, Λ⟩ base snap es zs).1.ω, dkR d (lgRenew ⟨δ, ω, Λ⟩ base snap es zs).1.δ, p]) ∨ ((lgRenew ⟨δ, ω, Λ⟩ base snap es zs).2 ≠ 0 ∧ L = [ptc g [vint Λ.acc, vint Λ.cur, vptr x, vint Λ.base, vstr Λ.snap, .slice ea Λ.ents.length ec, .slice za Λ.zxs.length zc, .bool (lgRenew ⟨δ, ω, Λ⟩ base snap es zs).1.Λ.doubt] 79, wlR x d (lgRenew ⟨δ, ω, Λ⟩ base snap es zs).1.ω, dkR d (lgRenew ⟨δ, ω, Λ⟩ base snap es zs).1.δ, p])) := by
 refine Fn.intro Tryz.func139 rfl rfl fun F W => ?_
 refine .rdAny (p := p) hre (by repeat' constructor) fun ae ce e _ => ?_
 subst e
 refine .rdAny (p := p) hrz (by repeat' constructor) fun az cz e _ => ?_
 subst e
 have h0 := headL_len base snap hsn
 refine .sr (.oq (.box rfl) ?_)
 rintro v L' ⟨b3, rfl, rfl⟩
 refine .a rfl (.nil (.ptCast (b := b3) (l' := [vint 0, vint 0, .pointer none, vint base, vstr snap, .slice ae es.length ce, .slice az zs.length cz, .bool false]) (by repeat' constructor) rfl (.then_n (.seq (.sr (.u (.fieldAddr rfl fo_79_4) (.u (.ld rfl ag_46) (.q (.slen rfl Tryz.underlying46 rfl) rfl (.ui rfl rfl rfl (.nt (.condD rfl (fun h9 => ?_) (fun h9 => ?_))))))))))))
 ·refine .sr (.an rfl (.rt ?_))
  have hr : lgRenew ⟨δ, ω, Λ⟩ base snap es zs = (⟨δ, ω, Λ⟩, 83) := by unfold lgRenew; rw [if_pos (by omega)]
  rw [hr]
  exact .dn rfl rfl ⟨rfl, .inr ⟨show (83 : Int) ≠ 0 by decide, rfl⟩⟩
 refine .sk (.seq (.draw [9, 12, 13, 14] [[0, 1, 2, 3, 4, 5, 6, 7, 8, 10, 11, 9, 12, 13], [14], [15]] mixed (by kernel_rfl) (.go [ptc b3 _ _, ptc g _ _] (by repeat' constructor) (.k rfl (.move rfl) (.k rfl (.move rfl) (.k rfl (.nilp rfl) (.k rfl (.fieldAddr rfl fo_79_1) (.k rfl (.ld rfl ag_77) (.kv rfl (.fieldAddr rfl fo_79_2) (.kv rfl (.ld rfl ag_3) (.kv rfl (.fieldAddr rfl fo_79_3) (.kv rfl (.ld rfl ag_9) (.k rfl (.fieldAddr rfl fo_79_4) (.k rfl (.ld rfl ag_46) (.hh rfl (.c Tryz.func46 [_, _] (lahead_spec base snap hb (by omega))) ?_)))))))))))))))
 rintro v L' ⟨bh, ch, rfl, rfl⟩
 refine D.hh rfl (.append (n := (headL base snap).length) (m := es.length) (xs := strs (headL base snap)) (ys := strs es) (p := p) rfl rfl rfl el_46 (.inl ⟨_, Tryz.underlying46⟩) ze_9 rfl rfl ?hc22 hre ?hb23 (by decide)) ?_
 case hc22 => intro y hy; obtain ⟨z, -, rfl⟩ := List.mem_map.1 hy; rfl
 case hb23 => omega
 rintro v L' ⟨⟨a12, c12, rfl⟩, rfl⟩
 refine D.hh rfl (.c Tryz.func180 [_, _] (wrenew2_spec x d ω δ (.slice a12 ((headL base snap).length + es.length) c12) (headL base snap ++ es) (slR 9 1 (.slice a12 ((headL base snap).length + es.length) c12) ((headL base snap).length + es.length) (strs (headL base snap) ++ strs es)) hI ?hr26 ?hln27 ?hlb28)) ?_
 case hr26 => exact fun h hp => (by rw [List.length_append, show strs (headL base snap ++ es) = strs (headL base snap) ++ strs es from List.map_append]; exact slR_rd hp)
 case hln27 => rw [List.length_append]; omega
 case hlb28 => exact renew_bound hsn (by omega)
 rintro v L' ⟨rfl, rfl⟩
 refine D.ph (.g0 (.hh rfl (.c Tryz.func50 [_, _] (lmetC_spec g x Λ _ ea ec za zc)) ?_))
 rintro v L' ⟨rfl, rfl⟩
 refine D.ph (.g0 (.kv rfl (.assign rfl) (.pf (.seq (.sm rfl (.ui rfl rfl rfl (.nt (.condD rfl (fun h26 => ?_) (fun h26 => ?_)))))))))
 ·refine .draw [10, 13, 16, 19, 22, 25] [[0, 1, 2, 3, 4, 5, 6, 7, 8, 9, 11, 12, 10, 13, 14, 15, 16, 17, 18, 19, 20, 21, 22], [23, 24, 25]] mixed (by kernel_rfl) (.go [ptc b3 _ _] (by repeat' constructor) (.k rfl (.move rfl) (.k rfl (.move rfl) (.k rfl (.move rfl) (.k rfl (.move rfl) (.k rfl (.fieldAddr rfl fo_79_2) (.k rfl (.ld rfl ag_3) (.k rfl (.fieldAddr rfl fo_79_3) (.k rfl (.ld rfl ag_9) (.kv rfl (.fieldAddr rfl fo_79_4) (.kv rfl (.ld rfl ag_46) (.k rfl (.fieldAddr rfl fo_79_5) (.k rfl (.ld rfl ag_31) (.hh rfl (.c Tryz.func116 [_] (cloneT_spec _ es.length (strs es) p hre ?hc46 ?hb47)) ?_))))))))))))))
  case hc46 => intro y hy; obtain ⟨z, -, rfl⟩ := List.mem_map.1 hy; rfl
  case hb47 => omega
  rintro v L' ⟨⟨a10, c10, rfl⟩, rfl⟩
  refine D.hh rfl (.c Tryz.func181 [_] (cloneI_spec _ zs.length (ints zs) p hrz ?hc50 ?hb51)) ?_
  case hc50 => intro y hy; obtain ⟨z, -, rfl⟩ := List.mem_map.1 hy; rfl
  case hb51 => omega
  rintro v L' ⟨⟨a13, c13, rfl⟩, rfl⟩
  refine D.nf rfl rfl rfl fo_79_2 (.hh rfl (.store rfl rfl rfl sz_3 ?c56 (nfz0 _ _)) ?_)
  case c56 => first | decide | (simp; omega) | simp
  rintro v L' rfl
  refine D.nf rfl rfl rfl fo_79_3 (.hh rfl (.store rfl rfl rfl sz_9 ?c61 (nfz0 _ _)) ?_)
  case c61 => first | decide | (simp; omega) | simp
  rintro v L' rfl
  refine D.nf rfl rfl rfl fo_79_4 (.hh rfl (.store rfl rfl rfl sz_46 ?c66 (nfz0 _ _)) ?_)
  case c66 => first | decide | (simp; omega) | simp
  rintro v L' rfl
  refine D.ph (.g0 (.nf rfl rfl rfl fo_79_5 (.hh rfl (.store rfl rfl rfl sz_31 ?c71 (nfz0 _ _)) ?_)))
  case c71 => first | decide | (simp; omega) | simp
  rintro v L' rfl
  refine D.pf (.sm rfl (.an rfl (.ret ?_)))
  have hr : lgRenew ⟨δ, ω, Λ⟩ base snap es zs = (⟨(renewZ δ ω (headL base snap ++ es)).1, (renewZ δ ω (headL base snap ++ es)).2.1, ⟨Λ.acc, Λ.cur, base, snap, es, zs, Λ.doubt⟩⟩, 0) := by unfold lgRenew; dsimp only; rw [if_neg (by omega), if_pos (show (metL Λ (renewZ δ ω (headL base snap ++ es))).2 = 0 from h26)]
  rw [hr, h26]
  dsimp only
  rw [doubt_of h26]
  refine .lgFold (g := g) (x := x) (ea := a10) (ec := c10) (za := a13) (zc := c13) (m := es.length) (k := zs.length) (⟨Λ.acc, Λ.cur, base, snap, es, zs, Λ.doubt⟩ : Lg) (by repeat' constructor) rfl rfl rfl rfl rfl ?_
  exact .dn rfl rfl ⟨rfl, .inl ⟨rfl, rfl⟩⟩
 refine .sk (.sm rfl (.an rfl (.ret ?_)))
 have hr : lgRenew ⟨δ, ω, Λ⟩ base snap es zs = metL Λ (renewZ δ ω (headL base snap ++ es)) := by unfold lgRenew; dsimp only; rw [if_neg (by omega), if_neg (show ¬ (metL Λ (renewZ δ ω (headL base snap ++ es))).2 = 0 from h26)]
 rw [hr]
 exact .dn rfl rfl ⟨rfl, .inr ⟨h26, rfl⟩⟩
theorem sep_hd {p : HP} {h : Hp} (hp : sep [p] h) : ∀ {sz n : Nat} {v : Value} {ys : List Value}, (∀ h, p h → rdS sz h v n ys) → rdS sz h v n ys := by
 obtain ⟨g1, g2, -, le1, le2, q1, q2⟩ := hp
 intro sz n v ys hr
 exact rdS_mono (hr _ q1) le1
theorem lcompact_spec (g x d : Nat) (δ : Dk) (ω : Wl) (Λ : Lg) (z : Int) (snap : Bs) (hI : WlI δ ω) (hΛ : LgI Λ) (hs : Λ.zxs.Pairwise (· < ·)) (hz : I64 z) : Fn Tryz.prog 80 #[vptr g, vint z, vstr snap] [lgR g x Λ, wlR x d ω, dkR d δ] fun v L => v = vint (lgCompact ⟨δ, ω, Λ⟩ z snap).2 ∧ L = [lgR g x (lgCompact ⟨δ, ω, Λ⟩ z snap).1.Λ, wlR x d (lgCompact ⟨δ, ω, Λ⟩ z snap).1.ω, dkR d (lgCompact ⟨δ, ω, Λ⟩ z snap).1.δ] := by
 refine Fn.intro Tryz.func80 rfl rfl fun F W => ?_
 refine .lgOpen (by repeat' constructor) fun ea ec za zc => ?_
 have h1 := hΛ.ents
 have h2 := hΛ.same
 refine .sr (.an rfl (.seq (.block (.sm rfl (.nf rfl fo_79_6 (.u (.ld rfl ag_4) (.an rfl (.condB rfl (fun h9 => ?_) (fun h9 => ?_)))))))))
 ·refine .sr (.an rfl (.ret (.blk_r (.then_r ?_))))
  have hr : lgCompact ⟨δ, ω, Λ⟩ z snap = (⟨δ, ω, Λ⟩, 2) := by unfold lgCompact; dsimp only; rw [if_pos h9]
  rw [hr]
  try dsimp only
  refine .lf (g := g) (x := x) Λ ?_
  exact .vv
 refine .sm rfl (.q (.strlen rfl Tryz.underlying9 rfl) rfl (.ui rfl rfl rfl (.an rfl (.condD rfl (fun h14 => ?_) (fun h14 => ?_)))))
 ·refine .sr (.an rfl (.ret (.blk_r (.then_r ?_))))
  have hr : lgCompact ⟨δ, ω, Λ⟩ z snap = (⟨δ, ω, Λ⟩, 1) := by unfold lgCompact; dsimp only; rw [if_neg (by rw [h9]; decide), if_pos (by omega)]
  rw [hr]
  try dsimp only
  refine .lf (g := g) (x := x) Λ ?_
  exact .vv
 refine .skip (.blk_n (.then_n (.seq (.lf (g := g) (x := x) Λ ?_))))
 refine .region (.m rfl (.m rfl (.cv Tryz.func74 [_, _] (lupto_spec g x Λ z hΛ hs) ?_)))
 refine .m rfl (.u (.extract rfl rfl) (.u (.extract rfl rfl) (.a rfl (.an rfl (.seq (.sr ?_))))))
 rcases hpl : placeZ Λ z with _ | n
 ·refine .m rfl (.u (.not rfl) (.nt (.condT rfl (.sr (.an rfl (.rt ?_))))))
  have hr : lgCompact ⟨δ, ω, Λ⟩ z snap = (⟨δ, ω, Λ⟩, 81) := by unfold lgCompact; dsimp only; rw [if_neg (by rw [h9]; decide), if_neg (by omega), hpl]
  rw [hr]
  try dsimp only
  exact .vv
 simp only [Option.getD_some]
 have hpe := (place_le hpl).1
 refine .m rfl (.u (.not rfl) (.nt (.condF rfl (.sk (.seq (.lgOpen (by repeat' constructor) fun ea ec za zc => (.slAddr (a := ea) (c := ec) (by repeat' constructor) fun hcap1 _ => (.slAddr (a := za) (c := zc) (by repeat' constructor) fun hcap2 _ => (.fold (p := sep [strR (.slice ea Λ.ents.length ec) Λ.ents, intR (.slice za Λ.zxs.length zc) Λ.zxs]) (q := [strR (.slice ea Λ.ents.length ec) Λ.ents, intR (.slice za Λ.zxs.length zc) Λ.zxs]) (by repeat' constructor) (fun _ hp => hp) (.draw [16] [[0, 1, 2, 3, 4, 5, 6, 7, 8, 9, 10, 11, 12, 13, 14, 15, 16], [17]] mixed (by kernel_rfl) (.g0 (.mv rfl rfl (.mv rfl rfl (.mv rfl rfl (.mv rfl rfl (.nf rfl rfl rfl fo_79_4 (.kv rfl (.ld rfl ag_46) (.mv rfl rfl (.kv rfl (.to (v' := (.slice (cutS ea ec n) (Λ.ents.length - n) (ec - n))) (.slFromS (i := (n : Int)) rfl el_46 rfl (by omega)) (by rw [Int.toNat_natCast])) ?_)))))))))))))))))))
 refine D.mv rfl rfl (.nf rfl rfl rfl fo_79_5 (.kv rfl (.ld rfl ag_31) (.mv rfl rfl (.kv rfl (.to (v' := (.slice (cutS za zc n) (Λ.zxs.length - n) (zc - n))) (.slFromS (i := (n : Int)) rfl el_31 rfl (by omega)) (by rw [Int.toNat_natCast])) (.kv rfl (.buildN (pl := [(0, 2), (2, 1), (3, 1), (4, 1), (5, 1), (6, 1), (7, 1)]) (us := [(2, _), (3, _), (4, _), (5, _)]) (cells := [vint 0, vint 0, .pointer none, vint z, vstr snap, (.slice (cutS ea ec n) (Λ.ents.length - n) (ec - n)), (.slice (cutS za zc n) (Λ.zxs.length - n) (zc - n)), .bool false]) Tryz.underlying79 (by kernel_rfl) ze_79 rfl rfl) (.hh rfl (.c Tryz.func139 [_, _] (lrenew_spec g x d δ ω Λ z snap (.slice (cutS ea ec n) (Λ.ents.length - n) (ec - n)) (.slice (cutS za zc n) (Λ.zxs.length - n) (zc - n)) (Λ.ents.drop n) (Λ.zxs.drop n) ea ec za zc (sep [strR (.slice ea Λ.ents.length ec) Λ.ents, intR (.slice za Λ.zxs.length zc) Λ.zxs]) hI ?hb34 ?hsn35 ?hre36 ?hrz37 ?hel38 ?hzl39)) ?_))))))
 case hb34 => exact hz
 case hsn35 => omega
 case hre36 => intro h hp; obtain ⟨g1, g2, -, le1, le2, q1, q2⟩ := hp; rw [List.length_drop, show strs (Λ.ents.drop n) = (strs Λ.ents).drop n from List.map_drop]; exact rdS_mono (slR_from (by omega) q1) le1
 case hrz37 => intro h hp; obtain ⟨g1, g2, -, le1, le2, q1, q2⟩ := hp; rw [List.length_drop, show ints (Λ.zxs.drop n) = (ints Λ.zxs).drop n from List.map_drop]; exact rdS_mono (sep_hd q2 (fun _ q => slR_from (by omega) q)) le2
 case hel38 => rw [List.length_drop]; omega
 case hzl39 => rw [List.length_drop, List.length_drop]; omega
 rintro v L' ⟨rfl, ⟨hf0, rfl⟩ | ⟨hf1, rfl⟩⟩
 ·refine D.ph (.g0 (.kv rfl (.assign rfl) (.pf (.ret ?_))))
  have hr : lgCompact ⟨δ, ω, Λ⟩ z snap = lgRenew ⟨δ, ω, Λ⟩ z snap (Λ.ents.drop n) (Λ.zxs.drop n) := by unfold lgCompact; dsimp only; rw [if_neg (by rw [h9]; decide), if_neg (by omega), hpl]
  rw [hr]
  exact .vv
 refine D.ph (.g0 (.kv rfl (.assign rfl) (.pf (.ret ?_))))
 have hr : lgCompact ⟨δ, ω, Λ⟩ z snap = lgRenew ⟨δ, ω, Λ⟩ z snap (Λ.ents.drop n) (Λ.zxs.drop n) := by unfold lgCompact; dsimp only; rw [if_neg (by rw [h9]; decide), if_neg (by omega), hpl]
 rw [hr]
 refine .focus (p := sep [strR (.slice ea Λ.ents.length ec) Λ.ents, intR (.slice za Λ.zxs.length zc) Λ.zxs]) (by repeat' constructor) (.unfold (q := [strR (.slice ea Λ.ents.length ec) Λ.ents, intR (.slice za Λ.zxs.length zc) Λ.zxs]) (fun _ hp => hp) ?_)
 simp only [List.cons_append, List.nil_append]
 obtain ⟨e9, he9⟩ := renew_bad hf1
 rw [he9]
 dsimp only
 refine .lgFold (g := g) (x := x) (ea := ea) (ec := ec) (za := za) (zc := zc) (m := Λ.ents.length) (k := Λ.zxs.length) (Λ.met e9) (by repeat' constructor) (by rw [met_acc, met_cur, met_base, met_snap]) (by rw [met_ents]) (by rw [met_zxs]) (by rw [met_ents]) (by rw [met_zxs]) ?_
 exact .vv
theorem lkeepN_spec (b : Nat) (base : Int) (snap : Bs) (es : List Bs) (zs : List Int) (s : Bs) (z : Int) (hl : es.length ≤ 4294967296) (hm : zs.length ≤ 4294967296) : Fn Tryz.prog 51 #[vptr b, vstr s, vint z] [lgNR b base snap es zs] fun v L => v = .tuple #[] ∧ L = [lgNR b base snap (es ++ [s]) (zs ++ [z])] := by
 refine Fn.intro Tryz.func51 rfl rfl fun F W => ?_
 refine .lgNOpen (by repeat' constructor) fun ea ec za zc => (.sm rfl (.m rfl (.nf rfl fo_79_4 (.u (.ld rfl ag_46) (.m rfl (.oq (.buildSlice1 (vs := [_]) el_46 ze_9 rfl rfl rfl rfl rfl (by decide)) ?_))))))
 rintro v L' ⟨b0, rfl, rfl⟩
 refine .oq (.append1 rfl rfl rfl el_46 ze_9 rfl rfl ?c9 ?c10 (Nat.le_refl _) ?c11 (by decide)) ?_
 case c9 => (first | (simp [isCell]; done) | (simp [isCell, setAll, Value.cells]; done))
 case c10 => rfl
 case c11 => omega
 rintro v L' ⟨⟨a0, c0, rfl⟩, rfl⟩
 refine .nf rfl fo_79_4 (.st rfl rfl rfl sz_46 ?_)
 refine .nt (.region (.m rfl (.m rfl (.nf rfl fo_79_5 (.u (.ld rfl ag_31) (.m rfl (.oq (.buildSlice1 (vs := [_]) el_31 ze_3 rfl rfl rfl rfl rfl (by decide)) ?_)))))))
 rintro v L' ⟨b1, rfl, rfl⟩
 refine .oq (.append1 rfl rfl rfl el_31 ze_3 rfl rfl ?c27 ?c28 (Nat.le_refl _) ?c29 (by decide)) ?_
 case c27 => (first | (simp [isCell]; done) | (simp [isCell, setAll, Value.cells]; done))
 case c28 => rfl
 case c29 => omega
 rintro v L' ⟨⟨a1, c1, rfl⟩, rfl⟩
 refine .nf rfl fo_79_5 (.st rfl rfl rfl sz_31 ?_)
 refine .nil (.done_n (.lgNFold (b := b) base snap (es ++ [s]) (zs ++ [z]) (by repeat' constructor) rfl (by simp) (by simp) (by simp [strs, Value.cells]) (by simp [ints, Value.cells]) ?_))
 exact .vv
theorem ints_at' {zs : List Int} {i : Nat} (h : i < zs.length) : (ints zs)[i * 1]? = some (vint (zs.getD i 0)) := by
 rw [Nat.mul_one]; simp [ints, List.getD_eq_getElem?_getD, h]
theorem all_fits_bad {l : List En} {j : Nat} (h : j < l.length) (hf : fitsE l[j] = false) : l.all fitsE = false := by
 rw [List.all_eq_false]; exact ⟨l[j], List.getElem_mem h, by rw [hf]; decide⟩
theorem all_fits {l : List En} (h : ∀ j (hj : j < l.length), fitsE l[j] = true) : l.all fitsE = true := by
 rw [List.all_eq_true]; intro e he
 obtain ⟨j, hj, rfl⟩ := List.mem_iff_getElem.1 he
 exact h j hj
theorem take_map {β : Type} {f : En → β} {l : List En} {j : Nat} (h : j < l.length) : (l.take j).map f ++ [f l[j]] = (l.take (j + 1)).map f := by
 rw [List.take_succ_eq_append_getElem h, List.map_append]; rfl
theorem linstall_spec (g x d : Nat) (δ : Dk) (ω : Wl) (Λ : Lg) (z : Int) (snap : Bs) (va : Value) (l : List En) (p : HP) (hI : WlI δ ω) (hz : I64 z) (hcells : ∀ h : Hp, p h → rdS 11 h va l.length (l.flatMap enC)) (hll : l.length ≤ 1073741824) (hx : ∀ e ∈ l, EnX p e) : Fn Tryz.prog 78 #[vptr g, vint z, vstr snap, va] [lgR g x Λ, wlR x d ω, dkR d δ, p] fun v L => v = vint (lgInstall ⟨δ, ω, Λ⟩ z snap l).2 ∧ L = [lgR g x (lgInstall ⟨δ, ω, Λ⟩ z snap l).1.Λ, wlR x d (lgInstall ⟨δ, ω, Λ⟩ z snap l).1.ω, dkR d (lgInstall ⟨δ, ω, Λ⟩ z snap l).1.δ, p] := by
 refine Fn.intro Tryz.func78 rfl rfl fun F W => ?_
 refine .lgOpen (by repeat' constructor) fun ea ec za zc => (.rdAny (p := p) hcells (by repeat' constructor) fun a0 c0 e _ => ?_)
 subst e
 refine .sr (.an rfl (.seq (.block (.sm rfl (.nf rfl fo_79_6 (.u (.ld rfl ag_4) (.an rfl (.condB rfl (fun h16 => ?_) (fun h16 => ?_)))))))))
 ·refine .sr (.an rfl (.ret (.blk_r (.then_r ?_))))
  have hr : lgInstall ⟨δ, ω, Λ⟩ z snap l = (⟨δ, ω, Λ⟩, 2) := by unfold lgInstall; dsimp only; rw [if_pos h16]
  rw [hr]
  try dsimp only
  refine .lf (g := g) (x := x) Λ ?_
  exact .vv
 refine .sm rfl (.ui rfl rfl rfl (.m rfl (.dec (t := 24) rfl (fun h3_24 => ?_) (fun h3_24 => ?_))))
 ·refine .kDT (t := 23) rfl h3_24 (.gk (.gk (.gk (.u (.pickT rfl rfl) (.an rfl (.condT rfl (.sr (.an rfl (.ret (.blk_r (.then_r ?_)))))))))))
  have hr : lgInstall ⟨δ, ω, Λ⟩ z snap l = (⟨δ, ω, Λ⟩, 1) := by unfold lgInstall; dsimp only; rw [if_neg (by rw [h16]; decide), if_pos (by first | exact .inl h3_24 | exact .inr (by omega))]
  rw [hr]
  try dsimp only
  refine .lf (g := g) (x := x) (ea := ea) (ec := ec) (za := za) (zc := zc) (m := Λ.ents.length) (k := Λ.zxs.length) Λ ?_
  exact .vv
 refine .kDF (t := 23) rfl h3_24 (.grun (t := 24) rfl rfl rfl (.m rfl (.grun (t := 24) rfl rfl rfl (.q (.strlen rfl Tryz.underlying9 rfl) rfl (.grun (t := 24) rfl rfl rfl (.ui rfl rfl rfl (.u (.pickF rfl rfl) (.an rfl (.condD rfl (fun h21 => ?_) (fun h21 => ?_))))))))))
 ·refine .sr (.an rfl (.ret (.blk_r (.then_r ?_))))
  have hr : lgInstall ⟨δ, ω, Λ⟩ z snap l = (⟨δ, ω, Λ⟩, 1) := by unfold lgInstall; dsimp only; rw [if_neg (by rw [h16]; decide), if_pos (by first | exact .inl h3_24 | exact .inr (by omega))]
  rw [hr]
  try dsimp only
  refine .lf (g := g) (x := x) (ea := ea) (ec := ec) (za := za) (zc := zc) (m := Λ.ents.length) (k := Λ.zxs.length) Λ ?_
  exact .vv
 refine .skip (.blk_n (.then_n (.sm rfl (.m rfl (.q (.buildN (pl := [(0, 2), (2, 1), (3, 1), (4, 1), (5, 1), (6, 1), (7, 1)]) (us := [(2, _), (3, _)]) (cells := [vint 0, vint 0, .pointer none, vint z, vstr snap, .slice none 0 0, .slice none 0 0, .bool false]) Tryz.underlying79 (by kernel_rfl) ze_79 rfl rfl) rfl (.oq (.allocA ze_79) ?_))))))
 rintro v L' ⟨b9, rfl, rfl⟩
 refine .oq (.storeA rfl rfl ?c20 sz_79 ?c23 ?c21 (nfz0 _ _)) ?_
 case c20 => simp [isCell]
 case c23 => rfl
 case c21 => simp
 rintro v L' rfl
 refine .nil (.ptCast (b := b9) (l' := [vint 0, vint 0, .pointer none, vint z, vstr snap, .slice none 0 0, .slice none 0 0, .bool false]) (by repeat' constructor) rfl (.add (slR_nil 9 1) (.add (slR_nil 3 1) (.lgNFold (b := b9) (ea := none) (ec := 0) (za := none) (zc := 0) (m := 0) (k := 0) (xs := []) (ys := []) z snap ((l.take 0).map enB) ((l.take 0).map (·.zx)) (by repeat' constructor) rfl rfl rfl rfl rfl (.then_n (.seq (.sm rfl (.q (.slen rfl Tryz.underlying22 rfl) rfl (.m rfl (.nt (.block (.loopK (ι := Nat) (fun q E => (34, vint q) :: E) (fun q => [lgNR b9 z snap ((l.take q).map enB) ((l.take q).map (·.zx))]) (fun q => q ≤ l.length ∧ ∀ i (hi : i < q) (hl : i < l.length), fitsE l[i] = true) (fun q => l.length - q) (0) (ts := [0, 1, 9, 32, 33]) (.cons rfl (.cons rfl (.cons rfl (.cons rfl (.cons rfl (.nil)))))) (⟨Nat.zero_le _, fun i hi => by omega⟩) ⟨rfl, rfl, rfl, rfl, rfl, rfl, trivial⟩ (by repeat' constructor) ?_))))))))))))
 rintro j ⟨hj, hft⟩
 refine .sr (.ui rfl rfl rfl (.nt (.seq (.condD rfl (fun h35 => ?_) (fun h35 => ?_)))))
 ·have hj2 : j < l.length := by omega
  refine .rdShape (p := p) hcells (by repeat' constructor) (by omega) fun ba oa e => ?_
  subst e
  have hX := hx _ (List.getElem_mem hj2)
  refine .sk (.seq (.block (.sr (.q (.indexAddr rfl rfl el_22 (by omega)) rfl (.q (.loadRdA (sz := 11) (j := j * 11) (k := 11) (p := p) (vs := enC l[j]) rfl ag_38 (by repeat' constructor) hcells (by simp) (by omega) (by omega) (flatMap_at (f := enC) (sz := 11) (fun _ _ => rfl) hj2)) rfl (.oq (.allocA ze_38) ?_))))))
  rintro v L' ⟨b11, rfl, rfl⟩
  refine .oq (.storeA rfl rfl ?c33 sz_38 ?c36 ?c34 (nfz0 _ _)) ?_
  case c33 => exact hX.l.cells
  case c36 => rfl
  case c34 => simp [enC, ptC]
  rintro v L' rfl
  refine .nil (.ptCast (b := b11) (l' := enC l[j]) (by repeat' constructor) (by exact rfl) (.then_n (.sr (.q (.loadAs (vs := enC l[j]) rfl ag_38 (by repeat' constructor) (by simp [enC, ptC]) rfl) rfl (.oq (.c Tryz.func48 [_] (llaid_spec l[j] p hX)) ?_)))))
  rintro v L' ⟨s1, hs1, rfl, rfl⟩
  refine .m rfl (.u (.extract rfl rfl) (.u (.extract rfl rfl) (.a rfl (.an rfl (.seq (.sm rfl (.u (.not rfl) (.nt (.condB rfl (fun h44 => ?_) (fun h44 => ?_))))))))))
  ·refine .sr (.an rfl (.rt (.blk_r (.then_r (.then_r (.blk_r (.then_r ?_)))))))
   have hr : lgInstall ⟨δ, ω, Λ⟩ z snap l = (⟨δ, ω, Λ⟩, 1) := by unfold lgInstall; dsimp only; rw [if_neg (by rw [h16]; decide), if_neg (by rintro (g1 | g1); exact h3_24 g1; omega), if_pos (all_fits_bad hj2 (by simpa using h44))]
   rw [hr]
   try dsimp only
   refine .lf (g := g) (x := x) (ea := ea) (ec := ec) (za := za) (zc := zc) (m := Λ.ents.length) (k := Λ.zxs.length) Λ ?_
   exact .vv
  have hfj : fitsE l[j] = true := by simpa using h44
  have hse := hs1 hfj
  subst hse
  refine .sk (.region (.m rfl (.u (.fieldAddr rfl fo_38_0) (.u (.ld rfl ag_3) (.oq (.c Tryz.func51 [_, _, _] (lkeepN_spec b9 z snap ((l.take j).map enB) ((l.take j).map (·.zx)) (enB l[j]) l[j].zx ?h147 ?h248)) ?_)))))
  case h147 => rw [List.length_map, List.length_take]; omega
  case h248 => rw [List.length_map, List.length_take]; omega
  rintro v L' ⟨rfl, rfl⟩; rw [take_map hj2, take_map hj2]
  refine .nil (.blk_n (.then_n (.region (.q (.add rfl rfl (by omega)) rfl (.m rfl (.nt ?_))))))
  exact .rk (j + 1) (⟨by omega, fun i hi hl2 => by rcases Nat.lt_or_ge i j with g1 | g1; exact hft i g1 hl2; obtain rfl : i = j := (by omega); exact hfj⟩) (by omega) ⟨rfl, rfl, rfl, rfl, rfl, rfl, trivial⟩
 have hje : j = l.length := by omega
 subst hje
 rw [List.take_length]
 have hall := all_fits (fun i hi => hft i hi hi)
 refine .lgNOpen (by repeat' constructor) fun na nc nz nd => ?_
 have hzl : (l.map (·.zx)).length = l.length := List.length_map _
 refine .exit (.then_e (.then_e (.blk_e (.then_n (.seq (.sr (.u (.fieldAddr rfl fo_79_5) (.u (.ld rfl ag_31) (.q (.slen rfl Tryz.underlying31 rfl) rfl (.m rfl (.nt (.block (.loopK (ι := Nat) (fun q E => (53, vint q) :: E) (fun q => []) (fun q => q ≤ (l.map (·.zx)).length ∧ ∀ k, k < q → z < ((l.map (·.zx))).getD k 0 ∧ (0 < k → ((l.map (·.zx))).getD (k - 1) 0 < ((l.map (·.zx))).getD k 0)) (fun q => (l.map (·.zx)).length - q) (0) (ts := [0, 1, 9, 51, 52]) (.cons rfl (.cons rfl (.cons rfl (.cons rfl (.cons rfl (.nil)))))) (⟨Nat.zero_le _, fun k hk => by omega⟩) ⟨rfl, rfl, rfl, rfl, rfl, rfl, trivial⟩ (by repeat' constructor) ?_)))))))))))))
 rintro i ⟨hi, hgood⟩
 refine .sr (.ui rfl rfl rfl (.nt (.seq (.condD rfl (fun h54 => ?_) (fun h54 => ?_)))))
 ·refine .slShape (v := .slice nz _ nd) (xs := ints (l.map (·.zx))) (by repeat' constructor) (by omega) fun bn cq e0 mq _ => ?_
  simp only [Value.slice.injEq, true_and] at e0
  obtain ⟨rfl, rfl⟩ := e0
  refine .sk (.seq (.block (.sm rfl (.q (.indexAddr rfl rfl el_31 (by omega)) rfl (.q (.loadEl (p := intR (.slice (some ⟨bn, 0, none⟩) (l.map (·.zx)).length nd) (l.map (·.zx))) (i := (i) * 1) (v := vint (((l.map (·.zx))).getD (i) 0)) rfl ag_3 (by repeat' constructor) (fun h hp => slR_rd hp) (ints_at' (by omega))) rfl (.a rfl (.an rfl (.sm rfl (.m rfl (.ui rfl rfl rfl (.m rfl (.dec (t := 61) rfl (fun h17_61 => ?_) (fun h17_61 => ?_)))))))))))))
  ·refine .kDT (t := 60) rfl h17_61 (.gk (.gk (.gk (.gskipU (t := 64) rfl rfl rfl (.gskipU (t := 64) rfl rfl rfl (.gskipU (t := 64) rfl rfl rfl (.gskipU (t := 64) rfl rfl rfl (.gskipU (t := 64) rfl rfl rfl (.gskipU (t := 64) rfl rfl rfl (.gskipU (t := 64) rfl rfl rfl (.gskipU (t := 64) rfl rfl rfl (.gk (.u (.pickT rfl rfl) (.nt (.condT rfl (.sr (.an rfl (.ret (.blk_r (.then_r (.then_r (.blk_r (.then_r ?_)))))))))))))))))))))))
   have hr : lgInstall ⟨δ, ω, Λ⟩ z snap l = (⟨δ, ω, Λ⟩, 81) := by unfold lgInstall; dsimp only; rw [if_neg (by rw [h16]; decide), if_neg (by rintro (g1 | g1); exact h3_24 g1; omega), if_neg (by rw [hall]; decide), if_pos (fun hR => by have hRi := hR i (by omega); exact absurd hRi.1 (by omega))]
   rw [hr]
   try dsimp only
   refine .lf (g := g) (x := x) (ea := ea) (ec := ec) (za := za) (zc := zc) (m := Λ.ents.length) (k := Λ.zxs.length) Λ ?_
   exact .vv
  refine .kDF (t := 60) rfl h17_61 (.grun (t := 61) rfl rfl rfl (.m rfl (.grun (t := 61) rfl rfl rfl (.ui rfl rfl rfl (.grun (t := 61) rfl rfl rfl (.m rfl (.dec (t := 64) rfl (fun h17_64 => ?_) (fun h17_64 => ?_))))))))
  ·refine .kDT (t := 63) rfl h17_64 (.grun (t := 64) rfl rfl rfl (.m rfl (.grun (t := 64) rfl rfl rfl (.u (.fieldAddr rfl fo_79_5) (.grun (t := 64) rfl rfl rfl (.u (.ld rfl ag_31) (.grun (t := 64) rfl rfl rfl (.m rfl (.grun (t := 64) rfl rfl rfl (.q (.as (v' := vint ((i - 1 : Nat) : Int)) (by congr 1; omega) (.sub rfl rfl (by omega))) rfl (.grun (t := 64) rfl rfl rfl (.q (.indexAddr rfl rfl el_31 (by omega)) rfl (.grun (t := 64) rfl rfl rfl (.q (.loadEl (p := intR (.slice (some ⟨bn, 0, none⟩) (l.map (·.zx)).length nd) (l.map (·.zx))) (i := (i - 1) * 1) (v := vint (((l.map (·.zx))).getD (i - 1) 0)) rfl ag_3 (by repeat' constructor) (fun h hp => slR_rd hp) (ints_at' (by omega))) rfl (.grun (t := 64) rfl rfl rfl (.ui rfl rfl rfl (.grun (t := 61) rfl rfl rfl (.u (.pickT rfl rfl) (.u (.pickF rfl rfl) (.nt ?_))))))))))))))))))))
   refine .condD rfl (fun h74 => ?_) (fun h74 => ?_)
   ·refine .sr (.an rfl (.ret (.blk_r (.then_r (.then_r (.blk_r (.then_r ?_)))))))
    have hr : lgInstall ⟨δ, ω, Λ⟩ z snap l = (⟨δ, ω, Λ⟩, 81) := by unfold lgInstall; dsimp only; rw [if_neg (by rw [h16]; decide), if_neg (by rintro (g1 | g1); exact h3_24 g1; omega), if_neg (by rw [hall]; decide), if_pos (fun hR => by have hRi := hR i (by omega); have := hRi.2 (by omega); omega)]
    rw [hr]
    try dsimp only
    refine .lf (g := g) (x := x) (ea := ea) (ec := ec) (za := za) (zc := zc) (m := Λ.ents.length) (k := Λ.zxs.length) Λ ?_
    exact .vv
   refine .skip (.blk_n (.then_n (.region (.q (.add rfl rfl (by omega)) rfl (.m rfl (.nt ?_))))))
   exact .rk (i + 1) (⟨by omega, fun k hk => by rcases Nat.lt_or_ge k i with g1 | g1; exact hgood k g1; obtain rfl : k = i := (by omega); exact ⟨by omega, fun h0k => by first | omega | exact absurd h0k (by omega)⟩⟩) (by omega) ⟨rfl, rfl, rfl, rfl, rfl, rfl, trivial⟩
  refine .kDF (t := 63) rfl h17_64 (.gk (.gk (.gk (.gk (.gk (.gk (.gk (.gk (.grun (t := 61) rfl rfl rfl (.u (.pickF rfl rfl) (.u (.pickF rfl rfl) (.nt (.condF rfl (.skip (.blk_n (.then_n (.region (.q (.add rfl rfl (by omega)) rfl (.m rfl (.nt ?_))))))))))))))))))))
  exact .rk (i + 1) (⟨by omega, fun k hk => by rcases Nat.lt_or_ge k i with g1 | g1; exact hgood k g1; obtain rfl : k = i := (by omega); exact ⟨by omega, fun h0k => by first | omega | exact absurd h0k (by omega)⟩⟩) (by omega) ⟨rfl, rfl, rfl, rfl, rfl, rfl, trivial⟩
 have hR : Rises z (l.map (·.zx)) := fun k hk => hgood k (by omega)
 refine .fold (p := sep [strR (.slice na (l.map enB).length nc) (l.map enB), intR (.slice nz (l.map (·.zx)).length nd) (l.map (·.zx))]) (q := [strR (.slice na (l.map enB).length nc) (l.map enB), intR (.slice nz (l.map (·.zx)).length nd) (l.map (·.zx))]) (by repeat' constructor) (fun _ hp => hp) (.exit (.then_e (.then_e (.blk_e (.then_n (.sm rfl (.q (.loadAs (vs := [vint 0, vint 0, .pointer none, vint z, vstr snap, .slice na (l.map enB).length nc, .slice nz (l.map (·.zx)).length nd, .bool false]) rfl ag_79 (by repeat' constructor) (by simp) rfl) rfl ?_)))))))
 have hsp := lrenew_spec g x d δ ω Λ z snap (.slice na (l.map enB).length nc) (.slice nz (l.map (·.zx)).length nd) (l.map enB) (l.map (·.zx)) ea ec za zc (sep [strR (.slice na (l.map enB).length nc) (l.map enB), intR (.slice nz (l.map (·.zx)).length nd) (l.map (·.zx))]) hI hz (by omega) (fun h hp => (by obtain ⟨g1, g2, -, le1, le2, q1, q2⟩ := hp; exact rdS_mono (slR_rd q1) le1)) (fun h hp => (by obtain ⟨g1, g2, -, le1, le2, q1, q2⟩ := hp; exact rdS_mono (sep_hd q2 (fun _ q => slR_rd q)) le2)) (by rw [List.length_map]; omega) (by rw [List.length_map, List.length_map])
 refine .oq (.c Tryz.func139 [_, _] (hsp)) ?_
 rintro v L' ⟨rfl, ⟨hf0, rfl⟩ | ⟨hf1, rfl⟩⟩
 ·refine .an rfl (.ret ?_)
  have hr : lgInstall ⟨δ, ω, Λ⟩ z snap l = lgRenew ⟨δ, ω, Λ⟩ z snap (l.map enB) (l.map (·.zx)) := by unfold lgInstall; dsimp only; rw [if_neg (by rw [h16]; decide), if_neg (by rintro (g1 | g1); exact h3_24 g1; omega), if_neg (by rw [hall]; decide), if_neg (fun g => g hR)]
  rw [hr]
  exact .vv
 refine .an rfl (.ret ?_)
 have hr : lgInstall ⟨δ, ω, Λ⟩ z snap l = lgRenew ⟨δ, ω, Λ⟩ z snap (l.map enB) (l.map (·.zx)) := by unfold lgInstall; dsimp only; rw [if_neg (by rw [h16]; decide), if_neg (by rintro (g1 | g1); exact h3_24 g1; omega), if_neg (by rw [hall]; decide), if_neg (fun g => g hR)]
 rw [hr]
 obtain ⟨e9, he9⟩ := renew_bad hf1
 rw [he9]
 dsimp only
 refine .lgFold (g := g) (x := x) (ea := ea) (ec := ec) (za := za) (zc := zc) (m := Λ.ents.length) (k := Λ.zxs.length) (Λ.met e9) (by repeat' constructor) (by rw [met_acc, met_cur, met_base, met_snap]) (by rw [met_ents]) (by rw [met_zxs]) (by rw [met_ents]) (by rw [met_zxs]) ?_
 exact .vv
structure Op9 where
 k : Int
 n : Int
 size : Int
 e : En
 lv : Value
 l : List En
 text : Bs
 hv : Value
 how : List Int
def op9K (o : Op9) (k : Int) : List Value := [vint k, vint o.n, vint o.size] ++ enC o.e ++ [o.lv, vstr o.text, o.hv]
def op9C (o : Op9) : List Value := op9K o o.k
structure Op9A (p : HP) (o : Op9) : Prop where
 k : I64 o.k
 n : I64 o.n
 size : I64 o.size
 e : EnX p o.e
 l : ∀ h : Hp, p h → rdS 11 h o.lv o.l.length (o.l.flatMap enC)
 len : o.l.length ≤ 1048576
 x : ∀ e ∈ o.l, EnX p e
 text : o.text.length ≤ 1048576
 how : ∀ h : Hp, p h → rdS 1 h o.hv o.how.length (ints o.how)
 hows : ∀ z ∈ o.how, I64 z
 lc : isCell o.lv = true
 hc : isCell o.hv = true
structure Ops9 (p : HP) (v : Value) (xs : List Op9) : Prop where
 cells : ∀ h : Hp, p h → rdS 17 h v xs.length (xs.flatMap op9C)
 len : xs.length ≤ 1048576
 each : ∀ o ∈ xs, Op9A p o
def textF : Nat → Bs → Int → Bs
 | 0, s, _ => s
 | f + 1, s, n => if s ≠ [] ∧ (s.length : Int) < n then textF f (s ++ s) n else s
def cutT (s : Bs) (n : Int) : Bs := if (s.length : Int) > n ∧ n > 0 then s.take n.toNat else s
def textZ (o : Op9) : Bs := cutT (textF 66001 o.text (min o.size 66000)) (min o.size 66000)
theorem textF_stop {f : Nat} {s : Bs} {n : Int} (h : ¬ (s ≠ [] ∧ (s.length : Int) < n)) : textF f s n = s := by
 cases f with
 | zero => rfl
 | succ f => show (if _ then _ else _) = _; rw [if_neg h]
theorem textF_go {f : Nat} {s : Bs} {n : Int} (h : s ≠ [] ∧ (s.length : Int) < n) : textF (f + 1) s n = textF f (s ++ s) n := by
 show (if _ then _ else _) = _; rw [if_pos h]
def lgDoes (s : Ld) (o : Op9) (k : Int) : Ld × Int :=
 if k = 1 then lgAppend s o.e else if k = 2 then lgSync s else if k = 3 then lgAccept s o.n else if k = 4 then lgAdopt s o.n else if k = 5 then lgCut s o.n else if k = 6 then lgInstall s o.n (textZ o) o.l else lgCompact s o.n (textZ o)
theorem place_ok {Λ : Lg} (h : LgW Λ) {z : Int} {n : Nat} (hn : placeZ Λ z = some n) : (0 ≤ z ∧ z ≤ 9223372036854775807) ∧ RowsI z (Λ.ents.drop n) (Λ.zxs.drop n) := by
 obtain ⟨p1, p2⟩ := place_le hn
 have hb := h.base
 have hd := h.rows.drop n p1
 rw [p2] at hd
 refine ⟨?_, hd⟩
 unfold placeZ at hn
 split at hn
 ·rename_i hm
  have := h.rows.gt z hm
  have := (h.rows.i64 z hm).2
  omega
 ·split at hn
  ·rename_i g; rw [g]; exact hb
  ·cases hn
theorem numbers9_spec (va vb : Value) (xs ys : List Int) (p q : HP) (hp : ∀ h : Hp, p h → rdS 1 h va xs.length (ints xs)) (hq : ∀ h : Hp, q h → rdS 1 h vb ys.length (ints ys)) (hl : xs.length ≤ 4294967296) (hm : ys.length ≤ 4294967296) : Fn Tryz.prog 14 #[va, vb] [p, q] fun v L => v = .bool (decide (xs = ys)) ∧ L = [p, q] := by
 refine Fn.intro Tryz.func14 rfl rfl fun F W => ?_
 refine .rdAny (p := p) hp (by repeat' constructor) fun ap cp e _ => ?_
 subst e
 refine .rdAny (p := q) hq (by repeat' constructor) fun aq cq e _ => ?_
 subst e
 refine .sr (.an rfl (.seq (.sm rfl (.q (.slen rfl Tryz.underlying31 rfl) rfl (.m rfl (.q (.slen rfl Tryz.underlying31 rfl) rfl (.ui rfl rfl rfl (.nt (.condN rfl (fun h10 => ?_) (fun h10 => ?_))))))))))
 ·refine .sr (.an rfl (.rt ?_))
  exact .dn rfl rfl ⟨congrArg Value.bool (decide_eq_false (fun h => h10 (by rw [h]))).symm, rfl⟩
 refine .sk (.seq (.sr (.an rfl (.block (.loopK (ι := Nat) (fun q E => (5, vint q) :: E) (fun q => []) (fun q => q ≤ xs.length ∧ ∀ j, j < q → xs.getD j 0 = ys.getD j 0) (fun q => xs.length - q) (0) (ts := [0, 1]) (.cons rfl (.cons rfl (.nil))) (⟨Nat.zero_le _, fun j hj => by omega⟩) ⟨rfl, rfl, rfl, trivial⟩ (by repeat' constructor) ?_)))))
 rintro i ⟨hi, hb⟩
 refine .seq (.sm rfl (.m rfl (.q (.slen rfl Tryz.underlying31 rfl) rfl (.ui rfl rfl rfl (.nt (.condD rfl (fun h14 => ?_) (fun h14 => ?_)))))))
 ·refine .rdShape (p := p) hp (by repeat' constructor) (by omega) fun bp op e => ?_
  subst e
  refine .rdShape (p := q) hq (by repeat' constructor) (by omega) fun bq oq e => ?_
  subst e
  refine .sk (.seq (.block (.seq (.draw [] [[0, 1, 2, 3, 4, 5, 6, 7, 8]] mixed (by kernel_rfl) (.g0 (.mv rfl rfl (.mv rfl rfl (.kv rfl (.indexAddr rfl rfl el_31 (by omega)) (.kv rfl (.loadEl (p := p) (i := i * 1) (v := vint (xs.getD i 0)) rfl ag_3 (by repeat' constructor) hp (ints_at (by omega))) (.mv rfl rfl (.mv rfl rfl (.kv rfl (.indexAddr rfl rfl el_31 (by omega)) (.kv rfl (.loadEl (p := q) (i := i * 1) (v := vint (ys.getD i 0)) rfl ag_3 (by repeat' constructor) hq (ints_at (by omega))) (.kv rfl (.int rfl rfl rfl) (.pf (.condN rfl (fun h25 => ?_) (fun h25 => ?_)))))))))))))))))
  ·refine .sr (.an rfl (.ret (.blk_r (.then_r (.then_r (.blk_r (.then_r ?_)))))))
   exact .dn rfl rfl ⟨congrArg Value.bool (decide_eq_false (fun h => h25 (by rw [h]))).symm, rfl⟩
  refine .skip (.blk_n (.then_n (.region (.m rfl (.q (.add rfl rfl (by omega)) rfl (.an rfl ?_))))))
  exact .rk (i + 1) (⟨by omega, fun j hj => by rcases Nat.lt_or_ge j i with h | h; exact hb j h; obtain rfl : j = i := (by omega); exact h25⟩) (by omega) ⟨rfl, rfl, rfl, trivial⟩
 refine .exit (.then_e (.then_e (.blk_e (.then_n (.sr (.an rfl (.ret ?_)))))))
 exact .dn rfl rfl ⟨congrArg Value.bool (decide_eq_true (by apply List.ext_getElem (by omega); intro j h1 h2; have := hb j (by omega); simpa [List.getD_eq_getElem?_getD, h1, h2] using this)).symm, rfl⟩
theorem op9_at {xs : List Op9} {i : Nat} (h : i < xs.length) : ((xs.flatMap op9C).drop (i * 17)).take 17 = op9C xs[i] := flatMap_at (f := op9C) (sz := 17) (fun _ _ => rfl) h
theorem txtR_le (st : Rs) : (txtR st).1.length ≤ 4096 := by
 unfold txtR runP
 split
 ·exact Nat.zero_le _
 ·split
  ·rename_i x hx; exact (txt_form hx).2
  ·exact Nat.zero_le _
theorem many_all {α : Type} {f : Rn α} {Q : α → Prop} (h : ∀ st, Q (f st).1) : ∀ (n : Nat) (st : Rs), ∀ x ∈ (manyR f n st).1, Q x
 | 0, _, x, hx => by cases hx
 | n + 1, st, x, hx => by
  rcases List.mem_append.1 (show x ∈ (manyR f n st).1 ++ [(f (manyR f n st).2).1] from hx) with hx | hx
  ·exact many_all h n st x hx
  ·rw [List.mem_singleton] at hx; subst hx; exact h _
theorem rows_all {α : Type} {f : Rn α} {Q : α → Prop} (h : ∀ st, Q (f st).1) (st : Rs) : (rowsR f st).1.length ≤ 256 ∧ ∀ x ∈ (rowsR f st).1, Q x := by
 refine ⟨?_, many_all h _ _⟩
 show (manyR f (cntR st).1 (cntR st).2).1.length ≤ 256
 rw [many_len]; exact cntR_le st
def AcG (a : Ac) : Prop := I64 a.1 ∧ a.2.length ≤ 4096
structure PtG (y : Pt) : Prop where
 kind : I64 y.kind
 own : I64 y.own
 num : I64 y.num
 err : I64 y.err
 path : y.path.length ≤ 4096
 data : y.data.length ≤ 4096
 many : y.acl.length ≤ 256
 acl : ∀ a ∈ y.acl, AcG a
structure EnG (e : En) : Prop where
 zx : I64 e.zx
 ses : I64 e.ses
 xid : I64 e.xid
 x : PtG e.x
 many : e.subs.length ≤ 256
 subs : ∀ y ∈ e.subs, PtG y
theorem acR_G (st : Rs) : AcG (acR st).1 := ⟨numR_i64 _, txtR_le _⟩
theorem ptR_G (st : Rs) : PtG (ptR st).1 :=
 ⟨numR_i64 _, numR_i64 _, numR_i64 _, numR_i64 _, txtR_le _, txtR_le _, (rows_all acR_G _).1, (rows_all acR_G _).2⟩
theorem enR_G (st : Rs) : EnG (enR st).1 := ⟨numR_i64 _, numR_i64 _, numR_i64 _, ptR_G _, (rows_all ptR_G _).1, (rows_all ptR_G _).2⟩
theorem getZ_G {s : Bs} {e : En} (h : getZ s = some e) : EnG e := by
 unfold getZ getR at h
 split at h
 ·rename_i q hq; cases h
  have := enR_G (some s)
  rw [hq] at this; exact this
 ·cases h
theorem PtG.of {y : Pt} (h : PtG y.pl) : PtG y := ⟨h.kind, h.own, h.num, h.err, h.path, h.data, h.many, h.acl⟩
theorem EnG.of {e : En} (h : EnG e.pl) : EnG e := by
 refine ⟨h.zx, h.ses, h.xid, h.x.of, by have := h.many; unfold En.pl at this; rw [List.length_map] at this; exact this, fun y hy => (h.subs y.pl ?_).of⟩
 show y.pl ∈ e.subs.map Pt.pl
 exact List.mem_map_of_mem hy
theorem PtG.i {y : Pt} (h : PtG y) : PtI y := by
 have hu : U64 = 18446744073709551616 := rfl
 refine ⟨h.kind, h.own, h.num, h.err, ?_, ?_, ?_, fun a ha => ⟨(h.acl a ha).1, ?_⟩⟩
 ·have := h.path; omega
 ·have := h.data; omega
 ·have := h.many; omega
 ·have := (h.acl a ha).2; omega
theorem EnG.i {e : En} (h : EnG e) : EnI e := by
 have hu : U64 = 18446744073709551616 := rfl
 exact ⟨h.zx, h.ses, h.xid, h.x.i, by have := h.many; omega, fun y hy => (h.subs y hy).i⟩
theorem fm_most {α : Type} {f : α → Bs} {c : Nat} : ∀ {l : List α}, (∀ x ∈ l, (f x).length ≤ c) → (l.flatMap f).length ≤ l.length * c
 | [], _ => by simp
 | y :: l, h => by
  have h1 := h y (List.mem_cons_self ..)
  have h2 := fm_most (l := l) (f := f) (fun x hx => h x (List.mem_cons_of_mem _ hx))
  rw [List.flatMap_cons, List.length_append, List.length_cons, Nat.add_mul]; omega
theorem cnt10 {n : Nat} (h : n ≤ 65536) : (cntB n).length ≤ 10 := sev_len10 (by have hu : U64 = 18446744073709551616 := rfl; omega)
theorem ptB_most {y : Pt} (h : PtG y) : (ptB y).length ≤ 1061966 := by
 have h1 := numB_len h.kind
 have h2 := cnt10 (n := y.path.length) (by have := h.path; omega)
 have h3 := cnt10 (n := y.data.length) (by have := h.data; omega)
 have h4 := cnt10 (n := y.acl.length) (by have := h.many; omega)
 have h5 := numB_len h.own
 have h6 := numB_len h.num
 have h7 := numB_len h.err
 have h8 := fm_most (f := acB) (c := 4116) (l := y.acl) (fun a ha => by
  have g1 := numB_len (h.acl a ha).1
  have g2 := (h.acl a ha).2
  have g3 := cnt10 (n := a.2.length) (by omega)
  unfold acB txtB; rw [List.length_append, List.length_append]; omega)
 have h9 := h.path
 have h10 := h.data
 have h11 : y.acl.length * 4116 ≤ 256 * 4116 := Nat.mul_le_mul_right _ h.many
 rw [ptB_len]
 unfold aclB
 rw [List.length_append]
 simp only [List.flatMap_cons, List.flatMap_nil, List.length_append, List.length_nil]
 omega
theorem enB_most {e : En} (h : EnG e) : (enB e).length ≤ 1073741824 := by
 have h1 := numB_len h.zx
 have h2 := numB_len h.ses
 have h3 := numB_len h.xid
 have h4 := ptB_most h.x
 have h5 := fm_most (f := ptB) (c := 1061966) (l := e.subs) (fun y hy => ptB_most (h.subs y hy))
 have h6 := cnt10 (n := e.subs.length) (by have := h.many; omega)
 have h7 : e.subs.length * 1061966 ≤ 256 * 1061966 := Nat.mul_le_mul_right _ h.many
 rw [enB_len]
 unfold subsB
 rw [List.length_append]
 simp only [List.flatMap_cons, List.flatMap_nil, List.length_append, List.length_nil]
 omega
theorem big_get {α : Type} {f : α → HP} : ∀ {l : List α} {x : α} {h : Hp}, x ∈ l → bigR f l h → ∃ h1, (∀ b o, h1 b = some o → h b = some o) ∧ f x h1
 | y :: l, x, h, hx, hp => by
  have hq := big_cons hp
  rcases List.mem_cons.1 hx with rfl | hx
  ·exact sep_head hq
  ·obtain ⟨h1, a1, q1⟩ := sep_head (sep_perm (List.Perm.swap _ _ _) hq)
   obtain ⟨h2, a2, q2⟩ := big_get hx q1
   exact ⟨h2, fun b o hb => a1 b o (a2 b o hb), q2⟩
 | [], _, _, hx, _ => by cases hx
theorem ent_acl {e : En} {h : Hp} (hp : entR e h) : rdS 2 h e.x.aclV e.x.acl.length (e.x.acl.flatMap acC) := by
 obtain ⟨h1, a1, q1⟩ := sep_head hp
 exact rdS_mono (slR_rd q1) a1
theorem ent_subs {e : En} {h : Hp} (hp : entR e h) : rdS 8 h e.x.subsV e.subs.length (e.subs.flatMap ptC) := by
 obtain ⟨h1, a1, q1⟩ := sep_head (sep_perm (List.Perm.swap _ _ _) hp)
 exact rdS_mono (slR_rd q1) a1
theorem ent_each {e : En} {h : Hp} (hp : entR e h) {y : Pt} (hy : y ∈ e.subs) : rdS 2 h y.aclV y.acl.length (y.acl.flatMap acC) := by
 have hq : sep [bigR aclR e.subs, aclR e.x, subsR e] h := sep_perm (by
  refine List.Perm.trans (List.Perm.cons _ (List.Perm.swap _ _ _)) (List.Perm.swap _ _ _)) hp
 obtain ⟨h1, a1, q1⟩ := sep_head hq
 obtain ⟨h2, a2, q2⟩ := big_get hy q1
 exact rdS_mono (slR_rd q2) (fun b o hb => a1 b o (a2 b o hb))
theorem entL {es : List En} {e : En} (he : e ∈ es) (hk : EnK e) (hg : EnG e) : EnL (bigR entR es) e := by
 have hr : ∀ {h : Hp}, bigR entR es h → ∃ h1, (∀ b o, h1 b = some o → h b = some o) ∧ entR e h1 := fun hp => big_get he hp
 have h256 : ∀ {n : Nat}, n ≤ 256 → n ≤ 1048576 := fun h => Nat.le_trans h (by decide)
 refine ⟨⟨hg.i, fun h hp => ?_, fun h hp => ?_, fun y hy h hp => ?_⟩, enB_most hg, ⟨h256 hg.many, h256 hg.x.many, fun y hy => h256 (hg.subs y hy).many⟩, hk.x, fun y hy => ⟨(hk.subs y hy).1, by rw [(hk.subs y hy).2]; rfl⟩⟩
 ·obtain ⟨h1, a1, q1⟩ := hr hp; exact rdS_mono (ent_acl q1) a1
 ·obtain ⟨h1, a1, q1⟩ := hr hp; exact rdS_mono (ent_subs q1) a1
 ·obtain ⟨h1, a1, q1⟩ := hr hp; exact rdS_mono (ent_each q1 hy) a1
section
variable {W : World} {n : Nat} {ds : List Deferred} {E : Env} {L R : List HP} {X : Act → World → Prop}
end
theorem get_enB {s : Bs} {e : En} (h : getZ s = some e.pl) : enB e = s := by
 rw [← enB_pl]; exact (get_form h).1.symm
def behindB (Λ : Lg) (z : Int) : List Bs := ((Λ.ents.zip Λ.zxs).filter fun q => decide (q.2 > z)).map (·.1)
theorem rowsI_some : ∀ {es : List Bs} {zs : List Int} {b : Int}, RowsI b es zs → ∀ q ∈ es.zip zs, ∃ e, getZ q.1 = some e ∧ e.zx = q.2
 | [], [], _, _, q, hq => by cases hq
 | s :: t, z :: u, _, h, q, hq => by
  rw [List.zip_cons_cons] at hq
  rcases List.mem_cons.1 hq with rfl | hq
  ·exact h.1
  ·exact rowsI_some h.2.2.2 q hq
 | [], _ :: _, _, h, _, _ => h.elim
 | _ :: _, [], _, h, _, _ => h.elim
theorem behind_B {Λ : Lg} (h : LgW Λ) {z : Int} {es : List En} (he : es.map En.pl = behindL Λ z) : es.map enB = behindB Λ z ∧ ∀ e ∈ es, EnG e := by
  have key : ∀ {l : List (Bs × Int)} {es : List En}, (∀ q ∈ l, ∃ e, getZ q.1 = some e ∧ e.zx = q.2) → es.map En.pl = l.map entAt → es.map enB = l.map (·.1) ∧ ∀ e ∈ es, EnG e := by
    intro l
    induction l with
    | nil => intro es _ h; cases es with
      | nil => exact ⟨rfl, fun _ h => by cases h⟩
      | cons e es => simp at h
    | cons q l ih =>
      intro es hq h
      cases es with
      | nil => simp at h
      | cons e es =>
        rw [List.map_cons, List.map_cons, List.cons.injEq] at h
        obtain ⟨i1, i2⟩ := ih (fun x hx => hq x (List.mem_cons_of_mem _ hx)) h.2
        obtain ⟨g, hg, -⟩ := hq q (List.mem_cons_self ..)
        have hpl : getZ q.1 = some e.pl := by rw [h.1]; unfold entAt; rw [hg]; rfl
        refine ⟨by rw [List.map_cons, List.map_cons, i1, get_enB hpl], fun x hx => ?_⟩
        rcases List.mem_cons.1 hx with rfl | hx
        · exact (getZ_G hpl).of
        · exact i2 x hx
  exact key (fun q hq => rowsI_some h.rows q ((List.mem_filter.1 hq).1)) he
structure EsOf (es : List En) (Λ : Lg) : Prop where
 b : es.map enB = Λ.ents
 z : es.map (·.zx) = Λ.zxs
 n : es.length ≤ 1048576
 k : ∀ e ∈ es, EnK e ∧ EnG e
abbrev gc9 (y w : Nat) (base : Int) (snap : Bs) (sl : Value) (acc cur : Int) (db : Bool) : HP := ptc y [vptr w, vint base, vstr snap, sl, vint acc, vint cur, .bool db] 129
abbrev es9 (sl : Value) (es : List En) : HP := slR 38 11 sl es.length (es.flatMap enC)
def rgR (y w : Nat) (Λ : Lg) : HP := fun h => ∃ q : (Option Addr × Nat) × List En, EsOf q.2 Λ ∧ sep [gc9 y w Λ.base Λ.snap (.slice q.1.1 q.2.length q.1.2) Λ.acc Λ.cur Λ.doubt, es9 (.slice q.1.1 q.2.length q.1.2) q.2, bigR entR q.2] h
section
variable {W : World} {n : Nat} {ds : List Deferred} {E : Env} {L R : List HP} {X : Act → World → Prop}
theorem G.rgOpen {y w : Nat} {Λ : Lg} (hL : Pick (rgR y w Λ) L R) (h : ∀ (a : Option Addr) (c : Nat) (es : List En), EsOf es Λ → G W n ds E (gc9 y w Λ.base Λ.snap (.slice a es.length c) Λ.acc Λ.cur Λ.doubt :: es9 (.slice a es.length c) es :: bigR entR es :: R) X) : G W n ds E L X :=
 G.focus hL (G.open (q := fun q : (Option Addr × Nat) × List En => [gc9 y w Λ.base Λ.snap (.slice q.1.1 q.2.length q.1.2) Λ.acc Λ.cur Λ.doubt, es9 (.slice q.1.1 q.2.length q.1.2) q.2, bigR entR q.2]) (φ := fun q : (Option Addr × Nat) × List En => EsOf q.2 Λ) (fun _ hp => hp) fun q hq => h q.1.1 q.1.2 q.2 hq)
theorem G.rgFold {y w : Nat} {l xs : List Value} {sl : Value} {m : Nat} (Λ : Lg) (a : Option Addr) (c : Nat) (es : List En) (hL : Picks [ptc y l 129, slR 38 11 sl m xs, bigR entR es] L R) (hE : EsOf es Λ)
  (h1 : l = [vptr w, vint Λ.base, vstr Λ.snap, .slice a es.length c, vint Λ.acc, vint Λ.cur, .bool Λ.doubt]) (h2 : sl = .slice a es.length c) (h3 : m = es.length) (h4 : xs = es.flatMap enC) (h : G W n ds E (rgR y w Λ :: R) X) : G W n ds E L X := by
 subst h1; subst h2; subst h3; subst h4
 exact G.fold hL (fun _ hp => ⟨((a, c), es), hE, hp⟩) h
theorem G.rg {y w : Nat} {l xs : List Value} {sl : Value} {m : Nat} (Λ : Lg) (a : Option Addr) (c : Nat) (es : List En) (hE : EsOf es Λ) (h : G W n ds E (rgR y w Λ :: R) X) (hL : Picks [ptc y l 129, slR 38 11 sl m xs, bigR entR es] L R := by repeat' constructor) (h1 : l = [vptr w, vint Λ.base, vstr Λ.snap, .slice a es.length c, vint Λ.acc, vint Λ.cur, .bool Λ.doubt] := by exact rfl) (h2 : sl = .slice a es.length c := by exact rfl) (h3 : m = es.length := by exact rfl) (h4 : xs = es.flatMap enC := by exact rfl) : G W n ds E L X := G.rgFold Λ a c es hL hE h1 h2 h3 h4 h
end
theorem zx_back {e e' : En} (h : getZ (enB e) = some e') (hz : I64 e.zx) : e'.zx = e.zx := by
 unfold getZ getR at h
 split at h
 ·rename_i q hq
  cases h
  have e1 : (enR (some (enB e))).1.zx = (numR (some (enB e))).1 := rfl
  rw [hq] at e1
  have e2 : enB e = numB e.zx ++ (numB e.ses ++ (numB e.xid ++ (ptB e.x ++ subsB e.subs))) := by
   unfold enB; simp only [List.flatMap_cons, List.flatMap_nil, List.append_nil, List.append_assoc]
  rw [e2, numR_back hz] at e1
  exact e1
 ·cases h
theorem EsOf.lastF {es : List En} {Λ : Lg} (h : EsOf es Λ) : lastF Λ.base (es.map (·.zx)) = lastZ Λ := by rw [h.z]; rfl
theorem EsOf.len {es : List En} {Λ : Lg} (h : EsOf es Λ) : es.length = Λ.ents.length := by have := congrArg List.length h.b; rw [List.length_map] at this; exact this
theorem EsOf.nil {Λ : Lg} (h : Λ.ents = []) (hz : Λ.zxs = []) : EsOf [] Λ := ⟨h.symm, hz.symm, Nat.zero_le _, fun _ h => by cases h⟩
theorem EsOf.keep {es : List En} {Λ : Lg} (h : EsOf es Λ) {e : En} {s : Bs} (hs : enB e = s) (hk : EnK e) (hg : EnG e) (hn : es.length < 1048576) : EsOf (es ++ [e]) (Λ.keep s e.zx) := by
 refine ⟨?_, ?_, by rw [List.length_append, List.length_singleton]; omega, fun x hx => ?_⟩
 ·rw [List.map_append, h.b, List.map_singleton, hs]; rfl
 ·rw [List.map_append, h.z, List.map_singleton]; rfl
 ·rcases List.mem_append.1 hx with hx | hx
  ·exact h.k x hx
  ·rw [List.mem_singleton] at hx; subst hx; exact ⟨hk, hg⟩
theorem getZ_of {s : Bs} {e : En} {er : Int} (h : GotZ s e er) (h0 : er = 0) : getZ s = some e.pl ∧ enB e = s ∧ EnK e ∧ EnG e := by
 rcases h with ⟨-, h1, h2⟩ | ⟨h1, -⟩
 ·exact ⟨h1, get_enB h1, h2, (getZ_G h1).of⟩
 ·rw [h1] at h0; cases h0
theorem getZ_no {s : Bs} {e : En} {er : Int} (h : GotZ s e er) (h0 : ¬ er = 0) : getZ s = none := by
 rcases h with ⟨h1, -⟩ | ⟨-, h2, -⟩
 ·exact absurd h1 h0
 ·exact h2
theorem keep_eq {a b base : Int} {sn s : Bs} {es : List En} {ge : En} (hs : enB ge = s) : (⟨a, b, base, sn, es.map enB, es.map (·.zx), false⟩ : Lg).keep s ge.zx = ⟨a, b, base, sn, (es ++ [ge]).map enB, (es ++ [ge]).map (·.zx), false⟩ := by
 unfold Lg.keep; rw [List.map_append, List.map_append, List.map_singleton, List.map_singleton, hs]
theorem esOf_self {a b base : Int} {sn : Bs} {es : List En} {db : Bool} (hn : es.length ≤ 1048576) (hk : ∀ e ∈ es, EnK e ∧ EnG e) : EsOf es ⟨a, b, base, sn, es.map enB, es.map (·.zx), db⟩ := ⟨rfl, rfl, hn, hk⟩
theorem lastF_at {es : List En} {base : Int} {i : Nat} (h : i + 1 = es.length) : lastF base (es.map (·.zx)) = (es[i]'(by omega)).zx := by
 unfold lastF
 rw [List.getLast?_eq_getElem?, List.length_map, show es.length - 1 = i by omega, List.getElem?_map, List.getElem?_eq_getElem (by omega)]; rfl
theorem lastF_nil {es : List En} {base : Int} (h : es.length = 0) : lastF base (es.map (·.zx)) = base := by
 rw [List.eq_nil_of_length_eq_zero h]; rfl
theorem r9head_spec (base : Int) (snap : Bs) (hb : I64 base) (hs : snap.length ≤ 2147483648) : Fn Tryz.prog 125 #[vint base, vstr snap] [] fun v L => ∃ b c, v = .slice (some ⟨b, 0, none⟩) (headL base snap).length c ∧ L = [strR v (headL base snap)] := by
 refine Fn.intro Tryz.func125 rfl rfl fun F W => ?_
 have hz : (numB base).length ≤ 10 := sev_len10 (zig_lt hb)
 have hc10 : (cntB snap.length).length ≤ 10 := sev_len10 (by unfold U64; omega)
 refine .sr (.an rfl (.sm rfl (.cv Tryz.func165 [_] (r1num_spec base hb) ?_)))
 refine .m rfl (.q (.strlen rfl Tryz.underlying9 rfl) rfl (.cv Tryz.func166 [_] (r1cnt_spec snap.length (by omega)) ?_))
 refine .q (.concat rfl rfl (by omega)) rfl (.oq (.buildSlice1 (vs := [_]) el_46 ze_9 rfl rfl rfl rfl rfl (by decide)) ?_)
 rintro v L' ⟨b4, rfl, rfl⟩
 refine .a rfl (.nil (.slMake (b := b4) (n := 1) (c := 1) (xs := strs [headB base snap.length]) (by repeat' constructor) (by decide) (by simp) rfl (.then_n (.seq (.block (.loopK (ι := Bs × Value × (List Bs)) (fun q E => (1, vstr q.1) :: (5, q.2.1) :: E) (fun q => [strR q.2.1 q.2.2]) (fun q => q.2.2 ++ chunkL q.1 = headL base snap ∧ q.2.2.length + q.1.length ≤ 1 + snap.length ∧ ∃ b c, q.2.1 = .slice (some ⟨b, 0, none⟩) q.2.2.length c) (fun q => q.1.length) (snap, .slice (some ⟨b4, 0, none⟩) 1 1, [headB base snap.length]) (ts := [4]) (.cons rfl (.nil)) (⟨rfl, by dsimp only [List.length_cons, List.length_nil]; omega, b4, 1, rfl⟩) ⟨rfl, rfl, rfl, trivial⟩ (by repeat' constructor) ?_))))))
 rintro ⟨t, u, l⟩ ⟨hl, hlt, bu, cu, hu⟩
 dsimp only
 dsimp only at hl hlt hu
 subst hu
 refine .seq (.sm rfl (.u (.strne rfl rfl) (.nt (.condN rfl (fun h15 => ?_) (fun h15 => ?_)))))
 ·have ht : 0 < t.length := List.length_pos_iff.2 (by simpa using h15)
  refine .sk (.block (.sm rfl (.q (.strlen rfl Tryz.underlying9 rfl) rfl (.q (.as (v' := vint ((min 4000 t.length : Nat) : Int)) (by congr 1; omega) (.min2 rfl rfl)) rfl (.an rfl (.sm rfl (.m rfl (.m rfl (.q (.to (v' := vstr (t.take 4000)) (.strTo rfl rfl Tryz.underlying9 (by omega)) (by simp only [Int.toNat_natCast, take_min])) rfl (.oq (.buildSlice1 (vs := [_]) el_46 ze_9 rfl rfl rfl rfl rfl (by decide)) ?_))))))))))
  rintro v L' ⟨b8, rfl, rfl⟩
  refine .oq (.shaped1 (k := l.length + 1) ?hk22 (.append1 rfl rfl rfl el_46 ze_9 rfl rfl ?h123 ?h224 (Nat.le_refl _) ?h325 (by decide))) ?_
  case hk22 => omega
  case h123 => (first | (simp [isCell]; done) | (simp [isCell, setAll, Value.cells]; done))
  case h224 => rfl
  case h325 => omega
  rintro v L' ⟨b7, c7, rfl, rfl⟩
  refine .an rfl (.region (.m rfl (.m rfl (.q (.to (v' := vstr (t.drop 4000)) (.strFrom rfl rfl Tryz.underlying9 (by omega)) (by simp only [Int.toNat_natCast, drop_min])) rfl (.a rfl (.nil (.blk_n (.then_n (.slCast (T := 9) (sz := 1) (m' := (l ++ [t.take 4000]).length) (xs' := strs (l ++ [t.take 4000])) (by repeat' constructor) (by simp) (by simp [strs, Value.cells]) ?_)))))))))
  exact .rk ((t.drop 4000, .slice (some ⟨b7, 0, none⟩) (l.length + 1) c7, l ++ [t.take 4000])) (⟨by dsimp only; rw [List.append_assoc, List.singleton_append, ← chunk_cons h15]; exact hl, by dsimp only; rw [List.length_append, List.length_drop, List.length_singleton]; omega, b7, c7, by simp⟩) (by dsimp only; rw [List.length_drop]; omega) ⟨rfl, rfl, rfl, trivial⟩
 have ht : t = [] := by simpa using h15
 subst ht
 rw [chunk_nil', List.append_nil] at hl
 subst hl
 refine .exit (.then_e (.then_e (.blk_e (.then_n (.sm rfl (.an rfl (.ret ?_)))))))
 exact .dn rfl rfl ⟨_, _, rfl, rfl⟩
theorem r9records_spec (base : Int) (snap : Bs) (va : Value) (l : List En) (p : HP) (hb : I64 base) (hs : snap.length ≤ 65536) (hp : ∀ h : Hp, p h → rdS 11 h va l.length (l.flatMap enC)) (hx : ∀ e ∈ l, EnL p e) (hn : l.length ≤ 1048576) : Fn Tryz.prog 187 #[vint base, vstr snap, va] [p] fun v L => ∃ b c, v = .slice (some ⟨b, 0, none⟩) (headL base snap ++ l.map enB).length c ∧ L = [p, strR v (headL base snap ++ l.map enB)] := by
 refine Fn.intro Tryz.func187 rfl rfl fun F W => ?_
 have hhl := headL_len base snap hs
 refine .rdAny (p := p) hp (by repeat' constructor) fun aa ca e _ => ?_
 subst e
 refine .sr (.an rfl (.sm rfl (.m rfl (.oq (.c Tryz.func125 [_, _] (r9head_spec base snap hb (by omega))) ?_))))
 rintro v L' ⟨bh, ch, rfl, rfl⟩
 refine .an rfl (.seq (.sr (.an rfl (.block (.slCast (T := 9) (sz := 1) (m' := (headL base snap ++ (l.take 0).map enB).length) (xs' := strs (headL base snap ++ (l.take 0).map enB)) (by repeat' constructor) (by simp) (by simp) (.loopK (ι := Nat × Value) (fun q E => (8, vint q.1) :: (7, q.2) :: E) (fun q => [strR q.2 (headL base snap ++ (l.take q.1).map enB)]) (fun q => q.1 ≤ l.length ∧ ∃ b c, q.2 = .slice (some ⟨b, 0, none⟩) (headL base snap ++ (l.take q.1).map enB).length c) (fun q => l.length - q.1) (0, .slice (some ⟨bh, 0, none⟩) (headL base snap).length ch) (ts := [2, 6]) (.cons rfl (.cons rfl (.nil))) (⟨Nat.zero_le _, bh, ch, by simp⟩) ⟨rfl, rfl, rfl, rfl, trivial⟩ (by repeat' constructor) ?_))))))
 rintro ⟨i, u⟩ ⟨hi, bu, cu, hu⟩
 dsimp only
 dsimp only at hi hu
 subst hu
 refine .seq (.sm rfl (.m rfl (.q (.slen rfl Tryz.underlying22 rfl) rfl (.ui rfl rfl rfl (.nt (.condD rfl (fun h15 => ?_) (fun h15 => ?_)))))))
 ·have hi2 : i < l.length := by omega
  refine .rdShape (p := p) hp (by repeat' constructor) (by omega) fun ba oa e => ?_
  subst e
  have htk : (l.take i).length = i := by rw [List.length_take]; omega
  refine .sk (.seq (.block (.region (.m rfl (.m rfl (.m rfl (.q (.indexAddr rfl rfl el_22 (by omega)) rfl (.q (.loadRdA (sz := 11) (j := i * 11) (k := 11) (p := p) (vs := enC l[i]) rfl ag_38 (by repeat' constructor) hp (by simp) (by omega) (by omega) (flatMap_at (f := enC) (sz := 11) (fun _ _ => rfl) (by omega))) rfl (.cv Tryz.func77 [_] (r2put_spec l[i] p (hx _ (List.getElem_mem hi2))) ?_)))))))))
  refine .oq (.buildSlice1 (vs := [_]) el_46 ze_9 rfl rfl rfl rfl rfl (by decide)) ?_
  rintro v L' ⟨b8, rfl, rfl⟩
  refine .oq (.shaped1 (k := (headL base snap ++ (l.take i).map enB).length + 1) ?hk20 (.append1 rfl rfl rfl el_46 ze_9 rfl rfl ?h121 ?h222 (Nat.le_refl _) ?h323 (by decide))) ?_
  case hk20 => omega
  case h121 => (first | (simp [isCell]; done) | (simp [isCell, setAll, Value.cells]; done))
  case h222 => rfl
  case h323 => rw [List.length_append, List.length_map, htk]; omega
  rintro v L' ⟨b7, c7, rfl, rfl⟩
  refine .a rfl (.nil (.blk_n (.then_n (.region (.m rfl (.q (.add rfl rfl (by omega)) rfl (.an rfl (.slCast (T := 9) (sz := 1) (m' := (headL base snap ++ (l.take (i + 1)).map enB).length) (xs' := strs (headL base snap ++ (l.take (i + 1)).map enB)) (by repeat' constructor) (by rw [List.take_succ_eq_append_getElem hi2]; simp only [List.map_append, List.length_append, List.length_map, List.length_singleton, List.map_singleton]; omega) (by rw [List.take_succ_eq_append_getElem hi2]; unfold strs; simp only [List.map_append, List.map_singleton, List.append_assoc]) ?_))))))))
  exact .rk ((i + 1, .slice (some ⟨b7, 0, none⟩) ((headL base snap ++ (l.take i).map enB).length + 1) c7)) (⟨by dsimp only; omega, b7, c7, by dsimp only; rw [List.take_succ_eq_append_getElem hi2]; simp only [List.map_append, List.length_append, List.length_map, List.length_singleton, List.map_singleton]; congr 1⟩) (by dsimp only; omega) ⟨rfl, rfl, rfl, rfl, trivial⟩
 have hie : i = l.length := by omega
 subst hie
 rw [List.take_length]
 refine .exit (.then_e (.then_e (.blk_e (.then_n (.sm rfl (.an rfl (.ret ?_)))))))
 exact .dn rfl rfl ⟨_, _, rfl, rfl⟩
theorem r9met_spec (y w : Nat) (base : Int) (snap : Bs) (sl : Value) (acc cur : Int) (db : Bool) (e : Int) : Fn Tryz.prog 184 #[vptr y, vint e] [gc9 y w base snap sl acc cur db] fun v L => v = vint (metE e) ∧ L = [gc9 y w base snap sl acc cur (if e = 2 then true else db)] := by
 refine Fn.intro Tryz.func184 rfl rfl fun F W => ?_
 refine .sr (.an rfl (.seq (.sm rfl (.nt (.block (.sr (.ui rfl rfl rfl (.an rfl (.condD rfl (fun h6 => ?_) (fun h6 => ?_))))))))))
 ·refine .sm rfl (.nf rfl fo_129_6 (.st rfl rfl rfl sz_4 ?_))
  refine .nt (.sr (.an rfl (.ret (.blk_r (.then_r ?_)))))
  have he : metE e = 2 := by unfold metE; rw [if_neg (by omega)]; exact h6
  rw [he, if_pos h6]
  exact .vv
 refine .seq (.sr (.ui rfl rfl rfl (.an rfl (.dec (t := 11) rfl (fun h11 => ?_) (fun h11 => ?_)))))
 ·refine .condT rfl (.sk (.condT rfl (.sr (.an rfl (.ret (.blk_r (.then_r ?_)))))))
  have he : metE e = 83 := by unfold metE; rw [if_pos (by omega)]
  rw [he, if_neg h6]
  exact .vv
 refine .condF rfl (.region (.ui rfl rfl rfl (.an rfl (.dec (t := 11) rfl (fun h11 => ?_) (fun h11 => ?_)))))
 ·refine .condT rfl (.sr (.an rfl (.ret (.blk_r (.then_r ?_)))))
  have he : metE e = 83 := by unfold metE; rw [if_pos (by omega)]
  rw [he, if_neg h6]
  exact .vv
 refine .condF rfl (.skip (.blk_n (.then_n (.sm rfl (.an rfl (.ret ?_))))))
 have he : metE e = e := by unfold metE; rw [if_neg (by omega)]
 rw [he, if_neg h6]
 exact .vv
theorem r9last_spec (y w : Nat) (base : Int) (snap : Bs) (a : Option Addr) (c : Nat) (acc cur : Int) (db : Bool) (es : List En) (hn : es.length ≤ 1048576) : Fn Tryz.prog 130 #[vptr y] [gc9 y w base snap (.slice a es.length c) acc cur db, es9 (.slice a es.length c) es] fun v L => v = vint (lastF base (es.map (·.zx))) ∧ L = [gc9 y w base snap (.slice a es.length c) acc cur db, es9 (.slice a es.length c) es] := by
 refine Fn.intro Tryz.func130 rfl rfl fun F W => ?_
 refine .sr (.an rfl (.seq (.sm rfl (.nf rfl fo_129_3 (.u (.ld rfl ag_22) (.q (.slen rfl Tryz.underlying22 rfl) rfl (.ui rfl rfl rfl (.nt (.condD rfl (fun h8 => ?_) (fun h8 => ?_))))))))))
 ·refine .sm rfl (.nf rfl fo_129_1 (.u (.ld rfl ag_3) (.an rfl (.rt ?_))))
  exact .dn rfl rfl ⟨by rw [lastF_nil (by omega)], rfl⟩
 refine .sk (.seq ?_)
 obtain ⟨i, hi⟩ : ∃ i, i + 1 = es.length := ⟨es.length - 1, by omega⟩
 refine .slShape (v := .slice a es.length c) (by repeat' constructor) (by omega) fun ba c1 e m _ => ?_
 simp only [Value.slice.injEq, true_and] at e
 obtain ⟨rfl, rfl⟩ := e
 refine .draw [] [[0, 1, 2, 3, 4, 5, 6, 7, 8, 9, 10, 11, 12, 13]] mixed (by kernel_rfl) (.g0 (.mv rfl rfl (.nf rfl rfl rfl fo_129_3 (.kv rfl (.ld rfl ag_22) (.mv rfl rfl (.nf rfl rfl rfl fo_129_3 (.kv rfl (.ld rfl ag_22) (.kv rfl (.slen rfl Tryz.underlying22 rfl) (.kv rfl (.as (v' := vint (i : Nat)) (by congr 1; omega) (.sub rfl rfl (by omega))) (.kv rfl (.indexAddr rfl rfl el_22 (by omega)) (.kv rfl (.fieldAddr rfl fo_38_0) (.kv rfl (.loadRd (sz := 11) (j := i * 11 + 0) (p := es9 (.slice (some ⟨ba, 0, none⟩) es.length c) es) (v := vint (es[i]'(by omega)).zx) rfl ag_3 (by repeat' constructor) (fun h hp => slR_rd hp) (by simp) ((en_cell (k := 0) (by omega) (by decide)).trans rfl)) (.kv rfl (.assign rfl) (.pf (.ret ?_)))))))))))))))
 exact .dn rfl rfl ⟨by rw [lastF_at hi], rfl⟩
theorem r4format_spec (x : Nat) (δ : Dk) (hA : δ.acts + 10 < 4611686018427387904) : Fn Tryz.prog 20 #[vptr x] [dsR x δ] fun v L => ((formatZ δ).2 = none ∧ v = .tuple #[.pointer none, vint 2] ∧ L = [dsR x (formatZ δ).1]) ∨
    ((formatZ δ).2 = some newW ∧ ∃ w, v = .tuple #[vptr w, vint 0] ∧ L = [dsR x (formatZ δ).1, rlR w x newW]) := by
 refine Fn.intro Tryz.func20 rfl rfl fun F W => ?_
 have k1 := write_keeps δ 0 zs
 have k2 := write_keeps (δ.write 0 zs).1 1 mark1.sec
 refine .sr (.a rfl (.an rfl (.seq (.sm rfl (.q (.ptreq rfl rfl Tryz.underlying47) rfl (.nt (.condF rfl (.sk (.seq (.seq (.add (slR_nil 9 1) (.region (.m rfl (.cv Tryz.func58 [] (zeros_spec) ?_))))))))))))))
 refine .cv Tryz.func59 [_, _, _] (dswrite_spec x δ 0 zs (by omega)) ?_
 refine .ui rfl rfl rfl (.m rfl (.ndec (t := 10) rfl (fun h3_10 => ?_) (fun h3_10 => ?_)))
 ·refine .kNT (t := 9) rfl h3_10 (.gk (.gk (.gk (.gk (.u (.pickT rfl rfl) (.m rfl (.gk (.gk (.gk (.u (.pickT rfl rfl) (.nt (.condT rfl (.sr (.a rfl (.an rfl (.rt ?_))))))))))))))))
  have hF : formatZ δ = ((fmtZ δ 1).1, none) := by unfold formatZ; rw [if_pos (show (fmtZ δ 1).2 ≠ 0 from h3_10)]
  rw [hF]
  exact .dn rfl rfl (.inl ⟨rfl, rfl, rfl⟩)
 refine .kNF (t := 9) rfl h3_10 (.grun (t := 10) rfl rfl rfl (.m rfl (.grun (t := 10) rfl rfl rfl (.oq (.c Tryz.func60 [_, _, _, _, _] (rmark4_spec 1 0 0 0 (.slice none 0 0) [] (strR (.slice none 0 0) []) (fun h hp => slR_rd hp) (by decide) (by decide) (by decide) (by decide) (by decide))) ?_))))
 rintro v L' ⟨rfl, rfl⟩; rw [show (⟨1, 0, ((laidZ []).length : Nat), (([] : List Bs).length : Nat), 0, 0⟩ : Mk) = mark1 from rfl]
 refine .grun (t := 10) rfl rfl rfl (.cv Tryz.func59 [_, _, _] (dswrite_spec x (δ.write 0 zs).1 1 mark1.sec (by omega)) ?_)
 refine .grun (t := 10) rfl rfl rfl (.ui rfl rfl rfl (.u (.pickF rfl rfl) (.m rfl (.ndec (t := 16) rfl (fun h3_16 => ?_) (fun h3_16 => ?_)))))
 ·refine .kNT (t := 14) rfl h3_16 (.kNT (t := 15) rfl h3_16 (.gk (.gk (.gk (.u (.pickT rfl rfl) (.nt (.condT rfl (.sr (.a rfl (.an rfl (.rt ?_)))))))))))
  have hF : formatZ δ = ((fmtZ δ 2).1, none) := by unfold formatZ; rw [if_neg (fun g => g (show (fmtZ δ 1).2 = 0 from h3_10)), if_pos (show (fmtZ δ 2).2 ≠ 0 from h3_16)]
  rw [hF]
  exact .dn rfl rfl (.inl ⟨rfl, rfl, rfl⟩)
 refine .kNF (t := 14) rfl h3_16 (.kNF (t := 15) rfl h3_16 (.grun (t := 16) rfl rfl rfl (.m rfl (.grun (t := 16) rfl rfl rfl (.cv Tryz.func61 [_] (dssync_spec x ((δ.write 0 zs).1.write 1 mark1.sec).1 (by omega)) ?_)))))
 refine .grun (t := 16) rfl rfl rfl (.ui rfl rfl rfl (.u (.pickF rfl rfl) (.nt (.condN rfl (fun h20 => ?_) (fun h20 => ?_)))))
 ·refine .sr (.a rfl (.an rfl (.rt ?_)))
  have hF : formatZ δ = ((fmtZ δ 3).1, none) := by unfold formatZ; rw [if_neg (fun g => g (show (fmtZ δ 1).2 = 0 from h3_10)), if_neg (fun g => g (show (fmtZ δ 2).2 = 0 from h3_16)), if_pos (show (fmtZ δ 3).2 ≠ 0 from h20)]
  rw [hF]
  exact .dn rfl rfl (.inl ⟨rfl, rfl, rfl⟩)
 refine .sk (.sm rfl (.q (.to (v' := .agg [vptr x, .slice none 0 0, vint 0, vint 0, vint 1, vint 0, vint 0, .bool false].toArray) (.build (us := [(0, _), (4, _)]) fl_114 ze_114 rfl rfl (by simp [isCell])) rfl) rfl (.oq (.box rfl) ?_)))
 rintro v L' ⟨w, rfl, rfl⟩
 refine .a rfl (.an rfl (.ret ?_))
 have hF : formatZ δ = ((fmtZ δ 3).1, some newW) := by unfold formatZ; rw [if_neg (fun g => g (show (fmtZ δ 1).2 = 0 from h3_10)), if_neg (fun g => g (show (fmtZ δ 2).2 = 0 from h3_16)), if_neg (fun g => g (show (fmtZ δ 3).2 = 0 from h20))]
 rw [hF]
 refine .rlFold (y := w) (x := x) (ω := newW) (v := .slice none 0 0) (by repeat' constructor) rfl rfl rfl ?_
 exact .dn rfl rfl (.inr ⟨rfl, w, rfl, rfl⟩)
theorem r4openD_spec (x : Nat) (δ : Dk) (hd : δ.dead = true) : Fn Tryz.prog 127 #[vptr x] [dsR x δ] fun v L => v = .tuple #[.pointer none, vint 2] ∧ L = [dsR x δ] := by
 refine Fn.intro Tryz.func127 rfl rfl fun F W => ?_
 refine .dsOpen (by repeat' constructor) fun ρ hr hN => (.rkOpen (by repeat' constructor) fun vL vO vP hok => ?_)
 have hg : ρ.Gone = true := by rw [← hr.dead]; exact hd
 refine .sr (.a rfl (.an rfl (.seq (.sm rfl (.q (.ptreq rfl rfl Tryz.underlying47) rfl (.nt (.condF rfl (.sk (.seq (.sm rfl (.nf rfl fo_58_5 (.q (.to (v' := .bool true) (.ld rfl ag_4) (by rw [hg])) rfl (.nt (.condT rfl (.sr (.a rfl (.an rfl (.rt (.rkFold (ρ := ρ) (by repeat' constructor) rfl ⟨rfl, rfl⟩ ⟨rfl, rfl⟩ ⟨rfl, rfl⟩ hok (.dsFold (δ := δ) (by repeat' constructor) hr hN ?_))))))))))))))))))))
 exact .vv
theorem r4open_spec (x : Nat) (δ : Dk) (hn : 2 ≤ δ.now.length ∧ δ.now.length ≤ 32768) : Fn Tryz.prog 127 #[vptr x] [dsR x δ] fun v L => (δ.dead = true ∧ v = .tuple #[.pointer none, vint 2] ∧ L = [dsR x δ]) ∨ (δ.dead = false ∧ openZ δ = none ∧ v = .tuple #[.pointer none, vint 31] ∧ L = [dsR x δ]) ∨ (δ.dead = false ∧ ∃ ω, openZ δ = some ω ∧ ∃ w, v = .tuple #[vptr w, vint 0] ∧ L = [dsR x δ, rlR w x ω]) := by
 cases hd : δ.dead with
 | true => exact (r4openD_spec x δ hd).mono fun v L ⟨h1, h2⟩ => .inl ⟨rfl, h1, h2⟩
 | false =>
  intro F w hs
  obtain ⟨h1, h2, hdj, a1, a2, ⟨ρ, ⟨hr, hN⟩, hp⟩, hF⟩ := hs
  have hs' : St ([rkR x ρ] ++ F) w := sep_flat ⟨h1, h2, hdj, a1, a2, hp, hF⟩
  refine (ropen_spec x ρ δ hr.L hd (by rw [← hr.dead]; exact hd) hn hr.ok F w hs').mono ?_
  rintro e w' ⟨v, L, hK, he, hs2, hk⟩
  have fold : ∀ h, rkR x ρ h → dsR x δ h := fun h hq => ⟨ρ, ⟨hr, hN⟩, h, fun _ => none, fun _ => .inr rfl, fun _ _ e => e, fun _ _ e => (by cases e), hq, trivial⟩
  rcases hK with ⟨k1, k2, rfl⟩ | ⟨ω, k1, y, k2, rfl⟩
  ·exact ⟨v, _, .inr (.inl ⟨rfl, k1, k2, rfl⟩), he, sep_imp fold hs2, hk⟩
  ·exact ⟨v, _, .inr (.inr ⟨rfl, ω, k1, y, k2, rfl⟩), he, sep_imp fold hs2, hk⟩
theorem r9format_spec (x : Nat) (δ : Dk) (hA : δ.acts + 10 < 4611686018427387904) (hI : WlI (formatZ δ).1 newW) (hI1 : WlI (lgF1 δ).1 (lgF1 δ).2.1) (hab : (0 ≤ (lgF1 δ).2.1.a ∧ (lgF1 δ).2.1.a ≤ 9223372036854775807) ∧ (0 ≤ (lgF1 δ).2.1.b ∧ (lgF1 δ).2.1.b ≤ 9223372036854775807)) : Fn Tryz.prog 71 #[vptr x] [dsR x δ] fun v L => ((lgFormat δ).2 = none ∧ v = .tuple #[.pointer none, vint 2] ∧ L = [dsR x (lgFormat δ).1]) ∨
    (∃ ω y w, (lgFormat δ).2 = some ω ∧ v = .tuple #[vptr y, vint 0] ∧ L = [rgR y w lg0, rlR w x ω, dsR x (lgFormat δ).1]) := by
 refine Fn.intro Tryz.func71 rfl rfl fun F W => ?_
 refine .sr (.a rfl (.an rfl (.seq (.sm rfl (.q (.ptreq rfl rfl Tryz.underlying47) rfl (.nt (.condF rfl (.sk (.sm rfl (.oq (.c Tryz.func20 [_] (r4format_spec x δ hA)) ?_))))))))))
 rintro v L' (⟨hf, rfl, rfl⟩ | ⟨hf, w, rfl, rfl⟩)
 ·refine .m rfl (.u (.extract rfl rfl) (.u (.extract rfl rfl) (.a rfl (.an rfl (.seq (.sm rfl (.q (.as (v' := .bool true) (by rfl) (.int rfl rfl rfl)) rfl (.m rfl (.gk (.gk (.gk (.gk (.gk (.gk (.u (.pickT rfl rfl) (.m rfl (.gk (.gk (.gk (.u (.pickT rfl rfl) (.nt (.condT rfl (.sr (.a rfl (.an rfl (.rt ?_))))))))))))))))))))))))))
  have hr : lgFormat δ = ((formatZ δ).1, none) := by unfold lgFormat; rw [ if_pos (by rw [hf]; rfl)]
  rw [hr]
  exact .dn rfl rfl (.inl ⟨rfl, rfl, rfl⟩)
 refine .m rfl (.u (.extract rfl rfl) (.u (.extract rfl rfl) (.a rfl (.an rfl (.seq (.sm rfl (.q (.as (v' := .bool false) (by rfl) (.int rfl rfl rfl)) rfl (.m rfl (.grun (t := 15) rfl rfl rfl (.m rfl (.grun (t := 15) rfl rfl rfl (.oq (.c Tryz.func125 [_, _] (r9head_spec 0 [] (by decide) (by decide))) ?_))))))))))))
 rintro v L' ⟨ba, ca, rfl, rfl⟩; rw [show headL 0 [] = [headB 0 0] from rfl]; dsimp only [List.length_cons, List.length_nil]
 refine .grun (t := 15) rfl rfl rfl (.q (.indexAddr rfl rfl el_46 (by omega)) rfl (.grun (t := 15) rfl rfl rfl (.q (.loadEl (p := strR (.slice (some ⟨ba, 0, none⟩) (0 + 1) ca) [headB 0 0]) (i := 0) (v := vstr (headB 0 0)) rfl ag_9 (by repeat' constructor) (fun h hp => slR_rd hp) rfl) rfl (.grun (t := 15) rfl rfl rfl (.oq (.c Tryz.func124 [_, _] (rappend_spec w x newW (formatZ δ).1 (headB 0 0) hI (by rw [hd00]; decide))) ?_)))))
 rintro v L' ⟨rfl, rfl⟩; rw [show appendZ (formatZ δ).1 newW (headB 0 0) = lgF1 δ from rfl]
 refine .grun (t := 15) rfl rfl rfl (.ui rfl rfl rfl (.u (.pickF rfl rfl) (.m rfl (.ndec (t := 23) rfl (fun h4_23 => ?_) (fun h4_23 => ?_)))))
 ·refine .kNT (t := 21) rfl h4_23 (.kNT (t := 22) rfl h4_23 (.gk (.gk (.gk (.u (.pickT rfl rfl) (.nt (.condT rfl (.sr (.a rfl (.an rfl (.rt ?_)))))))))))
  have hr : lgFormat δ = ((lgF1 δ).1, none) := by unfold lgFormat; rw [if_neg (by rw [hf]; decide),  if_pos h4_23]
  rw [hr]
  exact .dn rfl rfl (.inl ⟨rfl, rfl, rfl⟩)
 refine .kNF (t := 21) rfl h4_23 (.kNF (t := 22) rfl h4_23 (.grun (t := 23) rfl rfl rfl (.m rfl (.grun (t := 23) rfl rfl rfl (.oq (.c Tryz.func126 [_] (rlsync_spec w x (lgF1 δ).2.1 (lgF1 δ).1 hI1 hab)) ?_)))))
 rintro v L' ⟨rfl, rfl⟩; rw [show syncZ (lgF1 δ).1 (lgF1 δ).2.1 = lgF2 δ from rfl]
 refine .grun (t := 23) rfl rfl rfl (.ui rfl rfl rfl (.u (.pickF rfl rfl) (.nt (.condN rfl (fun h27 => ?_) (fun h27 => ?_)))))
 ·refine .sr (.a rfl (.an rfl (.rt ?_)))
  have hr : lgFormat δ = ((lgF2 δ).1, none) := by unfold lgFormat; rw [if_neg (by rw [hf]; decide), if_neg (fun g => g h4_23),  if_pos h27]
  rw [hr]
  exact .dn rfl rfl (.inl ⟨rfl, rfl, rfl⟩)
 refine .sk (.sm rfl (.q (.to (v' := .agg [vptr w, vint 0, vstr [], .slice none 0 0, vint 0, vint 0, .bool false].toArray) (.build (us := [(0, _)]) fl_129 ze_129 rfl rfl (by simp [isCell])) rfl) rfl (.oq (.box rfl) ?_)))
 rintro v L' ⟨y, rfl, rfl⟩
 refine .a rfl (.an rfl (.ret ?_))
 have hr : lgFormat δ = ((lgF2 δ).1, some (lgF2 δ).2.1) := by unfold lgFormat; rw [if_neg (by rw [hf]; decide), if_neg (fun g => g h4_23),  if_neg (fun g => g h27)]
 rw [hr]
 refine .add (slR_nil 38 11) (.add (p := bigR entR []) (fun h => big_nil h) (.rg (y := y) (w := w) lg0 none 0 [] (EsOf.nil rfl rfl) ?_))
 exact .dn rfl rfl (.inr ⟨_, y, w, rfl, rfl, rfl⟩)
set_option maxHeartbeats 2000000 in
theorem r9read_spec (w x : Nat) (ω : Wl) (hl : ω.recs.length ≤ 1048576) (hs : ∀ s ∈ ω.recs, s.length ≤ 1073741824) (ha : I64 ω.a) (hb : I64 ω.b) : Fn Tryz.prog 128 #[vptr w] [rlR w x ω] fun v L => (openLZ ω = none ∧ v = .tuple #[.pointer none, .bool false] ∧ L = [rlR w x ω]) ∨ (∃ Λ y, openLZ ω = some Λ ∧ v = .tuple #[vptr y, .bool true] ∧ L = [rlR w x ω, rgR y w Λ]) := by
 refine Fn.intro Tryz.func128 rfl rfl fun F W => ?_
 refine .rlOpen (ω := ω) (by repeat' constructor) fun vr => (.slAny (v := vr) (by repeat' constructor) fun ar cr e hsl => ?_)
 subst e
 refine .sr (.a rfl (.an rfl (.seq (.draw [10] [[0, 1, 2, 3, 4, 5, 6, 7, 8, 9, 10], [11]] mixed (by kernel_rfl) (.g0 (.mv rfl rfl (.mv rfl rfl (.nf rfl rfl rfl fo_114_5 (.kv rfl (.ld rfl ag_3) (.mv rfl rfl (.nf rfl rfl rfl fo_114_6 (.kv rfl (.ld rfl ag_3) (.kv rfl (.to (v' := .agg [vptr w, vint 0, vstr [], .slice none 0 0, vint ω.a, vint ω.b, .bool false].toArray) (.build (us := [(0, _), (4, _), (5, _)]) fl_129 ze_129 rfl rfl (by simp [isCell])) rfl) (.hh rfl (.box rfl) ?_))))))))))))))
 rintro v L' ⟨y, rfl, rfl⟩
 refine D.ph (.g0 (.kv rfl (.assign rfl) (.ph (.fin (.ptCast (b := y) (l' := [vptr w, vint 0, vstr [], .slice none 0 0, vint ω.a, vint ω.b, .bool false]) (by repeat' constructor) (by exact rfl) (.then_n (.seq (.seq (.draw [] [[0, 1, 2, 3, 4, 5, 6, 7, 8, 9, 10, 11, 12, 13, 14, 15, 16, 17, 18, 19, 20, 21, 22, 23]] mixed (by kernel_rfl) (.g0 (.mv rfl rfl (.nf rfl rfl rfl fo_114_1 (.kv rfl (.ld rfl ag_46) (.kv rfl (.slen rfl Tryz.underlying46 rfl) (.kv rfl (.int rfl rfl rfl) (.mv rfl rfl (.dec (t := 29) rfl (fun h2_29 => ?_) (fun h2_29 => ?_))))))))))))))))))
 ·refine D.kDT (t := 28) rfl h2_29 (.gz rfl (.gz rfl (.gz rfl (.gz rfl (.gz rfl (.kv rfl (.pickT rfl rfl) (.mv rfl rfl (.gz rfl (.gz rfl (.gz rfl (.gz rfl (.gz rfl (.gz rfl (.gz rfl (.gz rfl (.gz rfl (.kv rfl (.pickT rfl rfl) (.pf (.condT rfl (.sr (.a rfl (.an rfl (.rt (.rlFold (y := w) (x := x) (ω := ω) (v := .slice ar ω.recs.length cr) (by repeat' constructor) rfl rfl rfl ?_))))))))))))))))))))))))
  exact .dn rfl rfl (.inl ⟨(by unfold openLZ; split; rfl; rw [List.eq_nil_of_length_eq_zero (by omega : ω.recs.length = 0)]; rfl), rfl, rfl⟩)
 refine D.kDF (t := 28) rfl h2_29 (.gv rfl (.move rfl) (.gv rfl (.nilp rfl) (.gv rfl (.fieldAddr rfl fo_114_5) (.gv rfl (.ld rfl ag_3) (.gv rfl (.int rfl rfl rfl) (.kv rfl (.pickF rfl rfl) (.mv rfl rfl (.dec (t := 36) rfl (fun h2_36 => ?_) (fun h2_36 => ?_)))))))))
 ·refine D.kDT (t := 34) rfl h2_36 (.kDT (t := 35) rfl h2_36 (.gz rfl (.gz rfl (.gz rfl (.gz rfl (.gz rfl (.gz rfl (.gz rfl (.gz rfl (.gz rfl (.kv rfl (.pickT rfl rfl) (.pf (.condT rfl (.sr (.a rfl (.an rfl (.rt (.rlFold (y := w) (x := x) (ω := ω) (v := .slice ar ω.recs.length cr) (by repeat' constructor) rfl rfl rfl ?_))))))))))))))))))
  exact .dn rfl rfl (.inl ⟨(by unfold openLZ; rw [if_pos (by first | exact .inl (by omega) | exact .inr (by omega))]), rfl, rfl⟩)
 refine D.kDF (t := 34) rfl h2_36 (.kDF (t := 35) rfl h2_36 (.gv rfl (.move rfl) (.gv rfl (.nilp rfl) (.gv rfl (.fieldAddr rfl fo_114_6) (.gv rfl (.ld rfl ag_3) (.gv rfl (.move rfl) (.gv rfl (.nilp rfl) (.gv rfl (.fieldAddr rfl fo_114_5) (.gv rfl (.ld rfl ag_3) (.gv rfl (.int rfl rfl rfl) (.kv rfl (.pickF rfl rfl) (.pf (.condD rfl (fun h46 => ?_) (fun h46 => ?_))))))))))))))
 ·refine .sr (.a rfl (.an rfl (.rt (.rlFold (y := w) (x := x) (ω := ω) (v := .slice ar ω.recs.length cr) (by repeat' constructor) rfl rfl rfl ?_))))
  exact .dn rfl rfl (.inl ⟨(by unfold openLZ; rw [if_pos (by first | exact .inl (by omega) | exact .inr (by omega))]), rfl, rfl⟩)
 refine .sk (.seq (.slShape (v := (.slice ar ω.recs.length cr)) (by repeat' constructor) (by omega) fun br c1 e m _ => ?_))
 simp only [Value.slice.injEq, true_and] at e
 obtain ⟨rfl, rfl⟩ := e
 have hpc : openLZ ω = lparseZ ω.a ω.b ω.recs := by unfold openLZ; rw [if_neg (by omega)]
 rw [parse_cons (by omega)] at hpc
 have hs0 : (ω.recs.getD 0 []).length ≤ 1073741824 := by rw [List.getD_eq_getElem?_getD, List.getElem?_eq_getElem (by omega)]; exact hs _ (List.getElem_mem _)
 refine .region (.m rfl (.nf rfl fo_114_1 (.u (.ld rfl ag_46) (.q (.indexAddr rfl rfl el_46 (by omega)) rfl (.q (.loadEl (p := strR (.slice (some ⟨br, 0, none⟩) ω.recs.length cr) ω.recs) (i := 0) (v := vstr (ω.recs.getD 0 [])) rfl ag_9 (by repeat' constructor) (fun h hp => slR_rd hp) (by have hil : 0 < ω.recs.length := (by omega); simp [strs, List.getD_eq_getElem?_getD, hil])) rfl ?_)))))
 refine .q (.to (v' := .agg [vstr (ω.recs.getD 0 []), vint 0, vint 0].toArray) (.build (us := [(0, _)]) fl_208 ze_208 rfl rfl (by simp [isCell])) rfl) rfl (.oq (.box rfl) ?_)
 rintro v L' ⟨r, rfl, rfl⟩
 refine .a rfl (.nil (.rfFold (r := r) (ω.recs.getD 0 []) 0 0 (by repeat' constructor) rfl (Nat.zero_le _) (by omega) (.rfUpF (r := r) (st := some (ω.recs.getD 0 [])) (by repeat' constructor) rfl (.then_n (.sm rfl (.m rfl (.cv Tryz.func170 [_] (rfnumR_spec r _) ?_)))))))
 refine .nf rfl fo_129_1 (.st rfl rfl rfl sz_3 ?_)
 refine .nil (.ptCast (b := y) (l' := [vptr w, vint (numR (some (ω.recs.getD 0 []))).1, vstr [], .slice none 0 0, vint ω.a, vint ω.b, .bool false]) (by repeat' constructor) (by exact rfl) (.then_n (.sm rfl (.oq (.c Tryz.func171 [_, _] (rfcount_spec r 65536 (by decide) _)) ?_))))
 rintro v L' ⟨rfl, rfl⟩; rw [show runP 0 (cntP 65536) (numR (some (ω.recs.getD 0 []))).2 = cntX (numR (some (ω.recs.getD 0 []))).2 from rfl]
 refine .an rfl (.seq (.sm rfl (.oq (.c Tryz.func172 [_] (rfend_spec r _)) ?_)))
 rintro v L' ⟨e1, he1, rfl, st', rfl⟩
 refine .ui rfl rfl rfl (.m rfl (.ndec (t := 65) rfl (fun h7_65 => ?_) (fun h7_65 => ?_)))
 ·refine .kNT (t := 64) rfl h7_65 (.gk (.gk (.gk (.gk (.gk (.u (.pickT rfl rfl) (.nt (.condT rfl (.sr (.a rfl (.an rfl (.rt (.rlFold (y := w) (x := x) (ω := ω) (v := .slice (some ⟨br, 0, none⟩) ω.recs.length cr) (by repeat' constructor) rfl rfl rfl ?_)))))))))))))
  exact .dn rfl rfl (.inl ⟨(by rw [hpc, lh_bad (fun g => h7_65 (he1.2 g))]), rfl, rfl⟩)
 refine .kNF (t := 64) rfl h7_65 (.grun (t := 65) rfl rfl rfl (.m rfl (.grun (t := 65) rfl rfl rfl (.u (.nilp rfl) (.grun (t := 65) rfl rfl rfl (.u (.fieldAddr rfl fo_129_1) (.grun (t := 65) rfl rfl rfl (.u (.ld rfl ag_3) (.grun (t := 65) rfl rfl rfl (.ui rfl rfl rfl (.u (.pickF rfl rfl) (.nt (.condD rfl (fun h71 => ?_) (fun h71 => ?_))))))))))))))
 ·refine .sr (.a rfl (.an rfl (.rt (.rlFold (y := w) (x := x) (ω := ω) (v := .slice (some ⟨br, 0, none⟩) ω.recs.length cr) (by repeat' constructor) rfl rfl rfl ?_))))
  exact .dn rfl rfl (.inl ⟨(by rw [hpc, lh_ok (he1.1 (by simpa using h7_65))]; exact if_pos (by omega)), rfl, rfl⟩)
 have hI0 := numR_i64 (some (ω.recs.getD 0 []))
 have hn0 := cntX_le (numR (some (ω.recs.getD 0 []))).2
 rw [lh_ok (he1.1 (by simpa using h7_65))] at hpc
 generalize hbase : (numR (some (ω.recs.getD 0 []))).1 = base at *
 generalize hmany : (cntX (numR (some (ω.recs.getD 0 []))).2).1 = many at *
 dsimp only at hpc
 rw [if_neg (by omega)] at hpc
 refine .sk (.sr (.an rfl (.seq (.block (.loopK (ι := Nat × Bs) (fun q E => (7, vint q.1) :: E) (fun q => [gc9 y w base q.2 (.slice none 0 0) ω.a ω.b false, lc w x (.slice (some ⟨br, 0, none⟩) ω.recs.length cr) ω.synced ω.area ω.count ω.a ω.b ω.doubt, strR (.slice (some ⟨br, 0, none⟩) ω.recs.length cr) ω.recs]) (fun q => q.1 ≤ ω.recs.length ∧ openLZ ω = restZ ω.a ω.b base (snapZ many q.2 (ω.recs.drop q.1)) ∧ q.2.length ≤ many) (fun q => ω.recs.length - q.1) (1, []) (ts := [0, 4, 6]) (.cons rfl (.cons rfl (.cons rfl (.nil)))) (⟨by dsimp only; omega, hpc, Nat.zero_le _⟩) ⟨rfl, rfl, rfl, rfl, trivial⟩ (by repeat' constructor) ?_)))))
 rintro ⟨i, sn⟩ ⟨hi, hpz, hsn⟩
 dsimp only
 dsimp only at hi hpz hsn
 refine .seq (.sm rfl (.nf rfl fo_129_2 (.u (.ld rfl ag_9) (.q (.strlen rfl Tryz.underlying9 rfl) rfl (.m rfl (.ui rfl rfl rfl (.nt (.condD rfl (fun h78 => ?_) (fun h78 => ?_)))))))))
 ·refine .sk (.block (.sm rfl (.m rfl (.nf rfl fo_129_2 (.u (.ld rfl ag_9) (.q (.strlen rfl Tryz.underlying9 rfl) rfl (.q (.sub rfl rfl (by omega)) rfl (.q (.as (v' := vint ((min 4000 (many - sn.length) : Nat) : Int)) (by congr 1; omega) (.min2 rfl rfl)) rfl (.an rfl (.seq (.sm rfl (.m rfl (.nf rfl fo_114_1 (.u (.ld rfl ag_46) (.q (.slen rfl Tryz.underlying46 rfl) rfl (.ui rfl rfl rfl (.m rfl (.dec (t := 94) rfl (fun h12_94 => ?_) (fun h12_94 => ?_)))))))))))))))))))
  ·refine .kDT (t := 93) rfl h12_94 (.gk (.gk (.gk (.gk (.gk (.gk (.gk (.gk (.gk (.gk (.u (.pickT rfl rfl) (.nt (.condT rfl (.sr (.a rfl (.an rfl (.rt (.blk_r (.then_r (.blk_r (.then_r (.rlFold (y := w) (x := x) (ω := ω) (v := .slice (some ⟨br, 0, none⟩) ω.recs.length cr) (by repeat' constructor) rfl rfl rfl ?_))))))))))))))))))))))
   exact .dn rfl rfl (.inl ⟨(by rw [hpz, List.drop_eq_nil_of_le (by omega), snap_none (by omega)]; rfl), rfl, rfl⟩)
  refine .kDF (t := 93) rfl h12_94 (.grun (t := 94) rfl rfl rfl (.m rfl (.grun (t := 94) rfl rfl rfl (.u (.nilp rfl) (.grun (t := 94) rfl rfl rfl (.u (.fieldAddr rfl fo_114_1) (.grun (t := 94) rfl rfl rfl (.u (.ld rfl ag_46) (.grun (t := 94) rfl rfl rfl (.m rfl (.grun (t := 94) rfl rfl rfl (.q (.indexAddr rfl rfl el_46 (by omega)) rfl (.grun (t := 94) rfl rfl rfl (.q (.loadEl (p := strR (.slice (some ⟨br, 0, none⟩) ω.recs.length cr) ω.recs) (i := i * 1) (v := vstr (ω.recs.getD i [])) rfl ag_9 (by repeat' constructor) (fun h hp => slR_rd hp) (by have hil : i < ω.recs.length := (by omega); simp [strs, List.getD_eq_getElem?_getD, hil])) rfl ?_))))))))))))))
  refine .grun (t := 94) rfl rfl rfl (.q (.strlen rfl Tryz.underlying9 rfl) rfl (.grun (t := 94) rfl rfl rfl (.m rfl (.grun (t := 94) rfl rfl rfl (.ui rfl rfl rfl (.u (.pickF rfl rfl) (.nt (.condN rfl (fun h105 => ?_) (fun h105 => ?_)))))))))
  ·refine .sr (.a rfl (.an rfl (.rt (.blk_r (.then_r (.blk_r (.then_r (.rlFold (y := w) (x := x) (ω := ω) (v := .slice (some ⟨br, 0, none⟩) ω.recs.length cr) (by repeat' constructor) rfl rfl rfl ?_))))))))
   exact .dn rfl rfl (.inl ⟨(by rw [hpz, drop_cons (by omega), snap_bad (by omega) (by omega)]; rfl), rfl, rfl⟩)
  refine .sk (.seq (.draw [15] [[0, 1, 2, 3, 4, 5, 6, 7, 8, 9, 10, 11, 12, 13, 14, 15]] mixed (by kernel_rfl) (.g0 (.mv rfl rfl (.mv rfl rfl (.nf rfl rfl rfl fo_129_2 (.kv rfl (.ld rfl ag_9) (.mv rfl rfl (.nf rfl rfl rfl fo_114_1 (.kv rfl (.ld rfl ag_46) (.mv rfl rfl (.kv rfl (.indexAddr rfl rfl el_46 (by omega)) (.kv rfl (.loadEl (p := strR (.slice (some ⟨br, 0, none⟩) ω.recs.length cr) ω.recs) (i := i * 1) (v := vstr (ω.recs.getD i [])) rfl ag_9 (by repeat' constructor) (fun h hp => slR_rd hp) (by have hil : i < ω.recs.length := (by omega); simp [strs, List.getD_eq_getElem?_getD, hil])) ?_)))))))))))))
  refine D.kv rfl (.concat rfl rfl (by omega)) (.nf rfl rfl rfl fo_129_2 (.hh rfl (.store rfl rfl rfl sz_9 ?c126 (nfz0 _ _)) ?_))
  case c126 => simp
  rintro v L' rfl
  refine D.pf (.region (.m rfl (.q (.add rfl rfl (by omega)) rfl (.a rfl (.nil (.blk_n (.then_n (.ptCast (b := y) (l' := [vptr w, vint base, vstr (sn ++ ω.recs.getD i []), .slice none 0 0, vint ω.a, vint ω.b, .bool false]) (by repeat' constructor) (by exact rfl) ?_))))))))
  exact .rk ((i + 1, sn ++ ω.recs.getD i [])) (⟨by dsimp only; omega, by dsimp only; rw [hpz, drop_cons (by omega), snap_step (by omega) (by omega)], by dsimp only; rw [List.length_append]; omega⟩) (by dsimp only; omega) ⟨rfl, rfl, rfl, rfl, trivial⟩
 refine .exit (.then_e (.then_e (.blk_e (.then_n (.seq (.seq ?_))))))
 rw [snap_done (by omega)] at hpz
 refine .add (slR_nil 38 11) (.add (p := bigR entR []) (fun h => big_nil h) (.region (.m rfl (.an rfl (.block (.loopK (ι := Nat × Value × (List En)) (fun q E => (9, vint q.1) :: E) (fun q => [gc9 y w base sn q.2.1 ω.a ω.b false, slR 38 11 q.2.1 q.2.2.length (q.2.2.flatMap enC), bigR entR q.2.2, lc w x (.slice (some ⟨br, 0, none⟩) ω.recs.length cr) ω.synced ω.area ω.count ω.a ω.b ω.doubt, strR (.slice (some ⟨br, 0, none⟩) ω.recs.length cr) ω.recs]) (fun q => q.1 ≤ ω.recs.length ∧ q.2.2.length ≤ 200 ∧ (∃ a c, q.2.1 = .slice a q.2.2.length c) ∧ (∀ e ∈ q.2.2, EnK e ∧ EnG e) ∧ openLZ ω = entsZ ⟨ω.a, ω.b, base, sn, q.2.2.map enB, q.2.2.map (·.zx), false⟩ (ω.recs.drop q.1)) (fun q => ω.recs.length - q.1) (i, .slice none 0 0, []) (ts := [0, 4]) (.cons rfl (.cons rfl (.nil))) (⟨hi, by dsimp only; decide, ⟨none, 0, rfl⟩, fun e he => (by cases he), hpz⟩) ⟨rfl, rfl, rfl, trivial⟩ (by repeat' constructor) ?_))))))
 rintro ⟨j, u, es⟩ ⟨hj, hel, ⟨au, cu, hu⟩, hek, hpe⟩
 dsimp only
 dsimp only at hj hel hu hek hpe
 subst hu
 refine .seq (.sm rfl (.m rfl (.nf rfl fo_114_1 (.u (.ld rfl ag_46) (.q (.slen rfl Tryz.underlying46 rfl) rfl (.ui rfl rfl rfl (.nt (.condD rfl (fun h130 => ?_) (fun h130 => ?_)))))))))
 ·have hsl2 : (ω.recs.getD j []).length ≤ 1073741824 := by rw [List.getD_eq_getElem?_getD, List.getElem?_eq_getElem (by omega)]; exact hs _ (List.getElem_mem _)
  refine .sk (.seq (.block (.sm rfl (.nf rfl fo_114_1 (.u (.ld rfl ag_46) (.m rfl (.q (.indexAddr rfl rfl el_46 (by omega)) rfl (.q (.loadEl (p := strR (.slice (some ⟨br, 0, none⟩) ω.recs.length cr) ω.recs) (i := j * 1) (v := vstr (ω.recs.getD j [])) rfl ag_9 (by repeat' constructor) (fun h hp => slR_rd hp) (by have hil : j < ω.recs.length := (by omega); simp [strs, List.getD_eq_getElem?_getD, hil])) rfl ?_))))))))
  refine .oq (.c Tryz.func173 [_] (r2get_spec (ω.recs.getD j []) (by omega))) ?_
  rintro v L' ⟨ge, er, hge, rfl, rfl⟩
  refine .m rfl (.u (.extract rfl rfl) (.u (.extract rfl rfl) (.oq (.allocA ze_38) ?_)))
  rintro v L' ⟨b10, rfl, rfl⟩
  refine .oq (.storeA rfl rfl ?c152 sz_38 ?c155 ?c153 (nfz0 _ _)) ?_
  case c152 => exact hge.cells
  case c155 => rfl
  case c153 => simp [enC, ptC]
  rintro v L' rfl
  refine .a rfl (.nil (.ptCast (b := b10) (l' := enC ge) (by repeat' constructor) (by exact rfl) (.then_n (.seq (.seq (.draw [] [[0, 1, 2, 3, 4, 5, 6, 7, 8, 9, 10, 11, 12, 13, 14, 15, 16]] mixed (by kernel_rfl) (.go [ptc b10 _ _, ptc y _ _, slR 38 11 _ es.length _] (by repeat' constructor) (.mv rfl rfl (.kv rfl (.int rfl rfl rfl) (.mv rfl rfl (.ndec (t := 146) rfl (fun h20_146 => ?_) (fun h20_146 => ?_))))))))))))
  ·refine D.kNT (t := 145) rfl h20_146 (.gz rfl (.gz rfl (.gz rfl (.gz rfl (.gz rfl (.kv rfl (.pickT rfl rfl) (.mv rfl rfl (.gz rfl (.gz rfl (.gz rfl (.gz rfl (.gz rfl (.gz rfl (.kv rfl (.pickT rfl rfl) (.pf (.condT rfl (.sr (.a rfl (.an rfl (.rt (.blk_r (.then_r (.then_r (.blk_r (.then_r (.rlFold (y := w) (x := x) (ω := ω) (v := .slice (some ⟨br, 0, none⟩) ω.recs.length cr) (by repeat' constructor) rfl rfl rfl ?_))))))))))))))))))))))))))
   exact .dn rfl rfl (.inl ⟨(by rw [hpe, drop_cons (by omega), ents_none (getZ_no hge h20_146)]), rfl, rfl⟩)
  obtain ⟨hgz, hge2, hgk, hgg⟩ := getZ_of hge h20_146
  refine D.kNF (t := 145) rfl h20_146 (.gv rfl (.fieldAddr rfl fo_38_0) (.gv rfl (.ld rfl ag_3) (.gv rfl (.move rfl) (.gm (t := 146) rfl rfl rfl (by kernel_rfl) (.c Tryz.func130 [_] (r9last_spec y w base sn au cu ω.a ω.b false es (by omega))) (by repeat' constructor) ?_))))
  refine D.gv rfl (.int rfl rfl rfl) (.kv rfl (.pickF rfl rfl) (.mv rfl rfl (.dec (t := 153) rfl (fun h20_153 => ?_) (fun h20_153 => ?_))))
  ·refine D.kDT (t := 151) rfl h20_153 (.kDT (t := 152) rfl h20_153 (.gz rfl (.gz rfl (.gz rfl (.gz rfl (.gz rfl (.gz rfl (.kv rfl (.pickT rfl rfl) (.pf (.condT rfl (.sr (.a rfl (.an rfl (.rt (.blk_r (.then_r (.then_r (.blk_r (.then_r (.rlFold (y := w) (x := x) (ω := ω) (v := .slice (some ⟨br, 0, none⟩) ω.recs.length cr) (by repeat' constructor) rfl rfl rfl ?_))))))))))))))))))))
   exact .dn rfl rfl (.inl ⟨(by rw [hpe, drop_cons (by omega), ents_bad hgz (by first | exact .inl h20_153 | exact .inr (by show (es.map enB).length = 200; rw [List.length_map]; omega))]), rfl, rfl⟩)
  refine D.kDF (t := 151) rfl h20_153 (.kDF (t := 152) rfl h20_153 (.gv rfl (.move rfl) (.gv rfl (.nilp rfl) (.gv rfl (.fieldAddr rfl fo_129_3) (.gv rfl (.ld rfl ag_22) (.gv rfl (.slen rfl Tryz.underlying22 rfl) (.gv rfl (.int rfl rfl rfl) (.kv rfl (.pickF rfl rfl) (.pf (.condD rfl (fun h160 => ?_) (fun h160 => ?_)))))))))))
  ·refine .sr (.a rfl (.an rfl (.rt (.blk_r (.then_r (.then_r (.blk_r (.then_r (.rlFold (y := w) (x := x) (ω := ω) (v := .slice (some ⟨br, 0, none⟩) ω.recs.length cr) (by repeat' constructor) rfl rfl rfl ?_)))))))))
   exact .dn rfl rfl (.inl ⟨(by rw [hpe, drop_cons (by omega), ents_bad hgz (by first | exact .inl h20_153 | exact .inr (by show (es.map enB).length = 200; rw [List.length_map]; omega))]), rfl, rfl⟩)
  refine .sk (.draw [6, 7, 10] [[0, 1, 2, 3, 4, 5, 6, 7], [8, 9, 10]] mixed (by kernel_rfl) (.go [ptc b10 _ _, ptc y _ _] (by repeat' constructor) (.k rfl (.move rfl) (.k rfl (.move rfl) (.k rfl (.nilp rfl) (.k rfl (.fieldAddr rfl fo_129_3) (.k rfl (.ld rfl ag_22) (.kv rfl (.loadAs (vs := enC ge) rfl ag_38 (by repeat' constructor) (by simp [enC, ptC]) rfl) (.hh rfl (.buildSlice (vs := [_]) el_22 ze_38 rfl rfl rfl rfl (by first | (simp [Value.cells]; done) | (intro v hv; simp only [List.mem_cons, List.not_mem_nil, or_false] at hv; (repeat (first | (subst hv; rfl) | (rcases hv with hv | hv; (subst hv; rfl)))))) (by decide)) ?_)))))))))
  rintro v L' ⟨b8, rfl, rfl⟩
  refine D.hh rfl (.append1 rfl rfl rfl el_22 ze_38 rfl rfl ?c187 ?c188 (Nat.le_refl _) ?c189 (by decide)) ?_
  case c187 => simp only [List.map_cons, List.map_nil, List.flatten_cons, List.flatten_nil, List.append_nil]; simp only [Value.cells]; intro z hz; exact hgk.cells z (by simpa using hz)
  case c188 => rfl
  case c189 => omega
  rintro v L' ⟨⟨a22, c22, rfl⟩, rfl⟩
  refine D.ph (.g0 (.nf rfl rfl rfl fo_129_3 (.hh rfl (.store rfl rfl rfl sz_22 ?c194 (nfz0 _ _)) ?_)))
  case c194 => simp
  rintro v L' rfl
  refine D.ph (.fin (.blk_n (.then_n (.region (.m rfl (.q (.add rfl rfl (by omega)) rfl (.an rfl (.bigAdd (f := entR) (l := es) (p := entR ge) ge rfl (by repeat' constructor) (.slCast (T := 38) (sz := 11) (m' := (es ++ [ge]).length) (xs' := (es ++ [ge]).flatMap enC) (by repeat' constructor) (by simp) (by rw [List.flatMap_append]; simp [Value.cells]) (.ptCast (b := y) (l' := [vptr w, vint base, vstr sn, .slice a22 (es.length + 1) c22, vint ω.a, vint ω.b, .bool false]) (by repeat' constructor) (by exact rfl) ?_))))))))))
  exact .rk ((j + 1, .slice a22 (es.length + 1) c22, es ++ [ge])) (⟨by dsimp only; omega, by dsimp only; rw [List.length_append, List.length_singleton]; omega, ⟨a22, c22, by simp⟩, fun e he => by rcases List.mem_append.1 he with he | he; exact hek e he; rw [List.mem_singleton] at he; subst he; exact ⟨hgk, hgg⟩, by dsimp only; rw [hpe, drop_cons (by omega), ents_step hgz (by rintro (g1 | g1); exact h20_153 g1; have g2 : (es.map enB).length = 200 := g1; rw [List.length_map] at g2; omega), show ge.pl.zx = ge.zx from rfl, keep_eq hge2]⟩) (by dsimp only; omega) ⟨rfl, rfl, rfl, trivial⟩
 refine .exit (.then_e (.then_e (.blk_e (.then_n (.sm rfl (.a rfl (.an rfl (.ret (.rlFold (y := w) (x := x) (ω := ω) (v := .slice (some ⟨br, 0, none⟩) ω.recs.length cr) (by repeat' constructor) rfl rfl rfl (.rg (y := y) (w := w) ⟨ω.a, ω.b, base, sn, es.map enB, es.map (·.zx), false⟩ au cu es (esOf_self (by omega) hek) ?_))))))))))
 exact .dn rfl rfl (.inr ⟨_, y, (by rw [hpe, List.drop_eq_nil_of_le (by omega)]; rfl), rfl, rfl⟩)
theorem marks_pos {Λ : Lg} (hb : 0 < Λ.base) (h : ∀ z ∈ Λ.zxs, z ≠ 0) : marksZ Λ = wantF (Λ.base :: Λ.zxs) := by
 unfold marksZ
 rw [List.foldl_cons, mk_new (by omega) (.inl rfl), marks_fold _ _ _ h, List.nil_append]
def wantW (Λ : Lg) (i : Nat) : List Int := if i = 0 ∧ Λ.base = 0 then wantF Λ.zxs else wantF ((Λ.base :: Λ.zxs).drop i)
theorem wantW_0 {Λ : Lg} (h : LgW Λ) : wantW Λ 0 = marksZ Λ := by
 unfold wantW
 have hb := h.base
 have hg := h.rows.gt
 by_cases g : Λ.base = 0
 ·rw [if_pos ⟨rfl, g⟩, marks_want g (fun z hz => by have := hg z hz; omega)]
 ·rw [if_neg (fun q => g q.2), marks_pos (by omega) (fun z hz => by have := hg z hz; omega), List.drop_zero]
theorem wantW_end {Λ : Lg} {i : Nat} (h : (Λ.base :: Λ.zxs).length ≤ i) : wantW Λ i = [] := by
 unfold wantW
 rw [if_neg (by rintro ⟨g, -⟩; rw [List.length_cons] at h; omega), List.drop_eq_nil_of_le h]; rfl
theorem wantW_go {Λ : Lg} (h : LgW Λ) {i : Nat} (hi : i < (Λ.base :: Λ.zxs).length) : wantW Λ i = (if (Λ.base :: Λ.zxs).getD i 0 > 0 ∧ (i + 1 = (Λ.base :: Λ.zxs).length ∨ ¬ (Λ.base :: Λ.zxs).getD (i + 1) 0 / 4294967296 = (Λ.base :: Λ.zxs).getD i 0 / 4294967296) then [(Λ.base :: Λ.zxs).getD i 0] else []) ++ wantW Λ (i + 1) := by
 have hb := h.base
 have e1 : wantW Λ (i + 1) = wantF ((Λ.base :: Λ.zxs).drop (i + 1)) := by unfold wantW; rw [if_neg (by rintro ⟨g, -⟩; omega)]
 rw [e1]
 by_cases g : i = 0 ∧ Λ.base = 0
 ·obtain ⟨rfl, g⟩ := g
  unfold wantW
  rw [if_pos ⟨rfl, g⟩, if_neg (by rintro ⟨q, -⟩; have e : (Λ.base :: Λ.zxs).getD 0 0 = Λ.base := rfl; omega)]
  rfl
 ·have hp : (Λ.base :: Λ.zxs).getD i 0 > 0 := by
   cases i with
   | zero => show Λ.base > 0; have : Λ.base ≠ 0 := fun q => g ⟨rfl, q⟩; omega
   | succ i =>
    rw [List.length_cons] at hi
    have := pos_at h (i := i) (by omega)
    show Λ.zxs.getD i 0 > 0; omega
  unfold wantW
  rw [if_neg g, want_step hi]
  by_cases q : i + 1 = (Λ.base :: Λ.zxs).length ∨ ¬ (Λ.base :: Λ.zxs).getD (i + 1) 0 / 4294967296 = (Λ.base :: Λ.zxs).getD i 0 / 4294967296
  ·rw [if_pos q, if_pos ⟨hp, q⟩]
  ·rw [if_neg q, if_neg (fun r => q r.2)]
theorem zx_take {es : List En} {base : Int} {i : Nat} (h : i < es.length) : base :: (es.take (i + 1)).map (·.zx) = (base :: (es.take i).map (·.zx)) ++ [es[i].zx] := by
 rw [List.take_succ_eq_append_getElem h, List.map_append, List.map_singleton]; rfl
theorem behind_es {Λ : Lg} {es : List En} (h : EsOf es Λ) (z : Int) : (es.filter fun e => decide (e.zx > z)).map enB = behindB Λ z := by
 have key : ∀ es : List En, (es.filter fun e => decide (e.zx > z)).map enB = (((es.map enB).zip (es.map (·.zx))).filter fun q => decide (q.2 > z)).map (·.1) := by
  intro es
  induction es with
  | nil => rfl
  | cons e es ih =>
   rw [List.map_cons, List.map_cons, List.zip_cons_cons]
   by_cases g : e.zx > z
   ·rw [List.filter_cons_of_pos (by simpa using g), List.filter_cons_of_pos (by simpa using g), List.map_cons, List.map_cons, ih]
   ·rw [List.filter_cons_of_neg (by simpa using g), List.filter_cons_of_neg (by simpa using g), ih]
 unfold behindB
 rw [← h.b, ← h.z]; exact key es
theorem filter_go {es : List En} {P : En → Bool} {i : Nat} (h : i < es.length) : (es.take (i + 1)).filter P = (es.take i).filter P ++ (if P es[i] = true then [es[i]] else []) := by
 rw [List.take_succ_eq_append_getElem h, List.filter_append]
 by_cases g : P es[i] = true
 ·rw [if_pos g, List.filter_cons_of_pos g]; rfl
 ·rw [if_neg g, List.filter_cons_of_neg g]; rfl
theorem r9open_spec (x : Nat) (δ : Dk) (hn : 2 ≤ δ.now.length ∧ δ.now.length ≤ 32768) (hrs : ∀ ω, openZ δ = some ω → (ω.recs.length ≤ 1048576 ∧ ∀ s ∈ ω.recs, s.length ≤ 1073741824) ∧ I64 ω.a ∧ I64 ω.b) : Fn Tryz.prog 72 #[vptr x] [dsR x δ] fun v L => (δ.dead = true ∧ v = .tuple #[.pointer none, vint 2] ∧ L = [dsR x δ]) ∨
    (δ.dead = false ∧ openZ δ = none ∧ v = .tuple #[.pointer none, vint 80] ∧ L = [dsR x δ]) ∨ (δ.dead = false ∧ ∃ ω, openZ δ = some ω ∧ ((openLZ ω = none ∧ v = .tuple #[.pointer none, vint 80] ∧ L = [dsR x δ]) ∨ (∃ Λ y w, openLZ ω = some Λ ∧ v = .tuple #[vptr y, vint 0] ∧ L = [rgR y w Λ, rlR w x ω, dsR x δ]))) := by
 refine Fn.intro Tryz.func72 rfl rfl fun F W => ?_
 refine .sr (.a rfl (.an rfl (.sm rfl (.oq (.c Tryz.func127 [_] (r4open_spec x δ hn)) ?_))))
 rintro v L' (⟨hdd, rfl, rfl⟩ | ⟨hdd, hop, rfl, rfl⟩ | ⟨hdd, ω, hop, w, rfl, rfl⟩)
 ·refine .m rfl (.u (.extract rfl rfl) (.u (.extract rfl rfl) (.a rfl (.an rfl (.seq (.sm rfl (.q (.as (v' := .bool false) (by rfl) (.int rfl rfl rfl)) rfl (.nt (.condF rfl (.sk (.seq (.sm rfl (.q (.as (v' := .bool true) (by rfl) (.int rfl rfl rfl)) rfl (.nt (.condT rfl (.sm rfl (.a rfl (.an rfl (.rt ?_)))))))))))))))))))
  exact .dn rfl rfl (.inl ⟨hdd, rfl, rfl⟩)
 ·refine .m rfl (.u (.extract rfl rfl) (.u (.extract rfl rfl) (.a rfl (.an rfl (.seq (.sm rfl (.q (.as (v' := .bool true) (by rfl) (.int rfl rfl rfl)) rfl (.nt (.condT rfl (.sr (.a rfl (.an rfl (.rt ?_)))))))))))))
  exact .dn rfl rfl (.inr (.inl ⟨hdd, hop, rfl, rfl⟩))
 obtain ⟨⟨hr1, hr2⟩, hr3, hr4⟩ := hrs ω hop
 refine .m rfl (.u (.extract rfl rfl) (.u (.extract rfl rfl) (.a rfl (.an rfl (.seq (.sm rfl (.q (.as (v' := .bool false) (by rfl) (.int rfl rfl rfl)) rfl (.nt (.condF rfl (.sk (.seq (.sm rfl (.q (.as (v' := .bool false) (by rfl) (.int rfl rfl rfl)) rfl (.nt (.condF rfl (.sk (.sm rfl (.oq (.c Tryz.func128 [_] (r9read_spec w x ω hr1 hr2 hr3 hr4)) ?_))))))))))))))))))
 rintro v L' (⟨hol, rfl, rfl⟩ | ⟨Λ, y, hol, rfl, rfl⟩)
 ·refine .m rfl (.u (.extract rfl rfl) (.u (.extract rfl rfl) (.a rfl (.an rfl (.seq (.sm rfl (.u (.not rfl) (.nt (.condT rfl (.sr (.a rfl (.an rfl (.rt ?_)))))))))))))
  exact .dn rfl rfl (.inr (.inr ⟨hdd, ω, hop, .inl ⟨hol, rfl, rfl⟩⟩))
 refine .m rfl (.u (.extract rfl rfl) (.u (.extract rfl rfl) (.a rfl (.an rfl (.seq (.sm rfl (.u (.not rfl) (.nt (.condF rfl (.sk (.sm rfl (.a rfl (.an rfl (.ret ?_))))))))))))))
 exact .dn rfl rfl (.inr (.inr ⟨hdd, ω, hop, .inr ⟨Λ, y, w, hol, rfl, rfl⟩⟩))
theorem r9entries_spec (y w : Nat) (base : Int) (snap : Bs) (a : Option Addr) (c : Nat) (acc cur : Int) (db : Bool) (es : List En) (z : Int) (hn : es.length ≤ 1048576) (hk : ∀ e ∈ es, EnK e) : Fn Tryz.prog 131 #[vptr y, vint z] [gc9 y w base snap (.slice a es.length c) acc cur db, es9 (.slice a es.length c) es] fun v L => (z < base ∧ v = .tuple #[.slice none 0 0, vint 81] ∧ L = [gc9 y w base snap (.slice a es.length c) acc cur db, es9 (.slice a es.length c) es]) ∨
    (¬ z < base ∧ ∃ a2 c2, v = .tuple #[.slice a2 (es.filter fun e => decide (e.zx > z)).length c2, vint 0] ∧ L = [gc9 y w base snap (.slice a es.length c) acc cur db, es9 (.slice a es.length c) es, es9 (.slice a2 (es.filter fun e => decide (e.zx > z)).length c2) (es.filter fun e => decide (e.zx > z))]) := by
 refine Fn.intro Tryz.func131 rfl rfl fun F W => ?_
 refine .sr (.a rfl (.an rfl (.seq (.sm rfl (.m rfl (.nf rfl fo_129_1 (.u (.ld rfl ag_3) (.ui rfl rfl rfl (.nt (.condD rfl (fun h13 => ?_) (fun h13 => ?_)))))))))))
 ·refine .sr (.a rfl (.an rfl (.rt ?_)))
  exact .dn rfl rfl (.inl ⟨h13, rfl, rfl⟩)
 refine .sk (.sr (.an rfl (.seq (.seq (.add (slR_nil 38 11) (.region (.an rfl (.block (.loopK (ι := Nat × Value × (List En)) (fun q E => (7, vint q.1) :: (6, q.2.1) :: E) (fun q => [gc9 y w base snap (.slice a es.length c) acc cur db, es9 (.slice a es.length c) es, slR 38 11 q.2.1 q.2.2.length (q.2.2.flatMap enC)]) (fun q => q.1 ≤ es.length ∧ q.2.2 = ((es.take q.1).filter fun e => decide (e.zx > z)) ∧ q.2.2.length ≤ q.1 ∧ ∃ a c, q.2.1 = .slice a q.2.2.length c) (fun q => es.length - q.1) (0, .slice none 0 0, []) (ts := [0, 1, 4, 5]) (.cons rfl (.cons rfl (.cons rfl (.cons rfl (.nil))))) (⟨Nat.zero_le _, rfl, Nat.le_refl _, none, 0, rfl⟩) ⟨rfl, rfl, rfl, rfl, rfl, rfl, trivial⟩ (by repeat' constructor) ?_)))))))))
 rintro ⟨i, u, fs⟩ ⟨hi, hfs, hfl, au, cu, hu⟩
 dsimp only
 dsimp only at hi hfs hfl hu
 subst hu
 refine .seq (.sm rfl (.m rfl (.nf rfl fo_129_3 (.u (.ld rfl ag_22) (.q (.slen rfl Tryz.underlying22 rfl) rfl (.ui rfl rfl rfl (.nt (.condD rfl (fun h20 => ?_) (fun h20 => ?_)))))))))
 ·have hi2 : i < es.length := by omega
  refine .slShape (T := 38) (v := .slice a es.length c) (by repeat' constructor) (by omega) fun be c1 e m _ => ?_
  simp only [Value.slice.injEq, true_and] at e
  obtain ⟨rfl, rfl⟩ := e
  refine .sk (.seq (.block (.sm rfl (.nf rfl fo_129_3 (.u (.ld rfl ag_22) (.m rfl (.q (.indexAddr rfl rfl el_22 (by omega)) rfl (.u (.fieldAddr rfl fo_38_0) (.q (.loadRd (sz := 11) (j := i * 11 + 0) (p := es9 (.slice (some ⟨be, 0, none⟩) es.length c) es) (v := vint es[i].zx) rfl ag_3 (by repeat' constructor) (fun h hp => slR_rd hp) (by simp) ((en_cell (k := 0) hi2 (by decide)).trans rfl)) rfl (.m rfl (.ui rfl rfl rfl (.nt (.condD rfl (fun h32 => ?_) (fun h32 => ?_))))))))))))))
  ·refine .region (.m rfl (.m rfl (.nf rfl fo_129_3 (.u (.ld rfl ag_22) (.m rfl (.q (.indexAddr rfl rfl el_22 (by omega)) rfl (.q (.loadRdA (sz := 11) (j := i * 11) (k := 11) (p := es9 (.slice (some ⟨be, 0, none⟩) es.length c) es) (vs := enC es[i]) rfl ag_38 (by repeat' constructor) (fun h hp => slR_rd hp) (by simp) (by omega) (by omega) (flatMap_at (f := enC) (sz := 11) (fun _ _ => rfl) hi2)) rfl (.oq (.buildSlice (vs := [_]) el_22 ze_38 rfl rfl rfl rfl (by first | (simp [Value.cells]; done) | (intro v hv; simp only [List.mem_cons, List.not_mem_nil, or_false] at hv; (repeat (first | (subst hv; rfl) | (rcases hv with hv | hv; (subst hv; rfl)))))) (by decide)) ?_))))))))
   rintro v L' ⟨b8, rfl, rfl⟩
   refine .oq (.append1 rfl rfl rfl el_22 ze_38 rfl rfl ?c40 ?c41 (Nat.le_refl _) ?c42 (by decide)) ?_
   case c40 => simp only [List.map_cons, List.map_nil, List.flatten_cons, List.flatten_nil, List.append_nil]; simp only [Value.cells]; intro q hq; exact (hk _ (List.getElem_mem hi2)).cells q (by simpa using hq)
   case c41 => rfl
   case c42 => omega
   rintro v L' ⟨⟨a8, c8, rfl⟩, rfl⟩
   refine .a rfl (.nil (.blk_n (.then_n (.region (.m rfl (.q (.add rfl rfl (by omega)) rfl (.an rfl (.slCast (T := 38) (sz := 11) (m' := (fs ++ [es[i]]).length) (xs' := (fs ++ [es[i]]).flatMap enC) (by repeat' constructor) (by simp) (by rw [List.flatMap_append]; simp [Value.cells]) ?_))))))))
   exact .rk ((i + 1, .slice a8 (fs.length + 1) c8, fs ++ [es[i]])) (⟨by dsimp only; omega, by dsimp only; rw [filter_go hi2, ← hfs, if_pos (by simpa using h32)], by dsimp only; rw [List.length_append, List.length_singleton]; omega, a8, c8, by simp⟩) (by dsimp only; omega) ⟨rfl, rfl, rfl, rfl, rfl, rfl, trivial⟩
  refine .skip (.blk_n (.then_n (.region (.m rfl (.q (.add rfl rfl (by omega)) rfl (.an rfl ?_))))))
  exact .rk ((i + 1, .slice au fs.length cu, fs)) (⟨by dsimp only; omega, by dsimp only; rw [filter_go hi2, ← hfs, if_neg (by simpa using h32), List.append_nil], by dsimp only; omega, au, cu, rfl⟩) (by dsimp only; omega) ⟨rfl, rfl, rfl, rfl, rfl, rfl, trivial⟩
 have hie : i = es.length := by omega
 rw [hie, List.take_length] at hfs
 subst hfs
 refine .exit (.then_e (.then_e (.blk_e (.then_n (.sm rfl (.a rfl (.an rfl (.ret ?_))))))))
 exact .dn rfl rfl (.inr ⟨h13, au, cu, rfl, rfl⟩)
theorem r9marks_spec (y w : Nat) (Λ : Lg) (a : Option Addr) (c : Nat) (es : List En) (hE : EsOf es Λ) (hW : LgW Λ) : Fn Tryz.prog 129 #[vptr y] [gc9 y w Λ.base Λ.snap (.slice a es.length c) Λ.acc Λ.cur Λ.doubt, es9 (.slice a es.length c) es] fun v L => ∃ a2 c2, v = .slice a2 (marksZ Λ).length c2 ∧ L = [gc9 y w Λ.base Λ.snap (.slice a es.length c) Λ.acc Λ.cur Λ.doubt, es9 (.slice a es.length c) es, intR (.slice a2 (marksZ Λ).length c2) (marksZ Λ)] := by
 refine Fn.intro Tryz.func129 rfl rfl fun F W => ?_
 have hn := hE.n
 have hW0 := wantW_0 hW
 refine .sr (.an rfl (.sm rfl (.nf rfl fo_129_1 (.u (.ld rfl ag_3) (.oq (.buildSlice1 (vs := [_]) el_31 ze_3 rfl rfl rfl rfl rfl (by decide)) ?_)))))
 rintro v L' ⟨b3, rfl, rfl⟩
 refine .a rfl (.nil (.slMake (b := b3) (n := 1) (c := 1) (xs := ints [Λ.base]) (by repeat' constructor) (by decide) (by simp) rfl (.then_n (.seq (.sr (.an rfl (.block (.loopK (ι := Nat × Value) (fun q E => (4, vint q.1) :: (3, q.2) :: E) (fun q => [gc9 y w Λ.base Λ.snap (.slice a es.length c) Λ.acc Λ.cur Λ.doubt, es9 (.slice a es.length c) es, slR 3 1 q.2 (q.1 + 1) (ints (Λ.base :: (es.take q.1).map (·.zx)))]) (fun q => q.1 ≤ es.length ∧ ∃ b c, q.2 = .slice (some ⟨b, 0, none⟩) (q.1 + 1) c) (fun q => es.length - q.1) (0, .slice (some ⟨b3, 0, none⟩) 1 1) (ts := [0, 2]) (.cons rfl (.cons rfl (.nil))) (⟨Nat.zero_le _, b3, 1, rfl⟩) ⟨rfl, rfl, rfl, rfl, trivial⟩ (by repeat' constructor) ?_))))))))
 rintro ⟨i, u⟩ ⟨hi, bu, cu, hu⟩
 dsimp only
 dsimp only at hi hu
 subst hu
 refine .seq (.sm rfl (.m rfl (.nf rfl fo_129_3 (.u (.ld rfl ag_22) (.q (.slen rfl Tryz.underlying22 rfl) rfl (.ui rfl rfl rfl (.nt (.condD rfl (fun h19 => ?_) (fun h19 => ?_)))))))))
 ·have hi2 : i < es.length := by omega
  refine .slShape (T := 38) (v := .slice a es.length c) (by repeat' constructor) (by omega) fun be c1 e m _ => ?_
  simp only [Value.slice.injEq, true_and] at e
  obtain ⟨rfl, rfl⟩ := e
  refine .sk (.seq (.block (.region (.m rfl (.m rfl (.nf rfl fo_129_3 (.u (.ld rfl ag_22) (.m rfl (.q (.indexAddr rfl rfl el_22 (by omega)) rfl (.u (.fieldAddr rfl fo_38_0) (.q (.loadRd (sz := 11) (j := i * 11 + 0) (p := es9 (.slice (some ⟨be, 0, none⟩) es.length c) es) (v := vint es[i].zx) rfl ag_3 (by repeat' constructor) (fun h hp => slR_rd hp) (by simp) ((en_cell (k := 0) hi2 (by decide)).trans rfl)) rfl (.oq (.buildSlice1 (vs := [_]) el_31 ze_3 rfl rfl rfl rfl rfl (by decide)) ?_))))))))))))
  rintro v L' ⟨b5, rfl, rfl⟩
  refine .oq (.shaped1 (k := i + 1 + 1) ?hk27 (.append1 rfl rfl rfl el_31 ze_3 rfl rfl ?h128 ?h229 (Nat.le_refl _) ?h330 (by decide))) ?_
  case hk27 => omega
  case h128 => (first | (simp [isCell]; done) | (simp [isCell, setAll, Value.cells]; done))
  case h229 => rfl
  case h330 => omega
  rintro v L' ⟨b7, c7, rfl, rfl⟩
  refine .a rfl (.nil (.blk_n (.then_n (.region (.m rfl (.q (.add rfl rfl (by omega)) rfl (.an rfl (.slCast (T := 3) (sz := 1) (m' := i + 1 + 1) (xs' := ints (Λ.base :: (es.take (i + 1)).map (·.zx))) (by repeat' constructor) rfl (by rw [zx_take hi2]; simp [ints, Value.cells]) ?_))))))))
  exact .rk ((i + 1, .slice (some ⟨b7, 0, none⟩) (i + 1 + 1) c7)) (⟨by dsimp only; omega, b7, c7, rfl⟩) (by dsimp only; omega) ⟨rfl, rfl, rfl, rfl, trivial⟩
 have hie : i = es.length := by omega
 obtain ⟨all, hall⟩ : ∃ all, Λ.base :: Λ.zxs = all := ⟨_, rfl⟩
 have hal : all.length = i + 1 := by rw [← hall, List.length_cons, ← hE.z, List.length_map]; omega
 refine .slCast (T := 3) (sz := 1) (m' := all.length) (xs' := ints all) (by repeat' constructor) (by rw [hal]) (by rw [hie, List.take_length, ← hall, hE.z]) ?_
 rw [← hal]
 obtain ⟨b3, c3, hb3⟩ : ∃ b c, (bu, cu) = (b, c) := ⟨_, _, rfl⟩
 obtain ⟨rfl, rfl⟩ := Prod.mk.injEq .. ▸ hb3
 refine .exit (.then_e (.then_e (.blk_e (.then_n (.sr (.an rfl (.seq (.seq (.add (slR_nil 3 1) (.region (.an rfl (.block (.loopK (ι := Nat × Value × (List Int)) (fun q E => (6, vint q.1) :: (5, q.2.1) :: E) (fun q => [gc9 y w Λ.base Λ.snap (.slice a es.length c) Λ.acc Λ.cur Λ.doubt, es9 (.slice a es.length c) es, intR (.slice (some ⟨bu, 0, none⟩) all.length cu) all, intR q.2.1 q.2.2]) (fun q => q.1 ≤ all.length ∧ q.2.2 ++ wantW Λ q.1 = marksZ Λ ∧ q.2.2.length ≤ q.1 ∧ ∃ a c, q.2.1 = .slice a q.2.2.length c) (fun q => all.length - q.1) (0, .slice none 0 0, []) (ts := [2, 3]) (.cons rfl (.cons rfl (.nil))) (⟨Nat.zero_le _, hW0, Nat.zero_le _, none, 0, rfl⟩) ⟨rfl, rfl, rfl, rfl, trivial⟩ (by repeat' constructor) ?_)))))))))))))
 rintro ⟨j, u, out⟩ ⟨hj, hout, hol, ao, co, hu⟩
 dsimp only
 dsimp only at hj hout hol hu
 subst hu
 refine .seq (.sm rfl (.m rfl (.q (.slen rfl Tryz.underlying31 rfl) rfl (.ui rfl rfl rfl (.nt (.condD rfl (fun h36 => ?_) (fun h36 => ?_)))))))
 ·have hj2 : j < all.length := by omega
  have hgo := wantW_go hW (i := j) (by rw [hall]; exact hj2)
  rw [hall] at hgo
  refine .sk (.seq (.block (.seq (.draw [] [[0, 1, 2, 3, 4, 5, 6, 7, 8, 9, 10, 11, 12, 13, 14, 15, 16, 17, 18, 19]] mixed (by kernel_rfl) (.g0 (.mv rfl rfl (.kv rfl (.add rfl rfl (by omega)) (.mv rfl rfl (.kv rfl (.slen rfl Tryz.underlying31 rfl) (.kv rfl (.int rfl rfl rfl) (.mv rfl rfl (.dec (t := 44) rfl (fun h10_44 => ?_) (fun h10_44 => ?_)))))))))))))
  ·refine D.kDT (t := 43) rfl h10_44 (.gz rfl (.gz rfl (.gz rfl (.gz rfl (.gz rfl (.gz rfl (.gz rfl (.gz rfl (.gz rfl (.gz rfl (.gz rfl (.gz rfl (.kv rfl (.pickT rfl rfl) (.kv rfl (.assign rfl) (.pf (.sm rfl (.m rfl (.q (.indexAddr rfl rfl el_31 (by omega)) rfl (.q (.loadEl (p := intR (.slice (some ⟨bu, 0, none⟩) all.length cu) all) (i := j * 1) (v := vint (all.getD (j) 0)) rfl ag_3 (by repeat' constructor) (fun h hp => slR_rd hp) (by have hil : j < all.length := (by omega); rw [Nat.mul_one]; simp [ints, List.getD_eq_getElem?_getD, hil])) rfl ?_)))))))))))))))))))
   refine .ui rfl rfl rfl (.m rfl (.dec (t := 63) rfl (fun h11_63 => ?_) (fun h11_63 => ?_)))
   ·refine .kDT (t := 62) rfl h11_63 (.grun (t := 63) rfl rfl rfl (.m rfl (.u (.pickT rfl rfl) (.nt (.condT rfl (.region (.m rfl (.m rfl (.m rfl (.q (.indexAddr rfl rfl el_31 (by omega)) rfl (.q (.loadEl (p := intR (.slice (some ⟨bu, 0, none⟩) all.length cu) all) (i := j * 1) (v := vint (all.getD (j) 0)) rfl ag_3 (by repeat' constructor) (fun h hp => slR_rd hp) (by have hil : j < all.length := (by omega); rw [Nat.mul_one]; simp [ints, List.getD_eq_getElem?_getD, hil])) rfl ?_)))))))))))
    refine .oq (.buildSlice1 (vs := [_]) el_31 ze_3 rfl rfl rfl rfl rfl (by decide)) ?_
    rintro v L' ⟨b12, rfl, rfl⟩
    refine .oq (.append1 rfl rfl rfl el_31 ze_3 rfl rfl ?c59 ?c60 (Nat.le_refl _) ?c61 (by decide)) ?_
    case c59 => (first | (simp [isCell]; done) | (simp [isCell, setAll, Value.cells]; done))
    case c60 => rfl
    case c61 => omega
    rintro v L' ⟨⟨a12, c12, rfl⟩, rfl⟩
    refine .a rfl (.nil (.blk_n (.then_n (.region (.m rfl (.q (.add rfl rfl (by omega)) rfl (.an rfl (.slCast (T := 3) (sz := 1) (m' := (out ++ [all.getD j 0]).length) (xs' := ints (out ++ [all.getD j 0])) (by repeat' constructor) (by simp) (by simp [ints, Value.cells]) ?_))))))))
    exact .rk ((j + 1, .slice a12 (out.length + 1) c12, out ++ [all.getD j 0])) (⟨by dsimp only; omega, by dsimp only; rw [hgo, if_pos ⟨h11_63, (.inl (by omega))⟩, ← List.append_assoc] at hout; exact hout, by dsimp only; rw [List.length_append, List.length_singleton]; omega, a12, c12, by simp⟩) (by dsimp only; omega) ⟨rfl, rfl, rfl, rfl, trivial⟩
   refine .kDF (t := 62) rfl h11_63 (.gk (.u (.pickF rfl rfl) (.nt (.condF rfl (.skip (.blk_n (.then_n (.region (.m rfl (.q (.add rfl rfl (by omega)) rfl (.an rfl ?_)))))))))))
   exact .rk ((j + 1, .slice ao out.length co, out)) (⟨by dsimp only; omega, by dsimp only; rw [hgo, if_neg (by exact fun g => h11_63 g.1), List.nil_append] at hout; exact hout, by dsimp only; omega, ao, co, rfl⟩) (by dsimp only; omega) ⟨rfl, rfl, rfl, rfl, trivial⟩
  refine D.kDF (t := 43) rfl h10_44 (.gv rfl (.move rfl) (.gv rfl (.move rfl) (.gv rfl (.as (v' := vint ((j + 1 : Nat) : Int)) (by congr 1) (.add rfl rfl (by omega))) (.gv rfl (.indexAddr rfl rfl el_31 (by omega)) (.gv rfl (.loadEl (p := intR (.slice (some ⟨bu, 0, none⟩) all.length cu) all) (i := (j + 1) * 1) (v := vint (all.getD ((j + 1)) 0)) rfl ag_3 (by repeat' constructor) (fun h hp => slR_rd hp) (by have hil : (j + 1) < all.length := (by omega); rw [Nat.mul_one]; simp [ints, List.getD_eq_getElem?_getD, hil])) ?_)))))
  refine D.gv rfl (.as (v' := vint (all.getD (j + 1) 0 / 4294967296)) (by exact shr32 _) (.shr rfl rfl (by first | decide | omega))) (.gv rfl (.move rfl) (.gv rfl (.move rfl) (.gv rfl (.indexAddr rfl rfl el_31 (by omega)) (.gv rfl (.loadEl (p := intR (.slice (some ⟨bu, 0, none⟩) all.length cu) all) (i := j * 1) (v := vint (all.getD (j) 0)) rfl ag_3 (by repeat' constructor) (fun h hp => slR_rd hp) (by have hil : j < all.length := (by omega); rw [Nat.mul_one]; simp [ints, List.getD_eq_getElem?_getD, hil])) ?_))))
  refine D.gv rfl (.as (v' := vint (all.getD j 0 / 4294967296)) (by exact shr32 _) (.shr rfl rfl (by first | decide | omega))) (.gv rfl (.int rfl rfl rfl) (.kv rfl (.pickF rfl rfl) (.kv rfl (.assign rfl) (.pf (.sm rfl (.m rfl (.q (.indexAddr rfl rfl el_31 (by omega)) rfl (.q (.loadEl (p := intR (.slice (some ⟨bu, 0, none⟩) all.length cu) all) (i := j * 1) (v := vint (all.getD (j) 0)) rfl ag_3 (by repeat' constructor) (fun h hp => slR_rd hp) (by have hil : j < all.length := (by omega); rw [Nat.mul_one]; simp [ints, List.getD_eq_getElem?_getD, hil])) rfl ?_))))))))
  refine .ui rfl rfl rfl (.m rfl (.dec (t := 63) rfl (fun h11_63 => ?_) (fun h11_63 => ?_)))
  ·refine .kDT (t := 62) rfl h11_63 (.grun (t := 63) rfl rfl rfl (.m rfl (.u (.pickT rfl rfl) (.nt (.condN rfl (fun h65 => ?_) (fun h65 => ?_))))))
   ·refine .region (.m rfl (.m rfl (.m rfl (.q (.indexAddr rfl rfl el_31 (by omega)) rfl (.q (.loadEl (p := intR (.slice (some ⟨bu, 0, none⟩) all.length cu) all) (i := j * 1) (v := vint (all.getD (j) 0)) rfl ag_3 (by repeat' constructor) (fun h hp => slR_rd hp) (by have hil : j < all.length := (by omega); rw [Nat.mul_one]; simp [ints, List.getD_eq_getElem?_getD, hil])) rfl ?_)))))
    refine .oq (.buildSlice1 (vs := [_]) el_31 ze_3 rfl rfl rfl rfl rfl (by decide)) ?_
    rintro v L' ⟨b12, rfl, rfl⟩
    refine .oq (.append1 rfl rfl rfl el_31 ze_3 rfl rfl ?c93 ?c94 (Nat.le_refl _) ?c95 (by decide)) ?_
    case c93 => (first | (simp [isCell]; done) | (simp [isCell, setAll, Value.cells]; done))
    case c94 => rfl
    case c95 => omega
    rintro v L' ⟨⟨a12, c12, rfl⟩, rfl⟩
    refine .a rfl (.nil (.blk_n (.then_n (.region (.m rfl (.q (.add rfl rfl (by omega)) rfl (.an rfl (.slCast (T := 3) (sz := 1) (m' := (out ++ [all.getD j 0]).length) (xs' := ints (out ++ [all.getD j 0])) (by repeat' constructor) (by simp) (by simp [ints, Value.cells]) ?_))))))))
    exact .rk ((j + 1, .slice a12 (out.length + 1) c12, out ++ [all.getD j 0])) (⟨by dsimp only; omega, by dsimp only; rw [hgo, if_pos ⟨h11_63, (.inr (by first | exact h65 | simpa using h65))⟩, ← List.append_assoc] at hout; exact hout, by dsimp only; rw [List.length_append, List.length_singleton]; omega, a12, c12, by simp⟩) (by dsimp only; omega) ⟨rfl, rfl, rfl, rfl, trivial⟩
   refine .skip (.blk_n (.then_n (.region (.m rfl (.q (.add rfl rfl (by omega)) rfl (.an rfl ?_))))))
   exact .rk ((j + 1, .slice ao out.length co, out)) (⟨by dsimp only; omega, by dsimp only; rw [hgo, if_neg (by rintro ⟨-, g | g⟩; exact h10_44 (by omega); exact g (by simpa using h65)), List.nil_append] at hout; exact hout, by dsimp only; omega, ao, co, rfl⟩) (by dsimp only; omega) ⟨rfl, rfl, rfl, rfl, trivial⟩
  refine .kDF (t := 62) rfl h11_63 (.gk (.u (.pickF rfl rfl) (.nt (.condF rfl (.skip (.blk_n (.then_n (.region (.m rfl (.q (.add rfl rfl (by omega)) rfl (.an rfl ?_)))))))))))
  exact .rk ((j + 1, .slice ao out.length co, out)) (⟨by dsimp only; omega, by dsimp only; rw [hgo, if_neg (by exact fun g => h11_63 g.1), List.nil_append] at hout; exact hout, by dsimp only; omega, ao, co, rfl⟩) (by dsimp only; omega) ⟨rfl, rfl, rfl, rfl, trivial⟩
 have hje : j = all.length := by omega
 have hend := wantW_end (Λ := Λ) (i := j) (by rw [hall]; omega)
 rw [hend, List.append_nil] at hout
 subst hout
 refine .exit (.then_e (.then_e (.blk_e (.then_n (.sm rfl (.an rfl (.ret ?_)))))))
 exact .dn rfl rfl ⟨ao, co, rfl, rfl⟩
section
variable {W : World} {n : Nat} {ds : List Deferred} {E : Env} {L R : List HP} {X : Act → World → Prop}
theorem G.bigHead {α : Type} {f : α → HP} {x : α} {l m : List α} (hm : m = x :: l) (hL : Pick (bigR f m) L R) (h : G W n ds E (f x :: bigR f l :: R) X) : G W n ds E L X := by
 subst hm
 exact G.focus hL (G.unfold (q := [f x, bigR f l]) (fun _ hp => big_cons hp) h)
end
theorem drop_cell {zs l : List Value} {o k n : Nat} (h : (zs.drop o).take n = l) (hk : k < n) : zs[o + k]? = l[k]? := by
 rw [← h, List.getElem?_take_of_lt hk, List.getElem?_drop]
theorem spl_drop' {l vs : List Value} {off k : Nat} (hl : off + vs.length ≤ l.length) (h : off + vs.length ≤ k) : (spl l off vs).drop k = l.drop k := by
 unfold spl
 have h1 : (l.take off ++ vs).length = off + vs.length := by simp; omega
 rw [List.drop_append, h1, List.drop_eq_nil_of_le (by omega), List.nil_append, List.drop_drop]
 congr 1
 omega
theorem over9_spec (e : En) (hg : EnG e) : Fn Tryz.prog 132 #[.agg (enC e).toArray] [entR e] fun v L => v = .tuple #[] ∧ L = [] := by
 obtain ⟨zx, ses, xid, ⟨kind, path, data, aclV, acl, own, num, err, subsV⟩, subs⟩ := e
 refine Fn.intro Tryz.func132 rfl rfl fun F W => ?_
 have hgs := hg.many
 have hga := hg.x.many
 have hgx := hg.subs
 dsimp only at hgs hga hgx
 refine .focus (p := entR (⟨zx, ses, xid, ⟨kind, path, data, aclV, acl, own, num, err, subsV⟩, subs⟩ : En)) (by repeat' constructor) (.unfold (q := [slR 210 2 aclV acl.length (acl.flatMap acC), slR 36 8 subsV subs.length (subs.flatMap ptC), bigR aclR subs]) (fun _ hp => hp) ?_)
 simp only [List.cons_append, List.nil_append]
 refine .slAny (v := aclV) (by repeat' constructor) fun aa ca e1 hal => ?_
 subst e1
 refine .slAny (v := subsV) (by repeat' constructor) fun as1 cs1 e1 hsl => ?_
 subst e1
 refine .sr (.oq (.box rfl) ?_)
 rintro v L' ⟨b1, rfl, rfl⟩
 refine .nil (.ptCast (b := b1) (l' := [vint zx, vint ses, vint xid, vint kind, vstr path, vstr data, .slice aa acl.length ca, vint own, vint num, vint err, .slice as1 subs.length cs1]) (by repeat' constructor) (by exact rfl) (.then_n (.seq (.sr (.an rfl (.block ?_))))))
 rw [show bigR aclR subs = bigR aclR (subs.drop 0) from rfl]
 refine .loopK (ι := Nat × (List Value)) (fun q E => (2, vint q.1) :: E) (fun q => [slR 36 8 (.slice as1 subs.length cs1) subs.length q.2, bigR aclR (subs.drop q.1)]) (fun q => q.1 ≤ subs.length ∧ q.2.length = subs.length * 8 ∧ ∀ k (hk : k < subs.length), q.1 ≤ k → ((q.2.drop (k * 8)).take 8) = ptC subs[k]) (fun q => subs.length - q.1) (0, subs.flatMap ptC) (ts := [1]) (.cons rfl (.nil)) (⟨Nat.zero_le _, hsl, fun k hk _ => flatMap_at (f := ptC) (sz := 8) (fun _ _ => rfl) hk⟩) ⟨rfl, rfl, trivial⟩ (by repeat' constructor) ?_
 rintro ⟨i, zs⟩ ⟨hi, hzl, hzk⟩
 dsimp only
 dsimp only at hi hzl hzk
 refine .seq (.sm rfl (.u (.fieldAddr rfl fo_38_3) (.u (.fieldAddr rfl fo_36_7) (.u (.ld rfl ag_34) (.q (.slen rfl Tryz.underlying34 rfl) rfl (.ui rfl rfl rfl (.nt (.condD rfl (fun h13 => ?_) (fun h13 => ?_)))))))))
 ·have hi2 : i < subs.length := by omega
  have hyk := (hgx _ (List.getElem_mem hi2)).many
  refine .slShape (T := 36) (sz := 8) (v := .slice as1 subs.length cs1) (xs := zs) (by repeat' constructor) (by omega) fun bo bo' e0 mbo _ => ?_
  simp only [Value.slice.injEq, true_and] at e0
  obtain ⟨rfl, rfl⟩ := e0
  refine .bigHead (f := aclR) (x := subs[i]) (l := subs.drop (i + 1)) (List.drop_eq_getElem_cons hi2) (by repeat' constructor) ?_
  rw [show aclR subs[i] = slR 210 2 subs[i].aclV subs[i].acl.length (subs[i].acl.flatMap acC) from rfl]
  obtain ⟨va, hva⟩ : ∃ va, subs[i].aclV = va := ⟨_, rfl⟩
  rw [hva]
  refine .slAny (v := va) (by repeat' constructor) fun ay cy e1 hyl => ?_
  subst e1
  refine .sk (.seq (.block (.sr (.u (.fieldAddr rfl fo_38_3) (.u (.fieldAddr rfl fo_36_7) (.u (.ld rfl ag_34) (.m rfl (.q (.indexAddr rfl rfl el_34 (by omega)) rfl (.u (.fieldAddr rfl fo_36_3) (.q (.to (v' := .slice ay subs[i].acl.length cy) (.loadRd (sz := 8) (j := i * 8 + 3) (p := slR 36 8 (.slice (some ⟨bo, 0, none⟩) subs.length cs1) subs.length zs) (v := subs[i].aclV) rfl ag_33 (by repeat' constructor) (fun h hp => slR_rd hp) (by omega) ((drop_cell (hzk i hi2 (Nat.le_refl _)) (by decide)).trans rfl)) hva) rfl (.an rfl (.seq (.sr (.an rfl (.block (.loopK (ι := Nat × (List Value)) (fun q E => (4, vint q.1) :: E) (fun q => [slR 210 2 (.slice ay subs[i].acl.length cy) subs[i].acl.length q.2]) (fun q => q.1 ≤ subs[i].acl.length ∧ q.2.length = subs[i].acl.length * 2) (fun q => subs[i].acl.length - q.1) (0, subs[i].acl.flatMap acC) (ts := [1, 2, 3, 8, 9, 10, 11, 12, 13, 16, 17, 18, 19, 20, 21, 22]) (.cons rfl (.cons rfl (.cons rfl (.cons rfl (.cons rfl (.cons rfl (.cons rfl (.cons rfl (.cons rfl (.cons rfl (.cons rfl (.cons rfl (.cons rfl (.cons rfl (.cons rfl (.cons rfl (.nil))))))))))))))))) (⟨Nat.zero_le _, hyl⟩) ⟨rfl, rfl, rfl, rfl, rfl, rfl, rfl, rfl, rfl, rfl, rfl, rfl, rfl, rfl, rfl, rfl, rfl, trivial⟩ (by repeat' constructor) ?_))))))))))))))))
  rintro ⟨k, ws⟩ ⟨hkk, hwl⟩
  dsimp only
  dsimp only at hkk hwl
  refine .seq (.sm rfl (.m rfl (.q (.slen rfl Tryz.underlying33 rfl) rfl (.ui rfl rfl rfl (.nt (.condD rfl (fun h26 => ?_) (fun h26 => ?_)))))))
  ·have hk2 : k < subs[i].acl.length := by omega
   refine .slShape (T := 210) (sz := 2) (v := .slice ay subs[i].acl.length cy) (xs := ws) (by repeat' constructor) (by omega) fun bq bq' e0 mbq _ => ?_
   simp only [Value.slice.injEq, true_and] at e0
   obtain ⟨rfl, rfl⟩ := e0
   refine .sk (.seq (.block (.region (.m rfl (.m rfl (.q (.to (v' := .agg [vint (-3), vstr []].toArray) (.build (us := [(0, _)]) fl_210 ze_210 rfl rfl (by simp [isCell])) rfl) rfl (.q (.indexAddr rfl rfl el_33 (by omega)) rfl (.oq (.storeRdA (sz := 2) (j := k * 2) (k := 2) (vs := [vint (-3), vstr []]) rfl rfl (by simp [isCell]) sz_210 rfl ?ho26 ?hi27) ?_))))))))
   case ho26 => omega
   case hi27 => omega
   rintro v L' rfl
   refine .nil (.blk_n (.then_n (.region (.m rfl (.q (.add rfl rfl (by omega)) rfl (.an rfl ?_))))))
   exact .rk ((k + 1, spl ws (k * 2) [vint (-3), vstr []])) (⟨by dsimp only; omega, by dsimp only; rw [spl_length (by simp; omega)]; exact hwl⟩) (by dsimp only; omega) ⟨rfl, rfl, rfl, rfl, rfl, rfl, rfl, rfl, rfl, rfl, rfl, rfl, rfl, rfl, rfl, rfl, rfl, trivial⟩
  refine .exit (.then_e (.then_e (.blk_e (.then_n (.region (.u (.fieldAddr rfl fo_38_3) (.u (.fieldAddr rfl fo_36_7) (.u (.ld rfl ag_34) (.m rfl (.q (.to (v' := .agg (ptC (⟨-3, [], [], .slice none 0 0, [], 0, 0, 0, .slice none 0 0⟩ : Pt)).toArray) (.build (us := [(0, _)]) fl_36 ze_36 rfl rfl (by simp [isCell])) rfl) rfl (.q (.indexAddr rfl rfl el_34 (by omega)) rfl (.oq (.storeRdA (sz := 8) (j := i * 8) (k := 8) (vs := ptC (⟨-3, [], [], .slice none 0 0, [], 0, 0, 0, .slice none 0 0⟩ : Pt)) rfl rfl (by simp [ptC, isCell]) sz_36 rfl ?ho37 ?hi38) ?_))))))))))))
  case ho37 => omega
  case hi38 => omega
  rintro v L' rfl
  refine .nil (.blk_n (.then_n (.region (.m rfl (.q (.add rfl rfl (by omega)) rfl (.an rfl ?_))))))
  exact .rk ((i + 1, spl zs (i * 8) (ptC (⟨-3, [], [], .slice none 0 0, [], 0, 0, 0, .slice none 0 0⟩ : Pt)))) (⟨by dsimp only; omega, by dsimp only; rw [spl_length (by show i * 8 + 8 ≤ _; omega)]; exact hzl, fun k hk hik => by dsimp only; rw [spl_drop' (by show i * 8 + 8 ≤ _; omega) (by show i * 8 + 8 ≤ k * 8; dsimp only at hik; omega)]; exact hzk k hk (by dsimp only at hik; omega)⟩) (by dsimp only; omega) ⟨rfl, rfl, trivial⟩
 refine .exit (.then_e (.then_e (.blk_e (.then_n (.seq (.sr (.an rfl (.block (.loopK (ι := Nat × (List Value)) (fun q E => (5, vint q.1) :: E) (fun q => [slR 210 2 (.slice aa acl.length ca) acl.length q.2]) (fun q => q.1 ≤ acl.length ∧ q.2.length = acl.length * 2) (fun q => acl.length - q.1) (0, acl.flatMap acC) (ts := [1]) (.cons rfl (.nil)) (⟨Nat.zero_le _, hal⟩) ⟨rfl, rfl, trivial⟩ (by repeat' constructor) ?_)))))))))
 rintro ⟨j, ys⟩ ⟨hj, hyl⟩
 dsimp only
 dsimp only at hj hyl
 refine .seq (.sm rfl (.u (.fieldAddr rfl fo_38_3) (.u (.fieldAddr rfl fo_36_3) (.u (.ld rfl ag_33) (.q (.slen rfl Tryz.underlying33 rfl) rfl (.ui rfl rfl rfl (.nt (.condD rfl (fun h44 => ?_) (fun h44 => ?_)))))))))
 ·have hj2 : j < acl.length := by omega
  refine .slShape (T := 210) (sz := 2) (v := .slice aa acl.length ca) (xs := ys) (by repeat' constructor) (by omega) fun bo bo' e0 mbo _ => ?_
  simp only [Value.slice.injEq, true_and] at e0
  obtain ⟨rfl, rfl⟩ := e0
  refine .sk (.seq (.block (.region (.u (.fieldAddr rfl fo_38_3) (.u (.fieldAddr rfl fo_36_3) (.u (.ld rfl ag_33) (.m rfl (.q (.to (v' := .agg [vint (-3), vstr [111, 118, 101, 114]].toArray) (.build (us := [(0, _), (1, _)]) fl_210 ze_210 rfl rfl (by simp [isCell])) rfl) rfl (.q (.indexAddr rfl rfl el_33 (by omega)) rfl (.oq (.storeRdA (sz := 2) (j := j * 2) (k := 2) (vs := [vint (-3), vstr [111, 118, 101, 114]]) rfl rfl (by simp [isCell]) sz_210 rfl ?ho55 ?hi56) ?_))))))))))
  case ho55 => omega
  case hi56 => omega
  rintro v L' rfl
  refine .nil (.blk_n (.then_n (.region (.m rfl (.q (.add rfl rfl (by omega)) rfl (.an rfl ?_))))))
  exact .rk ((j + 1, spl ys (j * 2) [vint (-3), vstr [111, 118, 101, 114]])) (⟨by dsimp only; omega, by dsimp only; rw [spl_length (by simp; omega)]; exact hyl⟩) (by dsimp only; omega) ⟨rfl, rfl, trivial⟩
 refine .exit (.then_e (.then_e (.blk_e (.then_n (.sr (.u (.fieldAddr rfl fo_38_3) (.u (.fieldAddr rfl fo_36_7) (.u (.ld rfl ag_34) (.q (.to (v' := .agg (ptC (⟨-4, [], [], .slice none 0 0, [], 0, 0, 0, .slice none 0 0⟩ : Pt)).toArray) (.build (us := [(0, _)]) fl_36 ze_36 rfl rfl (by simp [isCell])) rfl) rfl (.oq (.buildSlice (vs := [_]) el_34 ze_36 rfl rfl rfl rfl (by first | (simp [Value.cells]; done) | (intro v hv; simp only [List.mem_cons, List.not_mem_nil, or_false] at hv; (repeat (first | (subst hv; rfl) | (rcases hv with hv | hv; (subst hv; rfl)))))) (by decide)) ?_))))))))))
 rintro v L' ⟨b14, rfl, rfl⟩
 refine .oq (.append1 rfl rfl rfl el_34 ze_36 rfl rfl ?c66 ?c67 (Nat.le_refl _) ?c68 (by decide)) ?_
 case c66 => simp only [List.map_cons, List.map_nil, List.flatten_cons, List.flatten_nil, List.append_nil]; simp [Value.cells, ptC, isCell]
 case c67 => rfl
 case c68 => omega
 rintro v L' ⟨⟨a14, c14, rfl⟩, rfl⟩
 refine .an rfl (.sr (.u (.fieldAddr rfl fo_38_3) (.u (.fieldAddr rfl fo_36_3) (.u (.ld rfl ag_33) (.q (.to (v' := .agg [vint (-4), vstr []].toArray) (.build (us := [(0, _)]) fl_210 ze_210 rfl rfl (by simp [isCell])) rfl) rfl (.oq (.buildSlice (vs := [_]) el_33 ze_210 rfl rfl rfl rfl (by first | (simp [Value.cells]; done) | (intro v hv; simp only [List.mem_cons, List.not_mem_nil, or_false] at hv; (repeat (first | (subst hv; rfl) | (rcases hv with hv | hv; (subst hv; rfl)))))) (by decide)) ?_))))))
 rintro v L' ⟨b15, rfl, rfl⟩
 refine .oq (.append1 rfl rfl rfl el_33 ze_210 rfl rfl ?c77 ?c78 (Nat.le_refl _) ?c79 (by decide)) ?_
 case c77 => simp only [List.map_cons, List.map_nil, List.flatten_cons, List.flatten_nil, List.append_nil]; simp [Value.cells, isCell]
 case c78 => rfl
 case c79 => omega
 rintro v L' ⟨⟨a15, c15, rfl⟩, rfl⟩
 refine .an rfl (.seq (.slShape (T := 36) (sz := 8) (v := .slice a14 (subs.length + 1) c14) (xs := _) (by repeat' constructor) (by omega) fun bs bs' e0 mbs _ => ?_))
 simp only [Value.slice.injEq, true_and] at e0
 obtain ⟨rfl, rfl⟩ := e0
 refine .region (.m rfl (.m rfl (.q (.slen rfl Tryz.underlying34 rfl) rfl (.q (.as (v' := vint (subs.length : Nat)) (by congr 1; omega) (.sub rfl rfl (by omega))) rfl (.q (.indexAddr rfl rfl el_34 (by omega)) rfl (.u (.fieldAddr rfl fo_36_4) (.oq (.storeRd (sz := 8) (j := subs.length * 8 + 4) rfl rfl rfl sz_3 ?ho86 ?hi87) ?_)))))))
 case ho86 => simp
 case hi87 => omega
 rintro v L' rfl
 refine .nt (.slShape (T := 210) (sz := 2) (v := .slice a15 (acl.length + 1) c15) (xs := _) (by repeat' constructor) (by omega) fun bz bz' e0 mbz _ => ?_)
 simp only [Value.slice.injEq, true_and] at e0
 obtain ⟨rfl, rfl⟩ := e0
 refine .region (.m rfl (.m rfl (.q (.slen rfl Tryz.underlying33 rfl) rfl (.q (.as (v' := vint (acl.length : Nat)) (by congr 1; omega) (.sub rfl rfl (by omega))) rfl (.q (.indexAddr rfl rfl el_33 (by omega)) rfl (.u (.fieldAddr rfl fo_210_0) (.oq (.storeRd (sz := 2) (j := acl.length * 2 + 0) rfl rfl rfl sz_3 ?ho93 ?hi94) ?_)))))))
 case ho93 => simp
 case hi94 => omega
 rintro v L' rfl
 refine .nil (.done_n ?_)
 exact .vv
theorem pick9_spec  (c n : Int) (hc : -9223372036854775808 ≤ c ∧ c ≤ 9223372036854775807) (hn : 0 < n) : Fn Tryz.prog 26 #[vint c, vint n] [] fun v L => v = vint (pickZ c n) ∧ L = [] := by
 refine Fn.intro Tryz.func26 rfl rfl fun F W => ?_
 refine .sr (.an rfl (.seq (.sm rfl (.ui rfl rfl rfl (.nt (.condD rfl (fun h6 => ?_) (fun h6 => ?_)))))))
 ·refine .region (.m rfl (.q (.add rfl rfl (by omega)) rfl (.q (.neg rfl (by omega)) rfl (.an rfl (.sm rfl (.m rfl (.q (.remE rfl rfl (by omega) (by omega)) rfl (.an rfl (.ret ?_)))))))))
  have e : pickZ c n = (-(c + 1)) % n := by unfold pickZ; rw [if_pos h6]
  rw [e]
  exact .vv
 refine .sk (.sm rfl (.m rfl (.q (.remE rfl rfl (by omega) (by omega)) rfl (.an rfl (.ret ?_)))))
 have e : pickZ c n = (c) % n := by unfold pickZ; rw [if_neg h6]
 rw [e]
 exact .vv
theorem text9_spec (o : Op9) (k : Int) (ht : o.text.length ≤ 1048576) : Fn Tryz.prog 79 #[.agg (op9K o k).toArray] [] fun v L => v = vstr (textZ o) ∧ L = [] := by
 refine Fn.intro Tryz.func79 rfl rfl fun F W => ?_
 refine .sr (.oq (.box rfl) ?_)
 rintro v L' ⟨b1, rfl, rfl⟩
 refine .a rfl (.nil (.ptCast (b := b1) (l' := op9K o k) (by repeat' constructor) (by exact rfl) (.then_n (.sr (.u (.fieldAddr rfl fo_73_5) (.u (.ld rfl ag_9) (.an rfl (.sr (.u (.fieldAddr rfl fo_73_2) (.u (.ld rfl ag_3) (.u (.min2 rfl rfl) (.an rfl (.seq (.block (.loopK (ι := Nat × Bs) (fun q E => (3, vstr q.2) :: E) (fun q => []) (fun q => textF q.1 q.2 (min o.size 66000) = textF 66001 o.text (min o.size 66000) ∧ q.2.length ≤ 2097152 ∧ (min o.size 66000) - q.2.length ≤ q.1) (fun q => q.1) (66001, o.text) (ts := [2, 4]) (.cons rfl (.cons rfl (.nil))) (⟨rfl, by dsimp only; omega, by dsimp only; omega⟩) ⟨rfl, rfl, rfl, trivial⟩ (by repeat' constructor) ?_)))))))))))))))
 rintro ⟨f, s⟩ ⟨hf, hsl, hfu⟩
 dsimp only
 dsimp only at hf hsl hfu
 refine .seq (.sm rfl (.u (.strne rfl rfl) (.m rfl (.ndec (t := 12) rfl (fun h3_12 => ?_) (fun h3_12 => ?_)))))
 ·refine .kNT (t := 11) rfl h3_12 (.grun (t := 12) rfl rfl rfl (.m rfl (.grun (t := 12) rfl rfl rfl (.q (.strlen rfl Tryz.underlying9 rfl) rfl (.grun (t := 12) rfl rfl rfl (.m rfl (.grun (t := 12) rfl rfl rfl (.ui rfl rfl rfl (.u (.pickT rfl rfl) (.nt (.condD rfl (fun h17 => ?_) (fun h17 => ?_))))))))))))
  ·have hs0 : 0 < s.length := List.length_pos_iff.2 h3_12
   obtain ⟨f1, rfl⟩ : ∃ f1, f = f1 + 1 := ⟨f - 1, by omega⟩
   refine .sk (.block (.region (.m rfl (.m rfl (.q (.concat rfl rfl (by omega)) rfl (.a rfl (.nil (.blk_n (.then_n ?_)))))))))
   exact .rk ((f1, s ++ s)) (⟨by dsimp only; rw [← textF_go ⟨h3_12, h17⟩]; exact hf, by dsimp only; rw [List.length_append]; omega, by dsimp only; rw [List.length_append]; omega⟩) (by dsimp only; omega) ⟨rfl, rfl, rfl, trivial⟩
  refine .exit (.then_e (.then_e (.blk_e (.then_n (.seq (.seq ?_))))))
  have hT : textF 66001 o.text (min o.size 66000) = s := by rw [← hf]; exact textF_stop (fun g => h17 g.2)
  refine .region (.m rfl (.q (.strlen rfl Tryz.underlying9 rfl) rfl (.m rfl (.ui rfl rfl rfl (.m rfl (.dec (t := 25) rfl (fun h5_25 => ?_) (fun h5_25 => ?_)))))))
  ·refine .kDT (t := 24) rfl h5_25 (.grun (t := 25) rfl rfl rfl (.m rfl (.grun (t := 25) rfl rfl rfl (.ui rfl rfl rfl (.u (.pickT rfl rfl) (.nt (.condD rfl (fun h28 => ?_) (fun h28 => ?_))))))))
   ·refine .region (.m rfl (.m rfl (.q (.to (v' := vstr (s.take (min o.size 66000).toNat)) (.strTo rfl rfl Tryz.underlying9 (by omega)) rfl) rfl (.an rfl (.sm rfl (.an rfl (.ret ?_)))))))
    have hr : textZ o = s.take (min o.size 66000).toNat := by unfold textZ cutT; rw [hT, if_pos ⟨h5_25, h28⟩]
    rw [hr]
    exact .vv
   refine .sk (.sm rfl (.an rfl (.ret ?_)))
   have hr : textZ o = s := by unfold textZ cutT; rw [hT, if_neg (fun g => h28 g.2)]
   rw [hr]
   exact .vv
  refine .kDF (t := 24) rfl h5_25 (.gk (.gk (.u (.pickF rfl rfl) (.nt (.condF rfl (.sk (.sm rfl (.an rfl (.ret ?_)))))))))
  have hr : textZ o = s := by unfold textZ cutT; rw [hT, if_neg (fun g => h5_25 g.1)]
  rw [hr]
  exact .vv
 refine .kNF (t := 11) rfl h3_12 (.gk (.gk (.gk (.gk (.u (.pickF rfl rfl) (.nt (.condF rfl (.exit (.then_e (.then_e (.blk_e (.then_n (.seq (.seq ?_))))))))))))))
 have hT : textF 66001 o.text (min o.size 66000) = s := by rw [← hf]; exact textF_stop (fun g => g.1 h3_12)
 refine .region (.m rfl (.q (.strlen rfl Tryz.underlying9 rfl) rfl (.m rfl (.ui rfl rfl rfl (.m rfl (.dec (t := 25) rfl (fun h5_25 => ?_) (fun h5_25 => ?_)))))))
 ·refine .kDT (t := 24) rfl h5_25 (.grun (t := 25) rfl rfl rfl (.m rfl (.grun (t := 25) rfl rfl rfl (.ui rfl rfl rfl (.u (.pickT rfl rfl) (.nt (.condD rfl (fun h28 => ?_) (fun h28 => ?_))))))))
  ·refine .region (.m rfl (.m rfl (.q (.to (v' := vstr (s.take (min o.size 66000).toNat)) (.strTo rfl rfl Tryz.underlying9 (by omega)) rfl) rfl (.an rfl (.sm rfl (.an rfl (.ret ?_)))))))
   have hr : textZ o = s.take (min o.size 66000).toNat := by unfold textZ cutT; rw [hT, if_pos ⟨h5_25, h28⟩]
   rw [hr]
   exact .vv
  refine .sk (.sm rfl (.an rfl (.ret ?_)))
  have hr : textZ o = s := by unfold textZ cutT; rw [hT, if_neg (fun g => h28 g.2)]
  rw [hr]
  exact .vv
 refine .kDF (t := 24) rfl h5_25 (.gk (.gk (.u (.pickF rfl rfl) (.nt (.condF rfl (.sk (.sm rfl (.an rfl (.ret ?_)))))))))
 have hr : textZ o = s := by unfold textZ cutT; rw [hT, if_neg (fun g => h5_25 g.1)]
 rw [hr]
 exact .vv
theorem same_step {a b : List En} {i : Nat} (h1 : i < a.length) (h2 : i < b.length) (h : (a.take i).map enB = (b.take i).map enB) (he : enB a[i] = enB b[i]) : (a.take (i + 1)).map enB = (b.take (i + 1)).map enB := by
 rw [List.take_succ_eq_append_getElem h1, List.take_succ_eq_append_getElem h2, List.map_append, List.map_append, h]
 simp [he]
theorem same_bad {a b : List En} {i : Nat} (h1 : i < a.length) (h2 : i < b.length) (he : ¬ enB a[i] = enB b[i]) : ¬ a.map enB = b.map enB := by
 intro h
 have h3 : (a.map enB)[i]? = (b.map enB)[i]? := by rw [h]
 simp [h1, h2] at h3
 exact he h3
theorem same9_spec (va vb : Value) (a b : List En) (pa pe qa qe : HP) (ha : ∀ h : Hp, pa h → rdS 11 h va a.length (a.flatMap enC)) (hae : ∀ e ∈ a, EnL pe e) (hb : ∀ h : Hp, qa h → rdS 11 h vb b.length (b.flatMap enC)) (hbe : ∀ e ∈ b, EnL qe e) (hl : a.length ≤ 4294967296) (hm : b.length ≤ 4294967296) : Fn Tryz.prog 30 #[va, vb] [pa, pe, qa, qe] fun v L => v = .bool (decide (a.map enB = b.map enB)) ∧ L = [pa, pe, qa, qe] := by
 refine Fn.intro Tryz.func30 rfl rfl fun F W => ?_
 refine .rdAny (p := pa) ha (by repeat' constructor) fun aa ca e _ => ?_
 subst e
 refine .rdAny (p := qa) hb (by repeat' constructor) fun ab cb e _ => ?_
 subst e
 refine .sr (.an rfl (.seq (.sm rfl (.q (.slen rfl Tryz.underlying22 rfl) rfl (.m rfl (.q (.slen rfl Tryz.underlying22 rfl) rfl (.ui rfl rfl rfl (.nt (.condN rfl (fun h10 => ?_) (fun h10 => ?_))))))))))
 ·refine .sr (.an rfl (.rt ?_))
  exact .dn rfl rfl ⟨congrArg Value.bool (decide_eq_false (fun h => by have h2 := congrArg List.length h; rw [List.length_map, List.length_map] at h2; omega)).symm, rfl⟩
 have hlen : a.length = b.length := by omega
 refine .sk (.seq (.sr (.an rfl (.block (.loopK (ι := Nat) (fun q E => (5, vint q) :: E) (fun q => []) (fun q => q ≤ a.length ∧ (a.take q).map enB = (b.take q).map enB) (fun q => a.length - q) (0) (ts := [0, 1]) (.cons rfl (.cons rfl (.nil))) (⟨Nat.zero_le _, rfl⟩) ⟨rfl, rfl, rfl, trivial⟩ (by repeat' constructor) ?_)))))
 rintro i ⟨hi, ht⟩
 refine .seq (.sm rfl (.m rfl (.q (.slen rfl Tryz.underlying22 rfl) rfl (.ui rfl rfl rfl (.nt (.condD rfl (fun h14 => ?_) (fun h14 => ?_)))))))
 ·have hi2 : i < a.length := by omega
  have hi3 : i < b.length := by omega
  have hea := hae _ (List.getElem_mem hi2)
  have heb := hbe _ (List.getElem_mem hi3)
  refine .rdShape (p := pa) ha (by repeat' constructor) (by omega) fun ba oa e => ?_
  subst e
  refine .rdShape (p := qa) hb (by repeat' constructor) (by omega) fun bb ob e => ?_
  subst e
  refine .sk (.seq (.block (.seq (.draw [] [[0, 1, 2, 3, 4, 5, 6, 7, 8, 9, 10]] mixed (by kernel_rfl) (.go [pa, pe, qa, qe] (by repeat' constructor) (.mv rfl rfl (.mv rfl rfl (.kv rfl (.indexAddr rfl rfl el_22 (by omega)) (.kv rfl (.loadRdA (sz := 11) (j := i * 11) (k := 11) (p := pa) (vs := enC a[i]) rfl ag_38 (by repeat' constructor) ha (by simp) (by omega) (by omega) (flatMap_at (f := enC) (sz := 11) (fun _ _ => rfl) (by omega))) (.m rfl (by kernel_rfl) (.c Tryz.func77 [_] (r2put_spec a[i] pe hea)) (by repeat' constructor) ?_))))))))))
  refine D.mv rfl rfl (.mv rfl rfl (.kv rfl (.indexAddr rfl rfl el_22 (by omega)) (.kv rfl (.loadRdA (sz := 11) (j := i * 11) (k := 11) (p := qa) (vs := enC b[i]) rfl ag_38 (by repeat' constructor) hb (by simp) (by omega) (by omega) (flatMap_at (f := enC) (sz := 11) (fun _ _ => rfl) (by omega))) (.m rfl (by kernel_rfl) (.c Tryz.func77 [_] (r2put_spec b[i] qe heb)) (by repeat' constructor) ?_))))
  refine D.kv rfl (.strne rfl rfl) (.pf (.condN rfl (fun h27 => ?_) (fun h27 => ?_)))
  ·refine .sr (.an rfl (.ret (.blk_r (.then_r (.then_r (.blk_r (.then_r ?_)))))))
   exact .dn rfl rfl ⟨congrArg Value.bool (decide_eq_false (same_bad hi2 hi3 (by simpa using h27))).symm, rfl⟩
  refine .skip (.blk_n (.then_n (.region (.m rfl (.q (.add rfl rfl (by omega)) rfl (.an rfl ?_))))))
  exact .rk (i + 1) (⟨by omega, same_step hi2 hi3 ht (by simpa using h27)⟩) (by omega) ⟨rfl, rfl, rfl, trivial⟩
 refine .exit (.then_e (.then_e (.blk_e (.then_n (.sr (.an rfl (.ret ?_)))))))
 exact .dn rfl rfl ⟨congrArg Value.bool (decide_eq_true (by have hie : i = a.length := (by omega); rw [hie, List.take_length, hlen, List.take_length] at ht; exact ht)).symm, rfl⟩
def entsB (Λ : Lg) (z : Int) : List Bs := if z < Λ.base then [] else behindB Λ z
def entsE (Λ : Lg) (z : Int) : Int := if z < Λ.base then 81 else 0
theorem sep_add {p : HP} {L : List HP} {h : Hp} (hp : ∀ h, p h) (hs : sep L h) : sep (p :: L) h := ⟨fun _ => none, _, fun _ => .inl rfl, fun _ _ e => (by cases e), fun _ _ e => e, hp _, hs⟩
theorem lent2_spec (g x : Nat) (Λ : Lg) (z : Int) (hW : LgW Λ) : Fn Tryz.prog 16 #[vptr g, vint z] [lgR g x Λ] fun v L => ∃ (es : List En) (a : Option Addr) (c : Nat), es.map enB = entsB Λ z ∧ es.length ≤ 1048576 ∧ (∀ e ∈ es, EnK e ∧ EnG e) ∧ v = .tuple #[.slice a es.length c, vint (entsE Λ z)] ∧ L = [lgR g x Λ, es9 (.slice a es.length c) es, bigR entR es] := by
 intro F w hs
 refine (lentries_spec g x Λ z hW.i F w hs).mono ?_
 rintro e w' ⟨v, L, hK, he, hs2, hk⟩
 rcases hK with ⟨h1, rfl, rfl⟩ | ⟨h1, es, he2, hek, a, c, rfl, rfl⟩
 ·refine ⟨_, [lgR g x Λ, es9 (.slice none 0 0) [], bigR entR []], ⟨[], none, 0, by unfold entsB; rw [if_pos h1]; rfl, Nat.zero_le _, fun e he => (by cases he), by unfold entsE; rw [if_pos h1]; rfl, rfl⟩, he, ?_, hk⟩
  have q := sep_add (p := es9 (.slice none 0 0) []) (slR_nil _ _) (sep_add (p := bigR entR []) (fun h => big_nil h) hs2)
  exact sep_perm ((List.Perm.swap _ _ _).trans (List.Perm.cons _ (List.Perm.swap _ _ _) |>.symm.trans ((List.Perm.swap _ _ _).trans (List.Perm.cons _ (List.Perm.swap _ _ _))) |>.symm |> fun h => h.symm)) q
 ·obtain ⟨hB, hG⟩ := behind_B hW he2
  have hbl : es.length ≤ 1048576 := by
   have h8 := congrArg List.length hB
   have h9 : (behindB Λ z).length ≤ Λ.ents.length := by
    unfold behindB; rw [List.length_map]
    refine Nat.le_trans (List.length_filter_le _ _) ?_
    rw [List.length_zip]; omega
   rw [List.length_map] at h8
   have := hW.few; omega
  exact ⟨_, _, ⟨es, a, c, by unfold entsB; rw [if_neg h1]; exact hB, hbl, fun e he => ⟨hek e he, hG e he⟩, by unfold entsE; rw [if_neg h1], rfl⟩, he, hs2, hk⟩
theorem r9ent2_spec (y w : Nat) (Λ : Lg) (a : Option Addr) (c : Nat) (es : List En) (z : Int) (hE : EsOf es Λ) : Fn Tryz.prog 131 #[vptr y, vint z] [gc9 y w Λ.base Λ.snap (.slice a es.length c) Λ.acc Λ.cur Λ.doubt, es9 (.slice a es.length c) es] fun v L => ∃ (fs : List En) (a2 : Option Addr) (c2 : Nat), fs.map enB = entsB Λ z ∧ (∀ e ∈ fs, e ∈ es) ∧ fs.length ≤ 1048576 ∧ v = .tuple #[.slice a2 fs.length c2, vint (entsE Λ z)] ∧ L = [gc9 y w Λ.base Λ.snap (.slice a es.length c) Λ.acc Λ.cur Λ.doubt, es9 (.slice a es.length c) es, es9 (.slice a2 fs.length c2) fs] := by
 intro F u hs
 refine (r9entries_spec y w Λ.base Λ.snap a c Λ.acc Λ.cur Λ.doubt es z hE.n (fun e he => (hE.k e he).1) F u hs).mono ?_
 rintro e w' ⟨v, L, hK, he, hs2, hk⟩
 rcases hK with ⟨h1, rfl, rfl⟩ | ⟨h1, a2, c2, rfl, rfl⟩
 ·refine ⟨_, [gc9 y w Λ.base Λ.snap (.slice a es.length c) Λ.acc Λ.cur Λ.doubt, es9 (.slice a es.length c) es, es9 (.slice none 0 0) []], ⟨[], none, 0, by unfold entsB; rw [if_pos h1]; rfl, fun e he => (by cases he), Nat.zero_le _, by unfold entsE; rw [if_pos h1]; rfl, rfl⟩, he, ?_, hk⟩
  have q := sep_add (p := es9 (.slice none 0 0) []) (slR_nil _ _) hs2
  exact sep_perm ((List.Perm.swap _ _ _).trans (List.Perm.cons _ (List.Perm.swap _ _ _))) q
 ·refine ⟨_, _, ⟨_, a2, c2, ?_, fun e he => (List.mem_filter.1 he).1, ?_, by unfold entsE; rw [if_neg h1], rfl⟩, he, hs2, hk⟩
  ·unfold entsB; rw [if_neg h1]; exact behind_es hE z
  ·have := hE.n; exact Nat.le_trans (List.length_filter_le _ _) this
theorem partF_long : ∀ (f : Nat) (s : Bs) (out : List Bs) (num : Int) (l : List Bs), (∀ x ∈ out, x.length ≤ 4000) → partF f s out num = some l → ∀ x ∈ l, x.length ≤ 4000
 | 0, _, _, _, _, _, h => by cases h
 | f + 1, s, out, num, l, ho, h => by
  unfold partF at h
  split at h
  ·split at h
   ·cases h; exact ho
   ·cases h
  split at h
  ·cases h
  split at h
  ·cases h
  split at h
  ·cases h
  rename_i h0 h1 h2 h3
  refine partF_long f _ _ num l (fun x hx => ?_) h
  rcases List.mem_append.1 hx with hx | hx
  ·exact ho x hx
  ·rw [List.mem_singleton] at hx; subst hx
   rw [sub_len (by omega)]; omega
theorem open_I {δ : Dk} (hok : δ.Ok) (hs : 2 ≤ δ.now.length ∧ δ.now.length ≤ 32768) (ha : δ.acts + 10000000 < 4611686018427387904) {ω : Wl} (h : openZ δ = some ω) : WlI δ ω ∧ ω.doubt = false ∧ (∀ s ∈ ω.recs, s.length ≤ 4000) ∧ ω.recs.length ≤ 1048576 ∧ (0 ≤ ω.a ∧ ω.a ≤ 9223372036854775807) ∧ (0 ≤ ω.b ∧ ω.b ≤ 9223372036854775807) := by
 obtain ⟨f1, f2⟩ := open_facts hok hs.1 h
 rcases hb : bestZ δ with _ | m
 ·rw [openZ_none hb] at h; cases h
 ·rw [openZ_some hb] at h
  have hm := bestZ_some hok hb
  unfold openB at h
  split at h
  ·cases h
  ·rename_i l hp
   have e := Option.some.inj h
   subst e
   have hlm := laidZ_many l
   have hhl := half_le hs
   have hc := hm.count
   have har := hm.area
   dsimp only at f2
   refine ⟨⟨hs, ha, hm.area, ⟨by dsimp only; omega, hc.2⟩, ⟨by dsimp only; omega, Int.le_refl _⟩, f2⟩, rfl, partF_long _ _ _ _ _ (fun x hx => by cases hx) hp, by dsimp only; omega, hm.a, hm.b⟩
theorem snap_W {many : Nat} : ∀ (l : List Bs) (sn sn' : Bs) (u : List Bs), sn.length ≤ many → snapZ many sn l = some (sn', u) → sn'.length ≤ many ∧ ∀ s ∈ u, s ∈ l
 | [], sn, sn', u, hl, h => by
  unfold snapZ at h
  split at h
  ·cases h
  ·cases h; exact ⟨hl, fun s hs => hs⟩
 | r :: t, sn, sn', u, hl, h => by
  unfold snapZ at h
  split at h
  ·split at h
   ·rename_i h1 h2
    obtain ⟨q1, q2⟩ := snap_W t _ _ _ (by rw [List.length_append]; omega) h
    exact ⟨q1, fun s hs => List.mem_cons_of_mem _ (q2 s hs)⟩
   ·cases h
  ·cases h; exact ⟨hl, fun s hs => hs⟩
theorem ents_W : ∀ (u : List Bs) (Λ Λ' : Lg), LgW Λ → (∀ s ∈ u, s.length ≤ 4000) → entsZ Λ u = some Λ' → LgW Λ' ∧ Λ'.acc = Λ.acc ∧ Λ'.cur = Λ.cur ∧ Λ'.doubt = Λ.doubt
 | [], Λ, Λ', hW, _, h => by cases h; exact ⟨hW, rfl, rfl, rfl⟩
 | s :: t, Λ, Λ', hW, hs, h => by
  cases hg : getZ s with
  | none => rw [ents_none hg] at h; cases h
  | some e =>
   by_cases hb : e.zx ≤ lastZ Λ ∨ Λ.ents.length = 200
   ·rw [ents_bad hg hb] at h; cases h
   ·rw [ents_step hg hb] at h
    have hfw := hW.few
    have hWk : LgW (Λ.keep s e.zx) := by
     refine ⟨?_, ?_, hW.base, hW.snap, hW.rows.keep ⟨e, hg, rfl⟩ (get_zx64 hg) (show lastF Λ.base Λ.zxs < e.zx from Int.not_le.1 (fun q => hb (.inl q))), hW.eps⟩
     ·show (Λ.ents ++ [s]).length ≤ 200; rw [List.length_append, List.length_singleton]
      have : Λ.ents.length ≠ 200 := fun q => hb (.inr q)
      omega
     ·intro x hx
      rcases List.mem_append.1 (show x ∈ Λ.ents ++ [s] from hx) with hx | hx
      ·exact hW.each x hx
      ·rw [List.mem_singleton] at hx; subst hx; exact hs x (List.mem_cons_self ..)
    exact ents_W t (Λ.keep s e.zx) Λ' hWk (fun x hx => hs x (List.mem_cons_of_mem _ hx)) h
theorem openL_W {ω : Wl} {Λ : Lg} (hr : ∀ s ∈ ω.recs, s.length ≤ 4000) (hb : 0 ≤ ω.b) (h : openLZ ω = some Λ) : LgW Λ ∧ Λ.acc = ω.a ∧ Λ.cur = ω.b ∧ Λ.doubt = false := by
  unfold openLZ at h
  split at h
  · cases h
  rename_i h0
  cases hq : ω.recs with
  | nil => rw [hq] at h; cases h
  | cons r t =>
    rw [hq] at h hr
    cases hlh : lhZ r with
    | none => have h2 : (match lhZ r with | none => none | some (base, n) => if base < 0 then none else restZ ω.a ω.b base (snapZ n [] t)) = some Λ := h
              rw [hlh] at h2; cases h2
    | some bn =>
    obtain ⟨base, n⟩ := bn
    have h2 : (match lhZ r with | none => none | some (base, n) => if base < 0 then none else restZ ω.a ω.b base (snapZ n [] t)) = some Λ := h
    rw [hlh] at h2
    replace h : (if base < 0 then none else restZ ω.a ω.b base (snapZ n [] t)) = some Λ := h2
    split at h
    · cases h
    rename_i h1
    have hbase : I64 base ∧ n ≤ 65536 := by
      unfold lhZ at hlh
      split at hlh
      · rename_i q hq2
        have e : q = (base, n) := Option.some.inj hlh
        subst e
        have e1 : base = (numR (some r)).1 := by have := congrArg (fun x => x.1.1) hq2; exact this.symm
        have e2 : n = (cntX (numR (some r)).2).1 := by have := congrArg (fun x => x.1.2) hq2; exact this.symm
        exact ⟨by rw [e1]; exact numR_i64 _, by rw [e2]; exact cntX_le _⟩
      · cases hlh
    cases hs : snapZ n [] t with
    | none => rw [hs] at h; cases h
    | some x =>
      obtain ⟨sn, u⟩ := x
      rw [hs] at h
      obtain ⟨q1, q2⟩ := snap_W t [] sn u (Nat.zero_le _) hs
      have hW0 : LgW ⟨ω.a, ω.b, base, sn, [], [], false⟩ := ⟨Nat.zero_le _, fun s hs => (by cases hs), ⟨by show 0 ≤ base; omega, hbase.1.2⟩, by show sn.length ≤ 65536; omega, trivial, ⟨hb, by show ω.b ≤ ω.a; omega, by show ω.a ≤ 1073741824; omega⟩⟩
      exact ents_W u _ Λ hW0 (fun s hs2 => hr s (List.mem_cons_of_mem _ (q2 s hs2))) h
theorem met_gc {y w : Nat} {sl : Value} (Λ : Lg) (e : Int) : gc9 y w Λ.base Λ.snap sl Λ.acc Λ.cur (if e = 2 then true else Λ.doubt) = gc9 y w (Λ.met e).base (Λ.met e).snap sl (Λ.met e).acc (Λ.met e).cur (Λ.met e).doubt := by
 unfold Lg.met
 by_cases h : e = 2
 ·rw [if_pos h, if_pos h]
 ·rw [if_neg h, if_neg h]
theorem EsOf.met {es : List En} {Λ : Lg} (h : EsOf es Λ) (e : Int) : EsOf es (Λ.met e) := by
 obtain ⟨h1, h2, h3, h4⟩ := h
 unfold Lg.met
 split
 ·exact ⟨h1, h2, h3, h4⟩
 ·exact ⟨h1, h2, h3, h4⟩
theorem EsOf.acc {es : List En} {Λ : Lg} (h : EsOf es Λ) (n : Int) : EsOf es (Λ.setAcc n) := ⟨h.b, h.z, h.n, h.k⟩
theorem EsOf.cur {es : List En} {Λ : Lg} (h : EsOf es Λ) (n : Int) : EsOf es (Λ.setCur n) := ⟨h.b, h.z, h.n, h.k⟩
theorem EsOf.cut {es : List En} {Λ : Lg} (h : EsOf es Λ) (n : Nat) : EsOf (es.take n) ⟨Λ.acc, Λ.cur, Λ.base, Λ.snap, Λ.ents.take n, Λ.zxs.take n, Λ.doubt⟩ :=
 ⟨by rw [List.map_take, h.b], by rw [List.map_take, h.z], by have := h.n; rw [List.length_take]; omega, fun e he => h.k e (List.mem_of_mem_take he)⟩
theorem idx_at : ∀ {l : List Int} {i : Nat} {z : Int} (h : i < l.length), l[i] = z → (∀ j (hj : j < i) (h2 : j < l.length), l[j] ≠ z) → l.idxOf z = i
 | x :: l, 0, z, _, hz, _ => by
  have : x = z := hz
  subst this; exact List.idxOf_cons_self
 | x :: l, i + 1, z, h, hz, hb => by
  have h0 : x ≠ z := hb 0 (by omega) (by simp)
  have ih := idx_at (l := l) (i := i) (z := z) (by simpa using h) (by simpa using hz) (fun j hj h2 => hb (j + 1) (by omega) (by simpa using h2))
  rw [List.idxOf_cons, ih, show (x == z) = false from by simpa using h0]; rfl
 | [], _, _, h, _, _ => by simp at h
theorem big_tk {α : Type} {f : α → HP} : ∀ {l : List α} (n : Nat) {h : Hp}, bigR f l h → bigR f (l.take n) h
 | [], n, h, hp => by rw [List.take_nil]; exact big_nil h
 | x :: l, 0, h, hp => big_nil h
 | x :: l, n + 1, h, hp => by
  obtain ⟨h1, h2, a, b, c, q1, q2⟩ := big_cons hp
  rw [List.take_succ_cons]
  obtain ⟨h3, h4, a', b', c', q3, -⟩ := q2
  have q4 := big_tk n q3
  exact big_of_cons ⟨h1, h2, a, b, c, q1, h3, h4, a', b', c', q4, trivial⟩
theorem EnL.weak {p q : HP} {e : En} (hpq : ∀ h, p h → ∃ h1, (∀ b o, h1 b = some o → h b = some o) ∧ q h1) (h : EnL q e) : EnL p e := by
 obtain ⟨⟨w1, w2, w3, w4⟩, h2, h3, h4, h5⟩ := h
 refine ⟨⟨w1, fun h hp => ?_, fun h hp => ?_, fun y hy h hp => ?_⟩, h2, h3, h4, h5⟩
 ·obtain ⟨h1, a1, q1⟩ := hpq h hp; exact rdS_mono (w2 h1 q1) a1
 ·obtain ⟨h1, a1, q1⟩ := hpq h hp; exact rdS_mono (w3 h1 q1) a1
 ·obtain ⟨h1, a1, q1⟩ := hpq h hp; exact rdS_mono (w4 y hy h1 q1) a1
theorem EnK.x9 {p : HP} {e : En} (hl : EnL p e) (hk : EnK e) : EnX p e := ⟨hl, fun y hy => ⟨none, 0, 0, (hk.subs y hy).2⟩⟩
theorem fits_of {e : En} (hk : EnK e) {s : Bs} {q : En} (hg : getZ s = some q) (hs : enB e = s) : fitsE e = true := by
 unfold fitsE
 rw [hs, hg]
 have : noSubs e = true := by
  unfold noSubs
  rw [List.all_eq_true]
  intro y hy
  rw [(hk.subs y hy).2]; rfl
 rw [this]; rfl
theorem slen_of {v : Value} {a : Option Addr} {n c : Nat} (h : v = .slice a n c) : slen v = n := by rw [h]; rfl
theorem r9fits_spec (e : En) (p : HP) (he : EnX p e) : Fn Tryz.prog 182 #[.agg (enC e).toArray] [p] fun v L => v = .bool (fitsE e) ∧ L = [p] := by
 obtain ⟨sV, hsV⟩ : ∃ sV, e.x.subsV = sV := ⟨_, rfl⟩
 have hs : ∀ h : Hp, p h → rdS 8 h sV e.subs.length (e.subs.flatMap ptC) := by rw [← hsV]; exact he.l.w.subs
 refine Fn.intro Tryz.func182 rfl rfl fun F W => ?_
 have hfw := he.l.few.1
 have hle := he.l.len
 refine .rdAny (p := p) hs (by repeat' constructor) fun as1 cs1 e2 _ => ?_
 subst e2
 refine .sr (.oq (.box rfl) ?_)
 rintro v L' ⟨b1, rfl, rfl⟩
 refine .a rfl (.nil (.ptCast (b := b1) (l' := enC e) (by repeat' constructor) (by exact rfl) (.then_n (.seq (.sr (.an rfl (.block (.loopK (ι := Nat) (fun q E => (3, vint q) :: E) (fun q => []) (fun q => q ≤ e.subs.length ∧ ∀ j (hj : j < q) (hl : j < e.subs.length), slen e.subs[j].subsV = 0) (fun q => e.subs.length - q) (0) (ts := [1]) (.cons rfl (.nil)) (⟨Nat.zero_le _, fun j hj => by omega⟩) ⟨rfl, rfl, trivial⟩ (by repeat' constructor) ?_))))))))
 rintro i ⟨hi, hb⟩
 refine .seq (.sm rfl (.u (.fieldAddr rfl fo_38_3) (.u (.fieldAddr rfl fo_36_7) (.q (.to (v' := .slice as1 e.subs.length cs1) (.load rfl ag_34 (by repeat' constructor) rfl) hsV) rfl (.q (.slen rfl Tryz.underlying34 rfl) rfl (.ui rfl rfl rfl (.nt (.condD rfl (fun h11 => ?_) (fun h11 => ?_)))))))))
 ·have hi2 : i < e.subs.length := by omega
  obtain ⟨sa, sn, sc, hsy⟩ := he.sub _ (List.getElem_mem hi2)
  refine .rdShape (p := p) hs (by repeat' constructor) (by omega) fun ba oa e1 => ?_
  subst e1
  refine .sk (.seq (.block (.sr (.u (.fieldAddr rfl fo_38_3) (.u (.fieldAddr rfl fo_36_7) (.q (.to (v' := .slice (some ⟨ba, oa, none⟩) e.subs.length cs1) (.load rfl ag_34 (by repeat' constructor) rfl) hsV) rfl (.m rfl (.q (.indexAddr rfl rfl el_34 (by omega)) rfl (.u (.fieldAddr rfl fo_36_7) (.q (.to (v' := .slice sa sn sc) (.loadRd (sz := 8) (j := i * 8 + 7) (p := p) (v := e.subs[i].subsV) rfl ag_34 (by repeat' constructor) hs (by omega) ((fm_cell (f := ptC) (sz := 8) (k := 7) (fun _ _ => rfl) hi2 (by decide)).trans rfl)) hsy) rfl (.q (.slen rfl Tryz.underlying34 rfl) rfl (.ui rfl rfl rfl (.nt (.condD rfl (fun h22 => ?_) (fun h22 => ?_)))))))))))))))
  ·refine .sr (.an rfl (.ret (.blk_r (.then_r (.then_r (.blk_r (.then_r ?_)))))))
   have hf : fitsE e = false := by unfold fitsE; rw [show noSubs e = false from by unfold noSubs; rw [List.all_eq_false]; exact ⟨e.subs[i], List.getElem_mem hi2, by rw [slen_of hsy]; simp; omega⟩]; rfl
   rw [hf]
   exact .vv
  refine .skip (.blk_n (.then_n (.region (.m rfl (.q (.add rfl rfl (by omega)) rfl (.an rfl ?_))))))
  exact .rk (i + 1) (⟨by omega, fun j hj hl => by rcases Nat.lt_or_ge j i with g | g; exact hb j g hl; obtain rfl : j = i := (by omega); rw [slen_of hsy]; omega⟩) (by omega) ⟨rfl, rfl, trivial⟩
 have hns : noSubs e = true := by unfold noSubs; rw [List.all_eq_true]; intro s hs9; obtain ⟨j, hj, rfl⟩ := List.mem_iff_getElem.1 hs9; simpa using hb j (by omega) hj
 refine .exit (.then_e (.then_e (.blk_e (.then_n (.sr (.q (.loadAs (vs := enC e) rfl ag_38 (by repeat' constructor) (by simp [enC, ptC]) rfl) rfl (.cv Tryz.func77 [_] (r2put_spec e p he.l) ?_)))))))
 refine .oq (.c Tryz.func173 [_] (r2get_spec (enB e) (by omega))) ?_
 rintro v L' ⟨ge, er, hge, rfl, rfl⟩
 refine .m rfl (.u (.extract rfl rfl) (.u (.extract rfl rfl) (.oq (.allocA ze_38) ?_)))
 rintro v L' ⟨b4, rfl, rfl⟩
 refine .oq (.storeA rfl rfl ?c32 sz_38 ?c35 ?c33 (nfz0 _ _)) ?_
 case c32 => exact hge.cells
 case c35 => rfl
 case c33 => simp [enC, ptC]
 rintro v L' rfl
 refine .an rfl (.sm rfl (.q (.as (v' := .bool (fitsE e)) (by exact congrArg Value.bool (by unfold fitsE; rw [hns]; rcases hge with ⟨rfl, h2, -⟩ | ⟨rfl, h2, -⟩ <;> rw [h2] <;> rfl)) (.int rfl rfl rfl)) rfl (.an rfl (.ret ?_))))
 exact .vv
theorem r9sync_spec (y w x : Nat) (δ : Dk) (ω : Wl) (Λ : Lg) (hI : WlI δ ω) (hab : (0 ≤ ω.a ∧ ω.a ≤ 9223372036854775807) ∧ (0 ≤ ω.b ∧ ω.b ≤ 9223372036854775807)) : Fn Tryz.prog 144 #[vptr y] [rgR y w Λ, rlR w x ω, dsR x δ] fun v L => v = vint (lgSync ⟨δ, ω, Λ⟩).2 ∧ L = [rgR y w (lgSync ⟨δ, ω, Λ⟩).1.Λ, rlR w x (lgSync ⟨δ, ω, Λ⟩).1.ω, dsR x (lgSync ⟨δ, ω, Λ⟩).1.δ] := by
 refine Fn.intro Tryz.func144 rfl rfl fun F W => ?_
 refine .rgOpen (y := y) (by repeat' constructor) fun a c es hE => (.sr (.an rfl (.seq (.sm rfl (.nf rfl fo_129_6 (.u (.ld rfl ag_4) (.nt (.condB rfl (fun h6 => ?_) (fun h6 => ?_)))))))))
 ·refine .sr (.an rfl (.rt ?_))
  have hr : lgSync ⟨δ, ω, Λ⟩ = (⟨δ, ω, Λ⟩, 2) := by unfold lgSync; dsimp only; rw [if_pos h6]
  rw [hr]
  try dsimp only
  refine .rg (y := y) (w := w) (Λ) (a) (c) (es) (hE) ?_
  exact .vv
 refine .sk (.sm rfl (.m rfl (.nf rfl fo_129_0 (.u (.ld rfl ag_50) (.cv Tryz.func126 [_] (rlsync_spec w x ω δ hI hab) ?_)))))
 refine .oq (.c Tryz.func184 [_, _] (r9met_spec y w Λ.base Λ.snap _ Λ.acc Λ.cur Λ.doubt (syncZ δ ω).2.2)) ?_
 rintro v L' ⟨rfl, rfl⟩; rw [met_gc Λ (syncZ δ ω).2.2]
 refine .an rfl (.ret ?_)
 have hr : lgSync ⟨δ, ω, Λ⟩ = metL Λ (syncZ δ ω) := by unfold lgSync; dsimp only; rw [if_neg (by rw [h6]; decide)]
 rw [hr]
 try dsimp only
 refine .rg (y := y) (w := w) (Λ.met (syncZ δ ω).2.2) (a) (c) (es) (hE.met _) ?_
 exact .vv
theorem r9accept_spec (y w x : Nat) (δ : Dk) (ω : Wl) (Λ : Lg) (n : Int) (hI : WlI δ ω) (hc : Λ.cur ≤ 9223372036854775807) : Fn Tryz.prog 145 #[vptr y, vint n] [rgR y w Λ, rlR w x ω, dsR x δ] fun v L => v = vint (lgAccept ⟨δ, ω, Λ⟩ n).2 ∧ L = [rgR y w (lgAccept ⟨δ, ω, Λ⟩ n).1.Λ, rlR w x (lgAccept ⟨δ, ω, Λ⟩ n).1.ω, dsR x (lgAccept ⟨δ, ω, Λ⟩ n).1.δ] := by
 refine Fn.intro Tryz.func145 rfl rfl fun F W => ?_
 refine .rgOpen (y := y) (by repeat' constructor) fun a c es hE => (.sr (.an rfl (.seq (.sm rfl (.nf rfl fo_129_6 (.u (.ld rfl ag_4) (.nt (.condB rfl (fun h9 => ?_) (fun h9 => ?_)))))))))
 ·refine .sr (.an rfl (.rt ?_))
  have hr : lgAccept ⟨δ, ω, Λ⟩ n = (⟨δ, ω, Λ⟩, 2) := by unfold lgAccept; dsimp only; rw [if_pos h9]
  rw [hr]
  try dsimp only
  refine .rg (y := y) (w := w) (Λ) (a) (c) (es) (hE) ?_
  exact .vv
 refine .sk (.seq (.sm rfl (.m rfl (.nf rfl fo_129_4 (.u (.ld rfl ag_3) (.ui rfl rfl rfl (.m rfl (.dec (t := 16) rfl (fun h3_16 => ?_) (fun h3_16 => ?_)))))))))
 ·refine .kDT (t := 15) rfl h3_16 (.gk (.gk (.u (.pickT rfl rfl) (.nt (.condT rfl (.sr (.an rfl (.rt ?_))))))))
  have hr : lgAccept ⟨δ, ω, Λ⟩ n = (⟨δ, ω, Λ⟩, 82) := by unfold lgAccept; dsimp only; rw [if_neg (by rw [h9]; decide), if_pos (by omega)]
  rw [hr]
  try dsimp only
  refine .rg (y := y) (w := w) (Λ) (a) (c) (es) (hE) ?_
  exact .vv
 refine .kDF (t := 15) rfl h3_16 (.grun (t := 16) rfl rfl rfl (.m rfl (.grun (t := 16) rfl rfl rfl (.ui rfl rfl rfl (.u (.pickF rfl rfl) (.nt (.condD rfl (fun h19 => ?_) (fun h19 => ?_))))))))
 ·refine .sr (.an rfl (.rt ?_))
  have hr : lgAccept ⟨δ, ω, Λ⟩ n = (⟨δ, ω, Λ⟩, 82) := by unfold lgAccept; dsimp only; rw [if_neg (by rw [h9]; decide), if_pos (by omega)]
  rw [hr]
  try dsimp only
  refine .rg (y := y) (w := w) (Λ) (a) (c) (es) (hE) ?_
  exact .vv
 refine .sk (.seq (.sm rfl (.m rfl (.nf rfl fo_129_4 (.u (.ld rfl ag_3) (.ui rfl rfl rfl (.nt (.condD rfl (fun h25 => ?_) (fun h25 => ?_)))))))))
 ·refine .sr (.an rfl (.rt ?_))
  have hr : lgAccept ⟨δ, ω, Λ⟩ n = (⟨δ, ω, Λ⟩, 0) := by unfold lgAccept; dsimp only; rw [if_neg (by rw [h9]; decide), if_neg (by omega), if_pos h25]
  rw [hr]
  try dsimp only
  refine .rg (y := y) (w := w) (Λ) (a) (c) (es) (hE) ?_
  exact .vv
 refine .sk (.seq (.draw [10, 11] [[0, 1, 2, 3, 4, 5, 6, 7, 8, 9, 10], [11], [12]] mixed (by kernel_rfl) (.g0 (.k rfl (.move rfl) (.mv rfl rfl (.nf rfl rfl rfl fo_129_0 (.kv rfl (.ld rfl ag_50) (.mv rfl rfl (.mv rfl rfl (.nf rfl rfl rfl fo_129_5 (.kv rfl (.ld rfl ag_3) (.hh rfl (.c Tryz.func21 [_, _, _] (rmark_spec w x ω δ n Λ.cur hI (by omega) hc)) ?_))))))))))))
 rintro v L' ⟨rfl, rfl⟩
 refine D.ph (.g0 (.hh rfl (.c Tryz.func184 [_, _] (r9met_spec y w Λ.base Λ.snap _ Λ.acc Λ.cur Λ.doubt (setmZ δ ω n Λ.cur).2.2)) ?_))
 rintro v L' ⟨rfl, rfl⟩; rw [met_gc Λ (setmZ δ ω n Λ.cur).2.2]
 refine D.ph (.g0 (.kv rfl (.assign rfl) (.pf (.seq (.sm rfl (.ui rfl rfl rfl (.nt (.condD rfl (fun h39 => ?_) (fun h39 => ?_)))))))))
 ·refine .region (.m rfl (.m rfl (.nf rfl fo_129_4 (.oq (.store rfl rfl rfl sz_3 ?c44 (nfz0 _ _)) ?_))))
  case c44 => simp
  rintro v L' rfl
  refine .nt (.sm rfl (.an rfl (.ret ?_)))
  have hr : lgAccept ⟨δ, ω, Λ⟩ n = (⟨(setmZ δ ω n Λ.cur).1, (setmZ δ ω n Λ.cur).2.1, (metL Λ (setmZ δ ω n Λ.cur)).1.Λ.setAcc n⟩, 0) := by unfold lgAccept; dsimp only; rw [if_neg (by rw [h9]; decide), if_neg (by omega), if_neg h25, if_pos (show (metL Λ (setmZ δ ω n Λ.cur)).2 = 0 from h39)]
  rw [hr]
  try dsimp only
  rw [h39]
  refine .rg (y := y) (w := w) ((Λ.met (setmZ δ ω n Λ.cur).2.2).setAcc n) (a) (c) (es) ((hE.met _).acc n) ?_
  exact .vv
 refine .sk (.sm rfl (.an rfl (.ret ?_)))
 have hr : lgAccept ⟨δ, ω, Λ⟩ n = metL Λ (setmZ δ ω n Λ.cur) := by unfold lgAccept; dsimp only; rw [if_neg (by rw [h9]; decide), if_neg (by omega), if_neg h25, if_neg (show ¬ (metL Λ (setmZ δ ω n Λ.cur)).2 = 0 from h39)]
 rw [hr]
 try dsimp only
 refine .rg (y := y) (w := w) (Λ.met (setmZ δ ω n Λ.cur).2.2) (a) (c) (es) (hE.met _) ?_
 exact .vv
theorem r9adopt_spec (y w x : Nat) (δ : Dk) (ω : Wl) (Λ : Lg) (n : Int) (hI : WlI δ ω) (hab : (0 ≤ ω.a ∧ ω.a ≤ 9223372036854775807) ∧ (0 ≤ ω.b ∧ ω.b ≤ 9223372036854775807)) (hI1 : WlI (lgSync ⟨δ, ω, Λ⟩).1.δ (lgSync ⟨δ, ω, Λ⟩).1.ω) (hc : Λ.acc ≤ 9223372036854775807) : Fn Tryz.prog 146 #[vptr y, vint n] [rgR y w Λ, rlR w x ω, dsR x δ] fun v L => v = vint (lgAdopt ⟨δ, ω, Λ⟩ n).2 ∧ L = [rgR y w (lgAdopt ⟨δ, ω, Λ⟩ n).1.Λ, rlR w x (lgAdopt ⟨δ, ω, Λ⟩ n).1.ω, dsR x (lgAdopt ⟨δ, ω, Λ⟩ n).1.δ] := by
 refine Fn.intro Tryz.func146 rfl rfl fun F W => ?_
 refine .rgOpen (y := y) (by repeat' constructor) fun a c es hE => (.sr (.an rfl (.seq (.sm rfl (.nf rfl fo_129_6 (.u (.ld rfl ag_4) (.nt (.condB rfl (fun h9 => ?_) (fun h9 => ?_)))))))))
 ·refine .sr (.an rfl (.rt ?_))
  have hr : lgAdopt ⟨δ, ω, Λ⟩ n = (⟨δ, ω, Λ⟩, 2) := by unfold lgAdopt; dsimp only; rw [if_pos h9]
  rw [hr]
  try dsimp only
  refine .rg (y := y) (w := w) (Λ) (a) (c) (es) (hE) ?_
  exact .vv
 refine .sk (.seq (.sm rfl (.m rfl (.nf rfl fo_129_5 (.u (.ld rfl ag_3) (.ui rfl rfl rfl (.m rfl (.dec (t := 16) rfl (fun h3_16 => ?_) (fun h3_16 => ?_)))))))))
 ·refine .kDT (t := 15) rfl h3_16 (.gk (.gk (.gk (.gk (.gk (.gk (.u (.pickT rfl rfl) (.nt (.condT rfl (.sr (.an rfl (.rt ?_))))))))))))
  have hr : lgAdopt ⟨δ, ω, Λ⟩ n = (⟨δ, ω, Λ⟩, 82) := by unfold lgAdopt; dsimp only; rw [if_neg (by rw [h9]; decide), if_pos (by omega)]
  rw [hr]
  try dsimp only
  refine .rg (y := y) (w := w) (Λ) (a) (c) (es) (hE) ?_
  exact .vv
 refine .kDF (t := 15) rfl h3_16 (.grun (t := 16) rfl rfl rfl (.m rfl (.grun (t := 16) rfl rfl rfl (.m rfl (.grun (t := 16) rfl rfl rfl (.u (.nilp rfl) (.grun (t := 16) rfl rfl rfl (.u (.fieldAddr rfl fo_129_4) (.grun (t := 16) rfl rfl rfl (.u (.ld rfl ag_3) (.grun (t := 16) rfl rfl rfl (.ui rfl rfl rfl (.u (.pickF rfl rfl) (.nt (.condD rfl (fun h23 => ?_) (fun h23 => ?_))))))))))))))))
 ·refine .sr (.an rfl (.rt ?_))
  have hr : lgAdopt ⟨δ, ω, Λ⟩ n = (⟨δ, ω, Λ⟩, 82) := by unfold lgAdopt; dsimp only; rw [if_neg (by rw [h9]; decide), if_pos (by omega)]
  rw [hr]
  try dsimp only
  refine .rg (y := y) (w := w) (Λ) (a) (c) (es) (hE) ?_
  exact .vv
 refine .sk (.sm rfl (.m rfl (.nf rfl fo_129_0 (.u (.ld rfl ag_50) (.cv Tryz.func126 [_] (rlsync_spec w x ω δ hI hab) ?_)))))
 refine .oq (.c Tryz.func184 [_, _] (r9met_spec y w Λ.base Λ.snap _ Λ.acc Λ.cur Λ.doubt (syncZ δ ω).2.2)) ?_
 rintro v L' ⟨rfl, rfl⟩; rw [met_gc Λ (syncZ δ ω).2.2]
 refine .a rfl (.nil ?_)
 have hsy : lgSync ⟨δ, ω, Λ⟩ = metL Λ (syncZ δ ω) := by unfold lgSync; dsimp only; rw [if_neg (by rw [h9]; decide)]
 refine .then_n (.seq (.sm rfl (.ui rfl rfl rfl (.nt (.condN rfl (fun h32 => ?_) (fun h32 => ?_))))))
 ·refine .sm rfl (.an rfl (.rt ?_))
  have hr : lgAdopt ⟨δ, ω, Λ⟩ n = lgSync ⟨δ, ω, Λ⟩ := by unfold lgAdopt; dsimp only; rw [if_neg (by rw [h9]; decide), if_neg (by omega), if_pos (by rw [hsy]; exact h32)]
  rw [hr]
  try dsimp only
  rw [hsy]
  refine .rg (y := y) (w := w) (Λ.met (syncZ δ ω).2.2) (a) (c) (es) (hE.met _) ?_
  exact .vv
 refine .sk (.seq ?_)
 rw [hsy] at hI1
 have hI1 : WlI (syncZ δ ω).1 (syncZ δ ω).2.1 := hI1
 have hE1 := hE.met (syncZ δ ω).2.2
 have hac1 : (Λ.met (syncZ δ ω).2.2).acc = Λ.acc := by unfold Lg.met; split <;> rfl
 obtain ⟨δ1, hS1⟩ : ∃ q, (syncZ δ ω).1 = q := ⟨_, rfl⟩
 obtain ⟨ω1, hS2⟩ : ∃ q, (syncZ δ ω).2.1 = q := ⟨_, rfl⟩
 obtain ⟨Λ1, hS3⟩ : ∃ q, Λ.met (syncZ δ ω).2.2 = q := ⟨_, rfl⟩
 rw [hS1, hS2] at hI1
 rw [hS3] at hE1 hac1
 rw [hS1, hS2, hS3]
 refine .draw [10, 11] [[0, 1, 2, 3, 4, 5, 6, 7, 8, 9, 10], [11], [12]] mixed (by kernel_rfl) (.g0 (.k rfl (.move rfl) (.mv rfl rfl (.nf rfl rfl rfl fo_129_0 (.kv rfl (.ld rfl ag_50) (.mv rfl rfl (.nf rfl rfl rfl fo_129_4 (.kv rfl (.ld rfl ag_3) (.mv rfl rfl (.hh rfl (.c Tryz.func21 [_, _, _] (rmark_spec w x ω1 δ1 Λ1.acc n hI1 (by omega) (by omega))) ?_))))))))))
 rintro v L' ⟨rfl, rfl⟩
 refine D.ph (.g0 (.hh rfl (.c Tryz.func184 [_, _] (r9met_spec y w Λ1.base Λ1.snap _ Λ1.acc Λ1.cur Λ1.doubt (setmZ δ1 ω1 Λ1.acc n).2.2)) ?_))
 rintro v L' ⟨rfl, rfl⟩; rw [met_gc Λ1 (setmZ δ1 ω1 Λ1.acc n).2.2]
 refine D.ph (.g0 (.kv rfl (.assign rfl) (.pf (.seq (.sm rfl (.ui rfl rfl rfl (.nt (.condD rfl (fun h47 => ?_) (fun h47 => ?_)))))))))
 ·refine .region (.m rfl (.m rfl (.nf rfl fo_129_5 (.oq (.store rfl rfl rfl sz_3 ?c51 (nfz0 _ _)) ?_))))
  case c51 => simp
  rintro v L' rfl
  refine .nt (.sm rfl (.an rfl (.ret ?_)))
  have hr : lgAdopt ⟨δ, ω, Λ⟩ n = lgAdopt2 ⟨δ1, ω1, Λ1⟩ n := by unfold lgAdopt; dsimp only; rw [if_neg (by rw [h9]; decide), if_neg (by omega), if_neg (by rw [hsy]; exact fun g => g h32), hsy]; unfold metL; rw [hS1, hS2, hS3]
  rw [hr]
  have hr2 : lgAdopt2 ⟨δ1, ω1, Λ1⟩ n = (⟨(setmZ δ1 ω1 Λ1.acc n).1, (setmZ δ1 ω1 Λ1.acc n).2.1, (metL Λ1 (setmZ δ1 ω1 Λ1.acc n)).1.Λ.setCur n⟩, 0) := by unfold lgAdopt2; dsimp only; rw [if_pos (show (metL Λ1 (setmZ δ1 ω1 Λ1.acc n)).2 = 0 from h47)]
  rw [hr2]
  dsimp only
  rw [h47]
  refine .rg (y := y) (w := w) ((Λ1.met (setmZ δ1 ω1 Λ1.acc n).2.2).setCur n) (a) (c) (es) ((hE1.met _).cur n) ?_
  exact .vv
 refine .sk (.sm rfl (.an rfl (.ret ?_)))
 have hr : lgAdopt ⟨δ, ω, Λ⟩ n = lgAdopt2 ⟨δ1, ω1, Λ1⟩ n := by unfold lgAdopt; dsimp only; rw [if_neg (by rw [h9]; decide), if_neg (by omega), if_neg (by rw [hsy]; exact fun g => g h32), hsy]; unfold metL; rw [hS1, hS2, hS3]
 rw [hr]
 have hr2 : lgAdopt2 ⟨δ1, ω1, Λ1⟩ n = metL Λ1 (setmZ δ1 ω1 Λ1.acc n) := by unfold lgAdopt2; dsimp only; rw [if_neg (show ¬ (metL Λ1 (setmZ δ1 ω1 Λ1.acc n)).2 = 0 from h47)]
 rw [hr2]
 refine .rg (y := y) (w := w) (Λ1.met (setmZ δ1 ω1 Λ1.acc n).2.2) (a) (c) (es) (hE1.met _) ?_
 exact .vv
theorem r9append_spec (y w x : Nat) (δ : Dk) (ω : Wl) (Λ : Lg) (e : En) (p : HP) (he : EnX p e) (hz : I64 e.zx) (hI : WlI δ ω) (hfew : Λ.ents.length ≤ 200) : Fn Tryz.prog 143 #[vptr y, .agg (enC e).toArray] [rgR y w Λ, rlR w x ω, dsR x δ, p] fun v L => v = vint (lgAppend ⟨δ, ω, Λ⟩ e).2 ∧ L = [rgR y w (lgAppend ⟨δ, ω, Λ⟩ e).1.Λ, rlR w x (lgAppend ⟨δ, ω, Λ⟩ e).1.ω, dsR x (lgAppend ⟨δ, ω, Λ⟩ e).1.δ, p] := by
 refine Fn.intro Tryz.func143 rfl rfl fun F W => ?_
 have hle := he.l.len
 have hfi := hI.fits
 have hhl := half_le hI.size
 refine .rgOpen (y := y) (by repeat' constructor) fun a c es hE => ?_
 have hel := hE.len
 have hln := hE.lastF
 refine .sr (.oq (.box rfl) ?_)
 rintro v L' ⟨b3, rfl, rfl⟩
 refine .a rfl (.nil (.ptCast (b := b3) (l' := enC e) (by repeat' constructor) (by exact rfl) (.then_n (.seq (.sm rfl (.nf rfl fo_129_6 (.u (.ld rfl ag_4) (.nt (.condB rfl (fun h13 => ?_) (fun h13 => ?_))))))))))
 ·refine .sr (.an rfl (.rt ?_))
  have hr : lgAppend ⟨δ, ω, Λ⟩ e = (⟨δ, ω, Λ⟩, 2) := by unfold lgAppend; dsimp only; rw [if_pos h13]
  rw [hr]
  try dsimp only
  refine .rg (y := y) (w := w) (Λ) (a) (c) (es) (hE) ?_
  exact .vv
 refine .sk (.sr (.q (.loadAs (vs := enC e) rfl ag_38 (by repeat' constructor) (by simp [enC, ptC]) rfl) rfl (.cv Tryz.func182 [_] (r9fits_spec e p he) ?_)))
 refine .an rfl (.seq (.sm rfl (.u (.not rfl) (.nt (.condB rfl (fun h17 => ?_) (fun h17 => ?_))))))
 ·refine .sr (.an rfl (.rt ?_))
  have hr : lgAppend ⟨δ, ω, Λ⟩ e = (⟨δ, ω, Λ⟩, 1) := by unfold lgAppend; dsimp only; rw [if_neg (by rw [h13]; decide), if_pos (by simpa using h17)]
  rw [hr]
  try dsimp only
  refine .rg (y := y) (w := w) (Λ) (a) (c) (es) (hE) ?_
  exact .vv
 have hfit : fitsE e = true := by simpa using h17
 refine .sk (.seq (.seq (.draw [] [[0, 1, 2, 3, 4]] mixed (by kernel_rfl) (.go [ptc b3 _ _, ptc y _ _, slR 38 11 _ es.length _] (by repeat' constructor) (.kv rfl (.fieldAddr rfl fo_38_0) (.kv rfl (.ld rfl ag_3) (.mv rfl rfl (.m rfl (by kernel_rfl) (.c Tryz.func130 [_] (r9last_spec y w Λ.base Λ.snap a c Λ.acc Λ.cur Λ.doubt es hE.n)) (by repeat' constructor) ?_))))))))
 rw [hln]
 refine D.kv rfl (.int rfl rfl rfl) (.pf (.condD rfl (fun h22 => ?_) (fun h22 => ?_)))
 ·refine .sr (.an rfl (.rt ?_))
  have hr : lgAppend ⟨δ, ω, Λ⟩ e = (⟨δ, ω, Λ⟩, 81) := by unfold lgAppend; dsimp only; rw [if_neg (by rw [h13]; decide), if_neg (by rw [hfit]; decide), if_pos h22]
  rw [hr]
  try dsimp only
  refine .rg (y := y) (w := w) (Λ) (a) (c) (es) (hE) ?_
  exact .vv
 refine .sk (.sr (.q (.loadAs (vs := enC e) rfl ag_38 (by repeat' constructor) (by simp [enC, ptC]) rfl) rfl (.cv Tryz.func77 [_] (r2put_spec e p he.l) ?_)))
 refine .an rfl (.seq (.sm rfl (.nf rfl fo_129_3 (.u (.ld rfl ag_22) (.q (.slen rfl Tryz.underlying22 rfl) rfl (.ui rfl rfl rfl (.m rfl (.dec (t := 31) rfl (fun h9_31 => ?_) (fun h9_31 => ?_)))))))))
 ·refine .kDT (t := 30) rfl h9_31 (.gk (.gk (.gk (.gk (.gk (.gk (.gk (.gk (.u (.pickT rfl rfl) (.nt (.condT rfl (.sr (.an rfl (.rt ?_))))))))))))))
  have hr : lgAppend ⟨δ, ω, Λ⟩ e = (⟨δ, ω, Λ⟩, 83) := by unfold lgAppend; dsimp only; rw [if_neg (by rw [h13]; decide), if_neg (by rw [hfit]; decide), if_neg h22, if_pos (by first | exact .inl (by omega) | exact .inr (by omega))]
  rw [hr]
  try dsimp only
  refine .rg (y := y) (w := w) (Λ) (a) (c) (es) (hE) ?_
  exact .vv
 refine .kDF (t := 30) rfl h9_31 (.grun (t := 31) rfl rfl rfl (.m rfl (.grun (t := 31) rfl rfl rfl (.q (.strlen rfl Tryz.underlying9 rfl) rfl (.grun (t := 31) rfl rfl rfl (.m rfl (.grun (t := 31) rfl rfl rfl (.u (.nilp rfl) (.grun (t := 31) rfl rfl rfl (.u (.fieldAddr rfl fo_129_0) (.grun (t := 31) rfl rfl rfl (.u (.ld rfl ag_50) (.grun (t := 31) rfl rfl rfl (.cv Tryz.func183 [_] (rlroom_spec w x ω δ hI.size (by omega)) ?_))))))))))))))
 refine .grun (t := 31) rfl rfl rfl (.ui rfl rfl rfl (.u (.pickF rfl rfl) (.nt (.condD rfl (fun h40 => ?_) (fun h40 => ?_)))))
 ·refine .sr (.an rfl (.rt ?_))
  have hr : lgAppend ⟨δ, ω, Λ⟩ e = (⟨δ, ω, Λ⟩, 83) := by unfold lgAppend; dsimp only; rw [if_neg (by rw [h13]; decide), if_neg (by rw [hfit]; decide), if_neg h22, if_pos (by first | exact .inl (by omega) | exact .inr (by omega))]
  rw [hr]
  try dsimp only
  refine .rg (y := y) (w := w) (Λ) (a) (c) (es) (hE) ?_
  exact .vv
 refine .sk (.sm rfl (.m rfl (.nf rfl fo_129_0 (.u (.ld rfl ag_50) (.m rfl (.cv Tryz.func124 [_, _] (rappend_spec w x ω δ (enB e) hI (by omega)) ?_))))))
 refine .oq (.c Tryz.func184 [_, _] (r9met_spec y w Λ.base Λ.snap _ Λ.acc Λ.cur Λ.doubt (appendZ δ ω (enB e)).2.2)) ?_
 rintro v L' ⟨rfl, rfl⟩; rw [met_gc Λ (appendZ δ ω (enB e)).2.2]
 refine .an rfl (.seq (.sm rfl (.ui rfl rfl rfl (.nt (.condD rfl (fun h50 => ?_) (fun h50 => ?_))))))
 ·refine .sm rfl (.oq (.c Tryz.func173 [_] (r2get_spec (enB e) (by omega))) ?_)
  rintro v L' ⟨ge, er, hge, rfl, rfl⟩
  refine .m rfl (.u (.extract rfl rfl) (.u (.extract rfl rfl) (.oq (.allocA ze_38) ?_)))
  rintro v L' ⟨b8, rfl, rfl⟩
  refine .oq (.storeA rfl rfl ?c57 sz_38 ?c60 ?c58 (nfz0 _ _)) ?_
  case c57 => exact hge.cells
  case c60 => rfl
  case c58 => simp [enC, ptC]
  rintro v L' rfl
  refine .a rfl (.nil (.ptCast (b := b8) (l' := enC ge) (by repeat' constructor) (by exact rfl) ?_))
  obtain ⟨q9, hq9⟩ : ∃ q, getZ (enB e) = some q := Option.isSome_iff_exists.1 (by have := hfit; unfold fitsE at this; simp only [Bool.and_eq_true] at this; exact this.2)
  obtain ⟨hgz, hge2, hgk, hgg⟩ := getZ_of hge (by rcases hge with ⟨g, -⟩ | ⟨-, g, -⟩; exact g; rw [hq9] at g; cases g)
  have hzz : ge.zx = e.zx := zx_back (e := e) (e' := ge.pl) hgz hz
  refine .then_n (.draw [6, 7, 10] [[0, 1, 2, 3, 4, 5, 6, 7], [8, 9, 10]] mixed (by kernel_rfl) (.go [ptc b8 _ _, ptc y _ _] (by repeat' constructor) (.k rfl (.move rfl) (.k rfl (.move rfl) (.k rfl (.nilp rfl) (.k rfl (.fieldAddr rfl fo_129_3) (.k rfl (.ld rfl ag_22) (.kv rfl (.loadAs (vs := enC ge) rfl ag_38 (by repeat' constructor) (by simp [enC, ptC]) rfl) (.hh rfl (.buildSlice (vs := [_]) el_22 ze_38 rfl rfl rfl rfl (by first | (simp [Value.cells]; done) | (intro v hv; simp only [List.mem_cons, List.not_mem_nil, or_false] at hv; (repeat (first | (subst hv; rfl) | (rcases hv with hv | hv; (subst hv; rfl)))))) (by decide)) ?_)))))))))
  rintro v L' ⟨b14, rfl, rfl⟩
  refine D.hh rfl (.append1 rfl rfl rfl el_22 ze_38 rfl rfl ?c70 ?c71 (Nat.le_refl _) ?c72 (by decide)) ?_
  case c70 => simp only [List.map_cons, List.map_nil, List.flatten_cons, List.flatten_nil, List.append_nil]; simp only [Value.cells]; intro z hz; exact hgk.cells z (by simpa using hz)
  case c71 => rfl
  case c72 => omega
  rintro v L' ⟨⟨a14, c14, rfl⟩, rfl⟩
  refine D.ph (.g0 (.nf rfl rfl rfl fo_129_3 (.hh rfl (.store rfl rfl rfl sz_22 ?c77 (nfz0 _ _)) ?_)))
  case c77 => simp
  rintro v L' rfl
  refine D.pf (.sm rfl (.an rfl (.ret ?_)))
  have hr : lgAppend ⟨δ, ω, Λ⟩ e = (⟨(appendZ δ ω (enB e)).1, (appendZ δ ω (enB e)).2.1, (metL Λ (appendZ δ ω (enB e))).1.Λ.keep (enB e) e.zx⟩, 0) := by unfold lgAppend; dsimp only; rw [if_neg (by rw [h13]; decide), if_neg (by rw [hfit]; decide), if_neg h22, if_neg (by rintro (g | g) <;> omega), if_pos (show (metL Λ (appendZ δ ω (enB e))).2 = 0 from h50)]
  rw [hr]
  try dsimp only
  rw [h50]
  refine .bigAdd (f := entR) (l := es) (p := entR ge) ge rfl (by repeat' constructor) (.slCast (T := 38) (sz := 11) (m' := (es ++ [ge]).length) (xs' := (es ++ [ge]).flatMap enC) (by repeat' constructor) (by simp) (by rw [List.flatMap_append]; simp [Value.cells]) (.ptCast (b := y) (l' := [vptr w, vint (Λ.met (appendZ δ ω (enB e)).2.2).base, vstr (Λ.met (appendZ δ ω (enB e)).2.2).snap, .slice a14 (es ++ [ge]).length c14, vint (Λ.met (appendZ δ ω (enB e)).2.2).acc, vint (Λ.met (appendZ δ ω (enB e)).2.2).cur, .bool (Λ.met (appendZ δ ω (enB e)).2.2).doubt]) (by repeat' constructor) (by rw [List.length_append]; exact rfl) ?_))
  have hlq : (es ++ [ge]).length = es.length + 1 := by simp
  rw [← hlq]
  have hEk := (hE.met (appendZ δ ω (enB e)).2.2).keep hge2 hgk hgg (by omega)
  rw [hzz] at hEk
  refine .rg (y := y) (w := w) ((Λ.met (appendZ δ ω (enB e)).2.2).keep (enB e) e.zx) (a14) (c14) (es ++ [ge]) (hEk) ?_
  exact .vv
 refine .sk (.sm rfl (.an rfl (.ret ?_)))
 have hr : lgAppend ⟨δ, ω, Λ⟩ e = metL Λ (appendZ δ ω (enB e)) := by unfold lgAppend; dsimp only; rw [if_neg (by rw [h13]; decide), if_neg (by rw [hfit]; decide), if_neg h22, if_neg (by rintro (g | g) <;> omega), if_neg (show ¬ (metL Λ (appendZ δ ω (enB e))).2 = 0 from h50)]
 rw [hr]
 try dsimp only
 refine .rg (y := y) (w := w) (Λ.met (appendZ δ ω (enB e)).2.2) (a) (c) (es) (hE.met _) ?_
 exact .vv
theorem r9place_spec (y w : Nat) (Λ : Lg) (a : Option Addr) (c : Nat) (es : List En) (z : Int) (hE : EsOf es Λ) : Fn Tryz.prog 185 #[vptr y, vint z] [gc9 y w Λ.base Λ.snap (.slice a es.length c) Λ.acc Λ.cur Λ.doubt, es9 (.slice a es.length c) es] fun v L => ((∃ n : Nat, placeZ Λ z = some n ∧ n ≤ es.length ∧ v = .tuple #[vint n, .bool true]) ∨ (placeZ Λ z = none ∧ v = .tuple #[vint 0, .bool false])) ∧ L = [gc9 y w Λ.base Λ.snap (.slice a es.length c) Λ.acc Λ.cur Λ.doubt, es9 (.slice a es.length c) es] := by
 refine Fn.intro Tryz.func185 rfl rfl fun F W => ?_
 have hn := hE.n
 have hzl : Λ.zxs.length = es.length := by rw [← hE.z, List.length_map]
 refine .sr (.a rfl (.an rfl (.seq (.sr (.an rfl (.block (.loopK (ι := Nat) (fun q E => (6, vint q) :: E) (fun q => []) (fun q => q ≤ es.length ∧ ∀ j (hj : j < q) (hl : j < Λ.zxs.length), Λ.zxs[j] ≠ z) (fun q => es.length - q) (0) (ts := [0, 1]) (.cons rfl (.cons rfl (.nil))) (⟨Nat.zero_le _, fun j hj => by omega⟩) ⟨rfl, rfl, rfl, trivial⟩ (by repeat' constructor) ?_)))))))
 rintro i ⟨hi, hb⟩
 refine .seq (.sm rfl (.m rfl (.nf rfl fo_129_3 (.u (.ld rfl ag_22) (.q (.slen rfl Tryz.underlying22 rfl) rfl (.ui rfl rfl rfl (.nt (.condD rfl (fun h13 => ?_) (fun h13 => ?_)))))))))
 ·have hi2 : i < es.length := by omega
  have hzi : Λ.zxs[i]'(by omega) = es[i].zx := by have g := congrArg (fun l => l[i]?) hE.z; simp only [List.getElem?_map, List.getElem?_eq_getElem hi2, List.getElem?_eq_getElem (show i < Λ.zxs.length by omega), Option.map_some, Option.some.injEq] at g; exact g.symm
  refine .slShape (T := 38) (v := .slice a es.length c) (by repeat' constructor) (by omega) fun be c1 e m _ => ?_
  simp only [Value.slice.injEq, true_and] at e
  obtain ⟨rfl, rfl⟩ := e
  refine .sk (.seq (.block (.sm rfl (.nf rfl fo_129_3 (.u (.ld rfl ag_22) (.m rfl (.q (.indexAddr rfl rfl el_22 (by omega)) rfl (.u (.fieldAddr rfl fo_38_0) (.q (.loadRd (sz := 11) (j := i * 11 + 0) (p := es9 (.slice (some ⟨be, 0, none⟩) es.length c) es) (v := vint es[i].zx) rfl ag_3 (by repeat' constructor) (fun h hp => slR_rd hp) (by simp) ((en_cell (k := 0) hi2 (by decide)).trans rfl)) rfl (.m rfl (.ui rfl rfl rfl (.nt (.condD rfl (fun h25 => ?_) (fun h25 => ?_))))))))))))))
  ·refine .sm rfl (.q (.add rfl rfl (by omega)) rfl (.a rfl (.an rfl (.ret (.blk_r (.then_r (.then_r (.blk_r (.then_r ?_)))))))))
   exact .dn rfl rfl ⟨.inl ⟨i + 1, by unfold placeZ; rw [if_pos (by rw [← h25, ← hzi]; exact List.getElem_mem _), idx_at (by omega) (by rw [hzi]; exact h25) hb], by omega, rfl⟩, rfl⟩
  refine .skip (.blk_n (.then_n (.region (.m rfl (.q (.add rfl rfl (by omega)) rfl (.an rfl ?_))))))
  exact .rk (i + 1) (⟨by omega, fun j hj hl => by rcases Nat.lt_or_ge j i with g | g; exact hb j g hl; obtain rfl : j = i := (by omega); rw [hzi]; exact h25⟩) (by omega) ⟨rfl, rfl, rfl, trivial⟩
 have hno : z ∉ Λ.zxs := fun g => by obtain ⟨j, hj, hz⟩ := List.mem_iff_getElem.1 g; exact hb j (by omega) hj hz
 refine .exit (.then_e (.then_e (.blk_e (.then_n (.seq (.draw [] [[0, 1, 2, 3, 4, 5, 6, 7]] mixed (by kernel_rfl) (.g0 ?_)))))))
 by_cases hzb : z = Λ.base
 ·refine D.mv rfl rfl (.mv rfl rfl (.nf rfl rfl rfl fo_129_1 (.kv rfl (.ld rfl ag_3) (.kv rfl (.as (v' := .bool true) (by exact congrArg Value.bool (decide_eq_true hzb)) (.int rfl rfl rfl)) (.kv rfl (.assign rfl) (.kv rfl (.assign rfl) (.pf (.ret ?_))))))))
  exact .dn rfl rfl ⟨.inl ⟨0, by unfold placeZ; rw [if_neg hno, if_pos hzb], Nat.zero_le _, rfl⟩, rfl⟩
 refine D.mv rfl rfl (.mv rfl rfl (.nf rfl rfl rfl fo_129_1 (.kv rfl (.ld rfl ag_3) (.kv rfl (.as (v' := .bool false) (by exact congrArg Value.bool (decide_eq_false hzb)) (.int rfl rfl rfl)) (.kv rfl (.assign rfl) (.kv rfl (.assign rfl) (.pf (.ret ?_))))))))
 exact .dn rfl rfl ⟨.inr ⟨by unfold placeZ; rw [if_neg hno, if_neg hzb], rfl⟩, rfl⟩
theorem laid_le {l : List Bs} (h : ∀ s ∈ l, s.length ≤ 4000) : (laidZ l).length ≤ l.length * 4006 := by
 induction l with
 | nil => simp [laidZ]
 | cons x l ih =>
  have e : laidZ (x :: l) = recZ x ++ laidZ l := by simp [laidZ]
  have := h x (List.mem_cons_self ..)
  have := ih (fun s hs => h s (List.mem_cons_of_mem _ hs))
  rw [e, List.length_append, recZ_len, List.length_cons]; omega
theorem renew_ok {δ : Dk} {ω : Wl} {l : List Bs} (h : (renewZ δ ω l).2.2 = 0) : (renewZ δ ω l).2.1.recs = l ∧ (renewZ δ ω l).2.1.a = ω.a ∧ (renewZ δ ω l).2.1.b = ω.b ∧ ∀ s ∈ l, s.length ≤ 4000 := by
 unfold renewZ at h ⊢
 split
 ·rename_i g; rw [if_pos g] at h; exact absurd h (by show ¬ (34 : Int) = 0; decide)
 rename_i g1
 rw [if_neg g1] at h
 split
 ·rename_i g; rw [if_pos g] at h; exact absurd h (by show ¬ (33 : Int) = 0; decide)
 rename_i g2
 rw [if_neg g2] at h
 have h4 : ∀ s ∈ l, s.length ≤ 4000 := fun s hs => by
  have := List.any_eq_false.1 (by simpa using g2 : (l.any fun s => decide (s.length > 4000)) = false) s hs
  simpa using this
 split
 ·rename_i g; rw [if_pos g] at h; exact absurd h (by show ¬ (30 : Int) = 0; decide)
 rename_i g3
 rw [if_neg g3] at h
 split
 ·rename_i g; rw [if_pos g] at h; exact absurd h (by show ¬ (30 : Int) = 0; decide)
 rename_i g4
 rw [if_neg g4] at h
 split
 ·rename_i g; rw [if_pos g, (dbt_err _).1] at h; exact absurd h g
 rename_i g5
 rw [if_neg g5, (dbt_err _).1] at h
 rw [sealX_nil h]
 exact ⟨rfl, rfl, rfl, h4⟩
theorem metE_0 {e : Int} (h : metE e = 0) : e = 0 := by unfold metE at h; split at h <;> omega
theorem renew_new {δ : Dk} {ω : Wl} {Λ : Lg} {z : Int} {snap : Bs} {es : List Bs} {zs : List Int} (hep : 0 ≤ Λ.cur ∧ Λ.cur ≤ Λ.acc ∧ Λ.acc ≤ 1073741824) (ha : ω.a = Λ.acc) (hb : ω.b = Λ.cur) (hz : 0 ≤ z ∧ z ≤ 9223372036854775807) (hs : snap.length ≤ 65536) (hn : es.length ≤ 200) (hr : RowsI z es zs)
  (h : (renewZ δ ω (headL z snap ++ es)).2.2 = 0) : LgW ⟨Λ.acc, Λ.cur, z, snap, es, zs, false⟩ ∧ openLZ (renewZ δ ω (headL z snap ++ es)).2.1 = some ⟨Λ.acc, Λ.cur, z, snap, es, zs, false⟩ := by
 obtain ⟨r1, r2, r3, r4⟩ := renew_ok h
 have hW : LgW ⟨Λ.acc, Λ.cur, z, snap, es, zs, false⟩ := ⟨hn, fun s hs => r4 s (List.mem_append.2 (.inr hs)), hz, hs, hr, hep⟩
 refine ⟨hW, ?_⟩
 unfold openLZ
 rw [r1, r2, r3, ha, hb, if_neg (by omega)]
 exact lparse_back hW rfl
theorem rises_no {z : Int} {zs : List Int} {i : Nat} (hi : i < zs.length) {last : Int} (hl : last = if i = 0 then z else zs.getD (i - 1) 0) (h : zs.getD i 0 ≤ last) : ¬ Rises z zs := by
 intro hR
 obtain ⟨q1, q2⟩ := hR i hi
 by_cases g : i = 0
 ·rw [if_pos g] at hl; omega
 ·rw [if_neg g] at hl
  have := q2 (by omega)
  omega
theorem ent_suffix {a : Option Addr} {c n : Nat} {es : List En} (hn : n ≤ es.length) : ∀ h : Hp, es9 (.slice a es.length c) es h → rdS 11 h (.slice (cutG a c n 11) (es.length - n) (c - n)) (es.length - n) ((es.drop n).flatMap enC) := by
 intro h hp
 have hfl : (es.flatMap enC).length = es.length * 11 := flatMap_len (sz := 11) (fun _ _ => rfl)
 have hd : (es.drop n).flatMap enC = (es.flatMap enC).drop (n * 11) := by
  have e1 : es.flatMap enC = (es.take n).flatMap enC ++ (es.drop n).flatMap enC := by rw [← List.flatMap_append, List.take_append_drop]
  have e2 : ((es.take n).flatMap enC).length = n * 11 := by rw [flatMap_len (sz := 11) (fun _ _ => rfl), List.length_take]; congr 1; omega
  rw [e1, ← e2, List.drop_left]
 rcases Nat.lt_or_ge n es.length with g | g
 ·have hr := slR_rd hp
  obtain ⟨b', o', e0⟩ : ∃ b' o', a = some ⟨b', o', none⟩ := by
   rcases hr with ⟨h1, -⟩ | ⟨b', o', cap, l', T', fr', h1, -⟩
   ·omega
   ·simp only [Value.slice.injEq] at h1; exact ⟨b', o', h1.1⟩
  subst e0
  have hcap : es.length ≤ c := by
   rcases hr with ⟨h1, -⟩ | ⟨b1, o1, cap, l', T', fr', h1, -, -, -, h5⟩
   ·omega
   ·simp only [Value.slice.injEq] at h1; omega
  have q := rdS_drop (k := n) hr g
  rw [hd]
  have ec : cutG (some (⟨b', o', none⟩ : Addr)) c n 11 = some ⟨b', o' + n * 11, none⟩ := by
   unfold cutG
   rw [if_neg (by omega)]; simp [Addr.add]
  rw [ec]; exact q
 ·have e : n = es.length := by omega
  subst e
  refine .inl ⟨by omega, by rw [List.drop_length]; rfl, ?_⟩
  rw [Nat.sub_self]
  exact ⟨_, _, rfl⟩
theorem rrenew2_spec (y x : Nat) (ω : Wl) (δ : Dk) (va : Value) (l : List Bs) (p : HP) (hp : ∀ h : Hp, p h → rdS 1 h va l.length (strs l)) (hI : WlI δ ω) (hab : (0 ≤ ω.a ∧ ω.a ≤ 9223372036854775807) ∧ (0 ≤ ω.b ∧ ω.b ≤ 9223372036854775807)) (hln : l.length ≤ 1000000) : Fn Tryz.prog 22 #[vptr y, va] [rlR y x ω, dsR x δ, p] fun v L => v = vint (renewZ δ ω l).2.2 ∧ L = [rlR y x (renewZ δ ω l).2.1, dsR x (renewZ δ ω l).1, p] := by
 refine Fn.intro Tryz.func22 rfl rfl fun F W => ?_
 refine .rlOpen (ω := ω) (by repeat' constructor) fun vr => (.slAny (v := vr) (by repeat' constructor) fun arr crr e hsl => ?_)
 subst e
 refine .slAddr (by repeat' constructor) fun hcap hra => ?_
 have hfi := hI.fits
 have hn := hI.size
 have hhl := half_le hI.size
 have hlm := laidZ_many ω.recs
 have hac := hI.acts
 have hct := hI.count
 have har := hI.area
 have hsy := hI.synced
 refine .rdAny (p := p) hp (by repeat' constructor) fun aa ca e _ => ?_
 subst e
 have hlml := laidZ_many l
 refine .sr (.an rfl (.seq (.sm rfl (.nf rfl fo_114_7 (.u (.ld rfl ag_4) (.nt (.condB rfl (fun h9 => ?_) (fun h9 => ?_))))))))
 ·refine .sr (.an rfl (.rt ?_))
  have hr : renewZ δ ω l = (δ, ω, 34) := by unfold renewZ; rw [if_pos h9]
  rw [hr]
  refine .rl (y := y) (x := x) (ω := ω) (v := (.slice arr ω.recs.length crr)) ?_
  exact .vv
 refine .sk (.seq (.sr (.an rfl (.block (.loopK (ι := Nat) (fun q E => (5, vint q) :: E) (fun q => []) (fun q => q ≤ l.length ∧ ∀ j (hj : j < q) (hl : j < l.length), l[j].length ≤ 4000) (fun q => l.length - q) (0) (ts := [0, 1]) (.cons rfl (.cons rfl (.nil))) (⟨Nat.zero_le _, fun j hj => by omega⟩) ⟨rfl, rfl, rfl, trivial⟩ (by repeat' constructor) ?_)))))
 rintro i ⟨hi, hbl⟩
 refine .seq (.sm rfl (.m rfl (.q (.slen rfl Tryz.underlying46 rfl) rfl (.ui rfl rfl rfl (.nt (.condD rfl (fun h13 => ?_) (fun h13 => ?_)))))))
 ·have hi2 : i < l.length := by omega
  refine .rdShape (p := p) hp (by repeat' constructor) (by omega) fun ba oa e => ?_
  subst e
  refine .sk (.seq (.block (.sm rfl (.m rfl (.q (.indexAddr rfl rfl el_46 (by omega)) rfl (.q (.loadRd (sz := 1) (j := i) (p := p) (v := vstr l[i]) rfl ag_9 (by repeat' constructor) hp (by simp) (by simp [hi2])) rfl (.q (.strlen rfl Tryz.underlying9 rfl) rfl (.ui rfl rfl rfl (.nt (.condD rfl (fun h21 => ?_) (fun h21 => ?_)))))))))))
  ·refine .sr (.an rfl (.ret (.blk_r (.then_r (.then_r (.blk_r (.then_r ?_)))))))
   have hr : renewZ δ ω l = (δ, ω, 33) := by unfold renewZ; rw [if_neg (by rw [h9]; decide), if_pos (List.any_eq_true.2 ⟨l[i], List.getElem_mem hi2, by simpa using (by omega : l[i].length > 4000)⟩)]
   rw [hr]
   refine .rl (y := y) (x := x) (ω := ω) (v := (.slice arr ω.recs.length crr)) ?_
   exact .vv
  refine .skip (.blk_n (.then_n (.region (.m rfl (.q (.add rfl rfl (by omega)) rfl (.an rfl ?_))))))
  exact .rk (i + 1) (⟨by omega, fun j hj hl => by rcases Nat.lt_or_ge j i with g | g; exact hbl j g hl; obtain rfl : j = i := (by omega); omega⟩) (by omega) ⟨rfl, rfl, rfl, trivial⟩
 have hany : (l.any fun s => decide (s.length > 4000)) = false := by rw [List.any_eq_false]; intro s hs; obtain ⟨j, hj, rfl⟩ := List.mem_iff_getElem.1 hs; have := hbl j (by omega) hj; simpa using this
 have hll9 : (laidZ l).length ≤ l.length * 4006 := laid_le (fun s hs => by obtain ⟨j, hj, rfl⟩ := List.mem_iff_getElem.1 hs; exact hbl j (by omega) hj)
 refine .exit (.then_e (.then_e (.blk_e (.then_n (.seq (.seq (.draw [] [[0, 1, 2, 3, 4, 5, 6, 7, 8, 9, 10, 11, 12, 13, 14, 15, 16, 17, 18, 19, 20, 21, 22, 23, 24, 25, 26]] mixed (by kernel_rfl) (.go [lc y x ((.slice arr ω.recs.length crr)) (ω.synced) (ω.area) (ω.count) (ω.a) (ω.b) (ω.doubt), dsR x δ, p] (by repeat' constructor) (.mv rfl rfl (.kv rfl (.slen rfl Tryz.underlying46 rfl) (.mv rfl rfl (.nf rfl rfl rfl fo_114_0 (.kv rfl (.ld rfl ag_47) (.m rfl (by kernel_rfl) (.c Tryz.func64 [_] (dshalf_spec x δ hn)) (by repeat' constructor) ?_))))))))))))))
 refine D.kv rfl (.mul rfl rfl (by omega)) (.kv rfl (.int rfl rfl rfl) (.mv rfl rfl (.dec (t := 31) rfl (fun h8_31 => ?_) (fun h8_31 => ?_))))
 ·refine D.kDT (t := 30) rfl h8_31 (.gz rfl (.gz rfl (.gz rfl (.gz rfl (.gz rfl (.gz rfl (.gz rfl (.gz rfl (.gz rfl (.kv rfl (.pickT rfl rfl) (.mv rfl rfl (.gz rfl (.gz rfl (.gz rfl (.gz rfl (.gz rfl (.kv rfl (.pickT rfl rfl) (.pf (.condT rfl (.sr (.an rfl (.rt ?_))))))))))))))))))))))
  have hr : renewZ δ ω l = (δ, ω, 30) := by unfold renewZ; rw [if_neg (by rw [h9]; decide), if_neg (by rw [hany]; decide)]; split; rfl; rename_i g1; rw [if_pos (by rintro g2; apply g1; have := laidZ_six l; omega)]
  rw [hr]
  refine .rl (y := y) (x := x) (ω := ω) (v := (.slice arr ω.recs.length crr)) ?_
  exact .vv
 refine D.kDF (t := 30) rfl h8_31 (.gv rfl (.move rfl) (.gm (t := 31) rfl rfl rfl (by kernel_rfl) (.c Tryz.func65 [_] (rsize_spec _ l p hp (by omega))) (by repeat' constructor) ?_))
 refine D.gv rfl (.move rfl) (.gv rfl (.nilp rfl) (.gv rfl (.fieldAddr rfl fo_114_0) (.gv rfl (.ld rfl ag_47) (.gm (t := 31) rfl rfl rfl (by kernel_rfl) (.c Tryz.func64 [_] (dshalf_spec x δ hn)) (by repeat' constructor) ?_))))
 refine D.gv rfl (.mul rfl rfl (by omega)) (.gv rfl (.int rfl rfl rfl) (.kv rfl (.pickF rfl rfl) (.mv rfl rfl (.dec (t := 42) rfl (fun h8_42 => ?_) (fun h8_42 => ?_)))))
 ·refine D.kDT (t := 40) rfl h8_42 (.kDT (t := 41) rfl h8_42 (.gz rfl (.gz rfl (.gz rfl (.gz rfl (.gz rfl (.kv rfl (.pickT rfl rfl) (.pf (.condT rfl (.sr (.an rfl (.rt ?_))))))))))))
  have hr : renewZ δ ω l = (δ, ω, 30) := by unfold renewZ; rw [if_neg (by rw [h9]; decide), if_neg (by rw [hany]; decide)]; split; rfl; rename_i g1; rw [if_pos (by rintro g2; apply g1; have := laidZ_six l; omega)]
  rw [hr]
  refine .rl (y := y) (x := x) (ω := ω) (v := (.slice arr ω.recs.length crr)) ?_
  exact .vv
 refine D.kDF (t := 40) rfl h8_42 (.kDF (t := 41) rfl h8_42 (.gv rfl (.move rfl) (.gv rfl (.nilp rfl) (.gv rfl (.fieldAddr rfl fo_114_4) (.gv rfl (.ld rfl ag_3) (.gv rfl (.int rfl rfl rfl) (.kv rfl (.pickF rfl rfl) (.pf (.condD rfl (fun h48 => ?_) (fun h48 => ?_))))))))))
 ·refine .sr (.an rfl (.rt ?_))
  have hr : renewZ δ ω l = (δ, ω, 30) := by unfold renewZ; rw [if_neg (by rw [h9]; decide), if_neg (by rw [hany]; decide)]; split; rfl; rename_i g1; rw [if_pos (by rintro g2; apply g1; have := laidZ_six l; omega)]
  rw [hr]
  refine .rl (y := y) (x := x) (ω := ω) (v := (.slice arr ω.recs.length crr)) ?_
  exact .vv
 refine .sk (.seq (.seq (.draw [11] [[0, 1, 2, 3, 4, 5, 6, 7, 8, 9, 10, 11], [12]] mixed (by kernel_rfl) (.go [lc y x ((.slice arr ω.recs.length crr)) (ω.synced) (ω.area) (ω.count) (ω.a) (ω.b) (ω.doubt), p] (by repeat' constructor) (.mv rfl rfl (.nf rfl rfl rfl fo_114_0 (.kv rfl (.ld rfl ag_47) (.mv rfl rfl (.nf rfl rfl rfl fo_114_3 (.kv rfl (.ld rfl ag_3) (.kv rfl (.sub rfl rfl (by omega)) (.mv rfl rfl (.m rfl (by kernel_rfl) (.c Tryz.func67 [_] (rall_spec _ l p hp (by omega))) (by repeat' constructor) ?_)))))))))))))
 refine D.hh rfl (.c Tryz.func66 [_, _, _, _] (rlays_spec x (1 - ω.area) (laidZ l) 0 δ hn (by omega) (by omega) (by omega) (by omega))) ?_
 rintro v L' ⟨e1, he1, rfl, rfl⟩
 refine D.ph (.g0 (.kv rfl (.int rfl rfl rfl) (.pf (.condN rfl (fun h61 => ?_) (fun h61 => ?_)))))
 ·refine .sm rfl (.cv Tryz.func63 [_] (rdead_spec y x _ _ _ _ _ _ _) ?_)
  refine .an rfl (.rt ?_)
  have hl2 : ¬ (layZ δ (1 - ω.area) (laidZ l) 0).2 = 0 := fun g => h61 (he1.2 g)
  have hr : renewZ δ ω l = ((layZ δ (1 - ω.area) (laidZ l) 0).1, { ω with doubt := true }, 2) := by unfold renewZ; rw [if_neg (by rw [h9]; decide), if_neg (by rw [hany]; decide), if_neg (by have := laidZ_six l; omega), if_neg (by omega), if_pos hl2, layX_two hl2]
  rw [hr]
  refine .rl (y := y) (x := x) (ω := { ω with doubt := true }) (v := (.slice arr ω.recs.length crr)) ?_
  exact .vv
 refine .sk (.seq ?_)
 have hl2 : (layZ δ (1 - ω.area) (laidZ l) 0).2 = 0 := he1.1 h61
 have hlk := layZ_keeps δ (1 - ω.area) (laidZ l) 0
 refine .region (.m rfl (.m rfl (.nf rfl fo_114_3 (.u (.ld rfl ag_3) (.q (.sub rfl rfl (by omega)) rfl (.m rfl (.oq (.c Tryz.func68 [_, _, _] (rseals_spec y x (.slice arr ω.recs.length crr) ω (1 - ω.area) _ l (layZ δ (1 - ω.area) (laidZ l) 0).1 p hp (by omega) ⟨hct.1, by omega⟩ (by omega) hab.1 hab.2 (by have := hlk.2; omega))) ?_)))))))
 rintro v L' (⟨hs, rfl, rfl⟩ | ⟨hs, rfl, a9, c9, rfl⟩)
 ·refine .an rfl (.ret ?_)
  have hr : renewZ δ ω l = ((sealZ (layZ δ (1 - ω.area) (laidZ l) 0).1 ω (1 - ω.area) l).1, { ω with doubt := true }, 2) := by unfold renewZ; rw [if_neg (by rw [h9]; decide), if_neg (by rw [hany]; decide), if_neg (by have := laidZ_six l; omega), if_neg (by omega), if_neg (fun g => g hl2), sealX_two hs]
  rw [hr]
  refine .rl (y := y) (x := x) (ω := { ω with doubt := true }) (v := (.slice arr ω.recs.length crr)) ?_
  exact .vv
 refine .an rfl (.ret ?_)
 have hr : renewZ δ ω l = ((sealZ (layZ δ (1 - ω.area) (laidZ l) 0).1 ω (1 - ω.area) l).1, { ω with recs := l, synced := l.length, area := 1 - ω.area, count := ω.count + 1 }, 0) := by unfold renewZ; rw [if_neg (by rw [h9]; decide), if_neg (by rw [hany]; decide), if_neg (by have := laidZ_six l; omega), if_neg (by omega), if_neg (fun g => g hl2), sealX_nil hs]
 rw [hr]
 refine .rl (y := y) (x := x) (ω := { ω with recs := l, synced := l.length, area := 1 - ω.area, count := ω.count + 1 }) (v := .slice a9 l.length c9) ?_
 exact .vv
theorem big_up {α : Type} {f : α → HP} : ∀ {l : List α} {h h' : Hp}, bigR f l h → (∀ b o, h b = some o → h' b = some o) → bigR f l h'
 | [], _, h', _, _ => big_nil h'
 | x :: l, h, h', hp, hle => by
  obtain ⟨h1, h2, a, b, c, q1, q2⟩ := big_cons hp
  exact big_of_cons ⟨h1, h2, a, fun k o hk => hle k o (b k o hk), fun k o hk => hle k o (c k o hk), q1, q2⟩
theorem fm_tk (n : Nat) {es : List En} (hn : n ≤ es.length) : (es.flatMap enC).take (n * 11) = (es.take n).flatMap enC := by
 have e1 : es.flatMap enC = (es.take n).flatMap enC ++ (es.drop n).flatMap enC := by rw [← List.flatMap_append, List.take_append_drop]
 have e2 : ((es.take n).flatMap enC).length = n * 11 := by rw [flatMap_len (sz := 11) (fun _ _ => rfl), List.length_take]; congr 1; omega
 rw [e1, ← e2, List.take_left]
theorem slR_to11 {T : TypeId} {a : Option Addr} {n c k : Nat} {es : List En} (hk : k ≤ n) (hn : n = es.length) : ∀ h : Hp, slR T 11 (.slice a n c) n (es.flatMap enC) h → rdS 11 h (.slice a k c) k ((es.flatMap enC).take (k * 11)) := by
 intro h hp
 rcases slR_rd hp with ⟨h1, h2, aa, cc, h3⟩ | ⟨b', o', cap, l', T', fr', h1, h2, h3, h4, h5⟩
 ·obtain rfl : k = 0 := by omega
  simp only [Value.slice.injEq] at h3
  refine .inl ⟨rfl, by simp, a, c, rfl⟩
 ·simp only [Value.slice.injEq] at h1
  obtain ⟨rfl, -, rfl⟩ := h1
  refine .inr ⟨b', o', c, l', T', fr', rfl, h2, ?_, ?_, by omega⟩
  ·rw [← h3, List.take_take]; congr 1
   have : k * 11 ≤ n * 11 := Nat.mul_le_mul_right _ hk
   omega
  ·have : k * 11 ≤ n * 11 := Nat.mul_le_mul_right _ hk
   omega
theorem r9cut_spec (y w x : Nat) (δ : Dk) (ω : Wl) (Λ : Lg) (z : Int) (hI : WlI δ ω) (hab : (0 ≤ ω.a ∧ ω.a ≤ 9223372036854775807) ∧ (0 ≤ ω.b ∧ ω.b ≤ 9223372036854775807)) (hb : I64 Λ.base) (hs : Λ.snap.length ≤ 65536) (hfew : Λ.ents.length ≤ 200) : Fn Tryz.prog 147 #[vptr y, vint z] [rgR y w Λ, rlR w x ω, dsR x δ] fun v L => v = vint (lgCut ⟨δ, ω, Λ⟩ z).2 ∧ L = [rgR y w (lgCut ⟨δ, ω, Λ⟩ z).1.Λ, rlR w x (lgCut ⟨δ, ω, Λ⟩ z).1.ω, dsR x (lgCut ⟨δ, ω, Λ⟩ z).1.δ] := by
 refine Fn.intro Tryz.func147 rfl rfl fun F W => ?_
 refine .rgOpen (y := y) (by repeat' constructor) fun a c es hE => ?_
 have hel := hE.len
 have hh0 := headL_len Λ.base Λ.snap hs
 refine .sr (.an rfl (.seq (.sm rfl (.nf rfl fo_129_6 (.u (.ld rfl ag_4) (.nt (.condB rfl (fun h11 => ?_) (fun h11 => ?_))))))))
 ·refine .sr (.an rfl (.rt ?_))
  have hr : lgCut ⟨δ, ω, Λ⟩ z = (⟨δ, ω, Λ⟩, 2) := by unfold lgCut; dsimp only; rw [if_pos h11]
  rw [hr]
  try dsimp only
  refine .rg (y := y) (w := w) (Λ) (a) (c) (es) (hE) ?_
  exact .vv
 refine .sk (.sm rfl (.m rfl (.oq (.c Tryz.func185 [_, _] (r9place_spec y w Λ a c es z hE)) ?_)))
 rintro v L' ⟨⟨n, hpl, hne, rfl⟩ | ⟨hpl, rfl⟩, rfl⟩
 ·refine .m rfl (.u (.extract rfl rfl) (.u (.extract rfl rfl) (.a rfl (.an rfl (.seq (.sm rfl (.q (.as (v' := .bool false) (by rfl) (.not rfl)) rfl (.nt (.condF rfl (.sk (.seq (.draw [13, 17, 18] [[0, 1, 2, 3, 4, 5, 6, 7, 8, 9, 10, 11, 12, 15, 13, 14, 16, 17], [18], [19]] mixed (by kernel_rfl) (.go [ptc y _ _] (by repeat' constructor) (.k rfl (.move rfl) (.k rfl (.move rfl) (.k rfl (.nilp rfl) (.k rfl (.fieldAddr rfl fo_129_0) (.k rfl (.ld rfl ag_50) (.mv rfl rfl (.nf rfl rfl rfl fo_129_1 (.kv rfl (.ld rfl ag_3) (.mv rfl rfl (.nf rfl rfl rfl fo_129_2 (.kv rfl (.ld rfl ag_9) (.k rfl (.move rfl) (.hh rfl (.c Tryz.func125 [_, _] (r9head_spec Λ.base Λ.snap hb (by omega))) ?_))))))))))))))))))))))))))
  rintro v L' ⟨bh, ch, rfl, rfl⟩
  refine D.kv rfl (.slen rfl Tryz.underlying46 rfl) (.kv rfl (.as (v' := vint (((headL Λ.base Λ.snap).length + n : Nat) : Int)) (by simp) (.add rfl rfl (by omega))) (.hh rfl (.c Tryz.func186 [_, _] (rcut_spec w x ω δ (((headL Λ.base Λ.snap).length + n : Nat) : Int) hI hab)) ?_))
  rintro v L' ⟨rfl, rfl⟩
  refine D.ph (.g0 (.hh rfl (.c Tryz.func184 [_, _] (r9met_spec y w Λ.base Λ.snap _ Λ.acc Λ.cur Λ.doubt (cutZ δ ω (((headL Λ.base Λ.snap).length + n : Nat) : Int)).2.2)) ?_))
  rintro v L' ⟨rfl, rfl⟩; rw [met_gc Λ (cutZ δ ω (((headL Λ.base Λ.snap).length + n : Nat) : Int)).2.2]
  refine D.ph (.g0 (.kv rfl (.assign rfl) (.pf (.seq (.sm rfl (.ui rfl rfl rfl (.nt (.condD rfl (fun h40 => ?_) (fun h40 => ?_)))))))))
  ·refine .slAddr (T := 38) (sz := 11) (a := a) (c := c) (by repeat' constructor) fun hcap hra => (.add (slR_nil 38 11) (.region (.m rfl (.m rfl (.nf rfl fo_129_3 (.u (.ld rfl ag_22) (.m rfl (.q (.to (v' := .slice a n c) (.slTo (j := (n : Int)) rfl el_22 rfl (by omega) hra) (by rw [Int.toNat_natCast])) rfl (.oq (.append (n := 0) (m := n) (ys := (es.flatMap enC).take (n * 11)) (p := es9 (.slice a es.length c) es) rfl rfl rfl el_22 (.inl ⟨_, Tryz.underlying22⟩) ze_38 rfl rfl ?hc42 ?hr43 ?hb44 (by decide)) ?_)))))))))
   case hc42 => intro z hz; obtain ⟨e9, he9, hz9⟩ := List.mem_flatMap.1 (List.mem_of_mem_take hz); exact (hE.k e9 he9).1.cells z hz9
   case hr43 => exact slR_to11 hne rfl
   case hb44 => omega
   rintro v L' ⟨⟨a8, c8, rfl⟩, rfl⟩; rw [Nat.zero_add, List.nil_append]
   refine .nf rfl fo_129_3 (.oq (.store rfl rfl rfl sz_22 ?c49 (nfz0 _ _)) ?_)
   case c49 => simp
   rintro v L' rfl
   refine .nt (.sm rfl (.an rfl (.ret ?_)))
   have hr : lgCut ⟨δ, ω, Λ⟩ z = lgCut2 ⟨δ, ω, Λ⟩ n := by unfold lgCut; dsimp only; rw [if_neg (by rw [h11]; decide), hpl]
   rw [hr]
   have hr2 : lgCut2 ⟨δ, ω, Λ⟩ n = (⟨(cutZ δ ω (((headL Λ.base Λ.snap).length + n : Nat) : Int)).1, (cutZ δ ω (((headL Λ.base Λ.snap).length + n : Nat) : Int)).2.1, ⟨Λ.acc, Λ.cur, Λ.base, Λ.snap, Λ.ents.take n, Λ.zxs.take n, Λ.doubt⟩⟩, 0) := by unfold lgCut2; dsimp only; rw [if_pos (show (metL Λ (cutZ δ ω (((headL Λ.base Λ.snap).length + n : Nat) : Int))).2 = 0 from h40)]
   rw [hr2]
   rw [h40]
   have he0 := metE_0 h40
   have hme : Λ.met (cutZ δ ω (((headL Λ.base Λ.snap).length + n : Nat) : Int)).2.2 = Λ := by unfold Lg.met; rw [if_neg (by rw [he0]; decide)]
   rw [hme]
   refine .fold (p := bigR entR (es.take n)) (q := [bigR entR es]) (by repeat' constructor) (fun _ hp => by obtain ⟨g1, g2, g3, le1, le2, q1, q2⟩ := hp; exact big_up (big_tk n q1) le1) ?_
   have htl : (es.take n).length = n := by rw [List.length_take]; omega
   refine .slCast (T := 38) (sz := 11) (m' := n) (xs' := (es.take n).flatMap enC) (by repeat' constructor) rfl (by exact fm_tk n hne) (.rgFold (y := y) (w := w) (⟨Λ.acc, Λ.cur, Λ.base, Λ.snap, Λ.ents.take n, Λ.zxs.take n, Λ.doubt⟩) (a8) (c8) (es.take n) (by repeat' constructor) (hE.cut n) (by rw [htl]; rfl) (by rw [htl]) (by rw [htl]) rfl ?_)
   exact .vv
  refine .sk (.sm rfl (.an rfl (.ret ?_)))
  have hr : lgCut ⟨δ, ω, Λ⟩ z = lgCut2 ⟨δ, ω, Λ⟩ n := by unfold lgCut; dsimp only; rw [if_neg (by rw [h11]; decide), hpl]
  rw [hr]
  have hr2 : lgCut2 ⟨δ, ω, Λ⟩ n = metL Λ (cutZ δ ω (((headL Λ.base Λ.snap).length + n : Nat) : Int)) := by unfold lgCut2; dsimp only; rw [if_neg (show ¬ (metL Λ (cutZ δ ω (((headL Λ.base Λ.snap).length + n : Nat) : Int))).2 = 0 from h40)]
  rw [hr2]
  refine .rg (y := y) (w := w) (Λ.met (cutZ δ ω (((headL Λ.base Λ.snap).length + n : Nat) : Int)).2.2) (a) (c) (es) (hE.met _) ?_
  exact .vv
 refine .m rfl (.u (.extract rfl rfl) (.u (.extract rfl rfl) (.a rfl (.an rfl (.seq (.sm rfl (.q (.as (v' := .bool true) (by rfl) (.not rfl)) rfl (.nt (.condT rfl (.sr (.an rfl (.rt ?_))))))))))))
 have hr : lgCut ⟨δ, ω, Λ⟩ z = (⟨δ, ω, Λ⟩, 81) := by unfold lgCut; dsimp only; rw [if_neg (by rw [h11]; decide), hpl]
 rw [hr]
 try dsimp only
 refine .rg (y := y) (w := w) (Λ) (a) (c) (es) (hE) ?_
 exact .vv
theorem met_dbt (Λ : Lg) (e : Int) : (if e = 2 then true else Λ.doubt) = (Λ.met e).doubt := by
 unfold Lg.met
 by_cases h : e = 2
 ·rw [if_pos h, if_pos h]
 ·rw [if_neg h, if_neg h]
theorem rows_rises : ∀ {es : List Bs} {zs : List Int} {b : Int}, RowsI b es zs → Rises b zs
 | [], [], _, _ => fun j hj => by simp at hj
 | [], _ :: _, _, h => h.elim
 | _ :: _, [], _, h => h.elim
 | s :: t, z :: u, b, h => fun j hj => by
  have ih := rows_rises h.2.2.2
  have hz := h.2.1
  cases j with
  | zero => exact ⟨by simpa using hz, fun h => absurd h (by omega)⟩
  | succ k =>
   have hk : k < u.length := by simpa using hj
   obtain ⟨q1, q2⟩ := ih k hk
   refine ⟨by rw [List.getD_cons_succ]; omega, fun _ => ?_⟩
   rw [show k + 1 - 1 = k from rfl, List.getD_cons_succ]
   cases k with
   | zero => simpa using q1
   | succ m => have := q2 (by omega); simpa using this
theorem rows_got : ∀ {es : List Bs} {zs : List Int} {b : Int}, RowsI b es zs → ∀ s ∈ es, ∃ e, getZ s = some e
 | [], _, _, _, s, hs => by cases hs
 | _ :: _, [], _, h, _, _ => h.elim
 | x :: t, z :: u, b, h, s, hs => by
  rcases List.mem_cons.1 hs with rfl | hs
  ·obtain ⟨e, he, -⟩ := h.1; exact ⟨e, he⟩
  ·exact rows_got h.2.2.2 s hs
theorem install_rows {δ : Dk} {ω : Wl} {Λ : Lg} {z : Int} {n : Nat} {snap : Bs} {es : List En} (hE : EsOf es Λ) (hW : LgW Λ) (hd : Λ.doubt = false) (hp : placeZ Λ z = some n) (hs : snap.length ≤ 65536) :
  lgInstall ⟨δ, ω, Λ⟩ z snap (es.drop n) = lgRenew ⟨δ, ω, Λ⟩ z snap (Λ.ents.drop n) (Λ.zxs.drop n) := by
 obtain ⟨p1, p2⟩ := place_ok hW hp
 have e1 : (es.drop n).map enB = Λ.ents.drop n := by rw [List.map_drop, hE.b]
 have e2 : (es.drop n).map (·.zx) = Λ.zxs.drop n := by rw [List.map_drop, hE.z]
 have e3 : (es.drop n).all fitsE = true := by
  rw [List.all_eq_true]; intro e he
  have he' := List.mem_of_mem_drop he
  obtain ⟨q, hq⟩ := rows_got hW.rows (enB e) (by rw [← hE.b]; exact List.mem_map_of_mem he')
  exact fits_of (hE.k e he').1 hq rfl
 unfold lgInstall
 dsimp only
 rw [e1, e2, if_neg (by rw [hd]; decide), if_neg (by omega), if_neg (by rw [e3]; decide), if_neg (fun g => g (rows_rises p2))]
theorem r9readS_spec (w x : Nat) (ω : Wl) {Λ : Lg} (hl : ω.recs.length ≤ 1048576) (hs : ∀ s ∈ ω.recs, s.length ≤ 1073741824) (ha : I64 ω.a) (hb : I64 ω.b) (ho : openLZ ω = some Λ) : Fn Tryz.prog 128 #[vptr w] [rlR w x ω] fun v L => ∃ y, v = .tuple #[vptr y, .bool true] ∧ L = [rlR w x ω, rgR y w Λ] :=
 (r9read_spec w x ω hl hs ha hb).mono (by
  rintro v L (⟨h, -⟩ | ⟨Λ9, y, h, hv, hL⟩)
  ·rw [ho] at h; cases h
  ·rw [ho] at h; cases h; exact ⟨y, hv, hL⟩)
theorem install_no {δ : Dk} {ω : Wl} {Λ : Lg} {z : Int} {snap : Bs} {l : List En} (h : (lgInstall ⟨δ, ω, Λ⟩ z snap l).2 ≠ 0) :
  (lgInstall ⟨δ, ω, Λ⟩ z snap l).1.Λ.base = Λ.base ∧ (lgInstall ⟨δ, ω, Λ⟩ z snap l).1.Λ.snap = Λ.snap ∧ (lgInstall ⟨δ, ω, Λ⟩ z snap l).1.Λ.acc = Λ.acc ∧ (lgInstall ⟨δ, ω, Λ⟩ z snap l).1.Λ.cur = Λ.cur ∧ (lgInstall ⟨δ, ω, Λ⟩ z snap l).1.Λ.ents = Λ.ents ∧ (lgInstall ⟨δ, ω, Λ⟩ z snap l).1.Λ.zxs = Λ.zxs := by
 have hm : ∀ e, (Λ.met e).base = Λ.base ∧ (Λ.met e).snap = Λ.snap ∧ (Λ.met e).acc = Λ.acc ∧ (Λ.met e).cur = Λ.cur ∧ (Λ.met e).ents = Λ.ents ∧ (Λ.met e).zxs = Λ.zxs := fun e => ⟨met_base .., met_snap .., met_acc .., met_cur .., met_ents .., met_zxs ..⟩
 unfold lgInstall at h ⊢
 split
 ·exact ⟨rfl, rfl, rfl, rfl, rfl, rfl⟩
 rename_i g1; rw [if_neg g1] at h
 split
 ·exact ⟨rfl, rfl, rfl, rfl, rfl, rfl⟩
 rename_i g2; rw [if_neg g2] at h
 split
 ·exact ⟨rfl, rfl, rfl, rfl, rfl, rfl⟩
 rename_i g3; rw [if_neg g3] at h
 split
 ·exact ⟨rfl, rfl, rfl, rfl, rfl, rfl⟩
 rename_i g4; rw [if_neg g4] at h
 unfold lgRenew at h ⊢
 split
 ·exact ⟨rfl, rfl, rfl, rfl, rfl, rfl⟩
 rename_i g5; rw [if_neg g5] at h
 split
 ·rename_i g6; rw [if_pos g6] at h; exact absurd rfl h
 ·exact hm _
theorem rise_go {z last : Int} {zs : List Int} {i : Nat} (hg : ∀ k, k < i → z < zs.getD k 0 ∧ (0 < k → zs.getD (k - 1) 0 < zs.getD k 0)) (hl : last = if i = 0 then z else zs.getD (i - 1) 0) (h : last < zs.getD i 0) : ∀ k, k < i + 1 → z < zs.getD k 0 ∧ (0 < k → zs.getD (k - 1) 0 < zs.getD k 0) := by
 intro k hk
 rcases Nat.lt_or_ge k i with g | g
 ·exact hg k g
 obtain rfl : k = i := by omega
 by_cases h0 : k = 0
 ·rw [if_pos h0] at hl; exact ⟨by omega, fun g => absurd g (by omega)⟩
 ·rw [if_neg h0] at hl
  have := (hg (k - 1) (by omega)).1
  exact ⟨by omega, fun _ => by omega⟩
theorem r9installO_spec (y w x : Nat) (δ : Dk) (ω : Wl) (Λ : Lg) (sl : Value) (z : Int) (snap : Bs) (va : Value) (l : List En) (p : HP) (hI : WlI δ ω) (hab : (0 ≤ ω.a ∧ ω.a ≤ 9223372036854775807) ∧ (0 ≤ ω.b ∧ ω.b ≤ 9223372036854775807)) (hW : LgW Λ) (ha : ω.a = Λ.acc) (hb9 : ω.b = Λ.cur) (hz : I64 z) (hcells : ∀ h : Hp, p h → rdS 11 h va l.length (l.flatMap enC)) (hll : l.length ≤ 1073741824) (hx : ∀ e ∈ l, EnX p e) : Fn Tryz.prog 148 #[vptr y, vint z, vstr snap, va] [gc9 y w (Λ.base) (Λ.snap) (sl) (Λ.acc) (Λ.cur) (Λ.doubt), rlR w x ω, dsR x δ, p] fun v L => v = vint (lgInstall ⟨δ, ω, Λ⟩ z snap l).2 ∧ (((lgInstall ⟨δ, ω, Λ⟩ z snap l).2 ≠ 0 ∧ L = [gc9 y w (Λ.base) (Λ.snap) (sl) (Λ.acc) (Λ.cur) ((lgInstall ⟨δ, ω, Λ⟩ z snap l).1.Λ.doubt), rlR w x (lgInstall ⟨δ, ω, Λ⟩ z snap l).1.ω, dsR x (lgInstall ⟨δ, ω, Λ⟩ z snap l).1.δ, p]) ∨ ((lgInstall ⟨δ, ω, Λ⟩ z snap l).2 = 0 ∧ ∃ a c es, EsOf es (lgInstall ⟨δ, ω, Λ⟩ z snap l).1.Λ ∧ L = [gc9 y w ((lgInstall ⟨δ, ω, Λ⟩ z snap l).1.Λ.base) ((lgInstall ⟨δ, ω, Λ⟩ z snap l).1.Λ.snap) (.slice a es.length c) ((lgInstall ⟨δ, ω, Λ⟩ z snap l).1.Λ.acc) ((lgInstall ⟨δ, ω, Λ⟩ z snap l).1.Λ.cur) ((lgInstall ⟨δ, ω, Λ⟩ z snap l).1.Λ.doubt), es9 (.slice a es.length c) es, bigR entR es, rlR w x (lgInstall ⟨δ, ω, Λ⟩ z snap l).1.ω, dsR x (lgInstall ⟨δ, ω, Λ⟩ z snap l).1.δ, p])) := by
 refine Fn.intro Tryz.func148 rfl rfl fun F W => ?_
 refine .rdAny (p := p) hcells (by repeat' constructor) fun a0 c0 e _ => ?_
 subst e
 refine .sr (.an rfl (.seq (.sm rfl (.nf rfl fo_129_6 (.u (.ld rfl ag_4) (.nt (.condB rfl (fun h20 => ?_) (fun h20 => ?_))))))))
 ·refine .sr (.an rfl (.rt ?_))
  have hr : lgInstall ⟨δ, ω, Λ⟩ z snap l = (⟨δ, ω, Λ⟩, 2) := by unfold lgInstall; dsimp only; rw [if_pos h20]
  rw [hr]
  try dsimp only
  exact .dn rfl rfl ⟨rfl, .inl ⟨by decide, rfl⟩⟩
 refine .sk (.seq (.sm rfl (.ui rfl rfl rfl (.m rfl (.dec (t := 23) rfl (fun h3_23 => ?_) (fun h3_23 => ?_))))))
 ·refine .kDT (t := 22) rfl h3_23 (.gk (.gk (.gk (.u (.pickT rfl rfl) (.nt (.condT rfl (.sr (.an rfl (.rt ?_)))))))))
  have hr : lgInstall ⟨δ, ω, Λ⟩ z snap l = (⟨δ, ω, Λ⟩, 1) := by unfold lgInstall; dsimp only; rw [if_neg (by rw [h20]; decide), if_pos (by first | exact .inl h3_23 | exact .inr (by omega))]
  rw [hr]
  try dsimp only
  exact .dn rfl rfl ⟨rfl, .inl ⟨by decide, rfl⟩⟩
 refine .kDF (t := 22) rfl h3_23 (.grun (t := 23) rfl rfl rfl (.m rfl (.grun (t := 23) rfl rfl rfl (.q (.strlen rfl Tryz.underlying9 rfl) rfl (.grun (t := 23) rfl rfl rfl (.ui rfl rfl rfl (.u (.pickF rfl rfl) (.nt (.condD rfl (fun h27 => ?_) (fun h27 => ?_))))))))))
 ·refine .sr (.an rfl (.rt ?_))
  have hr : lgInstall ⟨δ, ω, Λ⟩ z snap l = (⟨δ, ω, Λ⟩, 1) := by unfold lgInstall; dsimp only; rw [if_neg (by rw [h20]; decide), if_pos (by first | exact .inl h3_23 | exact .inr (by omega))]
  rw [hr]
  try dsimp only
  exact .dn rfl rfl ⟨rfl, .inl ⟨by decide, rfl⟩⟩
 refine .sk (.seq (.sr (.an rfl (.block (.loopK (ι := Nat) (fun q E => (9, vint q) :: E) (fun q => []) (fun q => q ≤ l.length ∧ ∀ i (hi : i < q) (hl : i < l.length), fitsE l[i] = true) (fun q => l.length - q) (0) (ts := [0, 1, 2, 3]) (.cons rfl (.cons rfl (.cons rfl (.cons rfl (.nil))))) (⟨Nat.zero_le _, fun i hi => by omega⟩) ⟨rfl, rfl, rfl, rfl, rfl, trivial⟩ (by repeat' constructor) ?_)))))
 rintro j ⟨hj, hft⟩
 refine .seq (.sm rfl (.m rfl (.q (.slen rfl Tryz.underlying22 rfl) rfl (.ui rfl rfl rfl (.nt (.condD rfl (fun h31 => ?_) (fun h31 => ?_)))))))
 ·have hj2 : j < l.length := by omega
  have hX := hx _ (List.getElem_mem hj2)
  refine .rdShape (p := p) hcells (by repeat' constructor) (by omega) fun ba oa e => ?_
  subst e
  refine .sk (.seq (.block (.sm rfl (.m rfl (.q (.indexAddr rfl rfl el_22 (by omega)) rfl (.q (.loadRdA (sz := 11) (j := j * 11) (k := 11) (p := p) (vs := enC l[j]) rfl ag_38 (by repeat' constructor) hcells (by simp) (by omega) (by omega) (flatMap_at (f := enC) (sz := 11) (fun _ _ => rfl) (by omega))) rfl (.cv Tryz.func182 [_] (r9fits_spec l[j] p hX) ?_)))))))
  refine .an rfl (.sm rfl (.u (.not rfl) (.nt (.condB rfl (fun h40 => ?_) (fun h40 => ?_)))))
  ·refine .sr (.an rfl (.ret (.blk_r (.then_r (.then_r (.blk_r (.then_r ?_)))))))
   have hr : lgInstall ⟨δ, ω, Λ⟩ z snap l = (⟨δ, ω, Λ⟩, 1) := by unfold lgInstall; dsimp only; rw [if_neg (by rw [h20]; decide), if_neg (by rintro (g1 | g1); exact h3_23 g1; omega), if_pos (all_fits_bad hj2 (by simpa using h40))]
   rw [hr]
   try dsimp only
   exact .dn rfl rfl ⟨rfl, .inl ⟨by decide, rfl⟩⟩
  have hfj : fitsE l[j] = true := by simpa using h40
  refine .skip (.blk_n (.then_n (.region (.m rfl (.q (.add rfl rfl (by omega)) rfl (.an rfl ?_))))))
  exact .rk (j + 1) (⟨by omega, fun i hi hl2 => by rcases Nat.lt_or_ge i j with g1 | g1; exact hft i g1 hl2; obtain rfl : i = j := (by omega); exact hfj⟩) (by omega) ⟨rfl, rfl, rfl, rfl, rfl, trivial⟩
 have hje : j = l.length := by omega
 subst hje
 have hall := all_fits (fun i hi => hft i hi hi)
 refine .exit (.then_e (.then_e (.blk_e (.then_n (.sm rfl (.an rfl (.seq (.sr (.an rfl (.block (.loopK (ι := Nat × Int) (fun q E => (12, vint q.1) :: (11, vint q.2) :: E) (fun q => []) (fun q => q.1 ≤ l.length ∧ (q.2 = if q.1 = 0 then z else (l.map (·.zx)).getD (q.1 - 1) 0) ∧ ∀ k, k < q.1 → z < (l.map (·.zx)).getD k 0 ∧ (0 < k → (l.map (·.zx)).getD (k - 1) 0 < (l.map (·.zx)).getD k 0)) (fun q => l.length - q.1) (0, z) (ts := [0, 1, 2, 3]) (.cons rfl (.cons rfl (.cons rfl (.cons rfl (.nil))))) (⟨Nat.zero_le _, rfl, fun k hk => by dsimp only at hk; omega⟩) ⟨rfl, rfl, rfl, rfl, rfl, rfl, trivial⟩ (by repeat' constructor) ?_)))))))))))
 rintro ⟨i, last⟩ ⟨hi, hlast, hgood⟩
 dsimp only
 dsimp only at hi hlast hgood
 refine .seq (.sm rfl (.m rfl (.q (.slen rfl Tryz.underlying22 rfl) rfl (.ui rfl rfl rfl (.nt (.condD rfl (fun h45 => ?_) (fun h45 => ?_)))))))
 ·have hi2 : i < l.length := by omega
  have hzi : (l.map (·.zx)).getD i 0 = l[i].zx := by simp [List.getD_eq_getElem?_getD, hi2]
  refine .rdShape (p := p) hcells (by repeat' constructor) (by omega) fun ba oa e => ?_
  subst e
  refine .sk (.seq (.block (.seq (.sm rfl (.m rfl (.q (.indexAddr rfl rfl el_22 (by omega)) rfl (.u (.fieldAddr rfl fo_38_0) (.q (.loadRd (sz := 11) (j := i * 11 + 0) (p := p) (v := vint l[i].zx) rfl ag_3 (by repeat' constructor) hcells (by simp) ((en_cell (k := 0) hi2 (by decide)).trans rfl)) rfl (.m rfl (.ui rfl rfl rfl (.nt (.condD rfl (fun h54 => ?_) (fun h54 => ?_)))))))))))))
  ·refine .sr (.an rfl (.rt (.blk_r (.then_r (.then_r (.blk_r (.then_r ?_)))))))
   have hr : lgInstall ⟨δ, ω, Λ⟩ z snap l = (⟨δ, ω, Λ⟩, 81) := by unfold lgInstall; dsimp only; rw [if_neg (by rw [h20]; decide), if_neg (by rintro (g1 | g1); exact h3_23 g1; omega), if_neg (by rw [hall]; decide), if_pos (rises_no (i := i) (by rw [List.length_map]; exact hi2) hlast (by rw [hzi]; exact h54))]
   rw [hr]
   try dsimp only
   exact .dn rfl rfl ⟨rfl, .inl ⟨by decide, rfl⟩⟩
  refine .sk (.region (.m rfl (.m rfl (.q (.indexAddr rfl rfl el_22 (by omega)) rfl (.u (.fieldAddr rfl fo_38_0) (.q (.loadRd (sz := 11) (j := i * 11 + 0) (p := p) (v := vint l[i].zx) rfl ag_3 (by repeat' constructor) hcells (by simp) ((en_cell (k := 0) hi2 (by decide)).trans rfl)) rfl (.a rfl (.nil (.blk_n (.then_n (.region (.m rfl (.q (.add rfl rfl (by omega)) rfl (.an rfl ?_))))))))))))))
  exact .rk ((i + 1, l[i].zx)) (⟨by dsimp only; omega, by dsimp only; rw [if_neg (by omega), Nat.add_sub_cancel]; exact hzi.symm, by dsimp only; exact rise_go hgood hlast (by rw [hzi]; omega)⟩) (by dsimp only; omega) ⟨rfl, rfl, rfl, rfl, rfl, rfl, trivial⟩
 have hR : Rises z (l.map (·.zx)) := fun k hk => hgood k (by rw [List.length_map] at hk; omega)
 refine .exit (.then_e (.then_e (.blk_e (.then_n (.seq (.sm rfl (.q (.slen rfl Tryz.underlying22 rfl) rfl (.ui rfl rfl rfl (.nt (.condD rfl (fun h62 => ?_) (fun h62 => ?_)))))))))))
 ·refine .sr (.an rfl (.rt ?_))
  have hr : lgInstall ⟨δ, ω, Λ⟩ z snap l = lgRenew ⟨δ, ω, Λ⟩ z snap (l.map enB) (l.map (·.zx)) := by unfold lgInstall; dsimp only; rw [if_neg (by rw [h20]; decide), if_neg (by rintro (g1 | g1); exact h3_23 g1; omega), if_neg (by rw [hall]; decide), if_neg (fun g => g hR)]
  rw [hr]
  have hr2 : lgRenew ⟨δ, ω, Λ⟩ z snap (l.map enB) (l.map (·.zx)) = (⟨δ, ω, Λ⟩, 83) := by unfold lgRenew; dsimp only; rw [if_pos (by rw [List.length_map]; omega)]
  rw [hr2]
  try dsimp only
  exact .dn rfl rfl ⟨rfl, .inl ⟨by decide, rfl⟩⟩
 refine .sk (.seq ?_)
 have hl200 : l.length ≤ 200 := by omega
 have hbH := headL_len z snap (by omega)
 refine .region (.m rfl (.m rfl (.m rfl (.oq (.c Tryz.func187 [_, _, _] (r9records_spec z snap (.slice a0 l.length c0) l p ?hb58 ?hs59 hcells ?hx60 ?hn61)) ?_))))
 case hb58 => exact hz
 case hs59 => omega
 case hx60 => exact fun e he => (hx e he).l
 case hn61 => omega
 rintro v L' ⟨b20, c20, rfl, rfl⟩
 refine .an rfl (.sm rfl (.m rfl (.nf rfl fo_129_0 (.u (.ld rfl ag_50) (.m rfl (.oq (.c Tryz.func22 [_, _] (rrenew2_spec w x ω δ (.slice (some ⟨b20, 0, none⟩) (headL z snap ++ l.map enB).length c20) (headL z snap ++ l.map enB) (strR (.slice (some ⟨b20, 0, none⟩) (headL z snap ++ l.map enB).length c20) (headL z snap ++ l.map enB)) ?hp69 hI hab ?hln70)) ?_))))))
 case hp69 => exact fun h hp => slR_rd hp
 case hln70 => rw [List.length_append, List.length_map]; omega
 rintro v L' ⟨rfl, rfl⟩
 refine .oq (.c Tryz.func184 [_, _] (r9met_spec y w Λ.base Λ.snap sl Λ.acc Λ.cur Λ.doubt (renewZ δ ω (headL z snap ++ l.map enB)).2.2)) ?_
 rintro v L' ⟨rfl, rfl⟩; rw [met_dbt Λ (renewZ δ ω (headL z snap ++ l.map enB)).2.2]
 refine .an rfl (.seq (.sm rfl (.ui rfl rfl rfl (.nt (.condD rfl (fun h76 => ?_) (fun h76 => ?_))))))
 ·refine .seq ?_
  have h76z : (renewZ δ ω (headL z snap ++ l.map enB)).2.2 = 0 := metE_0 h76
  have hdf : Λ.doubt = false := by simpa using h20
  obtain ⟨hnW, hno⟩ := renew_new (Λ := Λ) hW.eps ha hb9 ⟨by omega, hz.2⟩ (by omega) (by rw [List.length_map]; exact hl200) (rises_rows l z (fun e he => (hx e he).l.w.1) hall hR) h76z
  obtain ⟨rr1, rr2, rr3, rr4⟩ := renew_ok h76z
  have hbw := hW.eps
  have hrd := r9readS_spec w x (renewZ δ ω (headL z snap ++ l.map enB)).2.1 (by rw [rr1, List.length_append, List.length_map]; omega) (fun s hs => by rw [rr1] at hs; have := rr4 s hs; omega) (by rw [rr2, ha]; unfold I64; omega) (by rw [rr3, hb9]; unfold I64; omega) hno
  have hmd : (Λ.met (renewZ δ ω (headL z snap ++ l.map enB)).2.2).doubt = false := by rw [h76z]; exact hdf
  rw [hmd]
  refine .region (.m rfl (.nf rfl fo_129_0 (.u (.ld rfl ag_50) (.oq (.c Tryz.func128 [_] (hrd)) ?_))))
  rintro v L' ⟨yq, rfl, rfl⟩
  refine .m rfl (.u (.extract rfl rfl) (.u (.extract rfl rfl) (.a rfl (.a rfl (.nil (.rgOpen (y := yq) (by repeat' constructor) fun aq cq eq9 hEq => (.then_n (.sm rfl (.m rfl (.nf rfl fo_129_1 (.u (.ld rfl ag_3) (.nf rfl fo_129_1 (.st rfl rfl rfl sz_3 ?_)))))))))))))
  refine .nt (.sm rfl (.m rfl (.nf rfl fo_129_2 (.u (.ld rfl ag_9) (.nf rfl fo_129_2 (.st rfl rfl rfl sz_9 ?_))))))
  refine .nt (.region (.m rfl (.m rfl (.nf rfl fo_129_3 (.u (.ld rfl ag_22) (.nf rfl fo_129_3 (.st rfl rfl rfl sz_22 ?_)))))))
  refine .nt (.sm rfl (.an rfl (.ret ?_)))
  have hr : lgInstall ⟨δ, ω, Λ⟩ z snap l = lgRenew ⟨δ, ω, Λ⟩ z snap (l.map enB) (l.map (·.zx)) := by unfold lgInstall; dsimp only; rw [if_neg (by rw [h20]; decide), if_neg (by rintro (g1 | g1); exact h3_23 g1; omega), if_neg (by rw [hall]; decide), if_neg (fun g => g hR)]
  rw [hr]
  have hr2 : lgRenew ⟨δ, ω, Λ⟩ z snap (l.map enB) (l.map (·.zx)) = (⟨(renewZ δ ω (headL z snap ++ l.map enB)).1, (renewZ δ ω (headL z snap ++ l.map enB)).2.1, ⟨Λ.acc, Λ.cur, z, snap, l.map enB, l.map (·.zx), Λ.doubt⟩⟩, 0) := by unfold lgRenew; dsimp only; rw [if_neg (by rw [List.length_map]; omega), if_pos (show (metL Λ (renewZ δ ω (headL z snap ++ l.map enB))).2 = 0 from h76)]
  rw [hr2]
  rw [h76]
  dsimp only
  rw [hdf]
  exact .dn rfl rfl ⟨rfl, .inr ⟨rfl, aq, cq, eq9, hEq, rfl⟩⟩
 refine .sk (.sm rfl (.an rfl (.ret ?_)))
 have hr : lgInstall ⟨δ, ω, Λ⟩ z snap l = lgRenew ⟨δ, ω, Λ⟩ z snap (l.map enB) (l.map (·.zx)) := by unfold lgInstall; dsimp only; rw [if_neg (by rw [h20]; decide), if_neg (by rintro (g1 | g1); exact h3_23 g1; omega), if_neg (by rw [hall]; decide), if_neg (fun g => g hR)]
 rw [hr]
 have hr2 : lgRenew ⟨δ, ω, Λ⟩ z snap (l.map enB) (l.map (·.zx)) = metL Λ (renewZ δ ω (headL z snap ++ l.map enB)) := by unfold lgRenew; dsimp only; rw [if_neg (by rw [List.length_map]; omega), if_neg (show ¬ (metL Λ (renewZ δ ω (headL z snap ++ l.map enB))).2 = 0 from h76)]
 rw [hr2]
 exact .dn rfl rfl ⟨rfl, .inl ⟨h76, rfl⟩⟩
theorem r9install_spec (y w x : Nat) (δ : Dk) (ω : Wl) (Λ : Lg) (z : Int) (snap : Bs) (va : Value) (l : List En) (p : HP) (hI : WlI δ ω) (hab : (0 ≤ ω.a ∧ ω.a ≤ 9223372036854775807) ∧ (0 ≤ ω.b ∧ ω.b ≤ 9223372036854775807)) (hW : LgW Λ) (ha : ω.a = Λ.acc) (hb9 : ω.b = Λ.cur) (hz : I64 z) (hcells : ∀ h : Hp, p h → rdS 11 h va l.length (l.flatMap enC)) (hll : l.length ≤ 1073741824) (hx : ∀ e ∈ l, EnX p e) : Fn Tryz.prog 148 #[vptr y, vint z, vstr snap, va] [rgR y w Λ, rlR w x ω, dsR x δ, p] fun v L => v = vint (lgInstall ⟨δ, ω, Λ⟩ z snap l).2 ∧ L = [rgR y w (lgInstall ⟨δ, ω, Λ⟩ z snap l).1.Λ, rlR w x (lgInstall ⟨δ, ω, Λ⟩ z snap l).1.ω, dsR x (lgInstall ⟨δ, ω, Λ⟩ z snap l).1.δ, p] := by
 intro F W hs
 have hs' : St ((fun h => ∃ q : (Option Addr × Nat) × List En, EsOf q.2 Λ ∧ sep [gc9 y w Λ.base Λ.snap (.slice q.1.1 q.2.length q.1.2) Λ.acc Λ.cur Λ.doubt, es9 (.slice q.1.1 q.2.length q.1.2) q.2, bigR entR q.2] h) :: ([rlR w x ω, dsR x δ, p] ++ F)) W := hs
 obtain ⟨q, h1, h2, hd, a1, a2, ⟨hE, hp⟩, hL⟩ := sep_ex hs'
 have hs1 : St ([gc9 y w Λ.base Λ.snap (.slice q.1.1 q.2.length q.1.2) Λ.acc Λ.cur Λ.doubt, es9 (.slice q.1.1 q.2.length q.1.2) q.2, bigR entR q.2] ++ ([rlR w x ω, dsR x δ, p] ++ F)) W := sep_join hd a1 a2 hp hL
 have hs2 : St ([gc9 y w Λ.base Λ.snap (.slice q.1.1 q.2.length q.1.2) Λ.acc Λ.cur Λ.doubt, rlR w x ω, dsR x δ, p] ++ (es9 (.slice q.1.1 q.2.length q.1.2) q.2 :: bigR entR q.2 :: F)) W := hs1.picks (by repeat' constructor)
 refine (r9installO_spec y w x δ ω Λ _ z snap va l p hI hab hW ha hb9 hz hcells hll hx _ W hs2).mono ?_
 rintro e w' ⟨v, L, ⟨hv, hL⟩, he, hs3, hk⟩
 rcases hL with ⟨h0, rfl⟩ | ⟨h0, a, c, es, hE', rfl⟩
 ·refine ⟨v, _, ⟨hv, rfl⟩, he, ?_, hk⟩
  obtain ⟨i1, i2, i3, i4, i5, i6⟩ := install_no h0
  have hs4 : St ([gc9 y w Λ.base Λ.snap (.slice q.1.1 q.2.length q.1.2) Λ.acc Λ.cur (lgInstall ⟨δ, ω, Λ⟩ z snap l).1.Λ.doubt, es9 (.slice q.1.1 q.2.length q.1.2) q.2, bigR entR q.2] ++ ([rlR w x (lgInstall ⟨δ, ω, Λ⟩ z snap l).1.ω, dsR x (lgInstall ⟨δ, ω, Λ⟩ z snap l).1.δ, p] ++ F)) w' := hs3.picks (by repeat' constructor)
  refine sep_imp (fun hp hq => ⟨q, ⟨by rw [i5]; exact hE.b, by rw [i6]; exact hE.z, hE.n, hE.k⟩, ?_⟩) (sep_fold hs4)
  rw [i1, i2, i3, i4]; exact hq
 ·refine ⟨v, _, ⟨hv, rfl⟩, he, ?_, hk⟩
  have hs4 : St ([es9 (.slice q.1.1 q.2.length q.1.2) q.2, bigR entR q.2] ++ ([gc9 y w (lgInstall ⟨δ, ω, Λ⟩ z snap l).1.Λ.base (lgInstall ⟨δ, ω, Λ⟩ z snap l).1.Λ.snap (.slice a es.length c) (lgInstall ⟨δ, ω, Λ⟩ z snap l).1.Λ.acc (lgInstall ⟨δ, ω, Λ⟩ z snap l).1.Λ.cur (lgInstall ⟨δ, ω, Λ⟩ z snap l).1.Λ.doubt, es9 (.slice a es.length c) es, bigR entR es, rlR w x (lgInstall ⟨δ, ω, Λ⟩ z snap l).1.ω, dsR x (lgInstall ⟨δ, ω, Λ⟩ z snap l).1.δ, p] ++ F)) w' := hs3.picks (by repeat' constructor)
  have hs4 : St ([gc9 y w (lgInstall ⟨δ, ω, Λ⟩ z snap l).1.Λ.base (lgInstall ⟨δ, ω, Λ⟩ z snap l).1.Λ.snap (.slice a es.length c) (lgInstall ⟨δ, ω, Λ⟩ z snap l).1.Λ.acc (lgInstall ⟨δ, ω, Λ⟩ z snap l).1.Λ.cur (lgInstall ⟨δ, ω, Λ⟩ z snap l).1.Λ.doubt, es9 (.slice a es.length c) es, bigR entR es] ++ ([rlR w x (lgInstall ⟨δ, ω, Λ⟩ z snap l).1.ω, dsR x (lgInstall ⟨δ, ω, Λ⟩ z snap l).1.δ, p] ++ F)) w' := hs4.tail.tail
  exact sep_imp (fun hp hq => ⟨((a, c), es), hE', hq⟩) (sep_fold hs4)
theorem r9compact_spec (y w x : Nat) (δ : Dk) (ω : Wl) (Λ : Lg) (z : Int) (snap : Bs) (hI : WlI δ ω) (hab : (0 ≤ ω.a ∧ ω.a ≤ 9223372036854775807) ∧ (0 ≤ ω.b ∧ ω.b ≤ 9223372036854775807)) (hW : LgW Λ) (ha : ω.a = Λ.acc) (hb9 : ω.b = Λ.cur) : Fn Tryz.prog 149 #[vptr y, vint z, vstr snap] [rgR y w Λ, rlR w x ω, dsR x δ] fun v L => v = vint (lgCompact ⟨δ, ω, Λ⟩ z snap).2 ∧ L = [rgR y w (lgCompact ⟨δ, ω, Λ⟩ z snap).1.Λ, rlR w x (lgCompact ⟨δ, ω, Λ⟩ z snap).1.ω, dsR x (lgCompact ⟨δ, ω, Λ⟩ z snap).1.δ] := by
 refine Fn.intro Tryz.func149 rfl rfl fun F W => ?_
 refine .rgOpen (y := y) (by repeat' constructor) fun a c es hE => ?_
 have hel := hE.len
 have hen := hE.n
 refine .sr (.an rfl (.seq (.sm rfl (.nf rfl fo_129_6 (.u (.ld rfl ag_4) (.nt (.condB rfl (fun h12 => ?_) (fun h12 => ?_))))))))
 ·refine .sr (.an rfl (.rt ?_))
  have hr : lgCompact ⟨δ, ω, Λ⟩ z snap = (⟨δ, ω, Λ⟩, 2) := by unfold lgCompact; dsimp only; rw [if_pos h12]
  rw [hr]
  try dsimp only
  refine .rg (y := y) (w := w) (Λ) (a) (c) (es) (hE) ?_
  exact .vv
 refine .sk (.seq (.sm rfl (.q (.strlen rfl Tryz.underlying9 rfl) rfl (.ui rfl rfl rfl (.nt (.condD rfl (fun h15 => ?_) (fun h15 => ?_)))))))
 ·refine .sr (.an rfl (.rt ?_))
  have hr : lgCompact ⟨δ, ω, Λ⟩ z snap = (⟨δ, ω, Λ⟩, 1) := by unfold lgCompact; dsimp only; rw [if_neg (by rw [h12]; decide), if_pos (by omega)]
  rw [hr]
  try dsimp only
  refine .rg (y := y) (w := w) (Λ) (a) (c) (es) (hE) ?_
  exact .vv
 refine .sk (.sm rfl (.m rfl (.oq (.c Tryz.func185 [_, _] (r9place_spec y w Λ a c es z hE)) ?_)))
 rintro v L' ⟨⟨n, hpl, hne, rfl⟩ | ⟨hpl, rfl⟩, rfl⟩
 ·refine .m rfl (.u (.extract rfl rfl) (.u (.extract rfl rfl) (.a rfl (.an rfl (.seq (.sm rfl (.q (.as (v' := .bool false) (by rfl) (.not rfl)) rfl (.nt (.condF rfl (.sk (.seq (.slAddr (T := 38) (sz := 11) (a := a) (c := c) (by repeat' constructor) fun hcap hra => (.fold (p := sep [es9 (.slice a es.length c) es, bigR entR es]) (q := [es9 (.slice a es.length c) es, bigR entR es]) (by repeat' constructor) (fun _ hp => hp) ?_)))))))))))))
  obtain ⟨po1, po2⟩ := place_ok hW hpl
  have hXX : ∀ e ∈ es.drop n, EnX (sep [es9 (.slice a es.length c) es, bigR entR es]) e := fun e he => by have he2 := List.mem_of_mem_drop he; obtain ⟨hk9, hg9⟩ := hE.k e he2; exact EnK.x9 (EnL.weak (fun h hp => by obtain ⟨g1, g2, -, le1, le2, q1, q2⟩ := hp; obtain ⟨g3, g4, -, le3, le4, q3, -⟩ := q2; exact ⟨g3, fun b o hb => le2 b o (le3 b o hb), q3⟩) (entL he2 hk9 hg9)) hk9
  refine .region (.m rfl (.m rfl (.m rfl (.m rfl (.nf rfl fo_129_3 (.u (.ld rfl ag_22) (.m rfl (.q (.to (v' := (.slice (cutG a c n 11) (es.length - n) (c - n))) (.slFromG (i := (n : Int)) rfl el_22 rfl (by omega)) (by rw [Int.toNat_natCast])) rfl (.oq (.c Tryz.func148 [_, _, _, _] (r9installO_spec y w x δ ω Λ (.slice a es.length c) z snap (.slice (cutG a c n 11) (es.length - n) (c - n)) (es.drop n) (sep [es9 (.slice a es.length c) es, bigR entR es]) hI hab hW ha hb9 ?hz26 ?hcells27 ?hll28 hXX)) ?_)))))))))
  case hz26 => unfold I64; omega
  case hcells27 => exact fun h hp => by obtain ⟨g1, g2, -, le1, le2, q1, q2⟩ := hp; rw [List.length_drop]; exact rdS_mono (ent_suffix hne g1 q1) le1
  case hll28 => rw [List.length_drop]; omega
  rintro v L' ⟨rfl, ⟨h0, rfl⟩ | ⟨h0, aq, cq, eq9, hEq, rfl⟩⟩
  ·refine .an rfl (.ret ?_)
   have hr : lgCompact ⟨δ, ω, Λ⟩ z snap = lgInstall ⟨δ, ω, Λ⟩ z snap (es.drop n) := by rw [install_rows hE hW (by simpa using h12) hpl (by omega)]; unfold lgCompact; dsimp only; rw [if_neg (by rw [h12]; decide), if_neg (by omega), hpl]
   rw [hr]
   obtain ⟨i1, i2, i3, i4, i5, i6⟩ := install_no h0
   refine .focus (p := sep [es9 (.slice a es.length c) es, bigR entR es]) (by repeat' constructor) (.unfold (q := [es9 (.slice a es.length c) es, bigR entR es]) (fun _ hp => hp) ?_)
   simp only [List.cons_append, List.nil_append]
   refine .rgFold (y := y) (w := w) ((lgInstall ⟨δ, ω, Λ⟩ z snap (es.drop n)).1.Λ) (a) (c) (es) (by repeat' constructor) (⟨by rw [i5]; exact hE.b, by rw [i6]; exact hE.z, hE.n, hE.k⟩) (by rw [i1, i2, i3, i4]) rfl rfl rfl ?_
   exact .vv
  refine .an rfl (.ret ?_)
  have hr : lgCompact ⟨δ, ω, Λ⟩ z snap = lgInstall ⟨δ, ω, Λ⟩ z snap (es.drop n) := by rw [install_rows hE hW (by simpa using h12) hpl (by omega)]; unfold lgCompact; dsimp only; rw [if_neg (by rw [h12]; decide), if_neg (by omega), hpl]
  rw [hr]
  refine .rg (y := y) (w := w) ((lgInstall ⟨δ, ω, Λ⟩ z snap (es.drop n)).1.Λ) (aq) (cq) (eq9) (hEq) ?_
  exact .vv
 refine .m rfl (.u (.extract rfl rfl) (.u (.extract rfl rfl) (.a rfl (.an rfl (.seq (.sm rfl (.q (.as (v' := .bool true) (by rfl) (.not rfl)) rfl (.nt (.condT rfl (.sr (.an rfl (.rt ?_))))))))))))
 have hr : lgCompact ⟨δ, ω, Λ⟩ z snap = (⟨δ, ω, Λ⟩, 81) := by unfold lgCompact; dsimp only; rw [if_neg (by rw [h12]; decide), if_neg (by omega), hpl]
 rw [hr]
 try dsimp only
 refine .rg (y := y) (w := w) (Λ) (a) (c) (es) (hE) ?_
 exact .vv
def over77 : Ac := (77, [])
def pt77 : Pt := ⟨77, [], [], .slice none 0 0, [], 0, 0, 0, .slice none 0 0⟩
def growV : Value → Value
 | .slice a n c => .slice a (n + 1) c
 | v => v
def wA (y : Pt) (v : Value) : Pt := ⟨y.kind, y.path, y.data, v, y.acl, y.own, y.num, y.err, y.subsV⟩
def wS (y : Pt) (v : Value) : Pt := ⟨y.kind, y.path, y.data, y.aclV, y.acl, y.own, y.num, y.err, v⟩
def lentL (T : TypeId) (sz : Nat) (v : Value) (n : Nat) (xs : List Value) : HP := fun h => (∃ b c, n + 1 ≤ c ∧ v = .slice (some ⟨b, 0, none⟩) n c) ∧ slR T sz (growV v) (n + 1) xs h
def lentA (y : Pt) : HP := lentL 210 2 y.aclV y.acl.length ((y.acl ++ [over77]).flatMap acC)
def lentS (e : En) : HP := lentL 36 8 e.x.subsV e.subs.length ((e.subs ++ [pt77]).flatMap ptC)
theorem slR_rd_to {T : TypeId} {sz n k c : Nat} {a : Option Addr} {xs : List Value} {h : Hp} (hk : k ≤ n) (hp : slR T sz (.slice a n c) n xs h) : rdS sz h (.slice a k c) k (xs.take (k * sz)) := by
 rcases hp with ⟨h1, h2, h3⟩ | ⟨b, cap, rest, fr, hv, hb, h1, h2, h3, h4⟩
 ·subst h2; subst h3
  obtain rfl : k = 0 := by omega
  exact .inl ⟨rfl, by simp, a, c, rfl⟩
 ·simp only [Value.slice.injEq, true_and] at hv
  obtain ⟨rfl, rfl⟩ := hv
  have hm := Nat.mul_le_mul_right sz hk
  refine .inr ⟨b, 0, c, xs ++ rest, T, fr, rfl, hb, ?_, by simp; omega, by omega⟩
  rw [List.drop_zero, List.take_append_of_le_length (by omega)]
theorem lent_rd {T : TypeId} {sz n : Nat} {v : Value} {xs ys : List Value} {h : Hp} (hl : xs.length = n * sz) (hs : lentL T sz v n (xs ++ ys) h) : rdS sz h v n xs := by
 obtain ⟨⟨b, c, hc, rfl⟩, hs⟩ := hs
 have q := slR_rd_to (k := n) (n := n + 1) (by omega) hs
 rwa [← hl, List.take_left] at q
theorem lentA_rd {y : Pt} {h : Hp} (hs : lentA y h) : rdS 2 h y.aclV y.acl.length (y.acl.flatMap acC) := by
 unfold lentA at hs; rw [List.flatMap_append] at hs
 exact lent_rd (flatMap_len (fun _ _ => rfl)) hs
theorem lentS_rd {e : En} {h : Hp} (hs : lentS e h) : rdS 8 h e.x.subsV e.subs.length (e.subs.flatMap ptC) := by
 unfold lentS at hs; rw [List.flatMap_append] at hs
 exact lent_rd (flatMap_len (fun _ _ => rfl)) hs
theorem OpSpec.shapedS {P : Program} {E : Env} {o : Oper} {pre R : List HP} {e : TypeId} {sz k : Nat} {ys : List Value} (hk : 0 < k) (h : OpSpec P o E pre fun v L' => (∃ a c, v = .slice a k c) ∧ L' = slR e sz v k ys :: R) :
  OpSpec P o E pre fun v L' => ∃ b c, k ≤ c ∧ v = .slice (some ⟨b, 0, none⟩) k c ∧ L' = slR e sz v k ys :: R := by
 intro ρ w F ha hs
 refine (h ρ w F ha hs).mono ?_
 rintro v w' ⟨L', ⟨-, rfl⟩, hs', hk'⟩
 obtain ⟨h1, -, hp⟩ := sep_head hs'
 rcases hp with ⟨-, h2, -⟩ | ⟨b, cap, rest, fr, hv, -, -, -, h4, -⟩
 ·omega
 ·exact ⟨_, ⟨b, cap, h4, hv, rfl⟩, hs', hk'⟩
theorem slR_up {T : TypeId} {sz n : Nat} {v : Value} {xs : List Value} {h h' : Hp} (hs : slR T sz v n xs h) (hle : ∀ b o, h b = some o → h' b = some o) : slR T sz v n xs h' := by
 rcases hs with hs | ⟨b, cap, rest, fr, hv, hb, h1⟩
 ·exact .inl hs
 ·exact .inr ⟨b, cap, rest, fr, hv, hle _ _ hb, h1⟩
section
variable {W : World} {n : Nat} {ds : List Deferred} {E : Env} {L R : List HP} {X : Act → World → Prop}
theorem G.lentFold (y : Pt) {b c : Nat} {xs : List Value} (hL : Pick (slR 210 2 (.slice (some ⟨b, 0, none⟩) (y.acl.length + 1) c) (y.acl.length + 1) xs) L R) (hc : y.acl.length + 1 ≤ c) (hv : y.aclV = .slice (some ⟨b, 0, none⟩) y.acl.length c)
  (hx : xs = y.acl.flatMap acC ++ acC over77) (h : G W n ds E (lentA y :: R) X) : G W n ds E L X := by
 refine G.fold (p := lentA y) (.cons hL .nil) (fun w hw => ?_) h
 obtain ⟨h1, a1, p1⟩ := sep_head hw
 have p2 := slR_up p1 a1
 refine ⟨⟨b, c, hc, hv⟩, ?_⟩
 rw [hv, List.flatMap_append]
 subst hx
 simpa [growV] using p2
theorem G.lentFoldS (e : En) {b c : Nat} {xs : List Value} (hL : Pick (slR 36 8 (.slice (some ⟨b, 0, none⟩) (e.subs.length + 1) c) (e.subs.length + 1) xs) L R) (hc : e.subs.length + 1 ≤ c) (hv : e.x.subsV = .slice (some ⟨b, 0, none⟩) e.subs.length c)
  (hx : xs = e.subs.flatMap ptC ++ ptC pt77) (h : G W n ds E (lentS e :: R) X) : G W n ds E L X := by
 refine G.fold (p := lentS e) (.cons hL .nil) (fun w hw => ?_) h
 obtain ⟨h1, a1, p1⟩ := sep_head hw
 have p2 := slR_up p1 a1
 refine ⟨⟨b, c, hc, hv⟩, ?_⟩
 rw [hv, List.flatMap_append]
 subst hx
 simpa [growV] using p2
theorem G.lentOpen {T : TypeId} {sz m : Nat} {v : Value} {xs : List Value} (hL : Pick (lentL T sz v m xs) L R) (h : ∀ b c, m + 1 ≤ c → v = .slice (some ⟨b, 0, none⟩) m c → G W n ds E (slR T sz (.slice (some ⟨b, 0, none⟩) (m + 1) c) (m + 1) xs :: R) X) : G W n ds E L X := by
 intro a w he hk hs
 obtain ⟨h1, -, hp⟩ := sep_head (hs.pick hL)
 obtain ⟨⟨b, c, hc, hv⟩, -⟩ := hp
 refine h b c hc hv a w he hk (sep_imp (fun w' hw => ?_) (hs.pick hL))
 obtain ⟨⟨b', c', hc', hv'⟩, hq⟩ := hw
 rw [hv] at hq
 exact hq
end
theorem over_at (l : List Ac) {n : Nat} (hn : n = l.length) : ((l ++ [over77]).flatMap acC)[n * 2 + 0]? = some (vint 77) := by
 subst hn
 rw [fm_cell (f := acC) (sz := 2) (fun _ _ => rfl) (by simp) (by decide)]
 simp [over77, acC]
theorem overS_at (l : List Pt) {n : Nat} (hn : n = l.length) : ((l ++ [pt77]).flatMap ptC)[n * 8 + 0]? = some (vint 77) := by
 subst hn
 rw [fm_cell (f := ptC) (sz := 8) (fun _ _ => rfl) (by simp) (by decide)]
 simp [pt77, ptC]
def own9 (e : En) (av sv : Value) : En := ⟨e.zx, e.ses, e.xid, wS (wA e.x av) sv, e.subs⟩
def len9 (e : En) : HP := sep [lentA e.x, lentS e]
theorem own_cells (e : En) {a a' : Option Addr} {n c n' c' : Nat} : ∀ v ∈ enC (own9 e (.slice a n c) (.slice a' n' c')), isCell v = true := by
 intro v hv
 unfold enC at hv
 rcases List.mem_append.1 hv with hv | hv
 ·simp at hv; rcases hv with rfl | rfl | rfl <;> rfl
 ·exact pt_cells (y := (own9 e (.slice a n c) (.slice a' n' c')).x) rfl rfl v hv
theorem own_L {p q : HP} {e : En} (he : EnX p e) {av sv : Value} (h1 : isCell av = true) (h2 : isCell sv = true) (hq : ∀ h, q h → (rdS 2 h av e.x.acl.length (e.x.acl.flatMap acC) ∧ rdS 8 h sv e.subs.length (e.subs.flatMap ptC)) ∧ ∃ h1, (∀ b o, h1 b = some o → h b = some o) ∧ p h1) : EnX q (own9 e av sv) := by
 obtain ⟨⟨⟨w1, w2, w3, w4⟩, l2, l3, l4, l5⟩, hs⟩ := he
 exact ⟨⟨⟨⟨w1.zx, w1.ses, w1.xid, ⟨w1.x.kind, w1.x.own, w1.x.num, w1.x.err, w1.x.path, w1.x.data, w1.x.many, w1.x.acl⟩, w1.many, w1.subs⟩, fun h hp => (hq h hp).1.1, fun h hp => (hq h hp).1.2, fun y hy h hp => by obtain ⟨-, g1, a1, p1⟩ := hq h hp; exact rdS_mono (w4 y hy g1 p1) a1⟩, l2, l3, ⟨h1, h2⟩, l5⟩, hs⟩
theorem own_X {p : HP} {e : En} (he : EnX p e) {av sv : Value} (h1 : isCell av = true) (h2 : isCell sv = true) : EnX (sep [len9 (own9 e av sv), p]) (own9 e av sv) :=
 own_L he h1 h2 fun h hp => by
  obtain ⟨g1, g2, -, a1, a2, q1, q2⟩ := hp
  obtain ⟨g3, -, -, a3, -, q3, -⟩ := q2
  obtain ⟨g5, g6, -, a5, a6, q5, q6⟩ := q1
  obtain ⟨g7, -, -, a7, -, q7, -⟩ := q6
  exact ⟨⟨rdS_mono (lentA_rd (y := (own9 e av sv).x) q5) fun b o g => a1 _ _ (a5 _ _ g), rdS_mono (lentS_rd (e := own9 e av sv) q7) fun b o g => a1 _ _ (a6 _ _ (a7 _ _ g))⟩, g3, fun b o g => a2 _ _ (a3 _ _ g), q3⟩
theorem append_own (s : Ld) (e : En) (av sv : Value) : lgAppend s (own9 e av sv) = lgAppend s e := rfl
theorem lent_rdP {T : TypeId} {b c k : Nat} {l : List Pt} (hk : k = l.length) : ∀ h : Hp, slR T 8 (.slice (some ⟨b, 0, none⟩) (k + 1) c) (k + 1) ((l ++ [pt77]).flatMap ptC) h → rdS 8 h (.slice (some ⟨b, 0, none⟩) k c) l.length (l.flatMap ptC) := by
 intro h hs
 subst hk
 rw [List.flatMap_append] at hs
 have q := slR_rd_to (k := l.length) (n := l.length + 1) (by omega) hs
 rwa [← show (l.flatMap ptC).length = l.length * 8 from flatMap_len (fun _ _ => rfl), List.take_left] at q
theorem lent_rdX {T : TypeId} {b c k : Nat} {l : List Ac} (hk : k = l.length) : ∀ h : Hp, slR T 2 (.slice (some ⟨b, 0, none⟩) (k + 1) c) (k + 1) ((l ++ [over77]).flatMap acC) h → rdS 2 h (.slice (some ⟨b, 0, none⟩) k c) l.length (l.flatMap acC) := by
 intro h hs
 subst hk
 rw [List.flatMap_append] at hs
 have q := slR_rd_to (k := l.length) (n := l.length + 1) (by omega) hs
 rwa [← show (l.flatMap acC).length = l.length * 2 from flatMap_len (fun _ _ => rfl), List.take_left] at q
theorem G.lentOpen9 {W : World} {n : Nat} {ds : List Deferred} {E : Env} {L R : List HP} {X : Act → World → Prop} {e : En} (hL : Pick (len9 e) L R) (h : G W n ds E (lentA e.x :: lentS e :: R) X) : G W n ds E L X :=
 G.perm hL.perm (G.unfold (q := [lentA e.x, lentS e]) (fun _ hp => hp) h)
theorem Fn.many {P : Program} {f : FuncId} {args : Array Value} {q : List HP} {φ : Value → Prop} (h : Fn P f args [sep q] fun v L => φ v ∧ L = [sep q]) : Fn P f args q fun v L => φ v ∧ L = q := by
 intro F w hs
 refine (h F w (sep_fold hs)).mono ?_
 rintro e w' ⟨v, L, ⟨hv, rfl⟩, he, hs', hk⟩
 exact ⟨v, q, ⟨hv, rfl⟩, he, sep_flat hs', hk⟩
theorem lent9_spec (e : En) (p : HP) (he : EnX p e) : Fn Tryz.prog 141 #[.agg (enC e).toArray] [p] fun v L => ∃ av sv, isCell av = true ∧ isCell sv = true ∧ v = .agg (enC (own9 e av sv)).toArray ∧ L = [len9 (own9 e av sv), p] := by
 refine Fn.intro Tryz.func141 rfl rfl fun F W => ?_
 have hfa := he.l.few.2.1
 have hfs := he.l.few.1
 refine .rdAny (p := p) he.l.w.acl (by repeat' constructor) fun aa ca hav _ => (.rdAny (p := p) he.l.w.subs (by repeat' constructor) fun as1 cs1 hsv _ => ?_)
 have hra : ∀ h : Hp, p h → rdS 2 h (.slice aa e.x.acl.length ca) e.x.acl.length (e.x.acl.flatMap acC) := fun h hp => by have q := he.l.w.acl h hp; rw [hav] at q; exact q
 have hrs : ∀ h : Hp, p h → rdS 8 h (.slice as1 e.subs.length cs1) e.subs.length (e.subs.flatMap ptC) := fun h hp => by have q := he.l.w.subs h hp; rw [hsv] at q; exact q
 refine .sr (.oq (.box rfl) ?_)
 rintro v L' ⟨b1, rfl, rfl⟩
 refine .oq (.allocA ze_38) ?_
 rintro v L' ⟨b2, rfl, rfl⟩
 refine .nil (.ptCast (b := b1) (l' := enC e) (by repeat' constructor) rfl (.then_n (.seq (.add (slR_nil 210 2) (.draw [3, 5, 6, 14] [[0, 1, 2, 4, 7, 8, 9, 10, 3, 5, 6], [11, 12, 13, 14]] mixed (by kernel_rfl) (.go [ptc b1 _ _] (by repeat' constructor) (.k rfl (.fieldAddr rfl fo_38_3) (.k rfl (.fieldAddr rfl fo_36_3) (.k rfl (.to (v' := .slice aa e.x.acl.length ca) (.load rfl ag_33 (by repeat' constructor) rfl) hav) (.k rfl (.to (v' := .agg (acC over77).toArray) (.build (us := [(0, _)]) fl_210 ze_210 rfl rfl (by simp [isCell])) rfl) (.k rfl (.fieldAddr rfl fo_38_3) (.k rfl (.fieldAddr rfl fo_36_3) (.k rfl (.to (v' := .slice aa e.x.acl.length ca) (.load rfl ag_33 (by repeat' constructor) rfl) hav) (.k rfl (.slen rfl Tryz.underlying33 rfl) (.h2 (k := 5) rfl rfl (by kernel_rfl) rfl (.append (n := 0) (m := e.x.acl.length) (ys := e.x.acl.flatMap acC) (p := p) rfl rfl rfl el_33 (.inl ⟨_, Tryz.underlying33⟩) ze_210 rfl rfl ?hc13 hra ?hb14 (by decide)) (by repeat' constructor) (.buildSlice (vs := [_]) el_33 ze_210 rfl rfl rfl rfl (by first | (simp [Value.cells]; done) | (intro v hv; simp only [List.mem_cons, List.not_mem_nil, or_false] at hv; (repeat (first | (subst hv; rfl) | (rcases hv with hv | hv; (subst hv; rfl)))))) (by decide)) (by repeat' constructor) ?_ ?_)))))))))))))))
 case hc13 => intro z hz; obtain ⟨y, -, hz⟩ := List.mem_flatMap.1 hz; simp [acC] at hz; rcases hz with rfl | rfl <;> rfl
 case hb14 => omega
 ·rintro v L' ⟨⟨a3, c3, rfl⟩, rfl⟩; rw [Nat.zero_add, List.nil_append]
  refine D.hh rfl (.buildSlice (vs := [_]) el_33 ze_210 rfl rfl rfl rfl (by first | (simp [Value.cells]; done) | (intro v hv; simp only [List.mem_cons, List.not_mem_nil, or_false] at hv; (repeat (first | (subst hv; rfl) | (rcases hv with hv | hv; (subst hv; rfl)))))) (by decide)) ?_
  rintro v L' ⟨b5, rfl, rfl⟩
  refine D.hh rfl (.shapedS (k := e.x.acl.length + 1) ?hk20 (.append1 rfl rfl rfl el_33 ze_210 rfl rfl ?h121 ?h222 (Nat.le_refl _) ?h323 (by decide))) ?_
  case hk20 => omega
  case h121 => simp only [List.map_cons, List.map_nil, List.flatten_cons, List.flatten_nil, List.append_nil]; simp [Value.cells, acC, isCell]
  case h222 => rfl
  case h323 => omega
  rintro v L' ⟨b6, c6, hc6, rfl, rfl⟩
  refine D.ph (.g0 (.kv rfl (.to (v' := .slice (some ⟨b6, 0, none⟩) e.x.acl.length c6) (.slTo rfl el_33 rfl (by omega) (.inr ⟨_, _, rfl⟩)) (by simp)) (.kv rfl (.fieldAddr rfl fo_38_3) (.kv rfl (.fieldAddr rfl fo_36_3) (.hh rfl (.store rfl rfl rfl sz_33 ?c29 (nfz0 _ _)) ?_)))))
  case c29 => simp [enC, ptC]
  rintro v L' rfl
  refine D.ph (.fin (.ptCast (b := b1) (l' := enC (own9 e (.slice (some ⟨b6, 0, none⟩) e.x.acl.length c6) (.slice as1 e.subs.length cs1))) (by repeat' constructor) (by unfold enC own9 wA wS ptC; rw [← hsv]; exact rfl) (.lentFold (wA e.x (.slice (some ⟨b6, 0, none⟩) e.x.acl.length c6)) (by repeat' constructor) hc6 rfl rfl (.then_n (.sr (.an rfl (.seq (.add (slR_nil 36 8) (.region (.m rfl (.u (.fieldAddr rfl fo_38_3) (.u (.fieldAddr rfl fo_36_7) (.u (.ld rfl ag_34) (.oq (.append (n := 0) (m := e.subs.length) (ys := e.subs.flatMap ptC) (p := p) rfl rfl rfl el_34 (.inl ⟨_, Tryz.underlying34⟩) ze_36 rfl rfl ?hc36 hrs ?hb37 (by decide)) ?_))))))))))))))
  case hc36 => intro z hz; obtain ⟨y, hy, hz⟩ := List.mem_flatMap.1 hz; exact pt_cells (he.l.cs y hy).1 (he.l.cs y hy).2 z hz
  case hb37 => omega
  rintro v L' ⟨⟨a4, c4, rfl⟩, rfl⟩; rw [Nat.zero_add, List.nil_append]
  refine .an rfl (.sm rfl (.q (.to (v' := .agg (ptC pt77).toArray) (.build (us := [(0, _)]) fl_36 ze_36 rfl rfl (by simp [isCell])) rfl) rfl (.oq (.buildSlice (vs := [_]) el_34 ze_36 rfl rfl rfl rfl (by first | (simp [Value.cells]; done) | (intro v hv; simp only [List.mem_cons, List.not_mem_nil, or_false] at hv; (repeat (first | (subst hv; rfl) | (rcases hv with hv | hv; (subst hv; rfl)))))) (by decide)) ?_)))
  rintro v L' ⟨b9, rfl, rfl⟩
  refine .oq (.shapedS (k := e.subs.length + 1) ?hk43 (.append1 rfl rfl rfl el_34 ze_36 rfl rfl ?h144 ?h245 (Nat.le_refl _) ?h346 (by decide))) ?_
  case hk43 => omega
  case h144 => simp only [List.map_cons, List.map_nil, List.flatten_cons, List.flatten_nil, List.append_nil]; simp [Value.cells, ptC, pt77, isCell]
  case h245 => rfl
  case h346 => omega
  rintro v L' ⟨b10, c10, hc10, rfl, rfl⟩
  refine .m rfl (.q (.slen rfl Tryz.underlying34 rfl) rfl (.q (.to (v' := .slice (some ⟨b10, 0, none⟩) e.subs.length c10) (.slTo rfl el_34 rfl (by omega) (.inr ⟨_, _, rfl⟩)) (by simp)) rfl (.u (.fieldAddr rfl fo_38_3) (.u (.fieldAddr rfl fo_36_7) (.oq (.store rfl rfl rfl sz_34 ?c53 (nfz0 _ _)) ?_)))))
  case c53 => simp [enC, ptC]
  rintro v L' rfl
  refine .nil (.ptCast (b := b1) (l' := enC (own9 e (.slice (some ⟨b6, 0, none⟩) e.x.acl.length c6) (.slice (some ⟨b10, 0, none⟩) e.subs.length c10))) (by repeat' constructor) (by exact rfl) (.lentFoldS (own9 e (.slice (some ⟨b6, 0, none⟩) e.x.acl.length c6) (.slice (some ⟨b10, 0, none⟩) e.subs.length c10)) (by repeat' constructor) hc10 rfl rfl (.then_n (.sr (.q (.loadAs (vs := enC (own9 e (.slice (some ⟨b6, 0, none⟩) e.x.acl.length c6) (.slice (some ⟨b10, 0, none⟩) e.subs.length c10))) rfl ag_38 (by repeat' constructor) (by simp [enC, ptC]) rfl) rfl (.oq (.storeA rfl rfl ?c57 sz_38 ?c60 ?c58 (nfz0 _ _)) ?_))))))
  case c57 => exact own_cells e
  case c60 => rfl
  case c58 => simp [enC, ptC]
  rintro v L' rfl
  refine .nil (.ptCast (b := b2) (l' := enC (own9 e (.slice (some ⟨b6, 0, none⟩) e.x.acl.length c6) (.slice (some ⟨b10, 0, none⟩) e.subs.length c10))) (by repeat' constructor) (by exact rfl) (.then_n (.ret (.fold (p := len9 (own9 e (.slice (some ⟨b6, 0, none⟩) e.x.acl.length c6) (.slice (some ⟨b10, 0, none⟩) e.subs.length c10))) (.cons (p := lentA (wA e.x (.slice (some ⟨b6, 0, none⟩) e.x.acl.length c6))) (by repeat' constructor) (.cons (p := lentS (own9 e (.slice (some ⟨b6, 0, none⟩) e.x.acl.length c6) (.slice (some ⟨b10, 0, none⟩) e.subs.length c10))) (by repeat' constructor) .nil)) (fun h hp => hp) ?_))))
  exact .d1 rfl (.cellA rfl ag_38 (by repeat' constructor) (by simp [enC, ptC]) rfl) ⟨(.slice (some ⟨b6, 0, none⟩) e.x.acl.length c6), (.slice (some ⟨b10, 0, none⟩) e.subs.length c10), rfl, rfl, rfl, rfl⟩
 rintro v L' ⟨b5, rfl, rfl⟩
 refine D.hh rfl (.append (n := 0) (m := e.x.acl.length) (ys := e.x.acl.flatMap acC) (p := p) rfl rfl rfl el_33 (.inl ⟨_, Tryz.underlying33⟩) ze_210 rfl rfl ?hc63 hra ?hb64 (by decide)) ?_
 case hc63 => intro z hz; obtain ⟨y, -, hz⟩ := List.mem_flatMap.1 hz; simp [acC] at hz; rcases hz with rfl | rfl <;> rfl
 case hb64 => omega
 rintro v L' ⟨⟨a3, c3, rfl⟩, rfl⟩; rw [Nat.zero_add, List.nil_append]
 refine D.hh rfl (.shapedS (k := e.x.acl.length + 1) ?hk67 (.append1 rfl rfl rfl el_33 ze_210 rfl rfl ?h168 ?h269 (Nat.le_refl _) ?h370 (by decide))) ?_
 case hk67 => omega
 case h168 => simp only [List.map_cons, List.map_nil, List.flatten_cons, List.flatten_nil, List.append_nil]; simp [Value.cells, acC, isCell]
 case h269 => rfl
 case h370 => omega
 rintro v L' ⟨b6, c6, hc6, rfl, rfl⟩
 refine D.ph (.g0 (.kv rfl (.to (v' := .slice (some ⟨b6, 0, none⟩) e.x.acl.length c6) (.slTo rfl el_33 rfl (by omega) (.inr ⟨_, _, rfl⟩)) (by simp)) (.kv rfl (.fieldAddr rfl fo_38_3) (.kv rfl (.fieldAddr rfl fo_36_3) (.hh rfl (.store rfl rfl rfl sz_33 ?c76 (nfz0 _ _)) ?_)))))
 case c76 => simp [enC, ptC]
 rintro v L' rfl
 refine D.ph (.fin (.ptCast (b := b1) (l' := enC (own9 e (.slice (some ⟨b6, 0, none⟩) e.x.acl.length c6) (.slice as1 e.subs.length cs1))) (by repeat' constructor) (by unfold enC own9 wA wS ptC; rw [← hsv]; exact rfl) (.lentFold (wA e.x (.slice (some ⟨b6, 0, none⟩) e.x.acl.length c6)) (by repeat' constructor) hc6 rfl rfl (.then_n (.sr (.an rfl (.seq (.add (slR_nil 36 8) (.region (.m rfl (.u (.fieldAddr rfl fo_38_3) (.u (.fieldAddr rfl fo_36_7) (.u (.ld rfl ag_34) (.oq (.append (n := 0) (m := e.subs.length) (ys := e.subs.flatMap ptC) (p := p) rfl rfl rfl el_34 (.inl ⟨_, Tryz.underlying34⟩) ze_36 rfl rfl ?hc83 hrs ?hb84 (by decide)) ?_))))))))))))))
 case hc83 => intro z hz; obtain ⟨y, hy, hz⟩ := List.mem_flatMap.1 hz; exact pt_cells (he.l.cs y hy).1 (he.l.cs y hy).2 z hz
 case hb84 => omega
 rintro v L' ⟨⟨a4, c4, rfl⟩, rfl⟩; rw [Nat.zero_add, List.nil_append]
 refine .an rfl (.sm rfl (.q (.to (v' := .agg (ptC pt77).toArray) (.build (us := [(0, _)]) fl_36 ze_36 rfl rfl (by simp [isCell])) rfl) rfl (.oq (.buildSlice (vs := [_]) el_34 ze_36 rfl rfl rfl rfl (by first | (simp [Value.cells]; done) | (intro v hv; simp only [List.mem_cons, List.not_mem_nil, or_false] at hv; (repeat (first | (subst hv; rfl) | (rcases hv with hv | hv; (subst hv; rfl)))))) (by decide)) ?_)))
 rintro v L' ⟨b9, rfl, rfl⟩
 refine .oq (.shapedS (k := e.subs.length + 1) ?hk90 (.append1 rfl rfl rfl el_34 ze_36 rfl rfl ?h191 ?h292 (Nat.le_refl _) ?h393 (by decide))) ?_
 case hk90 => omega
 case h191 => simp only [List.map_cons, List.map_nil, List.flatten_cons, List.flatten_nil, List.append_nil]; simp [Value.cells, ptC, pt77, isCell]
 case h292 => rfl
 case h393 => omega
 rintro v L' ⟨b10, c10, hc10, rfl, rfl⟩
 refine .m rfl (.q (.slen rfl Tryz.underlying34 rfl) rfl (.q (.to (v' := .slice (some ⟨b10, 0, none⟩) e.subs.length c10) (.slTo rfl el_34 rfl (by omega) (.inr ⟨_, _, rfl⟩)) (by simp)) rfl (.u (.fieldAddr rfl fo_38_3) (.u (.fieldAddr rfl fo_36_7) (.oq (.store rfl rfl rfl sz_34 ?c100 (nfz0 _ _)) ?_)))))
 case c100 => simp [enC, ptC]
 rintro v L' rfl
 refine .nil (.ptCast (b := b1) (l' := enC (own9 e (.slice (some ⟨b6, 0, none⟩) e.x.acl.length c6) (.slice (some ⟨b10, 0, none⟩) e.subs.length c10))) (by repeat' constructor) (by exact rfl) (.lentFoldS (own9 e (.slice (some ⟨b6, 0, none⟩) e.x.acl.length c6) (.slice (some ⟨b10, 0, none⟩) e.subs.length c10)) (by repeat' constructor) hc10 rfl rfl (.then_n (.sr (.q (.loadAs (vs := enC (own9 e (.slice (some ⟨b6, 0, none⟩) e.x.acl.length c6) (.slice (some ⟨b10, 0, none⟩) e.subs.length c10))) rfl ag_38 (by repeat' constructor) (by simp [enC, ptC]) rfl) rfl (.oq (.storeA rfl rfl ?c104 sz_38 ?c107 ?c105 (nfz0 _ _)) ?_))))))
 case c104 => exact own_cells e
 case c107 => rfl
 case c105 => simp [enC, ptC]
 rintro v L' rfl
 refine .nil (.ptCast (b := b2) (l' := enC (own9 e (.slice (some ⟨b6, 0, none⟩) e.x.acl.length c6) (.slice (some ⟨b10, 0, none⟩) e.subs.length c10))) (by repeat' constructor) (by exact rfl) (.then_n (.ret (.fold (p := len9 (own9 e (.slice (some ⟨b6, 0, none⟩) e.x.acl.length c6) (.slice (some ⟨b10, 0, none⟩) e.subs.length c10))) (.cons (p := lentA (wA e.x (.slice (some ⟨b6, 0, none⟩) e.x.acl.length c6))) (by repeat' constructor) (.cons (p := lentS (own9 e (.slice (some ⟨b6, 0, none⟩) e.x.acl.length c6) (.slice (some ⟨b10, 0, none⟩) e.subs.length c10))) (by repeat' constructor) .nil)) (fun h hp => hp) ?_))))
 exact .d1 rfl (.cellA rfl ag_38 (by repeat' constructor) (by simp [enC, ptC]) rfl) ⟨(.slice (some ⟨b6, 0, none⟩) e.x.acl.length c6), (.slice (some ⟨b10, 0, none⟩) e.subs.length c10), rfl, rfl, rfl, rfl⟩
theorem r2own_spec (e : En) (p : HP) (he : EnX p e) {av sv : Value} {ba ca1 bs cs2 : Nat} (hba : av = (.slice (some ⟨ba, 0, none⟩) e.x.acl.length ca1)) (hbs : sv = (.slice (some ⟨bs, 0, none⟩) e.subs.length cs2)) : Fn Tryz.prog 77 #[.agg (enC (own9 e av sv)).toArray] [slR 210 2 (.slice (some ⟨ba, 0, none⟩) (e.x.acl.length + 1) ca1) (e.x.acl.length + 1) ((e.x.acl ++ [over77]).flatMap acC), slR 36 8 (.slice (some ⟨bs, 0, none⟩) (e.subs.length + 1) cs2) (e.subs.length + 1) ((e.subs ++ [pt77]).flatMap ptC), p] fun v L => v = vstr (enB e) ∧ L = [slR 210 2 (.slice (some ⟨ba, 0, none⟩) (e.x.acl.length + 1) ca1) (e.x.acl.length + 1) ((e.x.acl ++ [over77]).flatMap acC), slR 36 8 (.slice (some ⟨bs, 0, none⟩) (e.subs.length + 1) cs2) (e.subs.length + 1) ((e.subs ++ [pt77]).flatMap ptC), p] := by
 refine Fn.many (r2put_spec (own9 e av sv) (sep [slR 210 2 (.slice (some ⟨ba, 0, none⟩) (e.x.acl.length + 1) ca1) (e.x.acl.length + 1) ((e.x.acl ++ [over77]).flatMap acC), slR 36 8 (.slice (some ⟨bs, 0, none⟩) (e.subs.length + 1) cs2) (e.subs.length + 1) ((e.subs ++ [pt77]).flatMap ptC), p]) ((own_L he (by rw [hba]; rfl) (by rw [hbs]; rfl) fun h hp => ?_).l))
 obtain ⟨g1, g2, -, a1, a2, q1, q2⟩ := hp
 obtain ⟨g3, g4, -, a3, a4, q3, q4⟩ := q2
 obtain ⟨g5, -, -, a5, -, q5, -⟩ := q4
 refine ⟨⟨?_, ?_⟩, g5, fun b o g => a2 _ _ (a4 _ _ (a5 _ _ g)), q5⟩
 ·rw [hba]; exact rdS_mono (lent_rdX rfl _ q1) a1
 ·rw [hbs]; exact rdS_mono (lent_rdP rfl _ q3) fun b o g => a2 _ _ (a3 _ _ g)
set_option maxHeartbeats 1000000 in
theorem kept9_spec (e : En) (p : HP) (he : EnX p e) (av sv : Value) : Fn Tryz.prog 142 #[.agg (enC (own9 e av sv)).toArray, .agg (enC e).toArray] [len9 (own9 e av sv), p] fun r L => r = .bool true ∧ L = [p] := by
 refine Fn.intro Tryz.func142 rfl rfl fun F W => ?_
 have hfa := he.l.few.2.1
 have hfs := he.l.few.1
 refine .rdAny (p := p) he.l.w.acl (by repeat' constructor) fun aa ca hav _ => (.rdAny (p := p) he.l.w.subs (by repeat' constructor) fun as1 cs1 hsv _ => ?_)
 have hra : ∀ h : Hp, p h → rdS 2 h (.slice aa e.x.acl.length ca) e.x.acl.length (e.x.acl.flatMap acC) := fun h hp => by have q := he.l.w.acl h hp; rw [hav] at q; exact q
 have hrs : ∀ h : Hp, p h → rdS 8 h (.slice as1 e.subs.length cs1) e.subs.length (e.subs.flatMap ptC) := fun h hp => by have q := he.l.w.subs h hp; rw [hsv] at q; exact q
 refine .lentOpen9 (by repeat' constructor) (.lentOpen (T := 210) (sz := 2) (m := e.x.acl.length) (v := av) (xs := ((e.x.acl ++ [over77]).flatMap acC)) (by repeat' constructor) fun ba ca1 hca hba => (.lentOpen (T := 36) (sz := 8) (m := e.subs.length) (v := sv) (xs := ((e.subs ++ [pt77]).flatMap ptC)) (by repeat' constructor) fun bs cs2 hcs hbs => (.sr (.oq (.box rfl) ?_))))
 rintro v L' ⟨b2, rfl, rfl⟩
 refine .oq (.box rfl) ?_
 rintro v L' ⟨b3, rfl, rfl⟩
 refine .a rfl (.nil (.ptCast (b := b2) (l' := enC (own9 e av sv)) (by repeat' constructor) rfl (.ptCast (b := b3) (l' := enC e) (by repeat' constructor) rfl (.then_n (.sr (.u (.fieldAddr rfl fo_38_3) (.u (.fieldAddr rfl fo_36_3) (.q (.to (v' := (.slice aa e.x.acl.length ca)) (.load rfl ag_33 (by repeat' constructor) rfl) hav) rfl (.q (.slen rfl Tryz.underlying33 rfl) rfl (.an rfl (.sr (.u (.fieldAddr rfl fo_38_3) (.u (.fieldAddr rfl fo_36_7) (.q (.to (v' := (.slice as1 e.subs.length cs1)) (.load rfl ag_34 (by repeat' constructor) rfl) hsv) rfl (.q (.slen rfl Tryz.underlying34 rfl) rfl (.an rfl (.seq (.draw [] [[0, 1, 2, 3, 4, 5, 6, 7, 8, 9, 10, 11, 12, 13, 14, 15, 16, 17, 18, 19, 20, 21, 22, 23, 24, 25, 26, 27, 28, 29, 30, 31]] mixed (by kernel_rfl) (.go [ptc b2 _ _, ptc b3 _ _, slR 210 2 (.slice (some ⟨ba, 0, none⟩) (e.x.acl.length + 1) ca1) (e.x.acl.length + 1) _, slR 36 8 (.slice (some ⟨bs, 0, none⟩) (e.subs.length + 1) cs2) (e.subs.length + 1) _, p] (by repeat' constructor) (.kv rfl (.loadAs (vs := enC (own9 e av sv)) rfl ag_38 (by repeat' constructor) (by simp [enC, ptC]) rfl) ?_))))))))))))))))))))
 refine D.m rfl (by kernel_rfl) (.c Tryz.func77 [_] (r2own_spec e p he hba hbs)) (by repeat' constructor) ?_
 refine D.kv rfl (.loadAs (vs := enC e) rfl ag_38 (by repeat' constructor) (by simp [enC, ptC]) rfl) (.m rfl (by kernel_rfl) (.c Tryz.func77 [_] (r2put_spec e p he.l)) (by repeat' constructor) ?_)
 refine D.kv rfl (.as (v' := .bool true) (by simp) (.streq rfl rfl)) (.mv rfl rfl (.gv rfl (.fieldAddr rfl fo_38_3) (.gv rfl (.fieldAddr rfl fo_36_3) (.gv rfl (.to (v' := (.slice (some ⟨ba, 0, none⟩) e.x.acl.length ca1)) (.load rfl ag_33 (by repeat' constructor) rfl) hba) (.gv rfl (.move rfl) (.gv rfl (.add rfl rfl (by omega)) (.gv rfl (.to (v' := (.slice (some ⟨ba, 0, none⟩) (e.x.acl.length + 1) ca1)) (.slTo rfl el_33 rfl (by omega) (.inr ⟨_, _, rfl⟩)) (by simp)) (.gv rfl (.move rfl) (.gv rfl (.indexAddr rfl rfl el_33 (by omega)) (.gv rfl (.fieldAddr rfl fo_210_0) (.gv rfl (.loadRd (sz := 2) (j := e.x.acl.length * 2 + 0) (p := slR 210 2 (.slice (some ⟨ba, 0, none⟩) (e.x.acl.length + 1) ca1) (e.x.acl.length + 1) ((e.x.acl ++ [over77]).flatMap acC)) (v := vint 77) rfl ag_3 (by repeat' constructor) (fun h hp => slR_rd hp) (by omega) (over_at _ rfl)) (.gv rfl (.as (v' := .bool true) (by rfl) (.int rfl rfl rfl)) ?_))))))))))))
 refine D.kv rfl (.pickT rfl rfl) (.mv rfl rfl (.gv rfl (.fieldAddr rfl fo_38_3) (.gv rfl (.fieldAddr rfl fo_36_7) (.gv rfl (.to (v' := (.slice (some ⟨bs, 0, none⟩) e.subs.length cs2)) (.load rfl ag_34 (by repeat' constructor) rfl) hbs) (.gv rfl (.move rfl) (.gv rfl (.add rfl rfl (by omega)) (.gv rfl (.to (v' := (.slice (some ⟨bs, 0, none⟩) (e.subs.length + 1) cs2)) (.slTo rfl el_34 rfl (by omega) (.inr ⟨_, _, rfl⟩)) (by simp)) (.gv rfl (.move rfl) (.gv rfl (.indexAddr rfl rfl el_34 (by omega)) (.gv rfl (.fieldAddr rfl fo_36_0) (.gv rfl (.loadRd (sz := 8) (j := e.subs.length * 8 + 0) (p := slR 36 8 (.slice (some ⟨bs, 0, none⟩) (e.subs.length + 1) cs2) (e.subs.length + 1) ((e.subs ++ [pt77]).flatMap ptC)) (v := vint 77) rfl ag_3 (by repeat' constructor) (fun h hp => slR_rd hp) (by omega) (overS_at _ rfl)) (.gv rfl (.as (v' := .bool true) (by rfl) (.int rfl rfl rfl)) (.kv rfl (.pickT rfl rfl) ?_)))))))))))))
 refine D.kv rfl (.assign rfl) (.pf (.seq (.sr (.an rfl (.block ?_)))))
 have hy0 : ((e.x.acl ++ [over77]).flatMap acC).length = (e.x.acl.length + 1) * 2 := by rw [flatMap_len (sz := 2) (fun _ _ => rfl)]; simp
 refine .loopK (ι := Nat × (List Value)) (fun q E => (8, vint q.1) :: E) (fun q => [slR 210 2 (.slice (some ⟨ba, 0, none⟩) (e.x.acl.length + 1) ca1) (e.x.acl.length + 1) q.2]) (fun q => q.1 ≤ e.x.acl.length + 1 ∧ q.2.length = (e.x.acl.length + 1) * 2) (fun q => e.x.acl.length + 1 - q.1) (0, ((e.x.acl ++ [over77]).flatMap acC)) (ts := [2, 4, 5, 6, 7]) (.cons rfl (.cons rfl (.cons rfl (.cons rfl (.cons rfl (.nil)))))) (⟨Nat.zero_le _, hy0⟩) ⟨rfl, rfl, rfl, rfl, rfl, rfl, trivial⟩ (by repeat' constructor) ?_
 rintro ⟨j, ys⟩ ⟨hj, hyl⟩
 dsimp only
 dsimp only at hj hyl
 refine .seq (.sm rfl (.m rfl (.q (.add rfl rfl (by omega)) rfl (.ui rfl rfl rfl (.nt (.condD rfl (fun h52 => ?_) (fun h52 => ?_)))))))
 ·refine .sk (.seq (.block (.region (.u (.fieldAddr rfl fo_38_3) (.u (.fieldAddr rfl fo_36_3) (.q (.to (v' := (.slice (some ⟨ba, 0, none⟩) e.x.acl.length ca1)) (.load rfl ag_33 (by repeat' constructor) rfl) hba) rfl (.m rfl (.q (.add rfl rfl (by omega)) rfl (.q (.to (v' := (.slice (some ⟨ba, 0, none⟩) (e.x.acl.length + 1) ca1)) (.slTo rfl el_33 rfl (by omega) (.inr ⟨_, _, rfl⟩)) (by simp)) rfl (.m rfl (.q (.to (v' := .agg (acC (-1, [111, 118, 101, 114])).toArray) (.build (us := [(0, _), (1, _)]) fl_210 ze_210 rfl rfl (by simp [isCell])) rfl) rfl (.q (.indexAddr rfl rfl el_33 (by omega)) rfl (.oq (.storeRdA (sz := 2) (j := j * 2) (k := 2) (vs := [vint (-1), vstr [111, 118, 101, 114]]) rfl rfl (by simp [isCell]) sz_210 rfl ?ho53 ?hi54) ?_)))))))))))))
  case ho53 => omega
  case hi54 => omega
  rintro v L' rfl
  refine .nil (.blk_n (.then_n (.region (.m rfl (.q (.add rfl rfl (by omega)) rfl (.an rfl ?_))))))
  exact .rk ((j + 1, spl ys (j * 2) [vint (-1), vstr [111, 118, 101, 114]])) (⟨by dsimp only; omega, by dsimp only; rw [spl_length (by simp; omega)]; exact hyl⟩) (by dsimp only; omega) ⟨rfl, rfl, rfl, rfl, rfl, rfl, trivial⟩
 refine .exit (.then_e (.then_e (.blk_e (.then_n (.seq (.sr (.an rfl (.block ?_))))))))
 have hw0 : ((e.subs ++ [pt77]).flatMap ptC).length = (e.subs.length + 1) * 8 := by rw [flatMap_len (sz := 8) (fun _ _ => rfl)]; simp
 refine .loopK (ι := Nat × (List Value)) (fun q E => (9, vint q.1) :: E) (fun q => [slR 36 8 (.slice (some ⟨bs, 0, none⟩) (e.subs.length + 1) cs2) (e.subs.length + 1) q.2]) (fun q => q.1 ≤ e.subs.length + 1 ∧ q.2.length = (e.subs.length + 1) * 8) (fun q => e.subs.length + 1 - q.1) (0, ((e.subs ++ [pt77]).flatMap ptC)) (ts := [2, 4, 6, 7]) (.cons rfl (.cons rfl (.cons rfl (.cons rfl (.nil))))) (⟨Nat.zero_le _, hw0⟩) ⟨rfl, rfl, rfl, rfl, rfl, trivial⟩ (by repeat' constructor) ?_
 rintro ⟨i, zs⟩ ⟨hi, hzl⟩
 dsimp only
 dsimp only at hi hzl
 refine .seq (.sm rfl (.m rfl (.q (.add rfl rfl (by omega)) rfl (.ui rfl rfl rfl (.nt (.condD rfl (fun h67 => ?_) (fun h67 => ?_)))))))
 ·refine .sk (.seq (.block (.region (.u (.fieldAddr rfl fo_38_3) (.u (.fieldAddr rfl fo_36_7) (.q (.to (v' := (.slice (some ⟨bs, 0, none⟩) e.subs.length cs2)) (.load rfl ag_34 (by repeat' constructor) rfl) hbs) rfl (.m rfl (.q (.add rfl rfl (by omega)) rfl (.q (.to (v' := (.slice (some ⟨bs, 0, none⟩) (e.subs.length + 1) cs2)) (.slTo rfl el_34 rfl (by omega) (.inr ⟨_, _, rfl⟩)) (by simp)) rfl (.m rfl (.q (.to (v' := .agg (ptC (⟨-1, [], [], .slice none 0 0, [], 0, 0, 0, .slice none 0 0⟩ : Pt)).toArray) (.build (us := [(0, _)]) fl_36 ze_36 rfl rfl (by simp [isCell])) rfl) rfl (.q (.indexAddr rfl rfl el_34 (by omega)) rfl (.oq (.storeRdA (sz := 8) (j := i * 8) (k := 8) (vs := ptC (⟨-1, [], [], .slice none 0 0, [], 0, 0, 0, .slice none 0 0⟩ : Pt)) rfl rfl (by simp [ptC, isCell]) sz_36 rfl ?ho72 ?hi73) ?_)))))))))))))
  case ho72 => omega
  case hi73 => omega
  rintro v L' rfl
  refine .nil (.blk_n (.then_n (.region (.m rfl (.q (.add rfl rfl (by omega)) rfl (.an rfl ?_))))))
  exact .rk ((i + 1, spl zs (i * 8) (ptC (⟨-1, [], [], .slice none 0 0, [], 0, 0, 0, .slice none 0 0⟩ : Pt)))) (⟨by dsimp only; omega, by dsimp only; rw [spl_length (by show i * 8 + 8 ≤ _; omega)]; exact hzl⟩) (by dsimp only; omega) ⟨rfl, rfl, rfl, rfl, rfl, trivial⟩
 refine .exit (.then_e (.then_e (.blk_e (.then_n (.sm rfl (.an rfl (.ret ?_)))))))
 exact .vv
structure WK (δ : Dk) (ω : Wl) (N : Int) : Prop where
 size : 2 ≤ δ.now.length ∧ δ.now.length ≤ 32768
 acts : δ.acts ≤ N
 area : 0 ≤ ω.area ∧ ω.area ≤ 1
 count : 0 ≤ ω.count ∧ ω.count ≤ 4294967295
 synced : 0 ≤ ω.synced ∧ ω.synced ≤ ω.recs.length
 fits : ((laidZ ω.recs).length : Int) ≤ 64 * halfZ δ
theorem WK.i {δ : Dk} {ω : Wl} {N : Int} (h : WK δ ω N) (hN : N + 10000000 < 4611686018427387904) : WlI δ ω := ⟨h.size, by have := h.acts; omega, h.area, h.count, h.synced, h.fits⟩
theorem WK.of {δ : Dk} {ω : Wl} (h : WlI δ ω) {N : Int} (hN : δ.acts ≤ N) : WK δ ω N := ⟨h.size, hN, h.area, h.count, h.synced, h.fits⟩
theorem WK.mv {δ δ' : Dk} {ω : Wl} {N M : Int} (h : WK δ ω N) (hl : δ'.now.length = δ.now.length) (ha : δ'.acts ≤ M) : WK δ' ω M := ⟨by rw [hl]; exact h.size, ha, h.area, h.count, h.synced, by rw [halfZ_of hl]; exact h.fits⟩
theorem WK.more {δ : Dk} {ω : Wl} {N M : Int} (h : WK δ ω N) (hN : N ≤ M) : WK δ ω M := h.mv rfl (by have := h.acts; omega)
theorem WK.recs {δ : Dk} {ω : Wl} {N : Int} (h : WK δ ω N) {l : List Bs} {sy ar c a b : Int} {db : Bool} (hs : 0 ≤ sy ∧ sy ≤ l.length) (ha : 0 ≤ ar ∧ ar ≤ 1) (hc : 0 ≤ c ∧ c ≤ 4294967295) (hf : ((laidZ l).length : Int) ≤ 64 * halfZ δ) : WK δ ⟨l, sy, ar, c, a, b, db⟩ N := ⟨h.size, h.acts, ha, hc, hs, hf⟩
theorem wk_dbt {r : Dk × Wl × Int} {N : Int} (h : WK r.1 r.2.1 N) : WK (dbt r).1 (dbt r).2.1 N ∧ (dbt r).2.1.a = r.2.1.a ∧ (dbt r).2.1.b = r.2.1.b := by
 unfold dbt
 split
 ·exact ⟨⟨h.size, h.acts, h.area, h.count, h.synced, h.fits⟩, rfl, rfl⟩
 ·exact ⟨h, rfl, rfl⟩
theorem wk_seal {δ : Dk} {ω : Wl} {N : Int} (h : WK δ ω N) {ar : Int} {l : List Bs} (hc : ω.count ≠ 4294967295) (ha : 0 ≤ ar ∧ ar ≤ 1) (hf : ((laidZ l).length : Int) ≤ 64 * halfZ δ) : WK (sealZ δ ω ar l).1 (sealZ δ ω ar l).2.1 (N + 4) ∧ (sealZ δ ω ar l).2.1.a = ω.a ∧ (sealZ δ ω ar l).2.1.b = ω.b := by
 have hk := sync_keeps δ
 have hn := nextZ_keeps δ.sync.1 (ω.mark ar l ω.a ω.b)
 have h0 := h.acts
 have hct := h.count
 have hl : (nextZ δ.sync.1 (ω.mark ar l ω.a ω.b)).1.now.length = δ.now.length := by rw [hn.1, hk.1]
 unfold sealZ
 split
 ·exact ⟨h.mv (by rw [hk.1]) (by dsimp only; omega), rfl, rfl⟩
 split
 ·exact ⟨h.mv hl (by dsimp only; omega), rfl, rfl⟩
 ·refine ⟨(WK.recs (h.mv hl (M := N + 4) (by omega)) ⟨by omega, Int.le_refl _⟩ ha ⟨by omega, by omega⟩ (by rw [halfZ_of hl]; exact hf)), rfl, rfl⟩
theorem wk_append {δ : Dk} {ω : Wl} {N : Int} (h : WK δ ω N) (s : Bs) : WK (appendZ δ ω s).1 (appendZ δ ω s).2.1 (N + 2000000) ∧ ((appendZ δ ω s).2.1.a = ω.a ∧ (appendZ δ ω s).2.1.b = ω.b) ∧ ((appendZ δ ω s).2.2 = 0 → s.length ≤ 4000) := by
 have hk := layZ_keeps δ ω.area (laidZ ω.recs ++ recZ s) (laidZ ω.recs).length
 have h0 := h.acts
 have hh := half_le h.size
 have hm := h.more (M := N + 2000000) (by omega)
 unfold appendZ
 split
 ·exact ⟨hm, ⟨rfl, rfl⟩, fun g => absurd (show (34 : Int) = 0 from g) (by decide)⟩
 split
 ·exact ⟨hm, ⟨rfl, rfl⟩, fun g => absurd (show (33 : Int) = 0 from g) (by decide)⟩
 split
 ·exact ⟨hm, ⟨rfl, rfl⟩, fun g => absurd (show (30 : Int) = 0 from g) (by decide)⟩
 rename_i h1 h2 h3
 have hal : (laidZ ω.recs ++ recZ s).length = (laidZ ω.recs).length + s.length + 6 := by rw [List.length_append, recZ_len]; omega
 have hM : WK (layZ δ ω.area (laidZ ω.recs ++ recZ s) (laidZ ω.recs).length).1 ω (N + 2000000) := h.mv hk.1 (by omega)
 split
 ·obtain ⟨q1, q2, q3⟩ := wk_dbt (r := ((layZ δ ω.area (laidZ ω.recs ++ recZ s) (laidZ ω.recs).length).1, ω, (layZ δ ω.area (laidZ ω.recs ++ recZ s) (laidZ ω.recs).length).2)) hM
  exact ⟨q1, ⟨q2, q3⟩, fun _ => by omega⟩
 ·refine ⟨WK.recs hM ⟨h.synced.1, by have := h.synced.2; rw [List.length_append, List.length_singleton]; omega⟩ h.area h.count ?_, ⟨rfl, rfl⟩, fun _ => by omega⟩
  rw [halfZ_of hk.1, laidZ_append, List.length_append, show laidZ [s] = recZ s by simp [laidZ], recZ_len]; omega
theorem wk_sync {δ : Dk} {ω : Wl} {N : Int} (h : WK δ ω N) : WK (syncZ δ ω).1 (syncZ δ ω).2.1 (N + 2000000) ∧ (syncZ δ ω).2.1.a = ω.a ∧ (syncZ δ ω).2.1.b = ω.b := by
 have hm := h.more (M := N + 2000000) (by omega)
 unfold syncZ
 split
 ·exact ⟨hm, rfl, rfl⟩
 split
 ·exact ⟨hm, rfl, rfl⟩
 split
 ·exact ⟨hm, rfl, rfl⟩
 rename_i h1 h2 h3
 obtain ⟨s1, s2, s3⟩ := wk_seal h (ar := ω.area) (l := ω.recs) h3 h.area h.fits
 obtain ⟨q1, q2, q3⟩ := wk_dbt (s1.more (M := N + 2000000) (by omega))
 exact ⟨q1, q2.trans s2, q3.trans s3⟩
theorem wk_cut {δ : Dk} {ω : Wl} {N : Int} (h : WK δ ω N) (n : Int) : WK (cutZ δ ω n).1 (cutZ δ ω n).2.1 (N + 2000000) ∧ (cutZ δ ω n).2.1.a = ω.a ∧ (cutZ δ ω n).2.1.b = ω.b := by
 have hm := h.more (M := N + 2000000) (by omega)
 unfold cutZ
 split
 ·exact ⟨hm, rfl, rfl⟩
 split
 ·exact ⟨hm, rfl, rfl⟩
 split
 ·exact ⟨hm, rfl, rfl⟩
 rename_i h1 h2 h3
 obtain ⟨s1, s2, s3⟩ := wk_seal h (ar := ω.area) (l := ω.recs.take n.toNat) h3 h.area (by have := laidZ_take_len ω.recs n.toNat; have := h.fits; omega)
 obtain ⟨q1, q2, q3⟩ := wk_dbt (s1.more (M := N + 2000000) (by omega))
 exact ⟨q1, q2.trans s2, q3.trans s3⟩
theorem wk_renew {δ : Dk} {ω : Wl} {N : Int} (h : WK δ ω N) (l : List Bs) : WK (renewZ δ ω l).1 (renewZ δ ω l).2.1 (N + 2000000) ∧ (renewZ δ ω l).2.1.a = ω.a ∧ (renewZ δ ω l).2.1.b = ω.b := by
 have hm := h.more (M := N + 2000000) (by omega)
 have hk := layZ_keeps δ (1 - ω.area) (laidZ l) 0
 have h0 := h.acts
 have hh := half_le h.size
 unfold renewZ
 split
 ·exact ⟨hm, rfl, rfl⟩
 split
 ·exact ⟨hm, rfl, rfl⟩
 split
 ·exact ⟨hm, rfl, rfl⟩
 split
 ·exact ⟨hm, rfl, rfl⟩
 rename_i h1 h2 h3 h4
 have hM : WK (layZ δ (1 - ω.area) (laidZ l) 0).1 ω (N + 1500000) := h.mv hk.1 (by omega)
 split
 ·obtain ⟨q1, q2, q3⟩ := wk_dbt (r := ((layZ δ (1 - ω.area) (laidZ l) 0).1, ω, (layZ δ (1 - ω.area) (laidZ l) 0).2)) (hM.more (M := N + 2000000) (by omega))
  exact ⟨q1, q2, q3⟩
 ·have har := h.area
  obtain ⟨s1, s2, s3⟩ := wk_seal hM (ar := 1 - ω.area) (l := l) (fun g => h3 (.inr g)) (by omega) (by rw [halfZ_of hk.1]; omega)
  obtain ⟨q1, q2, q3⟩ := wk_dbt (s1.more (M := N + 2000000) (by omega))
  exact ⟨q1, q2.trans s2, q3.trans s3⟩
theorem wk_setm {δ : Dk} {ω : Wl} {N : Int} (h : WK δ ω N) (a b : Int) : WK (setmZ δ ω a b).1 (setmZ δ ω a b).2.1 (N + 2000000) ∧ ((setmZ δ ω a b).2.2 = 0 → (setmZ δ ω a b).2.1.a = a ∧ (setmZ δ ω a b).2.1.b = b) ∧ ((setmZ δ ω a b).2.2 ≠ 0 → (setmZ δ ω a b).2.1.a = ω.a ∧ (setmZ δ ω a b).2.1.b = ω.b) := by
 have hm := h.more (M := N + 2000000) (by omega)
 have hk := nextZ_keeps δ (ω.mark ω.area (ω.recs.take ω.synced.toNat) a b)
 have h0 := h.acts
 unfold setmZ
 split
 ·exact ⟨hm, fun g => absurd (show (34 : Int) = 0 from g) (by decide), fun _ => ⟨rfl, rfl⟩⟩
 split
 ·exact ⟨hm, fun g => absurd (show (1 : Int) = 0 from g) (by decide), fun _ => ⟨rfl, rfl⟩⟩
 split
 ·exact ⟨hm, fun g => absurd (show (30 : Int) = 0 from g) (by decide), fun _ => ⟨rfl, rfl⟩⟩
 rename_i h1 h2 h3
 have hM : WK (nextZ δ (ω.mark ω.area (ω.recs.take ω.synced.toNat) a b)).1 ω (N + 2000000) := h.mv hk.1 (by omega)
 split
 ·rename_i h4
  obtain ⟨q1, q2, q3⟩ := wk_dbt (r := ((nextZ δ (ω.mark ω.area (ω.recs.take ω.synced.toNat) a b)).1, ω, (nextZ δ (ω.mark ω.area (ω.recs.take ω.synced.toNat) a b)).2)) hM
  exact ⟨q1, fun g => by rw [(dbt_err _).1] at g; exact absurd g h4, fun _ => ⟨q2, q3⟩⟩
 ·have hct := h.count
  exact ⟨WK.recs hM h.synced h.area ⟨by omega, by omega⟩ (by rw [halfZ_of hk.1]; exact h.fits), fun _ => ⟨rfl, rfl⟩, fun g => absurd rfl g⟩
structure LPs (s : Ld) (N : Int) : Prop where
 wk : WK s.δ s.ω N
 w : LgW s.Λ
 a : s.ω.a = s.Λ.acc
 b : s.ω.b = s.Λ.cur
theorem LPs.more {s : Ld} {N M : Int} (h : LPs s N) (hN : N ≤ M) : LPs s M := ⟨h.wk.more hN, h.w, h.a, h.b⟩
theorem LgW.met {Λ : Lg} (h : LgW Λ) (e : Int) : LgW (Λ.met e) := by
 unfold Lg.met
 split
 ·exact ⟨h.few, h.each, h.base, h.snap, h.rows, h.eps⟩
 ·exact h
theorem LPs.hab {s : Ld} {N : Int} (h : LPs s N) : (0 ≤ s.ω.a ∧ s.ω.a ≤ 9223372036854775807) ∧ (0 ≤ s.ω.b ∧ s.ω.b ≤ 9223372036854775807) := by
 have := h.w.eps
 rw [h.a, h.b]; omega
theorem lps_end {s : Ld} {N M : Int} {f : Lg → Lg} {r : Dk × Wl × Int} (h : LPs s N) (hr : WK r.1 r.2.1 M) (h0 : r.2.2 = 0 → LgW (f s.Λ) ∧ r.2.1.a = (f s.Λ).acc ∧ r.2.1.b = (f s.Λ).cur) (h1 : r.2.2 ≠ 0 → r.2.1.a = s.ω.a ∧ r.2.1.b = s.ω.b) : LPs (endL s.Λ f r).1 M := by
 unfold endL
 split
 ·rename_i g
  have e0 := metE_0 g
  obtain ⟨q1, q2, q3⟩ := h0 e0
  have hm : s.Λ.met r.2.2 = s.Λ := by rw [e0]; rfl
  exact ⟨hr, by show LgW (f (s.Λ.met r.2.2)); rw [hm]; exact q1, by show r.2.1.a = (f (s.Λ.met r.2.2)).acc; rw [hm]; exact q2, by show r.2.1.b = (f (s.Λ.met r.2.2)).cur; rw [hm]; exact q3⟩
 ·rename_i g
  have e0 : r.2.2 ≠ 0 := fun e => g (by show metE r.2.2 = 0; rw [e]; rfl)
  obtain ⟨q2, q3⟩ := h1 e0
  exact ⟨hr, h.w.met _, by show r.2.1.a = (s.Λ.met r.2.2).acc; rw [met_acc, q2]; exact h.a, by show r.2.1.b = (s.Λ.met r.2.2).cur; rw [met_cur, q3]; exact h.b⟩
theorem lps_append {s : Ld} {N : Int} (h : LPs s N) {e : En} (he : EnI e) : LPs (lgAppend s e).1 (N + 2000000) := by
 have hm := h.more (M := N + 2000000) (by omega)
 obtain ⟨q1, ⟨q2, q3⟩, q4⟩ := wk_append h.wk (enB e)
 unfold lgAppend
 split
 ·exact hm
 split
 ·exact hm
 split
 ·exact hm
 split
 ·exact hm
 rename_i h1 h2 h3 h4
 refine lps_end (f := fun L => L.keep (enB e) e.zx) h q1 (fun e0 => ⟨?_, by rw [q2]; exact h.a, by rw [q3]; exact h.b⟩) (fun _ => ⟨q2, q3⟩)
 have hf : fitsE e = true := by simpa using h2
 have hfew := h.w.few
 refine ⟨?_, fun x hx => ?_, h.w.base, h.w.snap, h.w.rows.keep ⟨e.pl, fits_got hf he, rfl⟩ he.zx (show lastF s.Λ.base s.Λ.zxs < e.zx from Int.not_le.1 h3), h.w.eps⟩
 ·show (s.Λ.ents ++ [enB e]).length ≤ 200; rw [List.length_append, List.length_singleton]; omega
 ·rcases List.mem_append.1 (show x ∈ s.Λ.ents ++ [enB e] from hx) with hx | hx
  ·exact h.w.each x hx
  ·rw [List.mem_singleton] at hx; subst hx; exact q4 e0
theorem lps_sync {s : Ld} {N : Int} (h : LPs s N) : LPs (lgSync s).1 (N + 2000000) := by
 obtain ⟨q1, q2, q3⟩ := wk_sync h.wk
 unfold lgSync
 split
 ·exact h.more (by omega)
 ·exact ⟨q1, h.w.met _, by show _ = (s.Λ.met _).acc; rw [met_acc, ← h.a]; exact q2, by show _ = (s.Λ.met _).cur; rw [met_cur, ← h.b]; exact q3⟩
theorem lps_accept {s : Ld} {N : Int} (h : LPs s N) (n : Int) : LPs (lgAccept s n).1 (N + 2000000) := by
 have hm := h.more (M := N + 2000000) (by omega)
 have he := h.w.eps
 obtain ⟨q1, q2, q3⟩ := wk_setm h.wk n s.Λ.cur
 unfold lgAccept
 split
 ·exact hm
 split
 ·exact hm
 split
 ·exact hm
 rename_i h1 h2 h3
 exact lps_end (f := fun L => L.setAcc n) h q1 (fun e0 => ⟨⟨h.w.few, h.w.each, h.w.base, h.w.snap, h.w.rows, ⟨he.1, by show s.Λ.cur ≤ n; omega, by show n ≤ _; omega⟩⟩, (q2 e0).1, (q2 e0).2⟩) q3
theorem lps_adopt2 {s : Ld} {N : Int} (h : LPs s N) (n : Int) (hn : 0 ≤ n ∧ n ≤ s.Λ.acc) : LPs (lgAdopt2 s n).1 (N + 2000000) := by
 have he := h.w.eps
 obtain ⟨q1, q2, q3⟩ := wk_setm h.wk s.Λ.acc n
 exact lps_end (f := fun L => L.setCur n) h q1 (fun e0 => ⟨⟨h.w.few, h.w.each, h.w.base, h.w.snap, h.w.rows, ⟨hn.1, hn.2, he.2.2⟩⟩, (q2 e0).1, (q2 e0).2⟩) q3
theorem lps_adopt {s : Ld} {N : Int} (h : LPs s N) (n : Int) : LPs (lgAdopt s n).1 (N + 4000000) := by
 have hm := h.more (M := N + 4000000) (by omega)
 have hs := lps_sync h
 have he := h.w.eps
 unfold lgAdopt
 split
 ·exact hm
 split
 ·exact hm
 split
 ·exact hs.more (by omega)
 rename_i h1 h2 h3
 have hq : (lgSync s).1.Λ.acc = s.Λ.acc := by
  unfold lgSync
  split
  ·rfl
  ·exact met_acc ..
 exact (lps_adopt2 hs n ⟨by omega, by rw [hq]; omega⟩).more (by omega)
theorem lps_cut {s : Ld} {N : Int} (h : LPs s N) (z : Int) : LPs (lgCut s z).1 (N + 2000000) := by
 have hm := h.more (M := N + 2000000) (by omega)
 unfold lgCut
 split
 ·exact hm
 split
 ·exact hm
 ·rename_i n hn
  obtain ⟨q1, q2, q3⟩ := wk_cut h.wk (((headL s.Λ.base s.Λ.snap).length + n : Nat) : Int)
  exact lps_end (f := fun _ => cutL s.Λ n) h q1 (fun _ => ⟨h.w.cut n _, q2.trans h.a, q3.trans h.b⟩) (fun _ => ⟨q2, q3⟩)
theorem lps_renew {s : Ld} {N : Int} (h : LPs s N) {base : Int} {snap : Bs} {es : List Bs} {zs : List Int} (hb : 0 ≤ base ∧ base ≤ 9223372036854775807) (hs : snap.length ≤ 65536) (hr : RowsI base es zs) : LPs (lgRenew s base snap es zs).1 (N + 2000000) := by
 have hm := h.more (M := N + 2000000) (by omega)
 obtain ⟨q1, q2, q3⟩ := wk_renew h.wk (headL base snap ++ es)
 unfold lgRenew
 split
 ·exact hm
 rename_i h1
 exact lps_end (f := fun _ => newL s.Λ base snap es zs) h q1 (fun e0 => ⟨⟨by show es.length ≤ 200; omega, fun x hx => (renew_ok e0).2.2.2 x (List.mem_append_right _ hx), hb, hs, hr, h.w.eps⟩, q2.trans h.a, q3.trans h.b⟩) (fun _ => ⟨q2, q3⟩)
theorem lps_install {s : Ld} {N : Int} (h : LPs s N) {z : Int} (hz : z ≤ 9223372036854775807) (snap : Bs) {l : List En} (hi : ∀ e ∈ l, EnI e) : LPs (lgInstall s z snap l).1 (N + 2000000) := by
 have hm := h.more (M := N + 2000000) (by omega)
 unfold lgInstall
 split
 ·exact hm
 split
 ·exact hm
 split
 ·exact hm
 split
 ·exact hm
 rename_i h0 h1 h2 h3
 exact lps_renew h (by omega) (by omega) (rises_rows l z hi (by simpa using h2) (by simpa using h3))
theorem lps_compact {s : Ld} {N : Int} (h : LPs s N) (z : Int) (snap : Bs) : LPs (lgCompact s z snap).1 (N + 2000000) := by
 have hm := h.more (M := N + 2000000) (by omega)
 unfold lgCompact
 split
 ·exact hm
 split
 ·exact hm
 split
 ·exact hm
 ·rename_i h0 h1 n hn
  obtain ⟨p1, p2⟩ := place_ok h.w hn
  exact lps_renew h p1 (by omega) p2
theorem lps_does {p : HP} {s : Ld} {N : Int} (h : LPs s N) {o : Op9} (ho : Op9A p o) (k : Int) : LPs (lgDoes s o k).1 (N + 4000000) := by
 unfold lgDoes
 split
 ·exact (lps_append h ho.e.l.w.i).more (by omega)
 split
 ·exact (lps_sync h).more (by omega)
 split
 ·exact (lps_accept h o.n).more (by omega)
 split
 ·exact lps_adopt h o.n
 split
 ·exact (lps_cut h o.n).more (by omega)
 split
 ·exact (lps_install h ho.n.2 _ (fun e he => (ho.x e he).l.w.i)).more (by omega)
 ·exact (lps_compact h o.n _).more (by omega)
theorem lps_open {δ : Dk} {ω : Wl} {Λ : Lg} {N : Int} (hok : δ.Ok) (hs : 2 ≤ δ.now.length ∧ δ.now.length ≤ 32768) (ha : δ.acts ≤ N) (hN : N + 10000000 < 4611686018427387904) (h : openZ δ = some ω) (hl : openLZ ω = some Λ) : LPs ⟨δ, ω, Λ⟩ N ∧ Λ.doubt = false := by
 obtain ⟨q1, q2, q3, q4, q5, q6⟩ := open_I hok hs (by omega) h
 obtain ⟨w1, w2, w3, w4⟩ := openL_W q3 q6.1 hl
 exact ⟨⟨.of q1 ha, w1, w2.symm, w3.symm⟩, w4⟩
end Go.Proofs.YtidjhgbdokcphaaGreat
