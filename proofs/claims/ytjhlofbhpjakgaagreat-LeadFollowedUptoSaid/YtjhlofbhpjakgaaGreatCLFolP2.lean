/- Own work, some of it printed by program, texts that were built one by one: a part of the proof of leadFollowed.proved. -/
import Derived.Test.YtjhlofbhpjakgaaGreatCLFolP1
import Derived.Shelf.SlIterI.Nil
import Derived.Shelf.SortM.Plain
import Derived.Shelf.SortM.SortNone
import Derived.Ground.GgzProg
import Derived.Ground.SlgmProg
import Derived.Test.YtjhlofbhpjakgaaGreatProg
import Derived.Sort.OwnSortedInts
import Derived.Test.YtjhlofbhpjakgaaGreatCLFolP0
import Derived.Shelf.Slices.CompactI
import Derived.Shelf.Slices.Cells
set_option maxRecDepth 100000
namespace Go.Proofs.YtjhlofbhpjakgaaGreat
open Go List Go.Proofs.Tryz 
theorem OE {arr : Option Addr} {n crr k : Nat} {T : TypeId} {l : List Bs} (hk : k ≤ n) (hn : n = l.length) : ∀ h : Hp, AV T 1 (.slice arr n crr) n (Bo l) h → B5 1 h (.slice arr k crr) (l.take k).length (Bo (l.take k)) := by
 intro h hp
 have := AE (VH hk hp)
 rw [show (l.take k).length = k by rw [length_take]; omega, show Bo (l.take k) = (Bo l).take k from map_take]
 exact this
theorem ML (x d : Nat) (ω : Wl) (δ : Dk) (hI : MV δ ω) : Fn prog 39 #[AG x] [CX x d ω, Bg d δ] fun v L => v = AA (Ay δ ω).2.2 ∧ L = [CX x d (Ay δ ω).2.1, Bg d (Ay δ ω).1] := by
 refine Fn.introD (vs := [AG x]) func39 Y Y ?_
 intro F W
 refine .wlOpen (ω := ω) O fun vr vb => (.slAny (v := vr) O fun arr crr e _ => ?_)
 subst e
 refine .slAny (v := vb) O fun abb cbb e _ => ?_
 subst e
 refine .slAddr (T := 9) O fun hrc hra => ?_
 obtain ⟨hn, hA, har, hct, hsy, hfit⟩ := hI
 have hh := CP hn
 have hll := BU ω.recs
 refine .sr (.oq (.alloc O4) ?_)
 rintro v L' ⟨be, rfl, rfl⟩
 refine .nil (.ptCast (b := be) (l' := [AA 0]) O Y (.then_n (.sm Y (.defer (vs := [_, _]) Y (.nt (.seq (.block (.sm Y (.nf Y GN (.u (.ld Y FV) (.an Y (.condB Y (fun h4 => ?_) (fun h4 => ?_)))))))))))))
 ·refine .sr (.st Y Y Y CD ?_)
  refine .nil (.ptCast (b := be) (l' := [AA 34]) O Y (.then_n (.ret (.blk_r (.then_r (.doneD func70 Y Y (AW x d (.slice arr ω.recs.length crr) ω.synced (.slice abb (AB ω.recs).length cbb) ω.area ω.count ω.a ω.b ω.doubt be 34) O ?_))))))
  rintro u L' ⟨rfl, rfl⟩
  have e : Ay δ ω = (δ, ω, 34) := by unfold Ay; rw [if_pos h4]
  rw [e, if_neg (show ¬ (34 : Int) = 2 by decide)]
  refine .wlFold (x := x) (d := d) (ω := ω) O Y Y Y Y Y ?_
  exact .d1 Y (.cell Y Bj O Y) ⟨Y, Y⟩
 have hdb : ¬ ω.doubt = true := by rw [h4]; decide
 refine .seq (.draw [] [[0, 1, 2, 3, 4, 5, 6, 7, 8, 9, 10]] mixed kQ (.g0 (.mv Y Y (.nf Y Y Y I3 (.kv Y (.ld Y AF) (.mv Y Y (.nf Y Y Y EE (.kv Y (.ld Y Ch) (.kv Y (.slen Y underlying65 Y) (.kv Y (.int Y Y Y) (.kv Y (.assign Y) (.pf (.condD Y (fun h9 => ?_) (fun h9 => ?_))))))))))))))
 ·refine .sr (.st Y Y Y CD ?_)
  refine .nil (.ptCast (b := be) (l' := [AA 0]) O Y (.then_n (.ret (.blk_r (.then_r (.doneD func70 Y Y (AW x d (.slice arr ω.recs.length crr) ω.synced (.slice abb (AB ω.recs).length cbb) ω.area ω.count ω.a ω.b ω.doubt be 0) O ?_))))))
  rintro u L' ⟨rfl, rfl⟩
  have e : Ay δ ω = (δ, ω, 0) := by unfold Ay; rw [if_neg hdb, if_pos h9]
  rw [e, if_neg (show ¬ (0 : Int) = 2 by decide)]
  refine .wlFold (x := x) (d := d) (ω := ω) O Y Y Y Y Y ?_
  exact .d1 Y (.cell Y Bj O Y) ⟨Y, Y⟩
 refine .sm Y (.nf Y GQ (.u (.ld Y AF) (.ui Y Y Y (.an Y (.condD Y (fun h20 => ?_) (fun h20 => ?_))))))
 ·refine .sr (.st Y Y Y CD ?_)
  refine .nil (.ptCast (b := be) (l' := [AA 30]) O Y (.then_n (.ret (.blk_r (.then_r (.doneD func70 Y Y (AW x d (.slice arr ω.recs.length crr) ω.synced (.slice abb (AB ω.recs).length cbb) ω.area ω.count ω.a ω.b ω.doubt be 30) O ?_))))))
  rintro u L' ⟨rfl, rfl⟩
  have e : Ay δ ω = (δ, ω, 30) := by unfold Ay; rw [if_neg hdb, if_neg h9, if_pos h20]
  rw [e, if_neg (show ¬ (30 : Int) = 2 by decide)]
  refine .wlFold (x := x) (d := d) (ω := ω) O Y Y Y Y Y ?_
  exact .d1 Y (.cell Y Bj O Y) ⟨Y, Y⟩
 refine .skip (.blk_n (.then_n (.seq (.draw [13, 14] [[0, 1, 2, 3, 4, 5, 6, 7, 8, 9, 10, 11, 12, 13], [14]] mixed kQ (.g0 (.mv Y Y (.mv Y Y (.nf Y Y Y FM (.kv Y (.ld Y AF) (.mv Y Y (.nf Y Y Y EE (.kv Y (.ld Y Ch) (.mv Y Y (.nf Y Y Y FW (.kv Y (.ld Y GB) (.hh Y (.c func77 [_, _, _, _] (JU x d (.slice arr ω.recs.length crr) (.slice abb (AB ω.recs).length cbb) ω δ ω.area (.slice arr ω.recs.length crr) (.slice abb (AB ω.recs).length cbb) ω.recs (Cp (.slice arr ω.recs.length crr) ω.recs) (EN (.slice abb (AB ω.recs).length cbb) (AB ω.recs)) hct om ?hl45 ?hp46 ?hq47)) ?_))))))))))))))))
 case hl45 => omega
 case hp46 => exact fun h hp => AE hp
 case hq47 => exact fun h hp => AE hp
 rintro v L' (⟨δ', hs, rfl, rfl⟩ | ⟨δ', hs, rfl, vr', vb', rfl⟩)
 ·refine D.ph (.g0 (.hh Y (.store Y Y Y CD ?c50 (Bk _ _)) ?_))
  case c50 => first | decide | (simp; omega) | simp
  rintro v L' rfl
  refine D.ph (.fin (.ptCast (b := be) (l' := [AA 2]) O Y (.then_n (.ret (.doneD func70 Y Y (AW x d (.slice arr ω.recs.length crr) ω.synced (.slice abb (AB ω.recs).length cbb) ω.area ω.count ω.a ω.b ω.doubt be 2) O ?_)))))
  rintro u L' ⟨rfl, rfl⟩
  have e : Ay δ ω = (δ', { ω with doubt := true }, 2) := by unfold Ay; rw [if_neg hdb, if_neg h9, if_neg h20, hs]; rfl
  rw [e, if_pos rfl]
  refine .wlFold (x := x) (d := d) (ω := { ω with doubt := true }) O Y Y Y Y Y ?_
  exact .d1 Y (.cell Y Bj O Y) ⟨Y, Y⟩
 refine D.ph (.g0 (.hh Y (.store Y Y Y CD ?c54 (Bk _ _)) ?_))
 case c54 => first | decide | (simp; omega) | simp
 rintro v L' rfl
 refine D.ph (.fin (.ptCast (b := be) (l' := [AA 0]) O Y (.then_n (.ret (.doneD func70 Y Y (AW x d vr' _ vb' _ _ _ _ _ be 0) O ?_)))))
 rintro u L' ⟨rfl, rfl⟩
 have e : Ay δ ω = (δ', { ω with synced := ω.recs.length, count := ω.count + 1 }, 0) := by unfold Ay; rw [if_neg hdb, if_neg h9, if_neg h20, hs]; rfl
 rw [e, if_neg (show ¬ (0 : Int) = 2 by decide)]
 refine .wlFold (x := x) (d := d) (ω := { ω with synced := ω.recs.length, count := ω.count + 1 }) O Y Y Y Y Y ?_
 exact .d1 Y (.cell Y Bj O Y) ⟨Y, Y⟩
theorem TV (x d : Nat) (ω : Wl) (δ : Dk) (n : Int) (hI : MV δ ω) : Fn prog 140 #[AG x, AA n] [CX x d ω, Bg d δ] fun v L => v = AA (CK δ ω n).2.2 ∧ L = [CX x d (CK δ ω n).2.1, Bg d (CK δ ω n).1] := by
 refine Fn.introD (vs := [AG x, AA n]) func140 Y Y ?_
 intro F W
 refine .wlOpen (ω := ω) O fun vr vb => (.slAny (v := vr) O fun arr crr e _ => ?_)
 subst e
 refine .slAny (v := vb) O fun abb cbb e _ => ?_
 subst e
 refine .slAddr (T := 9) O fun hrc hra => ?_
 obtain ⟨hn, hA, har, hct, hsy, hfit⟩ := hI
 have hh := CP hn
 have hll := BU ω.recs
 refine .sr (.oq (.alloc O4) ?_)
 rintro v L' ⟨be, rfl, rfl⟩
 refine .nil (.ptCast (b := be) (l' := [AA 0]) O Y (.then_n (.sm Y (.defer (vs := [_, _]) Y (.nt (.seq (.block (.sm Y (.nf Y GN (.u (.ld Y FV) (.an Y (.condB Y (fun h6 => ?_) (fun h6 => ?_)))))))))))))
 ·refine .sr (.st Y Y Y CD ?_)
  refine .nil (.ptCast (b := be) (l' := [AA 34]) O Y (.then_n (.ret (.blk_r (.then_r (.doneD func70 Y Y (AW x d (.slice arr ω.recs.length crr) ω.synced (.slice abb (AB ω.recs).length cbb) ω.area ω.count ω.a ω.b ω.doubt be 34) O ?_))))))
  rintro u L' ⟨rfl, rfl⟩
  have e : CK δ ω n = (δ, ω, 34) := by unfold CK; rw [if_pos h6]
  rw [e, if_neg (show ¬ (34 : Int) = 2 by decide)]
  refine .wlFold (x := x) (d := d) (ω := ω) O Y Y Y Y Y ?_
  exact .d1 Y (.cell Y Bj O Y) ⟨Y, Y⟩
 have hdb : ¬ ω.doubt = true := by rw [h6]; decide
 refine .sm Y (.ui Y Y Y (.m Y (.dec (t := 14) Y (fun h4_14 => ?_) (fun h4_14 => ?_))))
 ·refine .kDT (t := 13) Y h4_14 (.gk (.gk (.gk (.gk (.gk (.gk (.gk (.pT Y Y (.an Y (.condT Y (.sr (.st Y Y Y CD ?_))))))))))))
  refine .nil (.ptCast (b := be) (l' := [AA 32]) O Y (.then_n (.ret (.blk_r (.then_r (.doneD func70 Y Y (AW x d (.slice arr ω.recs.length crr) ω.synced (.slice abb (AB ω.recs).length cbb) ω.area ω.count ω.a ω.b ω.doubt be 32) O ?_))))))
  rintro u L' ⟨rfl, rfl⟩
  have e : CK δ ω n = (δ, ω, 32) := by unfold CK; rw [if_neg hdb, if_pos (by first | exact .inl h4_14 | exact .inr h11)]
  rw [e, if_neg (show ¬ (32 : Int) = 2 by decide)]
  refine .wlFold (x := x) (d := d) (ω := ω) O Y Y Y Y Y ?_
  exact .d1 Y (.cell Y Bj O Y) ⟨Y, Y⟩
 refine .kDF (t := 13) Y h4_14 (.gr (.m Y (.gr (.m Y (.gr (.u (.nilp Y) (.gr (.fa Y EE (.gr (.u (.ld Y Ch) (.gr (.q (.slen Y underlying65 Y) Y (.gr (.ui Y Y Y (.pF Y Y (.an Y (.condD Y (fun h11 => ?_) (fun h11 => ?_))))))))))))))))))
 ·refine .sr (.st Y Y Y CD ?_)
  refine .nil (.ptCast (b := be) (l' := [AA 32]) O Y (.then_n (.ret (.blk_r (.then_r (.doneD func70 Y Y (AW x d (.slice arr ω.recs.length crr) ω.synced (.slice abb (AB ω.recs).length cbb) ω.area ω.count ω.a ω.b ω.doubt be 32) O ?_))))))
  rintro u L' ⟨rfl, rfl⟩
  have e : CK δ ω n = (δ, ω, 32) := by unfold CK; rw [if_neg hdb, if_pos (by first | exact .inl h4_14 | exact .inr h11)]
  rw [e, if_neg (show ¬ (32 : Int) = 2 by decide)]
  refine .wlFold (x := x) (d := d) (ω := ω) O Y Y Y Y Y ?_
  exact .d1 Y (.cell Y Bj O Y) ⟨Y, Y⟩
 refine .seq ?_
 have hin : ¬ (n < 0 ∨ n > ω.recs.length) := by rintro (h | h) <;> omega
 have htl := CM ω.recs n.toNat
 have hkl : (ω.recs.take n.toNat).length = n.toNat := by rw [length_take]; omega
 refine .region (.m Y (.nf Y GQ (.u (.ld Y AF) (.ui Y Y Y (.an Y (.condD Y (fun h23 => ?_) (fun h23 => ?_)))))))
 ·refine .sr (.st Y Y Y CD ?_)
  refine .nil (.ptCast (b := be) (l' := [AA 30]) O Y (.then_n (.ret (.blk_r (.then_r (.doneD func70 Y Y (AW x d (.slice arr ω.recs.length crr) ω.synced (.slice abb (AB ω.recs).length cbb) ω.area ω.count ω.a ω.b ω.doubt be 30) O ?_))))))
  rintro u L' ⟨rfl, rfl⟩
  have e : CK δ ω n = (δ, ω, 30) := by unfold CK; rw [if_neg hdb, if_neg hin, if_pos h23]
  rw [e, if_neg (show ¬ (30 : Int) = 2 by decide)]
  refine .wlFold (x := x) (d := d) (ω := ω) O Y Y Y Y Y ?_
  exact .d1 Y (.cell Y Bj O Y) ⟨Y, Y⟩
 refine .skip (.blk_n (.then_n (.seq (.draw [17, 18, 19] [[0, 1, 2, 3, 4, 5, 6, 7, 8, 9, 10, 11, 12, 13, 14, 15, 16, 17], [18], [19]] mixed kQ (.go [Ar x _ _] O (.k Y (.move Y) (.k Y (.move Y) (.k Y (.nilp Y) (.k Y (.fieldAddr Y FM) (.k Y (.ld Y AF) (.k Y (.move Y) (.k Y (.nilp Y) (.k Y (.fieldAddr Y EE) (.k Y (.ld Y Ch) (.k Y (.move Y) (.k Y (.slTo (j := n) Y Bu Y om hra) (.mv Y Y (.nf Y Y Y EE (.kv Y (.ld Y Ch) (.mv Y Y (.kv Y (.slTo (j := n) Y Bu Y om hra) (.hh Y (.c func76 [_] (JX (.slice arr n.toNat crr) (ω.recs.take n.toNat) (Cp (.slice arr ω.recs.length crr) ω.recs) ?hr52 ?hl53)) ?_))))))))))))))))))))))
 case hr52 => exact OE om rfl
 case hl53 => omega
 rintro v L' ⟨⟨al, cl, rfl⟩, rfl⟩
 refine D.ph (.g0 (.hh Y (.c func77 [_, _, _, _] (JU x d (.slice arr ω.recs.length crr) (.slice abb (AB ω.recs).length cbb) ω δ ω.area (.slice arr n.toNat crr) (.slice al (AB (ω.recs.take n.toNat)).length cl) (ω.recs.take n.toNat) (Cp (.slice arr ω.recs.length crr) ω.recs) (EN (.slice al (AB (ω.recs.take n.toNat)).length cl) (AB (ω.recs.take n.toNat))) hct om ?hl56 ?hp57 ?hq58)) ?_))
 case hl56 => omega
 case hp57 => exact OE om rfl
 case hq58 => exact fun h hp => AE hp
 rintro v L' (⟨δ', hs, rfl, rfl⟩ | ⟨δ', hs, rfl, vr', vb', rfl⟩)
 ·refine D.ph (.g0 (.hh Y (.store Y Y Y CD ?c61 (Bk _ _)) ?_))
  case c61 => first | decide | (simp; omega) | simp
  rintro v L' rfl
  refine D.ph (.fin (.ptCast (b := be) (l' := [AA 2]) O Y (.then_n (.ret (.doneD func70 Y Y (AW x d (.slice arr ω.recs.length crr) ω.synced (.slice abb (AB ω.recs).length cbb) ω.area ω.count ω.a ω.b ω.doubt be 2) O ?_)))))
  rintro u L' ⟨rfl, rfl⟩
  have e : CK δ ω n = (δ', { ω with doubt := true }, 2) := by unfold CK; rw [if_neg hdb, if_neg hin, if_neg h23, hs]; rfl
  rw [e, if_pos rfl]
  refine .wlFold (x := x) (d := d) (ω := { ω with doubt := true }) O Y Y Y Y Y ?_
  exact .d1 Y (.cell Y Bj O Y) ⟨Y, Y⟩
 refine D.ph (.g0 (.hh Y (.store Y Y Y CD ?c65 (Bk _ _)) ?_))
 case c65 => first | decide | (simp; omega) | simp
 rintro v L' rfl
 refine D.ph (.fin (.ptCast (b := be) (l' := [AA 0]) O Y (.then_n (.ret (.doneD func70 Y Y (AW x d vr' _ vb' _ _ _ _ _ be 0) O ?_)))))
 rintro u L' ⟨rfl, rfl⟩
 have e : CK δ ω n = (δ', { ω with recs := ω.recs.take n.toNat, synced := (ω.recs.take n.toNat).length, count := ω.count + 1 }, 0) := by unfold CK; rw [if_neg hdb, if_neg hin, if_neg h23, hs]; rfl
 rw [e, if_neg (show ¬ (0 : Int) = 2 by decide)]
 refine .wlFold (x := x) (d := d) (ω := { ω with recs := ω.recs.take n.toNat, synced := (ω.recs.take n.toNat).length, count := ω.count + 1 }) O Y Y Y Y Y ?_
 exact .d1 Y (.cell Y Bj O Y) ⟨Y, Y⟩
theorem LV (x d : Nat) (ω : Wl) (δ : Dk) (a b : Int) (hI : MV δ ω) : Fn prog 38 #[AG x, AA a, AA b] [CX x d ω, Bg d δ] fun v L => v = AA (Af δ ω a b).2.2 ∧ L = [CX x d (Af δ ω a b).2.1, Bg d (Af δ ω a b).1] := by
 refine Fn.introD (vs := [AG x, AA a, AA b]) func38 Y Y ?_
 intro F W
 refine .wlOpen (ω := ω) O fun vr vb => (.slAny (v := vr) O fun arr crr e _ => ?_)
 subst e
 refine .slAny (v := vb) O fun abb cbb e _ => ?_
 subst e
 refine .slAddr (T := 9) O fun hrc hra => ?_
 obtain ⟨hn, hA, har, hct, hsy, hfit⟩ := hI
 have hh := CP hn
 have hll := BU ω.recs
 refine .sr (.oq (.alloc O4) ?_)
 rintro v L' ⟨be, rfl, rfl⟩
 refine .nil (.ptCast (b := be) (l' := [AA 0]) O Y (.then_n (.sm Y (.defer (vs := [_, _]) Y (.nt (.seq (.block (.sm Y (.nf Y GN (.u (.ld Y FV) (.an Y (.condB Y (fun h9 => ?_) (fun h9 => ?_)))))))))))))
 ·refine .sr (.st Y Y Y CD ?_)
  refine .nil (.ptCast (b := be) (l' := [AA 34]) O Y (.then_n (.ret (.blk_r (.then_r (.doneD func70 Y Y (AW x d (.slice arr ω.recs.length crr) ω.synced (.slice abb (AB ω.recs).length cbb) ω.area ω.count ω.a ω.b ω.doubt be 34) O ?_))))))
  rintro u L' ⟨rfl, rfl⟩
  have e : Af δ ω a b = (δ, ω, 34) := by unfold Af; rw [if_pos h9]
  rw [e, if_neg (show ¬ (34 : Int) = 2 by decide)]
  refine .wlFold (x := x) (d := d) (ω := ω) O Y Y Y Y Y ?_
  exact .d1 Y (.cell Y Bj O Y) ⟨Y, Y⟩
 have hdb : ¬ ω.doubt = true := by rw [h9]; decide
 refine .sm Y (.ui Y Y Y (.m Y (.dec (t := 17) Y (fun h4_17 => ?_) (fun h4_17 => ?_))))
 ·refine .kDT (t := 16) Y h4_17 (.gk (.gk (.pT Y Y (.an Y (.condT Y (.sr (.st Y Y Y CD ?_)))))))
  refine .nil (.ptCast (b := be) (l' := [AA 1]) O Y (.then_n (.ret (.blk_r (.then_r (.doneD func70 Y Y (AW x d (.slice arr ω.recs.length crr) ω.synced (.slice abb (AB ω.recs).length cbb) ω.area ω.count ω.a ω.b ω.doubt be 1) O ?_))))))
  rintro u L' ⟨rfl, rfl⟩
  have e : Af δ ω a b = (δ, ω, 1) := by unfold Af; rw [if_neg hdb, if_pos (by first | exact .inl h4_17 | exact .inr h14)]
  rw [e, if_neg (show ¬ (1 : Int) = 2 by decide)]
  refine .wlFold (x := x) (d := d) (ω := ω) O Y Y Y Y Y ?_
  exact .d1 Y (.cell Y Bj O Y) ⟨Y, Y⟩
 refine .kDF (t := 16) Y h4_17 (.gr (.m Y (.gr (.ui Y Y Y (.pF Y Y (.an Y (.condD Y (fun h14 => ?_) (fun h14 => ?_))))))))
 ·refine .sr (.st Y Y Y CD ?_)
  refine .nil (.ptCast (b := be) (l' := [AA 1]) O Y (.then_n (.ret (.blk_r (.then_r (.doneD func70 Y Y (AW x d (.slice arr ω.recs.length crr) ω.synced (.slice abb (AB ω.recs).length cbb) ω.area ω.count ω.a ω.b ω.doubt be 1) O ?_))))))
  rintro u L' ⟨rfl, rfl⟩
  have e : Af δ ω a b = (δ, ω, 1) := by unfold Af; rw [if_neg hdb, if_pos (by first | exact .inl h4_17 | exact .inr h14)]
  rw [e, if_neg (show ¬ (1 : Int) = 2 by decide)]
  refine .wlFold (x := x) (d := d) (ω := ω) O Y Y Y Y Y ?_
  exact .d1 Y (.cell Y Bj O Y) ⟨Y, Y⟩
 refine .seq ?_
 have hin : ¬ (a < 0 ∨ b < 0) := by rintro (h | h) <;> omega
 have htl := CM ω.recs ω.synced.toNat
 have hkl : (ω.recs.take ω.synced.toNat).length = ω.synced.toNat := by rw [length_take]; omega
 refine .region (.m Y (.nf Y GQ (.u (.ld Y AF) (.ui Y Y Y (.an Y (.condD Y (fun h21 => ?_) (fun h21 => ?_)))))))
 ·refine .sr (.st Y Y Y CD ?_)
  refine .nil (.ptCast (b := be) (l' := [AA 30]) O Y (.then_n (.ret (.blk_r (.then_r (.doneD func70 Y Y (AW x d (.slice arr ω.recs.length crr) ω.synced (.slice abb (AB ω.recs).length cbb) ω.area ω.count ω.a ω.b ω.doubt be 30) O ?_))))))
  rintro u L' ⟨rfl, rfl⟩
  have e : Af δ ω a b = (δ, ω, 30) := by unfold Af; rw [if_neg hdb, if_neg hin, if_pos h21]
  rw [e, if_neg (show ¬ (30 : Int) = 2 by decide)]
  refine .wlFold (x := x) (d := d) (ω := ω) O Y Y Y Y Y ?_
  exact .d1 Y (.cell Y Bj O Y) ⟨Y, Y⟩
 refine .skip (.blk_n (.then_n (.seq (.seq (.draw [14, 23] [[0, 1, 2, 3, 4, 5, 6, 7, 8, 9, 10, 11, 12, 13, 16, 17, 18, 19, 20, 21, 14, 15, 22], [23], [24]] mixed kQ (.go [Ar x _ _] O (.k Y (.move Y) (.k Y (.move Y) (.k Y (.nilp Y) (.k Y (.fieldAddr Y FM) (.k Y (.ld Y AF) (.mv Y Y (.nf Y Y Y EE (.kv Y (.ld Y Ch) (.mv Y Y (.nf Y Y Y I3 (.kv Y (.ld Y AF) (.kv Y (.slTo (j := ω.synced) Y Bu Y om hra) (.k Y (.move Y) (.k Y (.nilp Y) (.k Y (.fieldAddr Y I3) (.k Y (.ld Y AF) (.k Y (.move Y) (.k Y (.move Y) (.hh Y (.c func76 [_] (JX (.slice arr ω.synced.toNat crr) (ω.recs.take ω.synced.toNat) (Cp (.slice arr ω.recs.length crr) ω.recs) ?hr50 ?hl51)) ?_)))))))))))))))))))))))))
 case hr50 => exact OE om rfl
 case hl51 => omega
 rintro v L' ⟨⟨al, cl, rfl⟩, rfl⟩
 refine D.kv Y (.slen Y underlying133 Y) (.kv Y (.to (v' := .agg (Xc ⟨0, ω.area, (AB (ω.recs.take ω.synced.toNat)).length, ω.synced, a, b⟩).toArray) (.build (us := [(1, _), (2, _), (3, _), (4, _), (5, _)]) Re RQ Y Y (by simp [AD])) Y) (.ph (.g0 (.hh Y (.c func75 [_, _] (M9 x d (.slice arr ω.recs.length crr) ω.synced (.slice abb (AB ω.recs).length cbb) ω.area ω.count ω.a ω.b ω.doubt ⟨0, ω.area, (AB (ω.recs.take ω.synced.toNat)).length, ω.synced, a, b⟩ δ hct om)) ?_))))
 rintro v L' ⟨rfl, rfl⟩; rw [show (⟨ω.count + 1, ω.area, ((AB (ω.recs.take ω.synced.toNat)).length : Int), ω.synced, a, b⟩ : Mk) = (ω.mark ω.area (ω.recs.take ω.synced.toNat) a b) from by unfold Wl.mark; congr 1; omega]
 refine D.ph (.g0 (.kv Y (.assign Y) (.pf (.sm Y (.ui Y Y Y (.nt (.condN Y (fun h52 => ?_) (fun h52 => ?_))))))))
 ·refine .sm Y (.st Y Y Y CD ?_)
  refine .nil (.ptCast (b := be) (l' := [AA (BB δ (ω.mark ω.area (ω.recs.take ω.synced.toNat) a b)).2]) O Y (.then_n (.rt (.doneD func70 Y Y (AW x d (.slice arr ω.recs.length crr) ω.synced (.slice abb (AB ω.recs).length cbb) ω.area (if (BB δ (ω.mark ω.area (ω.recs.take ω.synced.toNat) a b)).2 = 0 then ω.count + 1 else ω.count) ω.a ω.b ω.doubt be (BB δ (ω.mark ω.area (ω.recs.take ω.synced.toNat) a b)).2) O ?_))))
  rintro u L' ⟨rfl, rfl⟩
  have h2 : (BB δ (ω.mark ω.area (ω.recs.take ω.synced.toNat) a b)).2 = 2 := by rcases (D1 δ (ω.mark ω.area (ω.recs.take ω.synced.toNat) a b)).2.2 with h | h; exact absurd h (by simpa using h52); exact h
  have e : Af δ ω a b = ((BB δ (ω.mark ω.area (ω.recs.take ω.synced.toNat) a b)).1, { ω with doubt := true }, 2) := by unfold Af; rw [if_neg hdb, if_neg hin, if_neg h21, if_pos (by simpa using h52), h2]; rfl
  rw [e, h2, if_pos rfl, if_neg (show ¬ (2 : Int) = 0 by decide)]
  refine .wlFold (x := x) (d := d) (ω := { ω with doubt := true }) O Y Y Y Y Y ?_
  exact .d1 Y (.cell Y Bj O Y) ⟨Y, Y⟩
 refine .sk (.sm Y (.m Y (.m Y (.m Y (.nf Y QT (.st Y Y Y BV ?_))))))
 refine .nf Y Pg (.st Y Y Y BV ?_)
 refine .nt (.sr (.st Y Y Y CD ?_))
 refine .nil (.ptCast (b := be) (l' := [AA 0]) O Y (.then_n (.ret (.doneD func70 Y Y (AW x d (.slice arr ω.recs.length crr) ω.synced (.slice abb (AB ω.recs).length cbb) ω.area (if (BB δ (ω.mark ω.area (ω.recs.take ω.synced.toNat) a b)).2 = 0 then ω.count + 1 else ω.count) a b ω.doubt be 0) O ?_))))
 rintro u L' ⟨rfl, rfl⟩
 have h0 : (BB δ (ω.mark ω.area (ω.recs.take ω.synced.toNat) a b)).2 = 0 := by simpa using h52
 have e : Af δ ω a b = ((BB δ (ω.mark ω.area (ω.recs.take ω.synced.toNat) a b)).1, { ω with a := a, b := b, count := ω.count + 1 }, 0) := by unfold Af; rw [if_neg hdb, if_neg hin, if_neg h21, if_neg (by rw [h0]; simp)]
 rw [e, h0, if_pos rfl, if_neg (show ¬ (0 : Int) = 2 by decide)]
 refine .wlFold (x := x) (d := d) (ω := { ω with a := a, b := b, count := ω.count + 1 }) O Y Y Y Y Y ?_
 exact .d1 Y (.cell Y Bj O Y) ⟨Y, Y⟩
theorem Iz (x d : Nat) (ω : Wl) (δ : Dk) (s : Bs) (hI : MV δ ω) (hsl : s.length ≤ 2147483648) : Fn prog 36 #[AG x, AU s] [CX x d ω, Bg d δ] fun v L => v = AA (AM δ ω s).2.2 ∧ L = [CX x d (AM δ ω s).2.1, Bg d (AM δ ω s).1] := by
 refine Fn.introD (vs := [AG x, AU s]) func36 Y Y ?_
 intro F W
 refine .wlOpen (ω := ω) O fun vr vb => (.slAny (v := vr) O fun arr crr e _ => ?_)
 subst e
 refine .slAny (v := vb) O fun abb cbb e _ => ?_
 subst e
 refine .slAddr (T := 9) O fun hrc hra => ?_
 obtain ⟨hn, hA, har, hct, hsy, hfit⟩ := hI
 have hh := CP hn
 have hll := BU ω.recs
 refine .sr (.oq (.alloc O4) ?_)
 rintro v L' ⟨be, rfl, rfl⟩
 refine .nil (.ptCast (b := be) (l' := [AA 0]) O Y (.then_n (.sm Y (.defer (vs := [_, _]) Y (.nt (.seq (.block (.sm Y (.nf Y GN (.u (.ld Y FV) (.an Y (.condB Y (fun h8 => ?_) (fun h8 => ?_)))))))))))))
 ·refine .sr (.st Y Y Y CD ?_)
  refine .nil (.ptCast (b := be) (l' := [AA 34]) O Y (.then_n (.ret (.blk_r (.then_r (.doneD func70 Y Y (AW x d (.slice arr ω.recs.length crr) ω.synced (.slice abb (AB ω.recs).length cbb) ω.area ω.count ω.a ω.b ω.doubt be 34) O ?_))))))
  rintro u L' ⟨rfl, rfl⟩
  have e : AM δ ω s = (δ, ω, 34) := by unfold AM; rw [if_pos h8]
  rw [e, if_neg (show ¬ (34 : Int) = 2 by decide)]
  refine .wlFold (x := x) (d := d) (ω := ω) O Y Y Y Y Y ?_
  exact .d1 Y (.cell Y Bj O Y) ⟨Y, Y⟩
 have hdb : ¬ ω.doubt = true := by rw [h8]; decide
 refine .sm Y (.q (.strlen Y underlying9 Y) Y (.ui Y Y Y (.an Y (.condD Y (fun h13 => ?_) (fun h13 => ?_)))))
 ·have hlong : s.length > 4000 := by omega
  refine .sr (.st Y Y Y CD ?_)
  refine .nil (.ptCast (b := be) (l' := [AA 33]) O Y (.then_n (.ret (.blk_r (.then_r (.doneD func70 Y Y (AW x d (.slice arr ω.recs.length crr) ω.synced (.slice abb (AB ω.recs).length cbb) ω.area ω.count ω.a ω.b ω.doubt be 33) O ?_))))))
  rintro u L' ⟨rfl, rfl⟩
  have e : AM δ ω s = (δ, ω, 33) := by unfold AM; rw [if_neg hdb, if_pos hlong]
  rw [e, if_neg (show ¬ (33 : Int) = 2 by decide)]
  refine .wlFold (x := x) (d := d) (ω := ω) O Y Y Y Y Y ?_
  exact .d1 Y (.cell Y Bj O Y) ⟨Y, Y⟩
 have hlong : ¬ s.length > 4000 := by omega
 refine .sm Y (.m Y (.nf Y FW (.u (.ld Y GB) (.q (.slen Y underlying133 Y) Y (.m Y (.q (.strlen Y underlying9 Y) Y (.q (.add Y Y om) Y (.q (.add Y Y om) Y (.cv func71 [_, _] (Jp x d (.slice arr ω.recs.length crr) ω.synced (.slice abb (AB ω.recs).length cbb) ω.area ω.count ω.a ω.b ω.doubt δ ((AB ω.recs).length + s.length + 6) hn) ?_)))))))))
 refine .u (.not Y) (.an Y (.condN Y (fun h17 => ?_) (fun h17 => ?_)))
 ·refine .sr (.st Y Y Y CD ?_)
  refine .nil (.ptCast (b := be) (l' := [AA 30]) O Y (.then_n (.ret (.blk_r (.then_r (.doneD func70 Y Y (AW x d (.slice arr ω.recs.length crr) ω.synced (.slice abb (AB ω.recs).length cbb) ω.area ω.count ω.a ω.b ω.doubt be 30) O ?_))))))
  rintro u L' ⟨rfl, rfl⟩
  have e : AM δ ω s = (δ, ω, 30) := by unfold AM; rw [if_neg hdb, if_neg hlong, if_pos h17]
  rw [e, if_neg (show ¬ (30 : Int) = 2 by decide)]
  refine .wlFold (x := x) (d := d) (ω := ω) O Y Y Y Y Y ?_
  exact .d1 Y (.cell Y Bj O Y) ⟨Y, Y⟩
 refine .skip (.blk_n (.then_n (.seq ?_)))
 have hrl := B9 s
 refine .region (.m Y (.nf Y FW (.u (.ld Y GB) (.oq (.call func72 Y Y (vs := [_]) Y (KP (.slice abb (AB ω.recs).length cbb) (AB ω.recs).length (A4 (AB ω.recs)) (EN (.slice abb (AB ω.recs).length cbb) (AB ω.recs)) (fun h hp => AE hp) (EV _) om)) ?_))))
 rintro v L' ⟨⟨ac, cc, rfl⟩, rfl⟩
 refine .m Y (.oq (.c func73 [_] (J6 s om)) ?_)
 rintro v L' ⟨⟨ar, cr, rfl⟩, rfl⟩
 refine .oq (.append (n := (AB ω.recs).length) (m := (BI s).length) (ys := A4 (BI s)) (p := EN (.slice ar (BI s).length cr) (BI s)) Y Y Y A8 (.inl ⟨_, underlying133⟩) Fo Y Y ?hc42 ?hr43 ?hb44 dQ) ?_
 case hc42 => exact EV _
 case hr43 => exact fun h hp => AE hp
 case hb44 => omega
 rintro v L' ⟨⟨a8, c8, rfl⟩, rfl⟩; rw [show (AB ω.recs).length + (BI s).length = (AB ω.recs ++ BI s).length by rw [length_append], show A4 (AB ω.recs) ++ A4 (BI s) = A4 (AB ω.recs ++ BI s) from (Cu _ _).symm]
 refine .an Y (.seq (.seq (.draw [11] [[0, 1, 2, 3, 4, 5, 6, 7, 8, 9, 10, 11], [12]] mixed kQ (.g0 (.mv Y Y (.mv Y Y (.nf Y Y Y FM (.kv Y (.ld Y AF) (.mv Y Y (.mv Y Y (.nf Y Y Y FW (.kv Y (.ld Y GB) (.kv Y (.slen Y underlying133 Y) (.hh Y (.c func74 [_, _, _, _] (M8 x d (.slice arr ω.recs.length crr) ω.synced (.slice abb (AB ω.recs).length cbb) ω.area ω.count ω.a ω.b ω.doubt (.slice a8 (AB ω.recs ++ BI s).length c8) δ ω.area (AB ω.recs ++ BI s) (AB ω.recs).length (EN (.slice a8 (AB ω.recs ++ BI s).length c8) (AB ω.recs ++ BI s)) hn har om (fun h hp => AE hp) (by rw [length_append]; omega) (by rw [length_append]; omega))) ?_))))))))))))))
 rintro v L' ⟨rfl, rfl⟩
 refine D.ph (.g0 (.kv Y (.assign Y) (.pf (.sm Y (.ui Y Y Y (.nt (.condN Y (fun h51 => ?_) (fun h51 => ?_))))))))
 ·refine .sm Y (.st Y Y Y CD ?_)
  refine .nil (.ptCast (b := be) (l' := [AA (Ca δ ω.area (AB ω.recs ++ BI s) (AB ω.recs).length).2]) O Y (.then_n (.rt (.doneD func70 Y Y (AW x d (.slice arr ω.recs.length crr) ω.synced (.slice abb (AB ω.recs).length cbb) ω.area ω.count ω.a ω.b ω.doubt be (Ca δ ω.area (AB ω.recs ++ BI s) (AB ω.recs).length).2) O ?_))))
  rintro u L' ⟨rfl, rfl⟩
  have h2 : (Ca δ ω.area (AB ω.recs ++ BI s) (AB ω.recs).length).2 = 2 := by rcases MB δ ω.area (AB ω.recs ++ BI s) (AB ω.recs).length with h | h; exact absurd h (by simpa using h51); exact h
  have e : AM δ ω s = ((Ca δ ω.area (AB ω.recs ++ BI s) (AB ω.recs).length).1, { ω with doubt := true }, 2) := by unfold AM; rw [if_neg hdb, if_neg hlong, if_neg (fun h => h h17), if_pos (by simpa using h51), h2]; rfl
  rw [e, h2, if_pos rfl]
  refine .wlFold (x := x) (d := d) (ω := { ω with doubt := true }) O Y Y Y Y Y ?_
  exact .d1 Y (.cell Y Bj O Y) ⟨Y, Y⟩
 refine .sk (.sm Y (.m Y (.m Y (.nf Y EE (.u (.ld Y Ch) (.m Y (.oq (.buildSlice1 (vs := [_]) Bu Fp Y Y Y Y Y dQ) ?_)))))))
 rintro v L' ⟨b12_7, rfl, rfl⟩
 refine .oq (.append1 Y Y Y Bu Fp Y Y ?c72 ?c73 (Nat.le_refl _) ?c74 dQ) ?_
 case c72 => (first | (simp [AD]; done) | (simp [AD, Cd, Value.cells]; done))
 case c73 => rfl
 case c74 => omega
 rintro v L' ⟨⟨a12_8, c12_8, rfl⟩, rfl⟩
 refine .m Y (.nf Y EE (.st Y Y Y II ?_))
 refine .nf Y FW (.st Y Y Y Ql ?_)
 refine .nt (.sr (.st Y Y Y CD ?_))
 refine .nil (.ptCast (b := be) (l' := [AA 0]) O Y (.then_n (.ret (.doneD func70 Y Y (AW x d _ _ _ _ _ _ _ _ be 0) O ?_))))
 rintro u L' ⟨rfl, rfl⟩
 have e : AM δ ω s = ((Ca δ ω.area (AB ω.recs ++ BI s) (AB ω.recs).length).1, { ω with recs := ω.recs ++ [s] }, 0) := by unfold AM; rw [if_neg hdb, if_neg hlong, if_neg (fun h => h h17), if_neg (by simpa using h51)]
 rw [e, if_neg (show ¬ (0 : Int) = 2 by decide)]
 refine .wlFold (x := x) (d := d) (ω := { ω with recs := ω.recs ++ [s] }) O Y (by simp) (by simp [Bo]) (by rw [CV]; simp [AB]) (by rw [CV]; simp [AB]) ?_
 exact .d1 Y (.cell Y Bj O Y) ⟨Y, Y⟩
/- not in this seat -/
/- not in this seat -/
/- not in this seat -/
def G2 (δ : Dk) (ω : Wl) : Int := max (-1) (min 4000 (64 * Ag δ - (AB ω.recs).length - 6))
theorem RH (x d : Nat) (ω : Wl) (δ : Dk) (hn : 2 ≤ δ.now.length ∧ δ.now.length ≤ 32768) (hfit : (AB ω.recs).length ≤ 4000000) : Fn prog 34 #[AG x] [CX x d ω, Bg d δ] fun v L => v = AA (G2 δ ω) ∧ L = [CX x d ω, Bg d δ] := by
 refine Fn.intro func34 Y Y fun F W => ?_
 refine .wlOpen (ω := ω) O fun vr vb => (.slAny (v := vr) O fun arr crr e _ => ?_)
 subst e
 refine .slAny (v := vb) O fun abb cbb e _ => ?_
 subst e
 have hh := CP hn
 refine .sr (.an Y (.seq (.draw [] [[0, 1, 2, 3, 4, 5, 6, 7, 8, 9, 10, 11, 12, 13, 14, 15]] mixed kQ (.go [Ar x _ _, Bg d δ] O (.mv Y Y (.nf Y Y Y Fb (.kv Y (.ld Y G3) (.m Y kQ (.c func69 [_] (Jk d δ hn)) O ?_))))))))
 refine D.kv Y (.mul Y Y om) (.mv Y Y (.nf Y Y Y FW (.kv Y (.ld Y GB) (.kv Y (.slen Y underlying133 Y) (.kv Y (.sub Y Y om) (.kv Y (.sub Y Y om) (.kv Y (.min2 Y Y) (.kv Y (.max2 Y Y) (.kv Y (.assign Y) (.pf (.ret (.wlFold (x := x) (d := d) (ω := ω) O Y Y Y Y Y ?_))))))))))))
 exact .vv
/- not in this seat -/
theorem UK (s : Bs) : Fn prog 182 #[AU s] [] fun v L => v = .bool (decide (s.length > 4000)) ∧ L = [] := by
 refine Fn.intro func182 Y Y fun F W => ?_
 refine .sr (.an Y (.sm Y (.q (.strlen Y underlying9 Y) Y (.ui Y Y Y (.an Y (.ret ?_))))))
 exact .dn Y Y ⟨congrArg Value.bool (decide_eq_decide.2 om), Y⟩
theorem LS (v : Value) (l : List Bs) (p : HP) (hr : ∀ h : Hp, p h → B5 1 h v l.length (Bo l)) (hl : l.length ≤ 4294967296) : Fn prog 187 #[v, .func (.func 182) #[] #[]] [p] fun u L => (∃ r : Int, u = AA r ∧ (decide (r ≥ 0) = l.any (fun s : Bs => decide (s.length > 4000)))) ∧ L = [p] := by
 refine Fn.intro func187 Y Y fun F W => ?_
 refine .rdAny (p := p) hr O fun aa ca e _ => ?_
 subst e
 refine .sr (.an Y (.seq (.sm Y (.q (.slen Y underlying65 Y) Y (.m Y (.nt (.block (.loopK (ι := Nat) (fun q E => (8, AA q) :: E) (fun q => []) (fun q => q ≤ l.length ∧ ∀ j (hj : j < q) (hl : j < l.length), ¬ l[j].length > 4000) (fun q => l.length - q) (0) (ts := [0, 1, 7]) O (⟨Nat.zero_le _, fun j hj => by omega⟩) O O ?_))))))))
 rintro i ⟨hi, hb⟩
 refine .sr (.ui Y Y Y (.nt (.seq (.condD Y (fun h9 => ?_) (fun h9 => ?_)))))
 ·have hi2 : i < l.length := by omega
  refine .rdShape (p := p) hr O om fun ba oa e => ?_
  subst e
  refine .sk (.seq (.block (.sm Y (.an Y (.sm Y (.m Y (.m Y (.q (.indexAddr Y Y Bu om) Y (.q (.loadRd (sz := 1) (j := i) (p := p) (v := AU l[i]) Y G9 O hr (by simp) (by simp [hi2])) Y (.oq (.callV func182 Y Y (us := []) (vs := [_]) (ws := []) Y Y (UK l[i])) ?_))))))))))
  rintro v L' ⟨rfl, rfl⟩
  refine .nt (.condD Y (fun h16 => ?_) (fun h16 => ?_))
  ·refine .sm Y (.an Y (.ret (.blk_r (.then_r (.then_r (.blk_r (.then_r ?_)))))))
   exact .dn Y Y ⟨⟨_, Y, by rw [decide_eq_true om]; exact (any_eq_true.2 ⟨l[i], getElem_mem hi2, decide_eq_true h16⟩).symm⟩, rfl⟩
  refine .skip (.blk_n (.then_n (.region (.q (.add Y Y om) Y (.m Y (.nt ?_))))))
  exact .rk (i + 1) (⟨by omega, fun j hj hl => by rcases Nat.lt_or_ge j i with h | h; exact hb j h hl; obtain rfl : j = i := om; exact h16⟩) om O
 refine .xe (.sr (.an Y (.ret ?_)))
 exact .dn Y Y ⟨⟨_, Y, by rw [decide_eq_false dQ]; symm; rw [any_eq_false]; intro s hs; obtain ⟨j, hj, rfl⟩ := mem_iff_getElem.1 hs; simpa using hb j om hj⟩, rfl⟩
theorem JC (v : Value) (l : List Bs) (p : HP) (hr : ∀ h : Hp, p h → B5 1 h v l.length (Bo l)) (hl : l.length ≤ 4294967296) : Fn prog 181 #[v, .func (.func 182) #[] #[]] [p] fun u L => u = .bool (l.any (fun s : Bs => decide (s.length > 4000))) ∧ L = [p] := by
 refine Fn.intro func181 Y Y fun F W => ?_
 refine .sr (.an Y (.sm Y (.m Y (.oq (.c func187 [_, _] (LS v l p hr hl)) ?_))))
 rintro v' L' ⟨⟨r, rfl, hrl⟩, rfl⟩
 refine .ui Y Y Y (.an Y (.ret ?_))
 exact .dn Y Y ⟨congrArg Value.bool hrl, Y⟩
theorem Oe (x d : Nat) (ω : Wl) (δ : Dk) (va : Value) (l : List Bs) (p : HP) (hI : MV δ ω) (hr : ∀ h : Hp, p h → B5 1 h va l.length (Bo l)) (hln : l.length ≤ 3000000) (hlb2 : (l.any fun s => decide (s.length > 4000)) = false → (AB l).length ≤ 3000000) : Fn prog 165 #[AG x, va] [CX x d ω, Bg d δ, p] fun v L => v = AA (A1 δ ω l).2.2 ∧ L = [CX x d (A1 δ ω l).2.1, Bg d (A1 δ ω l).1, p] := by
 refine Fn.introD (vs := [AG x, va]) func165 Y Y ?_
 intro F W
 refine .wlOpen (ω := ω) O fun vr vb => (.slAny (v := vr) O fun arr crr e _ => ?_)
 subst e
 refine .slAny (v := vb) O fun abb cbb e _ => ?_
 subst e
 refine .slAddr (T := 9) O fun hrc hra => ?_
 obtain ⟨hn, hA, har, hct, hsy, hfit⟩ := hI
 have hh := CP hn
 have hll := BU ω.recs
 have hlk := Lc ((AB l).length + 1) δ (1 - ω.area) (AB l) (0 / 64)
 have hlm := BU l
 refine .rdAny (p := p) hr O fun aq cq e _ => ?_
 subst e
 refine .sr (.oq (.alloc O4) ?_)
 rintro v L' ⟨be, rfl, rfl⟩
 refine .nil (.ptCast (b := be) (l' := [AA 0]) O Y (.then_n (.sm Y (.defer (vs := [_, _]) Y (.nt (.seq (.block (.sm Y (.nf Y GN (.u (.ld Y FV) (.an Y (.condB Y (fun h8 => ?_) (fun h8 => ?_)))))))))))))
 ·refine .sr (.st Y Y Y CD ?_)
  refine .nil (.ptCast (b := be) (l' := [AA 34]) O Y (.then_n (.ret (.blk_r (.then_r (.doneD func70 Y Y (AW x d (.slice arr ω.recs.length crr) ω.synced (.slice abb (AB ω.recs).length cbb) ω.area ω.count ω.a ω.b ω.doubt be 34) O ?_))))))
  rintro u L' ⟨rfl, rfl⟩
  have e : A1 δ ω l = (δ, ω, 34) := by unfold A1; rw [if_pos h8]
  rw [e, if_neg (show ¬ (34 : Int) = 2 by decide)]
  refine .wlFold (x := x) (d := d) (ω := ω) O Y Y Y Y Y ?_
  exact .d1 Y (.cell Y Bj O Y) ⟨Y, Y⟩
 have hdb : ¬ ω.doubt = true := by rw [h8]; decide
 refine .sm Y (.oq (.call func181 Y Y (vs := [_, _]) Y (JC _ l p hr om)) ?_)
 rintro v L' ⟨rfl, rfl⟩
 refine .an Y (.condB Y (fun h13 => ?_) (fun h13 => ?_))
 ·refine .sr (.st Y Y Y CD ?_)
  refine .nil (.ptCast (b := be) (l' := [AA 33]) O Y (.then_n (.ret (.blk_r (.then_r (.doneD func70 Y Y (AW x d (.slice arr ω.recs.length crr) ω.synced (.slice abb (AB ω.recs).length cbb) ω.area ω.count ω.a ω.b ω.doubt be 33) O ?_))))))
  rintro u L' ⟨rfl, rfl⟩
  have e : A1 δ ω l = (δ, ω, 33) := by unfold A1; rw [if_neg hdb, if_pos h13]
  rw [e, if_neg (show ¬ (33 : Int) = 2 by decide)]
  refine .wlFold (x := x) (d := d) (ω := ω) O Y Y Y Y Y ?_
  exact .d1 Y (.cell Y Bj O Y) ⟨Y, Y⟩
 have hlb := hlb2 (by simpa using h13)
 have hlong : ¬ l.any (fun s : Bs => decide (s.length > 4000)) = true := by rw [h13]; decide
 refine .sm Y (.m Y (.q (.slen Y underlying65 Y) Y (.q (.mul Y Y om) Y (.cv func71 [_, _] (Jp x d (.slice arr ω.recs.length crr) ω.synced (.slice abb (AB ω.recs).length cbb) ω.area ω.count ω.a ω.b ω.doubt δ ((l.length : Int) * 6) hn) ?_))))
 refine .u (.not Y) (.m Y (.ndec (t := 23) Y (fun h6_23 => ?_) (fun h6_23 => ?_)))
 ·refine .kNT (t := 22) Y h6_23 (.gk (.gk (.gk (.gk (.gk (.pT Y Y (.an Y (.condT Y (.sr (.st Y Y Y CD ?_))))))))))
  refine .nil (.ptCast (b := be) (l' := [AA 30]) O Y (.then_n (.ret (.blk_r (.then_r (.doneD func70 Y Y (AW x d (.slice arr ω.recs.length crr) ω.synced (.slice abb (AB ω.recs).length cbb) ω.area ω.count ω.a ω.b ω.doubt be 30) O ?_))))))
  rintro u L' ⟨rfl, rfl⟩
  have e : A1 δ ω l = (δ, ω, 30) := by unfold A1; rw [if_neg hdb, if_neg hlong, if_pos (by first | exact .inl h6_23 | exact .inr h16)]
  rw [e, if_neg (show ¬ (30 : Int) = 2 by decide)]
  refine .wlFold (x := x) (d := d) (ω := ω) O Y Y Y Y Y ?_
  exact .d1 Y (.cell Y Bj O Y) ⟨Y, Y⟩
 refine .kNF (t := 22) Y h6_23 (.gr (.m Y (.gr (.u (.nilp Y) (.gr (.fa Y GQ (.gr (.u (.ld Y AF) (.gr (.ui Y Y Y (.pF Y Y (.an Y (.condD Y (fun h16 => ?_) (fun h16 => ?_))))))))))))))
 ·refine .sr (.st Y Y Y CD ?_)
  refine .nil (.ptCast (b := be) (l' := [AA 30]) O Y (.then_n (.ret (.blk_r (.then_r (.doneD func70 Y Y (AW x d (.slice arr ω.recs.length crr) ω.synced (.slice abb (AB ω.recs).length cbb) ω.area ω.count ω.a ω.b ω.doubt be 30) O ?_))))))
  rintro u L' ⟨rfl, rfl⟩
  have e : A1 δ ω l = (δ, ω, 30) := by unfold A1; rw [if_neg hdb, if_neg hlong, if_pos (by first | exact .inl h6_23 | exact .inr h16)]
  rw [e, if_neg (show ¬ (30 : Int) = 2 by decide)]
  refine .wlFold (x := x) (d := d) (ω := ω) O Y Y Y Y Y ?_
  exact .d1 Y (.cell Y Bj O Y) ⟨Y, Y⟩
 refine .skip (.blk_n (.then_n (.seq ?_)))
 have hfull : ¬ (¬ ((l.length : Int) * 6 ≤ 64 * Ag δ) ∨ ω.count = 4294967295) := by rintro (h | h); exact h h6_23; exact h16 h
 refine .region (.m Y (.oq (.call func76 Y Y (vs := [_]) Y (JX _ l p hr om)) ?_))
 rintro v L' ⟨⟨al, cl, rfl⟩, rfl⟩
 refine .an Y (.seq (.sm Y (.m Y (.q (.slen Y underlying133 Y) Y (.cv func71 [_, _] (Jp x d (.slice arr ω.recs.length crr) ω.synced (.slice abb (AB ω.recs).length cbb) ω.area ω.count ω.a ω.b ω.doubt δ (AB l).length hn) ?_)))))
 refine .u (.not Y) (.nt (.condN Y (fun h36 => ?_) (fun h36 => ?_)))
 ·refine .sr (.st Y Y Y CD ?_)
  refine .nil (.ptCast (b := be) (l' := [AA 30]) O Y (.then_n (.rt (.doneD func70 Y Y (AW x d (.slice arr ω.recs.length crr) ω.synced (.slice abb (AB ω.recs).length cbb) ω.area ω.count ω.a ω.b ω.doubt be 30) O ?_))))
  rintro u L' ⟨rfl, rfl⟩
  have e : A1 δ ω l = (δ, ω, 30) := by unfold A1; rw [if_neg hdb, if_neg hlong, if_neg hfull, if_pos h36]
  rw [e, if_neg (show ¬ (30 : Int) = 2 by decide)]
  refine .wlFold (x := x) (d := d) (ω := ω) O Y Y Y Y Y ?_
  exact .d1 Y (.cell Y Bj O Y) ⟨Y, Y⟩
 refine .sk (.seq (.sm Y (.m Y (.nf Y FM (.u (.ld Y AF) (.q (.sub Y Y om) Y (.m Y (.oq (.call func74 Y Y (vs := [_, _, _, _]) Y (M8 x d (.slice arr ω.recs.length crr) ω.synced (.slice abb (AB ω.recs).length cbb) ω.area ω.count ω.a ω.b ω.doubt (.slice al (AB l).length cl) δ (1 - ω.area) (AB l) 0 (EN (.slice al (AB l).length cl) (AB l)) hn om om (fun h hp => AE hp) om (Nat.zero_le _))) ?_))))))))
 rintro v L' ⟨rfl, rfl⟩
 refine .an Y (.sm Y (.ui Y Y Y (.nt (.condN Y (fun h46 => ?_) (fun h46 => ?_)))))
 ·refine .sm Y (.st Y Y Y CD ?_)
  refine .nil (.ptCast (b := be) (l' := [AA (Ca δ (1 - ω.area) (AB l) 0).2]) O Y (.then_n (.rt (.doneD func70 Y Y (AW x d (.slice arr ω.recs.length crr) ω.synced (.slice abb (AB ω.recs).length cbb) ω.area ω.count ω.a ω.b ω.doubt be (Ca δ (1 - ω.area) (AB l) 0).2) O ?_))))
  rintro u L' ⟨rfl, rfl⟩
  have h2 : (Ca δ (1 - ω.area) (AB l) 0).2 = 2 := by rcases MB δ (1 - ω.area) (AB l) 0 with h | h; exact absurd h (by simpa using h46); exact h
  have e : A1 δ ω l = ((Ca δ (1 - ω.area) (AB l) 0).1, { ω with doubt := true }, 2) := by unfold A1; rw [if_neg hdb, if_neg hlong, if_neg hfull, if_neg (fun h => h h36), if_pos (by simpa using h46), h2]; rfl
  rw [e, h2, if_pos rfl]
  refine .wlFold (x := x) (d := d) (ω := { ω with doubt := true }) O Y Y Y Y Y ?_
  exact .d1 Y (.cell Y Bj O Y) ⟨Y, Y⟩
 refine .sk (.sm Y (.m Y (.nf Y FM (.u (.ld Y AF) (.q (.sub Y Y om) Y (.m Y (.m Y (.oq (.c func77 [_, _, _, _] (JU x d (.slice arr ω.recs.length crr) (.slice abb (AB ω.recs).length cbb) ω (Ca δ (1 - ω.area) (AB l) 0).1 (1 - ω.area) _ (.slice al (AB l).length cl) l p (EN (.slice al (AB l).length cl) (AB l)) hct ?hA66 ?hl67 hr (fun h hp => AE hp))) ?_))))))))
 case hA66 => have := hlk.2; unfold Ca; omega
 case hl67 => omega
 rintro v L' (⟨δ', hs, rfl, rfl⟩ | ⟨δ', hs, rfl, vr', vb', rfl⟩)
 ·refine .st Y Y Y CD ?_
  refine .nil (.ptCast (b := be) (l' := [AA 2]) O Y (.then_n (.ret (.doneD func70 Y Y (AW x d (.slice arr ω.recs.length crr) ω.synced (.slice abb (AB ω.recs).length cbb) ω.area ω.count ω.a ω.b ω.doubt be 2) O ?_))))
  rintro u L' ⟨rfl, rfl⟩
  have e : A1 δ ω l = (δ', { ω with doubt := true }, 2) := by unfold A1; rw [if_neg hdb, if_neg hlong, if_neg hfull, if_neg (fun h => h h36), if_neg (by simpa using h46), hs]; rfl
  rw [e, if_pos rfl]
  refine .wlFold (x := x) (d := d) (ω := { ω with doubt := true }) O Y Y Y Y Y ?_
  exact .d1 Y (.cell Y Bj O Y) ⟨Y, Y⟩
 refine .st Y Y Y CD ?_
 refine .nil (.ptCast (b := be) (l' := [AA 0]) O Y (.then_n (.ret (.doneD func70 Y Y (AW x d vr' _ vb' _ _ _ _ _ be 0) O ?_))))
 rintro u L' ⟨rfl, rfl⟩
 have e : A1 δ ω l = (δ', { ω with recs := l, synced := l.length, area := 1 - ω.area, count := ω.count + 1 }, 0) := by unfold A1; rw [if_neg hdb, if_neg hlong, if_neg hfull, if_neg (fun h => h h36), if_neg (by simpa using h46), hs]; rfl
 rw [e, if_neg (show ¬ (0 : Int) = 2 by decide)]
 refine .wlFold (x := x) (d := d) (ω := { ω with recs := l, synced := l.length, area := 1 - ω.area, count := ω.count + 1 }) O Y Y Y Y Y ?_
 exact .d1 Y (.cell Y Bj O Y) ⟨Y, Y⟩
def DV : Mk := ⟨1, 0, 0, 0, 0, 0⟩
def C3 (δ : Dk) : Nat → Dk × Int
 | 0 => (δ, 0)
 | 1 => δ.write 0 zs
 | 2 => (δ.write 0 zs).1.write 1 DV.sec
 | _ => ((δ.write 0 zs).1.write 1 DV.sec).1.sync
def newW : Wl := ⟨[], 0, 0, 1, 0, 0, false⟩
def Ab (δ : Dk) : Dk × Option Wl := if (C3 δ 1).2 ≠ 0 then ((C3 δ 1).1, none) else if (C3 δ 2).2 ≠ 0 then ((C3 δ 2).1, none) else if (C3 δ 3).2 ≠ 0 then ((C3 δ 3).1, none) else ((C3 δ 3).1, some newW)
theorem S6 (b1 d : Nat) (δ : Dk) (hA : δ.acts < 4611686018427387904) : Fn prog 96 #[AG b1] [Ar b1 [AG d] 26, Bg d δ] fun v L => v = AA (δ.write 0 zs).2 ∧ L = [Ar b1 [AG d] 26, Bg d (δ.write 0 zs).1] := by
 refine Fn.intro func96 Y Y fun F W => ?_
 refine .sr (.an Y (.seq (.draw [1, 3] [[0, 1, 2], [3], [4]] mixed kQ (.go [Ar b1 [AG d] 26] O (.k Y (.ld Y G3) (.hh Y (.make Y Y A8 Fo Y ⟨by simp, by simp; rfl⟩ ?hc3) ?_))))))
 case hc3 => omega
 rintro v L' ⟨bz, rfl, rfl⟩; rw [show (64 : Int).toNat = 64 from rfl]
 refine D.kv Y (.bytesPt (cs := zs) Y underlying133 underlying5 underlying9 O Y dQ dQ) (.ph (.g0 (.hh Y (.c func97 [_, _, _] (GY d δ 0 zs hA)) ?_)))
 rintro v L' ⟨rfl, rfl⟩
 refine D.ph (.g0 (.kv Y (.assign Y) (.pf (.ret ?_))))
 exact .vv
theorem Th (b1 d : Nat) (δ : Dk) (hA : δ.acts < 4611686018427387904) : Fn prog 98 #[AG b1] [Ar b1 [AG d] 26, Bg d δ] fun v L => v = AA (δ.write 1 DV.sec).2 ∧ L = [Ar b1 [AG d] 26, Bg d (δ.write 1 DV.sec).1] := by
 refine Fn.intro func98 Y Y fun F W => ?_
 refine .sr (.an Y (.seq (.draw [3] [[0, 1, 2, 3], [4]] mixed kQ (.go [Ar b1 [AG d] 26] O (.kv Y (.ld Y G3) (.kv Y (.to (v' := .agg (Xc DV).toArray) (.build (us := [(0, _)]) Re RQ Y Y (by simp [AD])) Y) (.m Y kQ (.c func99 [_] (KB DV)) O ?_)))))))
 refine D.hh Y (.c func97 [_, _, _] (GY d δ 1 DV.sec hA)) ?_
 rintro v L' ⟨rfl, rfl⟩
 refine D.ph (.g0 (.kv Y (.assign Y) (.pf (.ret ?_))))
 exact .vv
theorem B4 (δ : Dk) (i : Nat) : (C3 δ i).1.now.length = δ.now.length ∧ (C3 δ i).1.acts ≤ δ.acts + 3 := by
 have h1 := Bi δ 0 zs
 have h2 := Bi (δ.write 0 zs).1 1 DV.sec
 have h3 := EZ ((δ.write 0 zs).1.write 1 DV.sec).1
 match i with
 | 0 => exact ⟨rfl, by show δ.acts ≤ _; omega⟩
 | 1 => exact ⟨h1.1, by show (δ.write 0 zs).1.acts ≤ _; omega⟩
 | 2 => exact ⟨by show ((δ.write 0 zs).1.write 1 DV.sec).1.now.length = _; omega, by show ((δ.write 0 zs).1.write 1 DV.sec).1.acts ≤ _; omega⟩
 | (n + 3) => exact ⟨by show (((δ.write 0 zs).1.write 1 DV.sec).1.sync).1.now.length = _; rw [h3.1]; omega, by show (((δ.write 0 zs).1.write 1 DV.sec).1.sync).1.acts ≤ _; omega⟩
theorem Z7 : Av prog 44 = some .nilFunc := by kernel_rfl
theorem V9 : A7 prog 44 = some none := by kernel_rfl
theorem O0 (d : Nat) (δ : Dk) (hA : δ.acts + 10 < 4611686018427387904) : Fn prog 60 #[AG d] [Bg d δ] fun v L => ((Ab δ).2 = none ∧ v = .tuple #[.pointer none, AA 2] ∧ L = [Bg d (Ab δ).1]) ∨
    ((Ab δ).2 = some newW ∧ ∃ x, v = .tuple #[AG x, AA 0] ∧ L = [Bg d (Ab δ).1, CX x d newW]) := by
 refine Fn.intro func60 Y Y fun F W => ?_
 have hk := B4 δ
 refine .sr (.oq (.box Y) ?_)
 rintro v L' ⟨b1, rfl, rfl⟩
 refine .a Y (.a Y (.nil (.ptCast (b := b1) (l' := [AG d]) O Y (.then_n (.seq (.sr (.u (.ld Y G3) (.q (.ptreq Y Y underlying26) Y (.nt (.condF Y (.sk (.seq (.sr (.q (.func (us := []) (vs := [_]) Y Y) Y (.q (.func (us := []) (vs := [_]) Y Y) Y (.u (.ld Y G3) (.q (.func (us := [_]) (vs := []) Y Y) Y (.oq (.buildSlice1 (vs := [_, _, _]) OS Z7 Y Y Y Y Y dQ) ?_))))))))))))))))))
 rintro v L' ⟨b3_4, rfl, rfl⟩
 refine .q (.slen Y underlying161 Y) Y (.m Y (.nt (.block (.loopK (ι := Nat) (fun q E => (14, AA q) :: E) (fun q => [Bg d (C3 δ q).1]) (fun q => q ≤ 3 ∧ ∀ j, j < q → (C3 δ (j + 1)).2 = 0) (fun q => 3 - q) (0) (ts := [1, 12, 13]) O (⟨Nat.zero_le _, fun j hj => by omega⟩) O O ?_))))
 rintro i ⟨hi, hb⟩
 refine .sr (.ui Y Y Y (.nt (.seq (.condD Y (fun h15 => ?_) (fun h15 => ?_)))))
 ·refine .sk (.seq (.block (.sr ?_)))
  rcases (show i = 0 ∨ i = 1 ∨ i = 2 by omega) with rfl | rfl | rfl
  ·refine .q (.indexAddr Y Y OS om) Y (.u (.ld Y V9) (.an Y (.sm Y (.oq (.callV func96 Y Y (us := []) (vs := []) (ws := [_]) Y Y (S6 b1 d δ om)) ?_))))
   rintro v L' ⟨rfl, rfl⟩
   refine .ui Y Y Y (.nt (.condN Y (fun h20 => ?_) (fun h20 => ?_)))
   ·refine .sr (.a Y (.an Y (.ret (.blk_r (.then_r (.then_r (.blk_r (.then_r ?_))))))))
    have hF : Ab δ = ((C3 δ 1).1, none) := by unfold Ab; rw [if_pos (show (C3 δ 1).2 ≠ 0 from h20)]
    exact .dn Y Y (.inl ⟨by rw [hF], rfl, by rw [hF]⟩)
   refine .skip (.blk_n (.then_n (.region (.q (.add Y Y om) Y (.m Y (.nt ?_))))))
   exact .rk (1) (⟨by omega, fun j hj => by rcases Nat.lt_or_ge j 0 with h | h; exact hb j h; obtain rfl : j = 0 := om; exact h20⟩) om O
  ·refine .q (.indexAddr Y Y OS om) Y (.u (.ld Y V9) (.an Y (.sm Y (.oq (.callV func98 Y Y (us := []) (vs := []) (ws := [_]) Y Y (Th b1 d (C3 δ 1).1 (by have := (B4 δ 1).2; omega))) ?_))))
   rintro v L' ⟨rfl, rfl⟩
   refine .ui Y Y Y (.nt (.condN Y (fun h20 => ?_) (fun h20 => ?_)))
   ·refine .sr (.a Y (.an Y (.ret (.blk_r (.then_r (.then_r (.blk_r (.then_r ?_))))))))
    have hF : Ab δ = ((C3 δ 2).1, none) := by unfold Ab; rw [if_neg (by rw [hb 0 om]; decide), if_pos (show (C3 δ 2).2 ≠ 0 from h20)]
    exact .dn Y Y (.inl ⟨by rw [hF], rfl, by rw [hF]⟩)
   refine .skip (.blk_n (.then_n (.region (.q (.add Y Y om) Y (.m Y (.nt ?_))))))
   exact .rk (2) (⟨by omega, fun j hj => by rcases Nat.lt_or_ge j 1 with h | h; exact hb j h; obtain rfl : j = 1 := om; exact h20⟩) om O
  refine .q (.indexAddr Y Y OS om) Y (.u (.ld Y V9) (.an Y (.sm Y (.oq (.callV func100 Y Y (us := [_]) (vs := []) (ws := []) Y Y (Jj d (C3 δ 2).1 ?hA34)) ?_))))
  case hA34 => have := (B4 δ 2).2; omega
  rintro v L' ⟨rfl, rfl⟩
  refine .ui Y Y Y (.nt (.condN Y (fun h20 => ?_) (fun h20 => ?_)))
  ·refine .sr (.a Y (.an Y (.ret (.blk_r (.then_r (.then_r (.blk_r (.then_r ?_))))))))
   have hF : Ab δ = ((C3 δ 3).1, none) := by unfold Ab; rw [if_neg (by rw [hb 0 om]; decide), if_neg (by rw [hb 1 om]; decide), if_pos (show (C3 δ 3).2 ≠ 0 from h20)]
   exact .dn Y Y (.inl ⟨by rw [hF], rfl, by rw [hF]⟩)
  refine .skip (.blk_n (.then_n (.region (.q (.add Y Y om) Y (.m Y (.nt ?_))))))
  exact .rk (3) (⟨by omega, fun j hj => by rcases Nat.lt_or_ge j 2 with h | h; exact hb j h; obtain rfl : j = 2 := om; exact h20⟩) om O
 refine .xe (.seq ?_)
 obtain rfl : i = 3 := by omega
 refine .add (Ak 9 1) (.add (Ak 5 1) (.region (.u (.ld Y G3) (.q (.build (us := [(0, _), (5, _)]) Zz ZC Y Y (by simp [AD])) Y (.oq (.box Y) ?_)))))
 rintro v L' ⟨x, rfl, rfl⟩
 refine .a Y (.a Y (.nil (.ptCast (b := x) (l' := [AG d, .slice none 0 0, AA 0, .slice none 0 0, AA 0, AA 1, AA 0, AA 0, .bool false]) O Y (.then_n (.ret ?_)))))
 have hF : Ab δ = ((C3 δ 3).1, some newW) := by unfold Ab; rw [if_neg (by rw [hb 0 om]; decide), if_neg (by rw [hb 1 om]; decide), if_neg (by rw [hb 2 om]; decide)]
 refine .wlFold (x := x) (d := d) (ω := newW) O Y Y Y Y Y ?_
 exact .dn Y Y (.inr ⟨by rw [hF], x, rfl, by rw [hF]⟩)
structure Lg where
 acc : Int
 cur : Int
 base : Int
 snap : Bs
 ents : List Bs
 zxs : List Int
 doubt : Bool
def RI : Lg := ⟨0, 0, 0, [], [], [], false⟩
def BW (g x : Nat) (Λ : Lg) : HP := fun h => ∃ y : (Option Addr × Nat) × (Option Addr × Nat), True ∧ CG [Ar g [AA Λ.acc, AA Λ.cur, AG x, AA Λ.base, AU Λ.snap, .slice y.1.1 Λ.ents.length y.1.2, .slice y.2.1 Λ.zxs.length y.2.2, .bool Λ.doubt] 90,
 Cp (.slice y.1.1 Λ.ents.length y.1.2) Λ.ents, Cr (.slice y.2.1 Λ.zxs.length y.2.2) Λ.zxs] h
section
variable {W : World} {n : Nat} {ds : List Deferred} {E : By} {L R : List HP} {X : Act → World → Prop}
theorem G.lgOpen {g x : Nat} {Λ : Lg} (hL : BT (BW g x Λ) L R) (h : ∀ ea ec za zc, G W n ds E (Ar g [AA Λ.acc, AA Λ.cur, AG x, AA Λ.base, AU Λ.snap, .slice ea Λ.ents.length ec, .slice za Λ.zxs.length zc, .bool Λ.doubt] 90 :: Cp (.slice ea Λ.ents.length ec) Λ.ents :: Cr (.slice za Λ.zxs.length zc) Λ.zxs :: R) X) : G W n ds E L X :=
 G.focus hL (G.open (q := fun y : (Option Addr × Nat) × (Option Addr × Nat) => [Ar g [AA Λ.acc, AA Λ.cur, AG x, AA Λ.base, AU Λ.snap, .slice y.1.1 Λ.ents.length y.1.2, .slice y.2.1 Λ.zxs.length y.2.2, .bool Λ.doubt] 90, Cp (.slice y.1.1 Λ.ents.length y.1.2) Λ.ents, Cr (.slice y.2.1 Λ.zxs.length y.2.2) Λ.zxs]) (φ := fun _ => True) (fun _ hp => hp) fun y _ => h y.1.1 y.1.2 y.2.1 y.2.2)
theorem G.lgFold {g x : Nat} (Λ : Lg) {l es zs : List Value} {ea za : Option Addr} {ec zc m k : Nat} (hL : Am [Ar g l 90, AV 9 1 (.slice ea m ec) m es, AV 3 1 (.slice za k zc) k zs] L R)
  (hl : l = [AA Λ.acc, AA Λ.cur, AG x, AA Λ.base, AU Λ.snap, .slice ea m ec, .slice za k zc, .bool Λ.doubt]) (hm : m = Λ.ents.length) (hk : k = Λ.zxs.length) (he : es = Bo Λ.ents) (hz : zs = Aq Λ.zxs) (h : G W n ds E (BW g x Λ :: R) X) : G W n ds E L X := by
 subst hl; subst hm; subst hk; subst he; subst hz
 exact G.fold hL (fun _ hp => ⟨((ea, ec), (za, zc)), trivial, hp⟩) h
theorem G.lf {g x : Nat} (Λ : Lg) {l es zs : List Value} {ea za : Option Addr} {ec zc m k : Nat} (h : G W n ds E (BW g x Λ :: R) X) (hL : Am [Ar g l 90, AV 9 1 (.slice ea m ec) m es, AV 3 1 (.slice za k zc) k zs] L R := by repeat' constructor) (hl : l = [AA Λ.acc, AA Λ.cur, AG x, AA Λ.base, AU Λ.snap, .slice ea m ec, .slice za k zc, .bool Λ.doubt] := by exact rfl) (hm : m = Λ.ents.length := by first | rfl | simp [Lg.keep]) (hk : k = Λ.zxs.length := by first | rfl | simp [Lg.keep]) (he : es = Bo Λ.ents := by first | rfl | simp [Lg.keep]) (hz : zs = Aq Λ.zxs := by first | rfl | simp [Lg.keep]) : G W n ds E L X := G.lgFold Λ hL hl hm hk he hz h
end
def A5 (Λ : Lg) : Int := Λ.zxs.getLast?.getD Λ.base
def Lg.met (Λ : Lg) (e : Int) : Lg := if e = 2 then ⟨Λ.acc, Λ.cur, Λ.base, Λ.snap, Λ.ents, Λ.zxs, true⟩ else Λ
def CU (e : Int) : Int := if e = 30 ∨ e = 33 then 83 else e
def Lg.keep (Λ : Lg) (s : Bs) (z : Int) : Lg := ⟨Λ.acc, Λ.cur, Λ.base, Λ.snap, Λ.ents ++ [s], Λ.zxs ++ [z], Λ.doubt⟩
def E6 : Nat → Bs → List Bs
 | 0, _ => []
 | f + 1, s => if s = [] then [] else s.take 4000 :: E6 f (s.drop 4000)
def HM (s : Bs) : List Bs := E6 s.length s
def Cj (base : Int) (n : Nat) : Bs := Bc base ++ Bp n
def Ae (base : Int) (snap : Bs) : List Bs := Cj base snap.length :: HM snap
theorem HN : ∀ (f g : Nat) (s : Bs), s.length ≤ f → s.length ≤ g → E6 f s = E6 g s
 | 0, 0, _, _, _ => rfl
 | 0, g + 1, s, h, _ => by
  have : s = [] := eq_nil_of_length_eq_zero om
  subst this; rfl
 | f + 1, 0, s, _, h => by
  have : s = [] := eq_nil_of_length_eq_zero om
  subst this; rfl
 | f + 1, g + 1, s, hf, hg => by
  unfold E6
  split
  ·rfl
  ·rename_i h
   have : 0 < s.length := length_pos_iff.2 h
   rw [HN f g (s.drop 4000) (by rw [length_drop]; omega) (by rw [length_drop]; omega)]
theorem Ky {s : Bs} (h : s ≠ []) : HM s = s.take 4000 :: HM (s.drop 4000) := by
 have hl : 0 < s.length := length_pos_iff.2 h
 unfold HM
 rw [HN s.length (s.length - 1 + 1) s om om]
 show (if s = [] then [] else s.take 4000 :: E6 (s.length - 1) (s.drop 4000)) = _
 rw [if_neg h, HN (s.length - 1) (s.drop 4000).length (s.drop 4000) (by rw [length_drop]; omega) (Nat.le_refl _)]
theorem L6 : HM [] = [] := rfl
def slen : Value → Nat
 | .slice _ n _ => n
 | _ => 0
def Oa (e : En) : Bool := e.subs.all fun y => decide (slen y.subsV = 0)
def C7 (e : En) : Bool := Oa e && (ET (Bd e)).isSome
structure Ld where
 δ : Dk
 ω : Wl
 Λ : Lg
def Ce (Λ : Lg) (r : Dk × Wl × Int) : Ld × Int := (⟨r.1, r.2.1, Λ.met r.2.2⟩, CU r.2.2)
def AK (s : Ld) (e : En) : Ld × Int :=
 if s.Λ.doubt = true then (s, 2) else if C7 e = false then (s, 1) else if e.zx ≤ A5 s.Λ then (s, 81) else if s.Λ.ents.length = 200 ∨ ((Bd e).length : Int) > G2 s.δ s.ω then (s, 83)
 else if (Ce s.Λ (AM s.δ s.ω (Bd e))).2 = 0 then (⟨(AM s.δ s.ω (Bd e)).1, (AM s.δ s.ω (Bd e)).2.1, (Ce s.Λ (AM s.δ s.ω (Bd e))).1.Λ.keep (Bd e) e.zx⟩, 0) else Ce s.Λ (AM s.δ s.ω (Bd e))
def AO (s : Ld) : Ld × Int := if s.Λ.doubt = true then (s, 2) else Ce s.Λ (Ay s.δ s.ω)
def Lg.setAcc (Λ : Lg) (n : Int) : Lg := ⟨n, Λ.cur, Λ.base, Λ.snap, Λ.ents, Λ.zxs, Λ.doubt⟩
def Lg.setCur (Λ : Lg) (n : Int) : Lg := ⟨Λ.acc, n, Λ.base, Λ.snap, Λ.ents, Λ.zxs, Λ.doubt⟩
def AR (s : Ld) (n : Int) : Ld × Int :=
 if s.Λ.doubt = true then (s, 2) else if n < s.Λ.acc ∨ n > 1073741824 then (s, 82) else if n = s.Λ.acc then (s, 0)
 else if (Ce s.Λ (Af s.δ s.ω n s.Λ.cur)).2 = 0 then (⟨(Af s.δ s.ω n s.Λ.cur).1, (Af s.δ s.ω n s.Λ.cur).2.1, (Ce s.Λ (Af s.δ s.ω n s.Λ.cur)).1.Λ.setAcc n⟩, 0) else Ce s.Λ (Af s.δ s.ω n s.Λ.cur)
def BZ (s : Ld) (n : Int) : Ld × Int :=
 if (Ce s.Λ (Af s.δ s.ω s.Λ.acc n)).2 = 0 then (⟨(Af s.δ s.ω s.Λ.acc n).1, (Af s.δ s.ω s.Λ.acc n).2.1, (Ce s.Λ (Af s.δ s.ω s.Λ.acc n)).1.Λ.setCur n⟩, 0) else Ce s.Λ (Af s.δ s.ω s.Λ.acc n)
def AY (s : Ld) (n : Int) : Ld × Int :=
 if s.Λ.doubt = true then (s, 2) else if n < s.Λ.cur ∨ n > s.Λ.acc then (s, 82) else if (AO s).2 ≠ 0 then AO s else BZ (AO s).1 n
def Ba (out : List Int) (z : Int) : List Int :=
 if z = 0 then out else if out ≠ [] ∧ (out.getLastD 0) / 4294967296 = z / 4294967296 then out.dropLast ++ [z] else out ++ [z]
def A3 (Λ : Lg) : List Int := (Λ.base :: Λ.zxs).foldl Ba []
structure SR (Λ : Lg) : Prop where
 ents : Λ.ents.length ≤ 200
 same : Λ.zxs.length = Λ.ents.length
 each : ∀ s ∈ Λ.ents, s.length ≤ 1073741824
 base : I64 Λ.base
 zxs : ∀ z ∈ Λ.zxs, I64 z
theorem P9 (t : Bs) (k : Nat) : t.take (min k t.length) = t.take k := by
 rcases Nat.le_total k t.length with h | h
 ·rw [Nat.min_eq_left h]
 ·rw [Nat.min_eq_right h, take_of_length_le (Nat.le_refl _), take_of_length_le h]
theorem O6 (t : Bs) (k : Nat) : t.drop (min k t.length) = t.drop k := by
 rcases Nat.le_total k t.length with h | h
 ·rw [Nat.min_eq_left h]
 ·rw [Nat.min_eq_right h, drop_eq_nil_of_le (Nat.le_refl _), drop_eq_nil_of_le h]
theorem AI.shaped1 {P : Program} {E : By} {o : Oper} {pre R : List HP} {e : TypeId} {sz k : Nat} {ys : List Value} (hk : 0 < k) (h : AI P o E pre fun v L' => (∃ a c, v = .slice a k c) ∧ L' = AV e sz v k ys :: R) :
  AI P o E pre fun v L' => ∃ b c, v = .slice (some ⟨b, 0, none⟩) k c ∧ L' = AV e sz v k ys :: R := by
 intro ρ w F ha hs
 refine (h ρ w F ha hs).mono ?_
 rintro v w' ⟨L', ⟨-, rfl⟩, hs', hk'⟩
 obtain ⟨h1, -, hp⟩ := AZ hs'
 rcases hp with ⟨-, h2, -⟩ | ⟨b, cap, rest, fr, hv, -⟩
 ·omega
 ·exact ⟨_, ⟨b, cap, hv, rfl⟩, hs', hk'⟩
theorem Qy (g x : Nat) (Λ : Lg) (s : Bs) (z : Int) (hl : SR Λ) : Fn prog 37 #[AG g, AU s, AA z] [BW g x Λ] fun v L => v = .tuple #[] ∧ L = [BW g x (Λ.keep s z)] := by
 refine Fn.intro func37 Y Y fun F W => ?_
 refine .lgOpen O fun ea ec za zc => ?_
 have h1 := hl.ents
 have h2 := hl.same
 refine .sm Y (.m Y (.nf Y Ds (.u (.ld Y Ch) (.m Y (.oq (.buildSlice1 (vs := [_]) Bu Fp Y Y Y Y Y dQ) ?_)))))
 rintro v L' ⟨b0, rfl, rfl⟩
 refine .oq (.append1 Y Y Y Bu Fp Y Y ?c9 ?c10 (Nat.le_refl _) ?c11 dQ) ?_
 case c9 => (first | (simp [AD]; done) | (simp [AD, Cd, Value.cells]; done))
 case c10 => rfl
 case c11 => omega
 rintro v L' ⟨⟨a0, c0, rfl⟩, rfl⟩
 refine .nf Y Ds (.st Y Y Y II ?_)
 refine .nt (.region (.m Y (.m Y (.nf Y Cl (.u (.ld Y DM) (.m Y (.oq (.buildSlice1 (vs := [_]) BC Fk Y Y Y Y Y dQ) ?_)))))))
 rintro v L' ⟨b1, rfl, rfl⟩
 refine .oq (.append1 Y Y Y BC Fk Y Y ?c27 ?c28 (Nat.le_refl _) ?c29 dQ) ?_
 case c27 => (first | (simp [AD]; done) | (simp [AD, Cd, Value.cells]; done))
 case c28 => rfl
 case c29 => omega
 rintro v L' ⟨⟨a1, c1, rfl⟩, rfl⟩
 refine .nf Y Cl (.st Y Y Y HV ?_)
 refine .nil (.done_n (.lf (g := g) (x := x) (Λ.keep s z) ?_))
 exact .vv
theorem Jz (g x : Nat) (Λ : Lg) (e : Int) : Fn prog 35 #[AG g, AA e] [BW g x Λ] fun v L => v = AA (CU e) ∧ L = [BW g x (Λ.met e)] := by
 refine Fn.intro func35 Y Y fun F W => ?_
 refine .lgOpen O fun ea ec za zc => (.sr (.an Y (.seq (.sm Y (.nt (.block (.sr (.ui Y Y Y (.an Y (.condD Y (fun h6 => ?_) (fun h6 => ?_)))))))))))
 ·refine .region (.m Y (.nf Y F0 (.st Y Y Y Og ?_)))
  refine .nil (.blk_n (.then_n (.sm Y (.an Y (.ret ?_)))))
  have hm : Λ.met e = ⟨Λ.acc, Λ.cur, Λ.base, Λ.snap, Λ.ents, Λ.zxs, true⟩ := by unfold Lg.met; rw [if_pos h6]
  have he : CU e = e := by unfold CU; rw [if_neg om]
  rw [hm, he]
  refine .lf (g := g) (x := x) ⟨Λ.acc, Λ.cur, Λ.base, Λ.snap, Λ.ents, Λ.zxs, true⟩ ?_
  exact .vv
 refine .seq (.sr (.ui Y Y Y (.an Y (.dec (t := 11) Y (fun h11 => ?_) (fun h11 => ?_)))))
 ·refine .condT Y (.sk (.condT Y (.sr (.an Y (.ret (.blk_r (.then_r ?_)))))))
  have hm : Λ.met e = Λ := by unfold Lg.met; rw [if_neg h6]
  have he : CU e = 83 := by unfold CU; rw [if_pos om]
  rw [hm, he]
  refine .lf (g := g) (x := x) Λ ?_
  exact .vv
 refine .condF Y (.region (.ui Y Y Y (.an Y (.dec (t := 11) Y (fun h11 => ?_) (fun h11 => ?_)))))
 ·refine .condT Y (.sr (.an Y (.ret (.blk_r (.then_r ?_)))))
  have hm : Λ.met e = Λ := by unfold Lg.met; rw [if_neg h6]
  have he : CU e = 83 := by unfold CU; rw [if_pos om]
  rw [hm, he]
  refine .lf (g := g) (x := x) Λ ?_
  exact .vv
 refine .condF Y (.skip (.blk_n (.then_n (.sm Y (.an Y (.ret ?_))))))
 have hm : Λ.met e = Λ := by unfold Lg.met; rw [if_neg h6]
 have he : CU e = e := by unfold CU; rw [if_neg om]
 rw [hm, he]
 refine .lf (g := g) (x := x) Λ ?_
 exact .vv
theorem Vg {Λ : Lg} (h : Λ.zxs.length = 0) : A5 Λ = Λ.base := by
 unfold A5; rw [eq_nil_of_length_eq_zero h]; rfl
theorem X5 {Λ : Lg} {i : Nat} (h : i + 1 = Λ.zxs.length) : A5 Λ = Λ.zxs[i]'om := by
 unfold A5
 rw [List.getLast?_eq_getElem?, List.getElem?_eq_getElem om]
 simp only [Option.getD_some]
 congr 1; omega
theorem B2 (g x : Nat) (Λ : Lg) (hl : SR Λ) : Fn prog 25 #[AG g] [BW g x Λ] fun v L => v = AA (A5 Λ) ∧ L = [BW g x Λ] := by
 refine Fn.intro func25 Y Y fun F W => ?_
 refine .lgOpen O fun ea ec za zc => ?_
 have h1 := hl.ents
 have h2 := hl.same
 refine .sr (.an Y (.seq (.sm Y (.nf Y Cl (.u (.ld Y DM) (.q (.slen Y underlying22 Y) Y (.ui Y Y Y (.nt (.condD Y (fun h8 => ?_) (fun h8 => ?_))))))))))
 ·refine .sm Y (.nf Y FC (.u (.ld Y AF) (.an Y (.rt ?_))))
  rw [Vg (Λ := Λ) om]
  refine .lf (g := g) (x := x) Λ ?_
  exact .vv
 refine .sk (.seq ?_)
 obtain ⟨i, hi⟩ : ∃ i, i + 1 = Λ.zxs.length := ⟨Λ.zxs.length - 1, by omega⟩
 refine .slShape (v := .slice za _ zc) (xs := Aq Λ.zxs) O om fun bz cz e0 mbz _ => ?_
 simp only [Value.slice.injEq, true_and] at e0
 obtain ⟨rfl, rfl⟩ := e0
 refine .draw [] [[0, 1, 2, 3, 4, 5, 6, 7, 8, 9, 10, 11, 12]] mixed kQ (.g0 (.mv Y Y (.nf Y Y Y Cl (.kv Y (.ld Y DM) (.mv Y Y (.nf Y Y Y Cl (.kv Y (.ld Y DM) (.kv Y (.slen Y underlying22 Y) (.kv Y (.as (v' := AA (i : Nat)) (by congr 1; omega) (.sub Y Y om)) (.kv Y (.indexAddr Y Y BC om) (.kv Y (.loadEl (p := Cr (.slice (some ⟨bz, 0, none⟩) Λ.zxs.length zc) Λ.zxs) (i := i * 1) (v := AA (Λ.zxs[i]'om)) Y AF O (fun h hp => AE hp) (by simp [List.getElem?_eq_getElem (show i < Λ.zxs.length by omega)])) ?_)))))))))))
 refine D.kv Y (.assign Y) (.pf (.ret ?_))
 rw [X5 hi]
 refine .lf (g := g) (x := x) Λ ?_
 exact .vv
theorem Ha (base : Int) (snap : Bs) (hb : I64 base) (hs : snap.length ≤ 2147483648) : Fn prog 61 #[AA base, AU snap] [] fun v L => ∃ b c, v = .slice (some ⟨b, 0, none⟩) (Ae base snap).length c ∧ L = [Cp v (Ae base snap)] := by
 refine Fn.intro func61 Y Y fun F W => ?_
 have hz : (Bc base).length ≤ 10 := DB (Jl hb)
 refine .sr (.an Y (.sr (.oq (.c func101 [] (Mu)) ?_)))
 rintro v L' ⟨cw, rfl, rfl⟩
 refine .an Y (.sm Y (.m Y (.oq (.c func102 [_, _] (Hs cw [] base hb (by simp))) ?_)))
 rintro v L' ⟨rfl, rfl⟩; rw [nil_append]
 refine .nt (.sm Y (.m Y (.q (.strlen Y underlying9 Y) Y (.cv func103 [_, _] (F4 cw (Bc base) snap.length om om) ?_))))
 refine .nt (.sm Y (.cv func104 [_] (KM cw (Bc base ++ Bp snap.length)) ?_))
 refine .oq (.buildSlice1 (vs := [_]) Bu Fp Y Y Y Y Y dQ) ?_
 rintro v L' ⟨b4, rfl, rfl⟩
 refine .a Y (.nil (.slMake (b := b4) (n := 1) (c := 1) (xs := Bo [Cj base snap.length]) O dQ (by simp) Y (.then_n (.seq (.block (.loopK (ι := Bs × Value × (List Bs)) (fun q E => (1, AU q.1) :: (6, q.2.1) :: E) (fun q => [Cp q.2.1 q.2.2]) (fun q => q.2.2 ++ HM q.1 = Ae base snap ∧ q.2.2.length + q.1.length ≤ 1 + snap.length ∧ ∃ b c, q.2.1 = .slice (some ⟨b, 0, none⟩) q.2.2.length c) (fun q => q.1.length) (snap, .slice (some ⟨b4, 0, none⟩) 1 1, [Cj base snap.length]) (ts := [4]) O (⟨Y, by dsimp only [length_cons, length_nil]; omega, b4, 1, rfl⟩) O O ?_))))))
 rintro ⟨t, u, l⟩ ⟨hl, hlt, bu, cu, hu⟩
 dsimp only
 dsimp only at hl hlt hu
 subst hu
 refine .seq (.sm Y (.u (.strne Y Y) (.nt (.condN Y (fun h20 => ?_) (fun h20 => ?_)))))
 ·have ht : 0 < t.length := length_pos_iff.2 (by simpa using h20)
  refine .sk (.block (.sm Y (.q (.strlen Y underlying9 Y) Y (.q (.as (v' := AA ((min 4000 t.length : Nat) : Int)) (by congr 1; omega) (.min2 Y Y)) Y (.an Y (.sm Y (.m Y (.m Y (.q (.to (v' := AU (t.take 4000)) (.strTo Y Y underlying9 om) (by simp only [Int.toNat_natCast, P9])) Y (.oq (.buildSlice1 (vs := [_]) Bu Fp Y Y Y Y Y dQ) ?_))))))))))
  rintro v L' ⟨b8, rfl, rfl⟩
  refine .oq (.shaped1 (k := l.length + 1) ?hk25 (.append1 Y Y Y Bu Fp Y Y ?h126 ?h227 (Nat.le_refl _) ?h328 dQ)) ?_
  case hk25 => omega
  case h126 => (first | (simp [AD]; done) | (simp [AD, Cd, Value.cells]; done))
  case h227 => rfl
  case h328 => omega
  rintro v L' ⟨b7, c7, rfl, rfl⟩
  refine .an Y (.region (.m Y (.m Y (.q (.to (v' := AU (t.drop 4000)) (.strFrom Y Y underlying9 om) (by simp only [Int.toNat_natCast, O6])) Y (.a Y (.nil (.blk_n (.then_n (.slCast (T := 9) (sz := 1) (m' := (l ++ [t.take 4000]).length) (xs' := Bo (l ++ [t.take 4000])) O (by simp) (by simp [Bo, Value.cells]) ?_)))))))))
  exact .rk ((t.drop 4000, .slice (some ⟨b7, 0, none⟩) (l.length + 1) c7, l ++ [t.take 4000])) (⟨by dsimp only; rw [append_assoc, singleton_append, ← Ky h20]; exact hl, by dsimp only; rw [length_append, length_drop, length_singleton]; omega, b7, c7, by simp⟩) (by dsimp only; rw [length_drop]; omega) O
 have ht : t = [] := by simpa using h20
 subst ht
 rw [L6, append_nil] at hl
 subst hl
 refine .xe (.sm Y (.an Y (.ret ?_)))
 exact .dn Y Y ⟨_, _, Y, Y⟩
structure MU (p : HP) (e : En) : Prop where
 l : Uy p e
 sub : ∀ y ∈ e.subs, ∃ a n c, y.subsV = .slice a n c
def Gg (y : Pt) : Bool := decide (slen y.subsV > 0)
theorem Q5 (l : List Pt) : (l.all fun y => decide (slen y.subsV = 0)) = !l.any Gg := by
 induction l with
 | nil => rfl
 | cons y l ih =>
  rw [all_cons, any_cons, ih]
  have e : decide (slen y.subsV = 0) = !Gg y := by
   unfold Gg
   rcases Nat.eq_zero_or_pos (slen y.subsV) with h | h
   ·rw [h]; rfl
   ·rw [decide_eq_false om, decide_eq_true h]; rfl
  rw [e]; cases Gg y <;> rfl
theorem SR.met {Λ : Lg} (h : SR Λ) (e : Int) : SR (Λ.met e) := by
 unfold Lg.met
 split
 ·exact ⟨h.ents, h.same, h.each, h.base, h.zxs⟩
 ·exact h
theorem TU (y : Pt) (a : Option Addr) (n c : Nat) (hy : y.subsV = .slice a n c) : Fn prog 67 #[.agg (C5 y).toArray] [] fun v L => v = .bool (Gg y) ∧ L = [] := by
 refine Fn.intro func67 Y Y fun F W => ?_
 refine .sr (.oq (.box Y) ?_)
 rintro v L' ⟨b1, rfl, rfl⟩
 refine .a Y (.nil (.ptCast (b := b1) (l' := C5 y) O Y (.then_n (.sr (.fa Y Gk (.q (.to (v' := .slice a n c) (.load Y NI O Y) hy) Y (.q (.slen Y underlying38 Y) Y (.ui Y Y Y (.an Y (.ret ?_))))))))))
 exact .dn Y Y ⟨congrArg Value.bool (decide_eq_decide.2 (by rw [hy]; show _ ↔ n > 0; omega)), Y⟩
theorem T4 (v : Value) (l : List Pt) (p : HP) (hr : ∀ h : Hp, p h → B5 8 h v l.length (l.flatMap C5)) (hl : l.length ≤ 4294967296) (hs : ∀ y ∈ l, ∃ a n c, y.subsV = .slice a n c) : Fn prog 117 #[v, .func (.func 67) #[] #[]] [p] fun u L => (∃ r : Int, u = AA r ∧ (decide (r ≥ 0) = l.any Gg)) ∧ L = [p] := by
 refine Fn.intro func117 Y Y fun F W => ?_
 refine .rdAny (p := p) hr O fun aa ca e _ => ?_
 subst e
 refine .sr (.an Y (.seq (.sm Y (.q (.slen Y underlying38 Y) Y (.m Y (.nt (.block (.loopK (ι := Nat) (fun q E => (8, AA q) :: E) (fun q => []) (fun q => q ≤ l.length ∧ ∀ j (hj : j < q) (hl : j < l.length), Gg l[j] = false) (fun q => l.length - q) (0) (ts := [0, 1, 7]) O (⟨Nat.zero_le _, fun j hj => by omega⟩) O O ?_))))))))
 rintro i ⟨hi, hb⟩
 refine .sr (.ui Y Y Y (.nt (.seq (.condD Y (fun h9 => ?_) (fun h9 => ?_)))))
 ·have hi2 : i < l.length := by omega
  obtain ⟨sa, sn, sc, hsy⟩ := hs _ (getElem_mem hi2)
  refine .rdShape (p := p) hr O om fun ba oa e => ?_
  subst e
  refine .sk (.seq (.block (.sm Y (.an Y (.sm Y (.m Y (.m Y (.q (.indexAddr Y Y Ow om) Y (.q (.loadRdA (sz := 8) (j := i * 8) (k := 8) (p := p) (vs := C5 l[i]) Y IF O hr (by simp) om om (BE (f := C5) (sz := 8) (fun _ _ => Y) om)) Y (.oq (.callV func67 Y Y (us := []) (vs := [_]) (ws := []) Y Y (TU l[i] sa sn sc hsy)) ?_))))))))))
  rintro v L' ⟨rfl, rfl⟩
  refine .nt (.condB Y (fun h16 => ?_) (fun h16 => ?_))
  ·refine .sm Y (.an Y (.ret (.blk_r (.then_r (.then_r (.blk_r (.then_r ?_)))))))
   exact .dn Y Y ⟨⟨_, Y, by rw [decide_eq_true om]; exact (any_eq_true.2 ⟨l[i], getElem_mem hi2, h16⟩).symm⟩, rfl⟩
  refine .skip (.blk_n (.then_n (.region (.q (.add Y Y om) Y (.m Y (.nt ?_))))))
  exact .rk (i + 1) (⟨by omega, fun j hj hl => by rcases Nat.lt_or_ge j i with h | h; exact hb j h hl; obtain rfl : j = i := om; exact h16⟩) om O
 refine .xe (.sr (.an Y (.ret ?_)))
 exact .dn Y Y ⟨⟨_, Y, by rw [decide_eq_false dQ]; symm; rw [any_eq_false]; intro s hs; obtain ⟨j, hj, rfl⟩ := mem_iff_getElem.1 hs; rw [hb j om hj]; decide⟩, rfl⟩
theorem Lm (v : Value) (l : List Pt) (p : HP) (hr : ∀ h : Hp, p h → B5 8 h v l.length (l.flatMap C5)) (hl : l.length ≤ 4294967296) (hs : ∀ y ∈ l, ∃ a n c, y.subsV = .slice a n c) : Fn prog 66 #[v, .func (.func 67) #[] #[]] [p] fun u L => u = .bool (l.any Gg) ∧ L = [p] := by
 refine Fn.intro func66 Y Y fun F W => ?_
 refine .sr (.an Y (.sm Y (.m Y (.oq (.c func117 [_, _] (T4 v l p hr hl hs)) ?_))))
 rintro v' L' ⟨⟨r, rfl, hrl⟩, rfl⟩
 refine .ui Y Y Y (.an Y (.ret ?_))
 exact .dn Y Y ⟨congrArg Value.bool hrl, Y⟩
theorem L4 (e : En) (p : HP) (he : MU p e) : Fn prog 33 #[.agg (BX e).toArray] [p] fun v L => ∃ s1, (C7 e = true → s1 = Bd e) ∧ v = .tuple #[AU s1, .bool (C7 e)] ∧ L = [p] := by
 refine Fn.intro func33 Y Y fun F W => ?_
 have hle := he.l.len
 have hns : Oa e = !e.subs.any Gg := Q5 e.subs
 refine .sr (.oq (.box Y) ?_)
 rintro v L' ⟨b1, rfl, rfl⟩
 refine .a Y (.a Y (.nil (.ptCast (b := b1) (l' := BX e) O (by exact rfl) (.then_n (.seq (.sr (.fa Y Hj (.fa Y Gk (.u (.ld Y NI) (.oq (.call func66 Y Y (vs := [_, _]) Y (Lm _ e.subs p he.l.w.subs (by have := he.l.few.1; omega) he.sub)) ?_))))))))))
 rintro v L' ⟨rfl, rfl⟩
 refine .nt (.condB Y (fun h10 => ?_) (fun h10 => ?_))
 ·refine .sr (.a Y (.an Y (.rt ?_)))
  have hf : C7 e = false := by unfold C7; rw [hns, h10]; rfl
  rw [hf]
  exact .dn Y Y ⟨[], (fun h => by cases h), rfl, rfl⟩
 refine .sk (.sr (.q (.loadAs (vs := BX e) Y D3 O (by simp [BX, C5]) Y) Y (.cv func68 [_] (TF e p he.l) ?_)))
 refine .an Y (.sm Y (.oq (.c func57 [_] (Mw (Bd e) om)) ?_))
 rintro v L' ⟨ge, er, hge, rfl, rfl⟩
 refine .m Y (.ex Y Y (.ex Y Y (.oq (.allocA Et) ?_)))
 rintro v L' ⟨b5, rfl, rfl⟩
 refine .sa Y Y H9 (by exact hge.cells) ?_
 refine .an Y (.sm Y (.m Y (.q (.as (v' := .bool (C7 e)) (by exact congrArg Value.bool (by unfold C7; rw [hns, h10]; rcases hge with ⟨rfl, h2, -⟩ | ⟨rfl, h2, -⟩ <;> rw [h2] <;> rfl)) (.int Y Y Y)) Y (.a Y (.an Y (.ret ?_))))))
 exact .dn Y Y ⟨Bd e, fun _ => Y, Y, Y⟩
theorem FE (g x d : Nat) (δ : Dk) (ω : Wl) (Λ : Lg) (e : En) (p : HP) (he : MU p e) (hI : MV δ ω) (hΛ : SR Λ) : Fn prog 7 #[AG g, .agg (BX e).toArray] [BW g x Λ, CX x d ω, Bg d δ, p] fun v L => v = AA (AK ⟨δ, ω, Λ⟩ e).2 ∧ L = [BW g x (AK ⟨δ, ω, Λ⟩ e).1.Λ, CX x d (AK ⟨δ, ω, Λ⟩ e).1.ω, Bg d (AK ⟨δ, ω, Λ⟩ e).1.δ, p] := by
 refine Fn.intro func7 Y Y fun F W => ?_
 have hle := he.l.len
 have hfi := hI.fits
 have hhl := CP hI.size
 refine .sr (.oq (.box Y) ?_)
 rintro v L' ⟨b3, rfl, rfl⟩
 refine .a Y (.nil (.ptCast (b := b3) (l' := BX e) O (by exact rfl) (.then_n (.seq (.seq (.lgOpen O fun ea ec za zc => (.region (.m Y (.nf Y F0 (.u (.ld Y FV) (.nt (.condB Y (fun h11 => ?_) (fun h11 => ?_)))))))))))))
 ·refine .sr (.an Y (.rt ?_))
  have hr : AK ⟨δ, ω, Λ⟩ e = (⟨δ, ω, Λ⟩, 2) := by unfold AK; dsimp only; rw [if_pos h11]
  rw [hr]
  try dsimp only
  refine .lf (g := g) (x := x) Λ ?_
  exact .vv
 refine .lf (g := g) (x := x) Λ ?_
 refine .sk (.sr (.q (.loadAs (vs := BX e) Y D3 O (by simp [BX, C5]) Y) Y (.oq (.c func33 [_] (L4 e p he)) ?_)))
 rintro v L' ⟨s1, hs1, rfl, rfl⟩
 refine .m Y (.ex Y Y (.ex Y Y (.a Y (.an Y (.seq (.block (.sm Y (.u (.not Y) (.an Y (.condB Y (fun h17 => ?_) (fun h17 => ?_)))))))))))
 ·refine .sr (.an Y (.ret (.blk_r (.then_r ?_))))
  have hr : AK ⟨δ, ω, Λ⟩ e = (⟨δ, ω, Λ⟩, 1) := by unfold AK; dsimp only; rw [if_neg (by rw [h11]; decide), if_pos (by simpa using h17)]
  rw [hr]
  try dsimp only
  exact .vv
 have hfit : C7 e = true := by simpa using h17
 have hs1 := hs1 hfit
 subst hs1
 refine .seq (.draw [] [[0, 1, 2, 3, 4, 5]] mixed kQ (.go [Ar b3 _ _, BW g x Λ] O (.kv Y (.fieldAddr Y EH) (.kv Y (.ld Y AF) (.mv Y Y (.m Y kQ (.c func25 [_] (B2 g x Λ hΛ)) O ?_))))))
 refine D.kv Y (.int Y Y Y) (.kv Y (.assign Y) (.pf (.condD Y (fun h20 => ?_) (fun h20 => ?_))))
 ·refine .sr (.an Y (.ret (.blk_r (.then_r ?_))))
  have hr : AK ⟨δ, ω, Λ⟩ e = (⟨δ, ω, Λ⟩, 81) := by unfold AK; dsimp only; rw [if_neg (by rw [h11]; decide), if_neg (by rw [hfit]; decide), if_pos h20]
  rw [hr]
  try dsimp only
  exact .vv
 refine .seq (.lgOpen O fun ea ec za zc => (.region (.m Y (.nf Y Ds (.u (.ld Y Ch) (.q (.slen Y underlying65 Y) Y (.ui Y Y Y (.m Y (.dec (t := 33) Y (fun h8_33 => ?_) (fun h8_33 => ?_))))))))))
 ·refine .kDT (t := 32) Y h8_33 (.gk (.gk (.gk (.gk (.gk (.gk (.gk (.gk (.pT Y Y (.a Y (.nil (.lf (g := g) (x := x) Λ ?_))))))))))))
  refine .then_n (.condT Y (.sr (.an Y (.ret (.blk_r (.then_r ?_))))))
  have hr : AK ⟨δ, ω, Λ⟩ e = (⟨δ, ω, Λ⟩, 83) := by unfold AK; dsimp only; rw [if_neg (by rw [h11]; decide), if_neg (by rw [hfit]; decide), if_neg h20, if_pos (by first | exact .inl om | exact .inr h26)]
  rw [hr]
  try dsimp only
  exact .vv
 refine .kDF (t := 32) Y h8_33 (.gr (.m Y (.gr (.q (.strlen Y underlying9 Y) Y (.gr (.m Y (.gr (.u (.nilp Y) (.gr (.fa Y Gr (.gr (.u (.ld Y LR) (.gr (.cv func34 [_] (RH x d ω δ hI.size om) ?_))))))))))))))
 refine .gr (.ui Y Y Y (.pF Y Y (.a Y (.nil (.lf (g := g) (x := x) Λ ?_)))))
 refine .then_n (.condD Y (fun h26 => ?_) (fun h26 => ?_))
 ·refine .sr (.an Y (.ret (.blk_r (.then_r ?_))))
  have hr : AK ⟨δ, ω, Λ⟩ e = (⟨δ, ω, Λ⟩, 83) := by unfold AK; dsimp only; rw [if_neg (by rw [h11]; decide), if_neg (by rw [hfit]; decide), if_neg h20, if_pos (by first | exact .inl om | exact .inr h26)]
  rw [hr]
  try dsimp only
  exact .vv
 refine .skip (.blk_n (.then_n (.seq (.lgOpen O fun ea ec za zc => (.region (.m Y (.m Y (.nf Y Gr (.u (.ld Y LR) (.m Y (.cv func36 [_, _] (Iz x d ω δ (Bd e) hI om) ?_)))))))))))
 refine .lf (g := g) (x := x) Λ ?_
 refine .cv func35 [_, _] (Jz g x Λ _) ?_
 refine .an Y (.seq (.sm Y (.ui Y Y Y (.nt (.condD Y (fun h52 => ?_) (fun h52 => ?_))))))
 ·refine .region (.m Y (.m Y (.fa Y EH (.u (.ld Y AF) (.cv func37 [_, _, _] (Qy g x _ (Bd e) e.zx (hΛ.met _)) ?_)))))
  refine .nt (.sm Y (.an Y (.ret ?_)))
  have hr : AK ⟨δ, ω, Λ⟩ e = (⟨(AM δ ω (Bd e)).1, (AM δ ω (Bd e)).2.1, (Ce Λ (AM δ ω (Bd e))).1.Λ.keep (Bd e) e.zx⟩, 0) := by unfold AK; dsimp only; rw [if_neg (by rw [h11]; decide), if_neg (by rw [hfit]; decide), if_neg h20, if_neg (by rintro (g | g); omega; exact h26 g), if_pos (show (Ce Λ (AM δ ω (Bd e))).2 = 0 from h52)]
  rw [hr]
  try dsimp only
  rw [h52]
  exact .vv
 refine .sk (.sm Y (.an Y (.ret ?_)))
 have hr : AK ⟨δ, ω, Λ⟩ e = Ce Λ (AM δ ω (Bd e)) := by unfold AK; dsimp only; rw [if_neg (by rw [h11]; decide), if_neg (by rw [hfit]; decide), if_neg h20, if_neg (by rintro (g | g); omega; exact h26 g), if_neg (show ¬ (Ce Λ (AM δ ω (Bd e))).2 = 0 from h52)]
 rw [hr]
 try dsimp only
 exact .vv
theorem FN (g x d : Nat) (δ : Dk) (ω : Wl) (Λ : Lg) (hI : MV δ ω) : Fn prog 10 #[AG g] [BW g x Λ, CX x d ω, Bg d δ] fun v L => v = AA (AO ⟨δ, ω, Λ⟩).2 ∧ L = [BW g x (AO ⟨δ, ω, Λ⟩).1.Λ, CX x d (AO ⟨δ, ω, Λ⟩).1.ω, Bg d (AO ⟨δ, ω, Λ⟩).1.δ] := by
 refine Fn.intro func10 Y Y fun F W => ?_
 refine .sr (.an Y (.seq (.seq (.lgOpen O fun ea ec za zc => (.region (.m Y (.nf Y F0 (.u (.ld Y FV) (.nt (.condB Y (fun h6 => ?_) (fun h6 => ?_)))))))))))
 ·refine .sr (.an Y (.rt ?_))
  have hr : AO ⟨δ, ω, Λ⟩ = (⟨δ, ω, Λ⟩, 2) := by unfold AO; dsimp only; rw [if_pos h6]
  rw [hr]
  try dsimp only
  refine .lf (g := g) (x := x) Λ ?_
  exact .vv
 refine .sk (.sm Y (.m Y (.nf Y Gr (.u (.ld Y LR) (.cv func39 [_] (ML x d ω δ hI) ?_)))))
 refine .lf (g := g) (x := x) Λ ?_
 refine .cv func35 [_, _] (Jz g x Λ _) ?_
 refine .an Y (.ret ?_)
 have hr : AO ⟨δ, ω, Λ⟩ = Ce Λ (Ay δ ω) := by unfold AO; dsimp only; rw [if_neg (by rw [h6]; decide)]
 rw [hr]
 try dsimp only
 exact .vv
theorem LG (g x : Nat) (Λ : Lg) (e : Int) (ea : Option Addr) (ec : Nat) (za : Option Addr) (zc : Nat) : Fn prog 35 #[AG g, AA e] [Ar g [AA Λ.acc, AA Λ.cur, AG x, AA Λ.base, AU Λ.snap, .slice ea Λ.ents.length ec, .slice za Λ.zxs.length zc, .bool Λ.doubt] 90, Cp (.slice ea Λ.ents.length ec) Λ.ents, Cr (.slice za Λ.zxs.length zc) Λ.zxs]
  fun v L => v = AA (CU e) ∧ L = [BW g x (Λ.met e)] := by
 intro F w hs
 have hs' : St ([BW g x Λ] ++ F) w := BS (p := CG _) (fun _ hp => ⟨((ea, ec), (za, zc)), trivial, hp⟩) (Ee hs)
 exact Jz g x Λ e F w hs'
theorem E9 (g x d : Nat) (δ : Dk) (ω : Wl) (Λ : Lg) (n : Int) (hI : MV δ ω) : Fn prog 8 #[AG g, AA n] [BW g x Λ, CX x d ω, Bg d δ] fun v L => v = AA (AR ⟨δ, ω, Λ⟩ n).2 ∧ L = [BW g x (AR ⟨δ, ω, Λ⟩ n).1.Λ, CX x d (AR ⟨δ, ω, Λ⟩ n).1.ω, Bg d (AR ⟨δ, ω, Λ⟩ n).1.δ] := by
 refine Fn.intro func8 Y Y fun F W => ?_
 refine .lgOpen O fun ea ec za zc => (.sr (.an Y (.seq (.block (.sm Y (.nf Y F0 (.u (.ld Y FV) (.an Y (.condB Y (fun h6 => ?_) (fun h6 => ?_))))))))))
 ·refine .sr (.an Y (.ret (.blk_r (.then_r ?_))))
  have hr : AR ⟨δ, ω, Λ⟩ n = (⟨δ, ω, Λ⟩, 2) := by unfold AR; dsimp only; rw [if_pos h6]
  rw [hr]
  try dsimp only
  refine .lf (g := g) (x := x) Λ ?_
  exact .vv
 refine .sm Y (.m Y (.nf Y DG (.fa Y Ht (.u (.ld Y AF) (.ui Y Y Y (.m Y (.dec (t := 19) Y (fun h3_19 => ?_) (fun h3_19 => ?_))))))))
 ·refine .kDT (t := 18) Y h3_19 (.gk (.gk (.pT Y Y (.an Y (.condT Y (.sr (.an Y (.ret (.blk_r (.then_r ?_))))))))))
  have hr : AR ⟨δ, ω, Λ⟩ n = (⟨δ, ω, Λ⟩, 82) := by unfold AR; dsimp only; rw [if_neg (by rw [h6]; decide), if_pos (by first | exact .inl h3_19 | exact .inr h11)]
  rw [hr]
  try dsimp only
  refine .lf (g := g) (x := x) Λ ?_
  exact .vv
 refine .kDF (t := 18) Y h3_19 (.gr (.m Y (.gr (.ui Y Y Y (.pF Y Y (.an Y (.condD Y (fun h11 => ?_) (fun h11 => ?_))))))))
 ·refine .sr (.an Y (.ret (.blk_r (.then_r ?_))))
  have hr : AR ⟨δ, ω, Λ⟩ n = (⟨δ, ω, Λ⟩, 82) := by unfold AR; dsimp only; rw [if_neg (by rw [h6]; decide), if_pos (by first | exact .inl h3_19 | exact .inr h11)]
  rw [hr]
  try dsimp only
  refine .lf (g := g) (x := x) Λ ?_
  exact .vv
 refine .sm Y (.m Y (.nf Y DG (.fa Y Ht (.u (.ld Y AF) (.ui Y Y Y (.an Y (.condD Y (fun h23 => ?_) (fun h23 => ?_))))))))
 ·refine .sr (.an Y (.ret (.blk_r (.then_r ?_))))
  have hr : AR ⟨δ, ω, Λ⟩ n = (⟨δ, ω, Λ⟩, 0) := by unfold AR; dsimp only; rw [if_neg (by rw [h6]; decide), if_neg (by rintro (g1 | g1); exact h3_19 g1; exact h11 g1), if_pos h23]
  rw [hr]
  try dsimp only
  refine .lf (g := g) (x := x) Λ ?_
  exact .vv
 refine .skip (.blk_n (.then_n (.seq (.draw [11, 12] [[0, 1, 2, 3, 4, 5, 6, 7, 8, 9, 10, 11], [12], [13]] mixed kQ (.g0 (.k Y (.move Y) (.mv Y Y (.nf Y Y Y Gr (.kv Y (.ld Y LR) (.mv Y Y (.mv Y Y (.nf Y Y Y DG (.kv Y (.fieldAddr Y Kd) (.kv Y (.ld Y AF) (.hh Y (.c func38 [_, _, _] (LV x d ω δ n Λ.cur hI)) ?_)))))))))))))))
 rintro v L' ⟨rfl, rfl⟩
 refine D.ph (.g0 (.hh Y (.c func35 [_, _] (LG g x Λ _ ea ec za zc)) ?_))
 rintro v L' ⟨rfl, rfl⟩
 refine D.ph (.g0 (.kv Y (.assign Y) (.pf (.seq (.sm Y (.ui Y Y Y (.nt (.condD Y (fun h45 => ?_) (fun h45 => ?_)))))))))
 ·refine .lgOpen O fun ea ec za zc => (.region (.m Y (.m Y (.nf Y DG (.fa Y Ht (.st Y Y Y BV ?_))))))
  refine .nt (.sm Y (.an Y (.ret ?_)))
  have hr : AR ⟨δ, ω, Λ⟩ n = (⟨(Af δ ω n Λ.cur).1, (Af δ ω n Λ.cur).2.1, (Ce Λ (Af δ ω n Λ.cur)).1.Λ.setAcc n⟩, 0) := by unfold AR; dsimp only; rw [if_neg (by rw [h6]; decide), if_neg (by rintro (g1 | g1); exact h3_19 g1; exact h11 g1), if_neg h23, if_pos (show (Ce Λ (Af δ ω n Λ.cur)).2 = 0 from h45)]
  rw [hr]
  try dsimp only
  rw [h45]
  refine .lf (g := g) (x := x) ((Λ.met (Af δ ω n Λ.cur).2.2).setAcc n) ?_
  exact .vv
 refine .sk (.sm Y (.an Y (.ret ?_)))
 have hr : AR ⟨δ, ω, Λ⟩ n = Ce Λ (Af δ ω n Λ.cur) := by unfold AR; dsimp only; rw [if_neg (by rw [h6]; decide), if_neg (by rintro (g1 | g1); exact h3_19 g1; exact h11 g1), if_neg h23, if_neg (show ¬ (Ce Λ (Af δ ω n Λ.cur)).2 = 0 from h45)]
 rw [hr]
 try dsimp only
 exact .vv
theorem Fx (g x d : Nat) (δ : Dk) (ω : Wl) (Λ : Lg) (n : Int) (hI : MV δ ω) (hI1 : MV (AO ⟨δ, ω, Λ⟩).1.δ (AO ⟨δ, ω, Λ⟩).1.ω) : Fn prog 9 #[AG g, AA n] [BW g x Λ, CX x d ω, Bg d δ] fun v L => v = AA (AY ⟨δ, ω, Λ⟩ n).2 ∧ L = [BW g x (AY ⟨δ, ω, Λ⟩ n).1.Λ, CX x d (AY ⟨δ, ω, Λ⟩ n).1.ω, Bg d (AY ⟨δ, ω, Λ⟩ n).1.δ] := by
 refine Fn.intro func9 Y Y fun F W => ?_
 refine .lgOpen O fun ea ec za zc => (.sr (.an Y (.seq (.block (.sm Y (.nf Y F0 (.u (.ld Y FV) (.an Y (.condB Y (fun h7 => ?_) (fun h7 => ?_))))))))))
 ·refine .sr (.an Y (.ret (.blk_r (.then_r ?_))))
  have hr : AY ⟨δ, ω, Λ⟩ n = (⟨δ, ω, Λ⟩, 2) := by unfold AY; dsimp only; rw [if_pos h7]
  rw [hr]
  try dsimp only
  refine .lf (g := g) (x := x) Λ ?_
  exact .vv
 refine .sm Y (.m Y (.nf Y DG (.fa Y Kd (.u (.ld Y AF) (.ui Y Y Y (.m Y (.dec (t := 20) Y (fun h3_20 => ?_) (fun h3_20 => ?_))))))))
 ·refine .kDT (t := 19) Y h3_20 (.gk (.gk (.gk (.gk (.gk (.gk (.gk (.pT Y Y (.an Y (.condT Y (.sr (.an Y (.ret (.blk_r (.then_r ?_)))))))))))))))
  have hr : AY ⟨δ, ω, Λ⟩ n = (⟨δ, ω, Λ⟩, 82) := by unfold AY; dsimp only; rw [if_neg (by rw [h7]; decide), if_pos (by first | exact .inl h3_20 | exact .inr h12)]
  rw [hr]
  try dsimp only
  refine .lf (g := g) (x := x) Λ ?_
  exact .vv
 refine .kDF (t := 19) Y h3_20 (.gr (.m Y (.gr (.m Y (.gr (.u (.nilp Y) (.gr (.fa Y DG (.gr (.fa Y Ht (.gr (.u (.ld Y AF) (.gr (.ui Y Y Y (.pF Y Y (.an Y (.condD Y (fun h12 => ?_) (fun h12 => ?_))))))))))))))))))
 ·refine .sr (.an Y (.ret (.blk_r (.then_r ?_))))
  have hr : AY ⟨δ, ω, Λ⟩ n = (⟨δ, ω, Λ⟩, 82) := by unfold AY; dsimp only; rw [if_neg (by rw [h7]; decide), if_pos (by first | exact .inl h3_20 | exact .inr h12)]
  rw [hr]
  try dsimp only
  refine .lf (g := g) (x := x) Λ ?_
  exact .vv
 refine .skip (.blk_n (.then_n (.seq (.seq (.lf (g := g) (x := x) Λ ?_)))))
 refine .region (.m Y (.oq (.c func10 [_] (FN g x d δ ω Λ hI)) ?_))
 rintro v L' ⟨rfl, rfl⟩; obtain ⟨⟨⟨δ1, ω1, Λ1⟩, e1⟩, hsy⟩ : ∃ r, AO ⟨δ, ω, Λ⟩ = r := ⟨_, rfl⟩; rw [hsy] at hI1 ⊢; dsimp only at hI1 ⊢
 refine .an Y (.sm Y (.ui Y Y Y (.nt (.condN Y (fun h32 => ?_) (fun h32 => ?_)))))
 ·refine .sm Y (.an Y (.rt ?_))
  have hr : AY ⟨δ, ω, Λ⟩ n = AO ⟨δ, ω, Λ⟩ := by unfold AY; dsimp only; rw [if_neg (by rw [h7]; decide), if_neg (by rintro (g1 | g1); exact h3_20 g1; exact h12 g1), if_pos (by rw [hsy]; exact h32)]
  rw [hr]
  try dsimp only
  rw [hsy]
  exact .vv
 refine .sk (.seq (.lgOpen O fun ea ec za zc => (.draw [11, 12] [[0, 1, 2, 3, 4, 5, 6, 7, 8, 9, 10, 11], [12], [13]] mixed kQ (.g0 (.k Y (.move Y) (.mv Y Y (.nf Y Y Y Gr (.kv Y (.ld Y LR) (.mv Y Y (.nf Y Y Y DG (.kv Y (.fieldAddr Y Ht) (.kv Y (.ld Y AF) (.mv Y Y (.hh Y (.c func38 [_, _, _] (LV x d ω1 δ1 Λ1.acc n hI1)) ?_))))))))))))))
 rintro v L' ⟨rfl, rfl⟩
 refine D.ph (.g0 (.hh Y (.c func35 [_, _] (LG g x Λ1 _ ea ec za zc)) ?_))
 rintro v L' ⟨rfl, rfl⟩
 refine D.ph (.g0 (.kv Y (.assign Y) (.pf (.seq (.sm Y (.ui Y Y Y (.nt (.condD Y (fun h48 => ?_) (fun h48 => ?_)))))))))
 ·refine .lgOpen O fun ea ec za zc => (.region (.m Y (.m Y (.nf Y DG (.fa Y Kd (.st Y Y Y BV ?_))))))
  refine .nt (.sm Y (.an Y (.ret ?_)))
  have hr : AY ⟨δ, ω, Λ⟩ n = BZ ⟨δ1, ω1, Λ1⟩ n := by unfold AY; dsimp only; rw [if_neg (by rw [h7]; decide), if_neg (by rintro (g1 | g1); exact h3_20 g1; exact h12 g1), if_neg (by rw [hsy]; exact fun g1 => g1 h32), hsy]
  rw [hr]
  have hr2 : BZ ⟨δ1, ω1, Λ1⟩ n = (⟨(Af δ1 ω1 Λ1.acc n).1, (Af δ1 ω1 Λ1.acc n).2.1, (Ce Λ1 (Af δ1 ω1 Λ1.acc n)).1.Λ.setCur n⟩, 0) := by unfold BZ; dsimp only; rw [if_pos (show (Ce Λ1 (Af δ1 ω1 Λ1.acc n)).2 = 0 from h48)]
  rw [hr2, h48]
  dsimp only
  refine .lf (g := g) (x := x) ((Λ1.met (Af δ1 ω1 Λ1.acc n).2.2).setCur n) ?_
  exact .vv
 refine .sk (.sm Y (.an Y (.ret ?_)))
 have hr : AY ⟨δ, ω, Λ⟩ n = BZ ⟨δ1, ω1, Λ1⟩ n := by unfold AY; dsimp only; rw [if_neg (by rw [h7]; decide), if_neg (by rintro (g1 | g1); exact h3_20 g1; exact h12 g1), if_neg (by rw [hsy]; exact fun g1 => g1 h32), hsy]
 rw [hr]
 have hr2 : BZ ⟨δ1, ω1, Λ1⟩ n = Ce Λ1 (Af δ1 ω1 Λ1.acc n) := by unfold BZ; dsimp only; rw [if_neg (show ¬ (Ce Λ1 (Af δ1 ω1 Λ1.acc n)).2 = 0 from h48)]
 rw [hr2]
 try dsimp only
 exact .vv
theorem K8 (g x : Nat) (Λ : Lg) : Fn prog 136 #[AG g] [BW g x Λ] fun v L => v = AA Λ.base ∧ L = [BW g x Λ] := by
 refine Fn.intro func136 Y Y fun F W => ?_
 refine .lgOpen O fun ea ec za zc => (.sr (.an Y (.sm Y (.nf Y FC (.u (.ld Y AF) (.an Y (.ret (.lf (g := g) (x := x) Λ ?_))))))))
 exact .vv
theorem Hm (g x : Nat) (Λ : Lg) : Fn prog 41 #[AG g] [BW g x Λ] fun v L => v = AA Λ.acc ∧ L = [BW g x Λ] := by
 refine Fn.intro func41 Y Y fun F W => ?_
 refine .lgOpen O fun ea ec za zc => (.sr (.an Y (.sm Y (.nf Y Ht (.u (.ld Y AF) (.an Y (.ret (.lf (g := g) (x := x) Λ ?_))))))))
 exact .vv
theorem NO (g x : Nat) (Λ : Lg) : Fn prog 85 #[AG g] [BW g x Λ] fun v L => v = AA Λ.cur ∧ L = [BW g x Λ] := by
 refine Fn.intro func85 Y Y fun F W => ?_
 refine .lgOpen O fun ea ec za zc => (.sr (.an Y (.sm Y (.nf Y Kd (.u (.ld Y AF) (.an Y (.ret (.lf (g := g) (x := x) Λ ?_))))))))
 exact .vv
/- not in this seat: wrec2_spec -/
def ab : Bs := [97, 98]
section
variable {W : World} {n : Nat} {ds : List Deferred} {E : By} {L R : List HP} {X : Act → World → Prop}
end
structure Al (δ : Dk) : Prop where
 dead : δ.dead = false
 left : δ.left = 0
theorem LQ {δ : Dk} (h : Al δ) : δ.act.2 = 0 ∧ Al δ.act.1 := by
 obtain ⟨h1, h2⟩ := h
 exact ⟨by simp [Dk.act, actE, h2], by simp [Dk.act, JS, h1, h2], by simp [Dk.act, Ii, h2]⟩
theorem JO {δ : Dk} (h : Al δ) {n : Int} {s : Bs} (hn : 0 ≤ n ∧ n < δ.now.length) (hs : s.length = 64) : (δ.write n s).2 = 0 ∧ Al (δ.write n s).1 ∧ (δ.write n s).1.now = δ.now.set n.toNat s := by
 have hh : δ.has n = true := by simp [Dk.has, hn.1, hn.2]
 have hp : Al (δ.put n s) := ⟨h.dead, h.left⟩
 have e : δ.write n s = (δ.put n s).act := by unfold Dk.write; rw [if_neg (by rw [h.dead]; decide), if_neg (by rw [hh]; simp [hs])]
 rw [e]
 exact ⟨(LQ hp).1, (LQ hp).2, rfl⟩
theorem Nq {δ : Dk} (h : Al δ) : δ.sync.2 = 0 ∧ Al δ.sync.1 ∧ δ.sync.1.now = δ.now := by
 have e : δ.sync = ({ δ.act.1 with old := [] }, 0) := by unfold Dk.sync; rw [if_neg (by rw [h.dead]; decide), if_pos (LQ h).1]
 rw [e]
 exact ⟨rfl, ⟨(LQ h).2.dead, (LQ h).2.left⟩, rfl⟩
theorem Y0 {δ : Dk} {area : Int} {all : Bs} {i : Nat} (ha : 0 ≤ area ∧ area ≤ 1) (hn : 2 ≤ δ.now.length) (hl : (all.length : Int) ≤ 64 * Ag δ) (hi : i * 64 < all.length) : 2 ≤ 2 + area * Ag δ + i ∧ 2 + area * Ag δ + i < δ.now.length := by
 have e : Ag δ = ((δ.now.length : Int) - 2) / 2 := rfl
 generalize Ag δ = k at *
 rcases (by omega : area = 0 ∨ area = 1) with rfl | rfl <;> omega
theorem Z0 : ∀ (f : Nat) (δ : Dk) (area : Int) (all : Bs) (i : Nat), Al δ → 0 ≤ area ∧ area ≤ 1 → 2 ≤ δ.now.length → (all.length : Int) ≤ 64 * Ag δ → (GD f δ area all i).2 = 0 ∧ Al (GD f δ area all i).1 := by
 intro f
 induction f with
 | zero => intro δ area all i h _ _ _; exact ⟨rfl, h⟩
 | succ f ih =>
  intro δ area all i h ha hn hl
  simp only [GD]
  split
  ·rename_i hi
   have hr := Y0 ha hn hl hi
   obtain ⟨w1, w2, w3⟩ := JO h (n := 2 + area * Ag δ + i) (s := Bq all i) ⟨by omega, hr.2⟩ (Ib _ _)
   rw [if_neg (by rw [w1]; decide)]
   have hlen : (δ.write (2 + area * Ag δ + i) (Bq all i)).1.now.length = δ.now.length := (Bi _ _ _).1
   exact ih _ _ _ _ w2 ha (by rw [hlen]; exact hn) (by rw [Dp hlen]; exact hl)
  ·exact ⟨rfl, h⟩
theorem Ps (m : Mk) : m.sec.length = 64 := by simp [Mk.sec, AN]
theorem Ko {δ : Dk} (h : Al δ) (hn : 2 ≤ δ.now.length) (m : Mk) : (BB δ m).2 = 0 ∧ Al (BB δ m).1 ∧ (BB δ m).1.now = δ.now.set (m.count % 2).toNat m.sec := by
 obtain ⟨w1, w2, w3⟩ := JO h (n := m.count % 2) (s := m.sec) ⟨by omega, by omega⟩ (Ps m)
 obtain ⟨s1, s2, s3⟩ := Nq w2
 unfold BB
 rw [if_neg (by rw [w1]; decide), if_neg (by rw [s1]; decide)]
 exact ⟨rfl, s2, s3.trans w3⟩
theorem XP {δ : Dk} (h : Al δ) (hn : 2 ≤ δ.now.length) (ω : Wl) (area : Int) (l : List Bs) : ∃ δ', Ax δ ω area l = (δ', { ω with recs := l, synced := l.length, area := area, count := ω.count + 1 }, 0) ∧ Al δ' ∧ δ'.now = δ.now.set ((ω.count + 1) % 2).toNat (ω.mark area l ω.a ω.b).sec ∧ δ'.acts ≤ δ.acts + 3 := by
 obtain ⟨s1, s2, s3⟩ := Nq h
 have sk := EZ δ
 obtain ⟨n1, n2, n3⟩ := Ko s2 (by rw [s3]; exact hn) (ω.mark area l ω.a ω.b)
 have nk := D1 δ.sync.1 (ω.mark area l ω.a ω.b)
 refine ⟨(BB δ.sync.1 (ω.mark area l ω.a ω.b)).1, ?_, n2, by rw [n3, s3]; rfl, by omega⟩
 unfold Ax
 rw [if_neg (by rw [s1]; decide), if_neg (by rw [n1]; decide)]
structure Dh (δ : Dk) (ω : Wl) (N : Int) : Prop where
 al : Al δ
 doubt : ω.doubt = false
 size : 2 ≤ δ.now.length ∧ δ.now.length ≤ 32768
 acts : δ.acts ≤ N
 area : 0 ≤ ω.area ∧ ω.area ≤ 1
 count : 0 ≤ ω.count ∧ ω.count ≤ 4294967295
 synced : 0 ≤ ω.synced ∧ ω.synced ≤ ω.recs.length
 fits : ((AB ω.recs).length : Int) ≤ 64 * Ag δ
theorem Dh.i {δ : Dk} {ω : Wl} {N : Int} (h : Dh δ ω N) (hN : N ≤ 1000000000000) : MV δ ω := ⟨h.size, by have := h.acts; omega, h.area, h.count, h.synced, h.fits⟩
theorem Dh.more {δ : Dk} {ω : Wl} {N M : Int} (h : Dh δ ω N) (hN : N ≤ M) : Dh δ ω M := ⟨h.al, h.doubt, h.size, by have := h.acts; omega, h.area, h.count, h.synced, h.fits⟩
theorem IU (δ : Dk) (area : Int) (all : Bs) (frm : Nat) : (Ca δ area all frm).1.now.length = δ.now.length ∧ (Ca δ area all frm).1.acts ≤ δ.acts + (all.length + 1) := by
 have := Lc (all.length + 1) δ area all (frm / 64)
 exact ⟨this.1, by have := this.2; show (GD _ _ _ _ _).1.acts ≤ _; omega⟩
theorem DX (l : List Bs) (k : Nat) : (AB (l.take k)).length ≤ (AB l).length := CM l k
theorem Ed {δ : Dk} {ω : Wl} {N : Int} (h : Dh δ ω N) (s : Bs) :
    Dh (AM δ ω s).1 (AM δ ω s).2.1 (N + 2000000) ∧ (AM δ ω s).1.now.length = δ.now.length ∧
    ((s.length ≤ 4000 ∧ ((AB ω.recs).length : Int) + s.length + 6 ≤ 64 * Ag δ ∧ (AM δ ω s).2 = ({ ω with recs := ω.recs ++ [s] }, 0)) ∨
     (s.length > 4000 ∧ AM δ ω s = (δ, ω, 33)) ∨ (s.length ≤ 4000 ∧ ¬ ((AB ω.recs).length : Int) + s.length + 6 ≤ 64 * Ag δ ∧ AM δ ω s = (δ, ω, 30))) := by
  have hm := h.more (M := N + 2000000) om
  by_cases h1 : s.length > 4000
  · have e : AM δ ω s = (δ, ω, 33) := by unfold AM; rw [if_neg (by rw [h.doubt]; decide), if_pos h1]
    rw [e]; exact ⟨hm, rfl, .inr (.inl ⟨h1, rfl⟩)⟩
  by_cases h2 : ((AB ω.recs).length : Int) + s.length + 6 ≤ 64 * Ag δ
  · have hl : (AB ω.recs ++ BI s).length = (AB ω.recs).length + s.length + 6 := by rw [length_append, B9]; omega
    have hh := CP h.size
    obtain ⟨a1, a2⟩ := Z0 ((AB ω.recs ++ BI s).length + 1) δ ω.area (AB ω.recs ++ BI s) ((AB ω.recs).length / 64) h.al h.area h.size.1 om
    have ak := IU δ ω.area (AB ω.recs ++ BI s) (AB ω.recs).length
    have e : AM δ ω s = ((Ca δ ω.area (AB ω.recs ++ BI s) (AB ω.recs).length).1, { ω with recs := ω.recs ++ [s] }, 0) := by
      unfold AM; rw [if_neg (by rw [h.doubt]; decide), if_neg h1, if_neg (fun g => g h2), if_neg (by show ¬ (GD _ _ _ _ _).2 ≠ 0; rw [a1]; decide)]
    rw [e]
    refine ⟨⟨a2, h.doubt, by rw [ak.1]; exact h.size, ?_, h.area, h.count, ?_, ?_⟩, ak.1, .inl ⟨by omega, h2, rfl⟩⟩
    · have := h.acts; have := ak.2; dsimp only; omega
    · have := h.synced; simp; omega
    · rw [Dp ak.1]; show ((AB (ω.recs ++ [s])).length : Int) ≤ _
      rw [CV, show AB [s] = BI s by simp [AB], hl]; omega
  · have e : AM δ ω s = (δ, ω, 30) := by unfold AM; rw [if_neg (by rw [h.doubt]; decide), if_neg h1, if_pos h2]
    rw [e]; exact ⟨hm, rfl, .inr (.inr ⟨by omega, h2, rfl⟩)⟩
theorem FJ {δ : Dk} {ω : Wl} {N : Int} (h : Dh δ ω N) (hc : ω.count ≠ 4294967295) {area : Int} (ha : 0 ≤ area ∧ area ≤ 1) {l : List Bs} (hl : ((AB l).length : Int) ≤ 64 * Ag δ) {δ1 : Dk} (h1 : Al δ1) (h2 : δ1.now.length = δ.now.length) (h3 : δ1.acts ≤ N + 1900000) :
  (IQ (Ax δ1 ω area l)).2 = ({ ω with recs := l, synced := l.length, area := area, count := ω.count + 1 }, 0) ∧ Dh (IQ (Ax δ1 ω area l)).1 { ω with recs := l, synced := l.length, area := area, count := ω.count + 1 } (N + 2000000) ∧ (IQ (Ax δ1 ω area l)).1.now = δ1.now.set ((ω.count + 1) % 2).toNat (ω.mark area l ω.a ω.b).sec := by
 obtain ⟨δ', e, a1, a2, a3⟩ := XP h1 (by rw [h2]; exact h.size.1) ω area l
 rw [e]
 have e2 : IQ (δ', { ω with recs := l, synced := l.length, area := area, count := ω.count + 1 }, 0) = (δ', { ω with recs := l, synced := l.length, area := area, count := ω.count + 1 }, 0) := rfl
 rw [e2]
 have hlen : δ'.now.length = δ.now.length := by rw [a2, length_set, h2]
 have := h.count
 refine ⟨rfl, ⟨a1, h.doubt, by rw [hlen]; exact h.size, ?_, ha, ?_, ?_, ?_⟩, a2⟩
 ·dsimp only; omega
 ·dsimp only; omega
 ·dsimp only; omega
 ·dsimp only; rw [Dp hlen]; exact hl
structure Tn (δ : Dk) (ω : Wl) (N : Int) (r : Dk × Wl × Int) : Prop where
 well : Dh r.1 r.2.1 (N + 2000000)
 len : r.1.now.length = δ.now.length
theorem Tn.same {δ : Dk} {ω : Wl} {N : Int} (h : Dh δ ω N) {e : Int} : Tn δ ω N (δ, ω, e) := ⟨h.more om, rfl⟩
theorem NW {δ : Dk} {ω : Wl} {N : Int} (h : Dh δ ω N) (hc : ω.count ≠ 4294967295) {area : Int} (ha : 0 ≤ area ∧ area ≤ 1) {l : List Bs} (hl : ((AB l).length : Int) ≤ 64 * Ag δ) {δ1 : Dk} (h1 : Al δ1) (h2 : δ1.now.length = δ.now.length) (h3 : δ1.acts ≤ N + 1900000) : Tn δ ω N (IQ (Ax δ1 ω area l)) := by
 obtain ⟨e, w, n⟩ := FJ h hc ha hl h1 h2 h3
 exact ⟨by rw [e]; exact w, by rw [n, length_set, h2]⟩
theorem Tf {δ : Dk} {ω : Wl} {N : Int} (h : Dh δ ω N) : Tn δ ω N (Ay δ ω) := by
 unfold Ay
 rw [if_neg (by rw [h.doubt]; decide)]
 split
 ·exact .same h
 ·split
  ·exact .same h
  ·rename_i hc
   exact NW h hc h.area h.fits h.al rfl (by have := h.acts; omega)
theorem Ws {δ : Dk} {ω : Wl} {N : Int} (h : Dh δ ω N) (n : Int) : Tn δ ω N (CK δ ω n) := by
 unfold CK
 rw [if_neg (by rw [h.doubt]; decide)]
 split
 ·exact .same h
 ·split
  ·exact .same h
  ·rename_i hc
   have := DX ω.recs n.toNat
   have := h.fits
   exact NW h hc h.area om h.al rfl (by have := h.acts; omega)
theorem UE {δ : Dk} {ω : Wl} {N : Int} (h : Dh δ ω N) (a b : Int) : Tn δ ω N (Af δ ω a b) := by
 unfold Af
 rw [if_neg (by rw [h.doubt]; decide)]
 split
 ·exact .same h
 ·split
  ·exact .same h
  ·rename_i h1 hc
   obtain ⟨n1, n2, n3⟩ := Ko h.al h.size.1 (ω.mark ω.area (ω.recs.take ω.synced.toNat) a b)
   have nk := D1 δ (ω.mark ω.area (ω.recs.take ω.synced.toNat) a b)
   rw [if_neg (by rw [n1]; decide)]
   have := h.count; have := h.acts
   refine ⟨⟨n2, h.doubt, by dsimp only; rw [nk.1]; exact h.size, ?_, h.area, ?_, h.synced, ?_⟩, nk.1⟩
   ·dsimp only; omega
   ·dsimp only; omega
   ·dsimp only; rw [Dp nk.1]; exact h.fits
theorem ZF (n : Int) : Al (Dk.new n) := ⟨rfl, rfl⟩
theorem Pz {n : Int} (h : 16 ≤ n ∧ n ≤ 32768) : (Ab (Dk.new n)).2 = some newW ∧ Dh (Ab (Dk.new n)).1 newW 3 ∧ (Ab (Dk.new n)).1.now = ((Dk.new n).now.set 0 zs).set 1 DV.sec := by
 have hl : (Dk.new n).now.length = n.toNat := by simp [Dk.new]
 obtain ⟨a1, a2, a3⟩ := JO (ZF n) (n := 0) (s := zs) ⟨by omega, by omega⟩ rfl
 have e1 : (C3 (Dk.new n) 1) = (Dk.new n).write 0 zs := rfl
 have l1 : ((Dk.new n).write 0 zs).1.now.length = n.toNat := by rw [a3, length_set, hl]
 obtain ⟨b1, b2, b3⟩ := JO a2 (n := 1) (s := DV.sec) ⟨by omega, by omega⟩ (Ps _)
 have l2 : (((Dk.new n).write 0 zs).1.write 1 DV.sec).1.now.length = n.toNat := by rw [b3, length_set, l1]
 obtain ⟨c1, c2, c3⟩ := Nq b2
 have e : Ab (Dk.new n) = ((C3 (Dk.new n) 3).1, some newW) := by
  unfold Ab
  rw [if_neg (by rw [e1, a1]; decide), if_neg (by show ¬ (((Dk.new n).write 0 zs).1.write 1 DV.sec).2 ≠ 0; rw [b1]; decide), if_neg (by show ¬ ((((Dk.new n).write 0 zs).1.write 1 DV.sec).1.sync).2 ≠ 0; rw [c1]; decide)]
 rw [e]
 have hk := B4 (Dk.new n) 3
 have h0 : (Dk.new n).acts = 0 := rfl
 have hn3 : (C3 (Dk.new n) 3).1.now = (((Dk.new n).write 0 zs).1.write 1 DV.sec).1.now := c3
 have l3 : (C3 (Dk.new n) 3).1.now.length = n.toNat := by rw [hn3, l2]
 refine ⟨rfl, ⟨c2, rfl, by dsimp only; omega, by dsimp only; omega, ⟨by decide, by decide⟩, ⟨by decide, by decide⟩, ⟨by decide, by decide⟩, ?_⟩, ?_⟩
 ·show ((0 : Nat) : Int) ≤ 64 * Ag (C3 (Dk.new n) 3).1
  unfold Ag; omega
 ·show (C3 (Dk.new n) 3).1.now = _
  rw [hn3, b3, a3]; rfl
theorem W2 {δ : Dk} {ω : Wl} {N : Int} (h : Dh δ ω N) : -1 ≤ G2 δ ω ∧ G2 δ ω ≤ 4000 ∧
  (∀ s : Bs, (s.length : Int) = max (G2 δ ω + 1) 0 → AM δ ω s = (δ, ω, 33) ∨ AM δ ω s = (δ, ω, 30)) ∧
  (∀ s : Bs, (s.length : Int) = G2 δ ω → (AM δ ω s).2 = ({ ω with recs := ω.recs ++ [s] }, 0)) := by
 refine ⟨by unfold G2; omega, by unfold G2; omega, fun s hs => ?_, fun s hs => ?_⟩
 ·rcases (Ed h s).2.2 with ⟨h1, h2, -⟩ | ⟨-, e⟩ | ⟨-, -, e⟩
  ·unfold G2 at hs; omega
  ·exact .inl e
  ·exact .inr e
 ·rcases (Ed h s).2.2 with ⟨-, -, e⟩ | ⟨h1, -⟩ | ⟨h1, h2, -⟩
  ·exact e
  ·unfold G2 at hs; omega
  ·unfold G2 at hs; omega
def AAt : Rn Nat := BY 0 (D7 65536)
def AAH : Rn (Int × Nat) := CJ AP fun b => CJ AAt fun n => JT (b, n)
def lhZ (s : Bs) : Option (Int × Nat) := match AAH (some s) with
 | (q, some []) => some q
 | _ => none
/-! ### Rows: each record an entry, its numbers rising -/
def Cf : Int → List Bs → List Int → Prop
 | _, [], [] => True
 | b, s :: t, z :: u => (∃ e, ET s = some e ∧ e.zx = z) ∧ b < z ∧ I64 z ∧ Cf z t u
 | _, _, _ => False
def PB (b : Int) (zs : List Int) : Int := zs.getLast?.getD b
theorem Qn (b z : Int) (u : List Int) : PB b (z :: u) = PB z u := by
 unfold PB; rw [List.getLast?_cons]; rfl
theorem Cf.len : ∀ {es : List Bs} {zs : List Int} {b : Int}, Cf b es zs → zs.length = es.length
 | [], [], _, _ => rfl
 | _ :: _, _ :: _, _, h => congrArg (· + 1) (Cf.len h.2.2.2)
 | [], _ :: _, _, h => h.elim
 | _ :: _, [], _, h => h.elim
theorem Cf.keep {s : Bs} {z : Int} (hs : ∃ e, ET s = some e ∧ e.zx = z) (hi : I64 z) : ∀ {es : List Bs} {zs : List Int} {b : Int}, Cf b es zs → PB b zs < z → Cf b (es ++ [s]) (zs ++ [z])
 | [], [], _, _, hz => ⟨hs, hz, hi, trivial⟩
 | _ :: _, _ :: _, _, h, hz => ⟨h.1, h.2.1, h.2.2.1, Cf.keep hs hi h.2.2.2 (by rw [Qn] at hz; exact hz)⟩
 | [], _ :: _, _, h, _ => h.elim
 | _ :: _, [], _, h, _ => h.elim
theorem Cf.take : ∀ {es : List Bs} {zs : List Int} {b : Int} (n : Nat), Cf b es zs → Cf b (es.take n) (zs.take n)
 | [], [], _, _, _ => by simp [Cf]
 | _ :: _, _ :: _, _, 0, _ => trivial
 | _ :: _, _ :: _, _, n + 1, h => ⟨h.1, h.2.1, h.2.2.1, Cf.take n h.2.2.2⟩
 | [], _ :: _, _, _, h => h.elim
 | _ :: _, [], _, _, h => h.elim
theorem Cf.gt : ∀ {es : List Bs} {zs : List Int} {b : Int}, Cf b es zs → ∀ z ∈ zs, b < z
 | [], [], _, _, z, hz => by cases hz
 | _ :: _, z0 :: _, _, h, z, hz => by
  rcases mem_cons.1 hz with rfl | hz
  ·exact h.2.1
  ·have := h.2.1; have := Cf.gt h.2.2.2 z hz; omega
 | [], _ :: _, _, h, _, _ => h.elim
 | _ :: _, [], _, h, _, _ => h.elim
theorem Cf.i64 : ∀ {es : List Bs} {zs : List Int} {b : Int}, Cf b es zs → ∀ z ∈ zs, I64 z
 | [], [], _, _, z, hz => by cases hz
 | _ :: _, z0 :: _, _, h, z, hz => by
  rcases mem_cons.1 hz with rfl | hz
  ·exact h.2.2.1
  ·exact Cf.i64 h.2.2.2 z hz
 | [], _ :: _, _, h, _, _ => h.elim
 | _ :: _, [], _, h, _, _ => h.elim
theorem Cf.up : ∀ {es : List Bs} {zs : List Int} {b : Int}, Cf b es zs → (b :: zs).Pairwise (· < ·)
 | [], [], _, _ => by simp
 | _ :: _, z0 :: u, b, h => pairwise_cons.2 ⟨fun z hz => Cf.gt (es := _ :: _) (zs := z0 :: u) h z hz, Cf.up h.2.2.2⟩
 | [], _ :: _, _, h => h.elim
 | _ :: _, [], _, h => h.elim
structure Iq (Λ : Lg) : Prop where
 few : Λ.ents.length ≤ 200
 each : ∀ s ∈ Λ.ents, s.length ≤ 4000
 base : 0 ≤ Λ.base ∧ Λ.base ≤ 9223372036854775807
 snap : Λ.snap.length ≤ 65536
 rows : Cf Λ.base Λ.ents Λ.zxs
 eps : 0 ≤ Λ.cur ∧ Λ.cur ≤ Λ.acc ∧ Λ.acc ≤ 1073741824
theorem Iq.i {Λ : Lg} (h : Iq Λ) : SR Λ := ⟨h.few, h.rows.len, fun s hs => by have := h.each s hs; omega, ⟨by have := h.base; omega, h.base.2⟩, h.rows.i64⟩
/-! ### Calls -/
def E4 (Λ : Lg) (z : Int) : Option Nat := if z ∈ Λ.zxs then some (Λ.zxs.idxOf z + 1) else if z = Λ.base then some 0 else none
def DE (s : Ld) (n : Nat) : Ld × Int :=
 if (Ce s.Λ (CK s.δ s.ω (((Ae s.Λ.base s.Λ.snap).length + n : Nat) : Int))).2 = 0 then (⟨(CK s.δ s.ω (((Ae s.Λ.base s.Λ.snap).length + n : Nat) : Int)).1, (CK s.δ s.ω (((Ae s.Λ.base s.Λ.snap).length + n : Nat) : Int)).2.1, ⟨s.Λ.acc, s.Λ.cur, s.Λ.base, s.Λ.snap, s.Λ.ents.take n, s.Λ.zxs.take n, s.Λ.doubt⟩⟩, 0) else Ce s.Λ (CK s.δ s.ω (((Ae s.Λ.base s.Λ.snap).length + n : Nat) : Int))
def CE (s : Ld) (z : Int) : Ld × Int := if s.Λ.doubt = true then (s, 2) else match E4 s.Λ z with
 | none => (s, 81)
 | some n => DE s n
def BG (s : Ld) (base : Int) (snap : Bs) (es : List Bs) (zs : List Int) : Ld × Int :=
 if es.length > 200 then (s, 83) else if (Ce s.Λ (A1 s.δ s.ω (Ae base snap ++ es))).2 = 0 then (⟨(A1 s.δ s.ω (Ae base snap ++ es)).1, (A1 s.δ s.ω (Ae base snap ++ es)).2.1, ⟨s.Λ.acc, s.Λ.cur, base, snap, es, zs, s.Λ.doubt⟩⟩, 0) else Ce s.Λ (A1 s.δ s.ω (Ae base snap ++ es))
def P4 (b : Int) (zs : List Int) : Prop := ∀ j, j < zs.length → b < zs.getD j 0 ∧ (0 < j → zs.getD (j - 1) 0 < zs.getD j 0)
instance (b : Int) (zs : List Int) : Decidable (P4 b zs) := by unfold P4; infer_instance
def Au (s : Ld) (z : Int) (snap : Bs) (l : List En) : Ld × Int :=
 if s.Λ.doubt = true then (s, 2) else if z < 0 ∨ snap.length > 65536 then (s, 1) else if l.all C7 = false then (s, 1) else if ¬ P4 z (l.map (·.zx)) then (s, 81) else BG s z snap (l.map Bd) (l.map (·.zx))
def DQ (δ : Dk) : Dk × Wl × Int := AM (Ab δ).1 newW (Cj 0 0)
def Fj (δ : Dk) : Dk × Wl × Int := Ay (DQ δ).1 (DQ δ).2.1
def Ad (δ : Dk) : Dk × Option Wl := if (Ab δ).2.isNone = true then ((Ab δ).1, none) else if (DQ δ).2.2 ≠ 0 then ((DQ δ).1, none) else if (Fj δ).2.2 ≠ 0 then ((Fj δ).1, none) else ((Fj δ).1, some (Fj δ).2.1)
def IH (q : Bs × Int) : En := (ET q.1).getD Yl
def Hk (Λ : Lg) (z : Int) : List En := ((Λ.ents.zip Λ.zxs).filter fun q => decide (q.2 > z)).map IH
/-! ### On a disk that lives -/
structure EO (s : Ld) (N : Int) : Prop where
 well : Dh s.δ s.ω N
 w : Iq s.Λ
 live : s.Λ.doubt = false
 recs : s.ω.recs = Ae s.Λ.base s.Λ.snap ++ s.Λ.ents
 a : s.ω.a = s.Λ.acc
 b : s.ω.b = s.Λ.cur
theorem EO.more {s : Ld} {N M : Int} (h : EO s N) (hN : N ≤ M) : EO s M := ⟨h.well.more hN, h.w, h.live, h.recs, h.a, h.b⟩
theorem TW {s : Ld} {N : Int} (h : EO s N) {e : En} (he : Wj e) : EO (AK s e).1 (N + 2000000) ∧ (AK s e).1.δ.now.length = s.δ.now.length ∧
  (((AK s e).2 = 0 ∧ (AK s e).1.Λ = s.Λ.keep (Bd e) e.zx ∧ C7 e = true ∧ A5 s.Λ < e.zx ∧ (Bd e).length ≤ 4000 ∧ s.Λ.ents.length < 200) ∨ ((AK s e).2 ≠ 0 ∧ (AK s e).1 = s)) := by
 have hm := h.more (M := N + 2000000) om
 unfold AK
 rw [if_neg (by rw [h.live]; decide)]
 split
 ·exact ⟨hm, rfl, .inr ⟨show (1 : Int) ≠ 0 by decide, rfl⟩⟩
 rename_i hf
 have hf : C7 e = true := by simpa using hf
 split
 ·exact ⟨hm, rfl, .inr ⟨show (81 : Int) ≠ 0 by decide, rfl⟩⟩
 rename_i hz
 split
 ·exact ⟨hm, rfl, .inr ⟨show (83 : Int) ≠ 0 by decide, rfl⟩⟩
 rename_i hr
 obtain ⟨w1, w2, w3⟩ := Ed h.well (Bd e)
 have hfew := h.w.few
 rcases w3 with ⟨g1, g2, g3⟩ | ⟨g1, g3⟩ | ⟨g1, g2, g3⟩
 ·obtain ⟨δ1, q, hq⟩ : ∃ δ1 q, AM s.δ s.ω (Bd e) = (δ1, q) := ⟨_, _, rfl⟩
  rw [hq] at w1 w2 g3 ⊢
  dsimp only at w1 w2 g3
  subst g3
  have e0 : Ce s.Λ (δ1, ({ s.ω with recs := s.ω.recs ++ [Bd e] } : Wl), (0 : Int)) = (⟨δ1, { s.ω with recs := s.ω.recs ++ [Bd e] }, s.Λ⟩, 0) := rfl
  rw [e0, if_pos rfl]
  dsimp only at w1 ⊢
  obtain ⟨b, hb⟩ : ∃ b, ET (Bd e) = some b := by
   unfold C7 at hf
   cases hg : ET (Bd e) with
   | none => rw [hg] at hf; simp at hf
   | some b => exact ⟨b, rfl⟩
  have hbz : b.zx = e.zx := by
   rw [Ot he hb]; rfl
  refine ⟨⟨w1, ⟨?_, ?_, h.w.base, h.w.snap, Cf.keep ⟨b, hb, hbz⟩ he.zx h.w.rows (by show A5 s.Λ < _; omega), h.w.eps⟩, h.live, ?_, h.a, h.b⟩, w2, .inl ⟨rfl, rfl, hf, by omega, g1, by omega⟩⟩
  ·show (s.Λ.ents ++ [Bd e]).length ≤ 200; rw [length_append, length_singleton]; omega
  ·intro x hx
   rcases mem_append.1 hx with hx | hx
   ·exact h.w.each x hx
   ·rw [mem_singleton] at hx; subst hx; exact g1
  ·show s.ω.recs ++ [Bd e] = Ae s.Λ.base s.Λ.snap ++ (s.Λ.ents ++ [Bd e])
   rw [h.recs, append_assoc]
 ·rw [g3, if_neg (by show ¬ CU 33 = 0; decide)]
  exact ⟨hm, rfl, .inr ⟨by show CU 33 ≠ 0; decide, rfl⟩⟩
 ·rw [g3, if_neg (by show ¬ CU 30 = 0; decide)]
  exact ⟨hm, rfl, .inr ⟨by show CU 30 ≠ 0; decide, rfl⟩⟩
theorem AAg : Iq RI := ⟨by decide, (fun s hs => by cases hs), by decide, by decide, trivial, by decide⟩
theorem JL {n : Int} (h : 16 ≤ n ∧ n ≤ 32768) : ∃ ω, (Ad (Dk.new n)).2 = some ω ∧ EO ⟨(Ad (Dk.new n)).1, ω, RI⟩ 4000003 ∧ (Ad (Dk.new n)).1.now.length = n.toNat ∧ Dh (Ab (Dk.new n)).1 newW 3 ∧ Dh (DQ (Dk.new n)).1 (DQ (Dk.new n)).2.1 2000003 := by
 obtain ⟨f1, f2, f3⟩ := Pz h
 obtain ⟨δ1, hq⟩ : ∃ δ1, (Ab (Dk.new n)).1 = δ1 := ⟨_, rfl⟩
 have hF1 : DQ (Dk.new n) = AM δ1 newW (Cj 0 0) := by rw [← hq]; rfl
 rw [hq] at f2 f3
 have hnl : δ1.now.length = n.toNat := by rw [f3, length_set, length_set]; simp [Dk.new]
 obtain ⟨w1, w2, w3⟩ := Ed f2 (Cj 0 0)
 have hl : (Cj 0 0).length = 2 := by kernel_rfl
 have hh : 7 ≤ Ag δ1 := by unfold Ag; omega
 have h0 : (AB newW.recs).length = 0 := rfl
 rcases w3 with ⟨-, -, g3⟩ | ⟨g1, -⟩ | ⟨-, g2, -⟩
 rotate_left
 ·omega
 ·omega
 obtain ⟨⟨δ2, q2⟩, hq2⟩ : ∃ r, AM δ1 newW (Cj 0 0) = r := ⟨_, rfl⟩
 rw [hq2] at w1 w2 g3 hF1
 dsimp only at w1 w2 g3
 subst g3
 dsimp only at w1
 have hs : Ay δ2 { newW with recs := newW.recs ++ [Cj 0 0] } = IQ (Ax δ2 { newW with recs := newW.recs ++ [Cj 0 0] } 0 [Cj 0 0]) := by
  unfold Ay
  rw [if_neg dQ, if_neg (by show ¬ ((0 : Int) = ((1 : Nat) : Int)); decide), if_neg dQ]; rfl
 obtain ⟨e, w, k⟩ := FJ w1 dQ (area := 0) dQ (l := [Cj 0 0]) w1.fits w1.al rfl (by have := w1.acts; omega)
 have hF2 : Fj (Dk.new n) = IQ (Ax δ2 { newW with recs := newW.recs ++ [Cj 0 0] } 0 [Cj 0 0]) := by unfold Fj; rw [hF1]; exact hs
 have hfm : Ad (Dk.new n) = ((Fj (Dk.new n)).1, some (Fj (Dk.new n)).2.1) := by
  unfold Ad
  rw [f1, if_neg dQ, if_neg (by rw [hF1]; exact fun g => g rfl), if_neg (by rw [hF2, e]; decide)]
 rw [hfm, hF2, hF1, hq]
 dsimp only
 exact ⟨_, rfl, ⟨by rw [e, show (4000003 : Int) = 3 + 2000000 + 2000000 by decide]; exact w, AAg, rfl, by rw [e]; rfl, by rw [e]; rfl, by rw [e]; rfl⟩, by rw [k, length_set, w2, hnl], f2, w1⟩
theorem QE : Fn prog 56 #[.slice none 0 0] [AV 3 1 (.slice none 0 0) 0 []] fun u L => u = .slice none 0 0 ∧ L = [AV 3 1 u 0 []] := by
 refine Fn.intro func56 Y Y fun F W => ?_
 refine .sr (.an Y (.sm Y (.m Y (.q (.slen Y underlying22 Y) Y (.m Y (.q (.slen Y underlying22 Y) Y (.q (.clip (n := 0) Y BC Y Y (Nat.le_refl _) (.inl Y)) Y (.an Y (.ret ?_)))))))))
 exact .dn Y Y ⟨Y, Y⟩
theorem Py (b n c : Nat) (hc : n ≤ c) (xs : List Value) : Fn prog 56 #[.slice (some ⟨b, 0, none⟩) n c] [AV 3 1 (.slice (some ⟨b, 0, none⟩) n c) n xs] fun u L => u = .slice (some ⟨b, 0, none⟩) n n ∧ L = [AV 3 1 u n xs] := by
 refine Fn.intro func56 Y Y fun F W => ?_
 refine .sr (.an Y (.sm Y (.m Y (.q (.slen Y underlying22 Y) Y (.m Y (.q (.slen Y underlying22 Y) Y (.q (.clip (n := n) Y BC Y Y hc (.inr ⟨_, _, Y⟩)) Y (.an Y (.ret (.slClip O ?_))))))))))
 exact .dn Y Y ⟨Y, Y⟩
theorem GZ (v : Value) (n : Nat) (xs : List Value) : Fn prog 56 #[v] [AV 3 1 v n xs] fun u L => (∃ a c, u = .slice a n c) ∧ L = [AV 3 1 u n xs] := by
 intro F w hs
 obtain ⟨g1, -, hp⟩ := AZ hs
 rcases hp with ⟨rfl, rfl, rfl⟩ | ⟨b, cap, rest, fr, rfl, -, -, -, h4, -⟩
 ·exact (QE F w hs).mono fun e w' ⟨u, L, ⟨h1, h2⟩, h3⟩ => ⟨u, L, ⟨⟨_, _, h1⟩, h2⟩, h3⟩
 ·exact (Py b n cap h4 xs F w hs).mono fun e w' ⟨u, L, ⟨h1, h2⟩, h3⟩ => ⟨u, L, ⟨⟨_, _, h1⟩, h2⟩, h3⟩
theorem AAB : (Cj 0 0).length = 2 := by kernel_rfl
theorem N4 (d : Nat) (δ : Dk) (hA : δ.acts + 10 < 4611686018427387904) (hI : MV (Ab δ).1 newW) (hI1 : MV (DQ δ).1 (DQ δ).2.1) : Fn prog 31 #[AG d] [Bg d δ] fun v L => ((Ad δ).2 = none ∧ v = .tuple #[.pointer none, AA 2] ∧ L = [Bg d (Ad δ).1]) ∨
    (∃ ω g x, (Ad δ).2 = some ω ∧ v = .tuple #[AG g, AA 0] ∧ L = [BW g x RI, CX x d ω, Bg d (Ad δ).1]) := by
 refine Fn.intro func31 Y Y fun F W => ?_
 refine .sr (.a Y (.an Y (.seq (.sm Y (.q (.ptreq Y Y underlying26) Y (.nt (.condF Y (.sk (.sm Y (.oq (.c func60 [_] (O0 d δ hA)) ?_))))))))))
 rintro v L' (⟨hf, rfl, rfl⟩ | ⟨hf, x, rfl, rfl⟩)
 ·refine .m Y (.ex Y Y (.ex Y Y (.a Y (.an Y (.seq (.sm Y (.q (.as (v' := .bool true) (by rfl) (.int Y Y Y)) Y (.m Y (.gk (.gk (.gk (.gk (.gk (.gk (.pT Y Y (.m Y (.gk (.gk (.gk (.pT Y Y (.nt (.condT Y (.sr (.a Y (.an Y (.rt ?_))))))))))))))))))))))))))
  have hr : Ad δ = ((Ab δ).1, none) := by unfold Ad; rw [hf]; rfl
  rw [hr]
  exact .dn Y Y (.inl ⟨Y, Y, Y⟩)
 refine .m Y (.ex Y Y (.ex Y Y (.a Y (.an Y (.seq (.sm Y (.q (.as (v' := .bool false) (by rfl) (.int Y Y Y)) Y (.m Y (.gr (.m Y (.gr (.oq (.c func61 [_, _] (Ha 0 [] dQ dQ)) ?_))))))))))))
 rintro v L' ⟨ba, ca, rfl, rfl⟩; rw [show Ae 0 [] = [Cj 0 0] from rfl]; dsimp only [length_cons, length_nil]
 refine .gr (.q (.indexAddr Y Y Bu om) Y (.gr (.q (.loadEl (p := Cp (.slice (some ⟨ba, 0, none⟩) (0 + 1) ca) [Cj 0 0]) (i := 0) (v := AU (Cj 0 0)) Y G9 O (fun h hp => AE hp) Y) Y (.gr (.oq (.c func36 [_, _] (Iz x d newW (Ab δ).1 (Cj 0 0) hI (by rw [AAB]; decide))) ?_)))))
 rintro v L' ⟨rfl, rfl⟩; rw [show AM (Ab δ).1 newW (Cj 0 0) = DQ δ from rfl]
 refine .gr (.ui Y Y Y (.pF Y Y (.m Y (.ndec (t := 23) Y (fun h4_23 => ?_) (fun h4_23 => ?_)))))
 ·refine .kNT (t := 21) Y h4_23 (.kNT (t := 22) Y h4_23 (.gk (.gk (.gk (.pT Y Y (.nt (.condT Y (.sr (.a Y (.an Y (.rt ?_)))))))))))
  have hr : Ad δ = ((DQ δ).1, none) := by unfold Ad; rw [hf, if_neg dQ,  if_pos h4_23]
  rw [hr]
  exact .dn Y Y (.inl ⟨Y, Y, Y⟩)
 refine .kNF (t := 21) Y h4_23 (.kNF (t := 22) Y h4_23 (.gr (.m Y (.gr (.oq (.c func39 [_] (ML x d (DQ δ).2.1 (DQ δ).1 hI1)) ?_)))))
 rintro v L' ⟨rfl, rfl⟩; rw [show Ay (DQ δ).1 (DQ δ).2.1 = Fj δ from rfl]
 refine .gr (.ui Y Y Y (.pF Y Y (.nt (.condN Y (fun h27 => ?_) (fun h27 => ?_)))))
 ·refine .sr (.a Y (.an Y (.rt ?_)))
  have hr : Ad δ = ((Fj δ).1, none) := by unfold Ad; rw [hf, if_neg dQ, if_neg (fun g => g h4_23),  if_pos h27]
  rw [hr]
  exact .dn Y Y (.inl ⟨Y, Y, Y⟩)
 refine .sk (.sm Y (.q (.buildN (pl := [(0, 2), (2, 1), (3, 1), (4, 1), (5, 1), (6, 1), (7, 1)]) (us := [(1, _)]) (cells := [AA 0, AA 0, AG x, AA 0, AU [], .slice none 0 0, .slice none 0 0, .bool false]) underlying90 kQ VS Y Y) Y (.oq (.box Y) ?_)))
 rintro v L' ⟨g, rfl, rfl⟩
 refine .a Y (.a Y (.nil (.ptCast (b := g) (l' := [AA 0, AA 0, AG x, AA 0, AU [], .slice none 0 0, .slice none 0 0, .bool false]) O Y (.then_n (.ret ?_)))))
 have hr : Ad δ = ((Fj δ).1, some (Fj δ).2.1) := by unfold Ad; rw [hf, if_neg dQ, if_neg (fun g => g h4_23),  if_neg (fun g => g h27)]
 rw [hr]
 refine .add (Ak 9 1) (.add (Ak 3 1) (.lgFold (g := g) (x := x) (ea := none) (ec := 0) (za := none) (zc := 0) (es := []) (zs := []) RI O Y Y Y Y Y ?_))
 exact .dn Y Y (.inr ⟨_, _, _, Y, Y, Y⟩)
theorem Ew (st : Rs) : I64 (AP st).1 := by
 unfold AP BY
 split
 ·decide
 ·split
  ·rename_i x hx; exact (Pw hx).2
  ·decide
/- not in this seat -/
/- not in this seat -/
theorem AI.preImp {P : Program} {E : By} {o : Oper} {p p' : HP} {R : List HP} {K : Value → List HP → Prop} (hi : ∀ h, p h → p' h) (h : AI P o E (p' :: R) K) : AI P o E (p :: R) K := by
 intro ρ w F ha hs
 exact h ρ w F ha (BS hi hs)
theorem Yc (z : Int) : AA (z.fdiv (2 ^ min (32 : Int).toNat IntKind.i64.bits)) = AA (z / 4294967296) := by
 show AA (z.fdiv 4294967296) = _
 rw [Int.fdiv_eq_ediv_of_nonneg _ dQ]
theorem It {all : List Int} {j : Nat} (h : j < all.length) : (all.take (j + 1)).foldl Ba [] = Ba ((all.take j).foldl Ba []) (all.getD j 0) := by
 rw [take_succ_eq_append_getElem h, foldl_append]
 simp [getD_eq_getElem?_getD, h]
theorem AAq {out : List Int} {z : Int} (h : z = 0) : Ba out z = out := by unfold Ba; rw [if_pos h]
theorem X1 {out : List Int} {z : Int} (h : ¬ z = 0) (h2 : out ≠ []) (h3 : out.getLastD 0 / 4294967296 = z / 4294967296) : Ba out z = out.dropLast ++ [z] := by unfold Ba; rw [if_neg h, if_pos ⟨h2, h3⟩]
theorem V8 {out : List Int} {z : Int} (h : ¬ z = 0) (h2 : out = [] ∨ ¬ out.getLastD 0 / 4294967296 = z / 4294967296) : Ba out z = out ++ [z] := by
 unfold Ba; rw [if_neg h, if_neg]
 rintro ⟨g1, g2⟩; rcases h2 with h2 | h2
 ·exact g1 h2
 ·exact h2 g2
theorem U6 {out : List Int} {i : Nat} (h : i + 1 = out.length) (z : Int) : out.set i z = out.dropLast ++ [z] := by
 obtain ⟨l, x, rfl⟩ : ∃ l x, out = l ++ [x] := ⟨out.dropLast, out.getLast (by intro g; subst g; simp at h), (dropLast_concat_getLast _).symm⟩
 rw [length_append, length_singleton] at h
 obtain rfl : i = l.length := by omega
 simp
theorem PE {out : List Int} {i : Nat} (h : i + 1 = out.length) : out.getLastD 0 = out.getD i 0 := by
 obtain ⟨l, x, rfl⟩ : ∃ l x, out = l ++ [x] := ⟨out.dropLast, out.getLast (by intro g; subst g; simp at h), (dropLast_concat_getLast _).symm⟩
 rw [length_append, length_singleton] at h
 obtain rfl : i = l.length := by omega
 simp [getD_eq_getElem?_getD]
theorem ZE (out : List Int) (z : Int) : (Ba out z).length ≤ out.length + 1 := by
 unfold Ba
 split
 ·omega
 ·split
  ·rw [length_append, length_dropLast, length_singleton]; omega
  ·rw [length_append, length_singleton]; omega
theorem XQ (all : List Int) (j : Nat) (h : j ≤ all.length) : ((all.take j).foldl Ba []).length ≤ j := by
 induction j with
 | zero => simp
 | succ j ih =>
  rw [It om]
  have := ZE ((all.take j).foldl Ba []) (all.getD j 0)
  have := ih om
  omega
theorem Hg (g x : Nat) (Λ : Lg) (hΛ : SR Λ) : Fn prog 88 #[AG g] [BW g x Λ] fun v L => ∃ a c, v = .slice a (A3 Λ).length c ∧ L = [BW g x Λ, Cr v (A3 Λ)] := by
 refine Fn.intro func88 Y Y fun F W => ?_
 refine .lgOpen O fun ea ec za zc => ?_
 have h1 := hΛ.ents
 have h2 := hΛ.same
 refine .sr (.an Y (.seq (.add (Ak 3 1) (.region (.an Y (.seq (.seq (.draw [4, 9] [[0, 1, 2, 3, 5, 6, 7, 8, 11, 4, 9, 10]] mixed kQ (.go [Ar g _ _] O (.mv Y Y (.nf Y Y Y FC (.kv Y (.ld Y AF) (.k Y (.move Y) (.k Y (.nilp Y) (.k Y (.fieldAddr Y Cl) (.k Y (.ld Y DM) (.k Y (.move Y) (.hh Y (.buildSlice1 (vs := [_]) BC Fk Y Y Y Y Y dQ) ?_))))))))))))))))))
 rintro v L' ⟨b4, rfl, rfl⟩
 refine D.hh Y (.preImp (p := Ar b4 [AA Λ.base] 3) (p' := AV 3 1 (.slice (some ⟨b4, 0, none⟩) 1 1) 1 [AA Λ.base]) (fun h hp => HI hp Y) (.append (n := 1) (m := Λ.zxs.length) (xs := [AA Λ.base]) (ys := Aq Λ.zxs) (p := Cr (.slice za Λ.zxs.length zc) Λ.zxs) Y Y Y BC (.inl ⟨_, underlying22⟩) Fk Y Y ?hc14 ?hr15 ?hb16 dQ)) ?_
 case hc14 => intro y hy; obtain ⟨z, -, rfl⟩ := mem_map.1 hy; rfl
 case hr15 => exact fun h hp => AE hp
 case hb16 => omega
 rintro v L' ⟨⟨a9, c9, rfl⟩, rfl⟩
 refine D.kv Y (.slen Y underlying22 Y) (.ph (.fin (.slShape (v := .slice a9 _ c9) O om fun b9 cc9 e0 mb9 _ => ?_)))
 simp only [Value.slice.injEq, true_and] at e0
 obtain ⟨rfl, rfl⟩ := e0
 have hall : (Λ.base :: Λ.zxs).length = 1 + Λ.zxs.length := by rw [length_cons]; omega
 refine .then_n (.block (.loopK (ι := Nat × Value × (List Int)) (fun q E => (18, AA q.1) :: (3, q.2.1) :: E) (fun q => [Cr q.2.1 q.2.2]) (fun q => q.1 ≤ 1 + Λ.zxs.length ∧ (∃ a c, q.2.1 = .slice a q.2.2.length c) ∧ q.2.2 = (((Λ.base :: Λ.zxs).take q.1).foldl Ba [])) (fun q => 1 + Λ.zxs.length - q.1) (0, .slice none 0 0, []) (ts := [2, 16, 17]) O (⟨Nat.zero_le _, ⟨none, 0, Y⟩, Y⟩) O O ?_))
 rintro ⟨j, u, out⟩ ⟨hj, ⟨au, cu, hu⟩, ho⟩
 dsimp only
 dsimp only at hj hu ho
 subst hu
 have hol : out.length ≤ j := by rw [ho]; exact XQ _ _ om
 refine .sr (.ui Y Y Y (.nt (.seq (.condD Y (fun h19 => ?_) (fun h19 => ?_)))))
 ·refine .sk (.seq (.block (.sr (.q (.indexAddr Y Y BC om) Y (.q (.loadEl (p := AV 3 1 (.slice (some ⟨b9, 0, none⟩) (1 + Λ.zxs.length) c9) (1 + Λ.zxs.length) ([AA Λ.base] ++ Aq Λ.zxs)) (i := j * 1) (v := AA ((Λ.base :: Λ.zxs).getD j 0)) Y AF O (fun h hp => AE hp) (by have hjl : j < (Λ.base :: Λ.zxs).length := om; rw [show [AA Λ.base] ++ Aq Λ.zxs = Aq (Λ.base :: Λ.zxs) from rfl]; simp only [Aq, List.getElem?_map, Nat.mul_one, List.getElem?_eq_getElem hjl, getD_eq_getElem?_getD]; rfl)) Y ?_)))))
  refine .an Y (.sm Y (.q (.slen Y underlying22 Y) Y (.an Y (.block (.sm Y (.ui Y Y Y (.an Y (.condD Y (fun h28 => ?_) (fun h28 => ?_)))))))))
  ·refine .skip (.blk_n (.blk_n (.then_n (.region (.q (.add Y Y om) Y (.m Y (.nt ?_)))))))
   exact .rk ((j + 1, .slice au out.length cu, out)) (⟨by dsimp only; omega, ⟨_, _, rfl⟩, by dsimp only; rw [It om, ← ho, AAq h28]⟩) (by dsimp only; omega) O
  refine .sm Y (.ui Y Y Y (.m Y (.dec (t := 34) Y (fun h8_34 => ?_) (fun h8_34 => ?_))))
  ·obtain ⟨i, hi⟩ : ∃ i, i + 1 = out.length := ⟨out.length - 1, by omega⟩
   refine .slShape (v := .slice au _ cu) (xs := Aq out) O om fun bu cu' e0 mbu _ => ?_
   simp only [Value.slice.injEq, true_and] at e0
   obtain ⟨rfl, rfl⟩ := e0
   refine .kDT (t := 33) Y h8_34 (.gr (.m Y (.gr (.m Y (.gr (.q (.as (v' := AA (i : Nat)) (by congr 1; omega) (.sub Y Y om)) Y (.gr (.q (.indexAddr Y Y BC om) Y (.gr (.q (.loadEl (p := Cr (.slice (some ⟨bu, 0, none⟩) out.length cu) out) (i := i * 1) (v := AA (out.getD i 0)) Y AF O (fun h hp => AE hp) (by have hil : i < out.length := om; simp [Aq, getD_eq_getElem?_getD, hil])) Y ?_))))))))))
   refine .gr (.q (.as (v' := AA (out.getD i 0 / 4294967296)) (by exact Yc _) (.shr Y Y (by first | decide | omega))) Y (.gr (.m Y (.gr (.q (.as (v' := AA ((Λ.base :: Λ.zxs).getD j 0 / 4294967296)) (by exact Yc _) (.shr Y Y (by first | decide | omega))) Y (.gr (.ui Y Y Y (.pT Y Y (.an Y (.condD Y (fun h31 => ?_) (fun h31 => ?_)))))))))))
   ·refine .region (.m Y (.m Y (.q (.as (v' := AA (i : Nat)) (by congr 1; omega) (.sub Y Y om)) Y (.m Y (.q (.indexAddr Y Y BC om) Y (.oq (.storeRd (sz := 1) (n := out.length) (c := cu) (j := i * 1) (xs := Aq out) Y Y Y BV ?h138 ?h239) ?_))))))
    case h138 => simp
    case h239 => omega
    rintro v L' rfl
    refine .nil (.blk_n (.blk_n (.then_n (.region (.q (.add Y Y om) Y (.m Y (.nt (.slCast (T := 3) (sz := 1) (m' := (out.set i ((Λ.base :: Λ.zxs).getD j 0)).length) (xs' := Aq (out.set i ((Λ.base :: Λ.zxs).getD j 0))) O (by simp) (by simp [Aq, map_set]) ?_))))))))
    exact .rk ((j + 1, .slice (some ⟨bu, 0, none⟩) out.length cu, out.set i ((Λ.base :: Λ.zxs).getD j 0))) (⟨by dsimp only; omega, ⟨some ⟨bu, 0, none⟩, cu, by simp⟩, by dsimp only; rw [It om, ← ho, X1 h28 (by intro g; rw [g] at hi; simp at hi) (by rw [PE hi]; exact h31), U6 hi]⟩) (by dsimp only; omega) O
   refine .region (.m Y (.m Y (.oq (.buildSlice1 (vs := [_]) BC Fk Y Y Y Y Y dQ) ?_)))
   rintro v L' ⟨b6, rfl, rfl⟩
   refine .oq (.append1 Y Y Y BC Fk Y Y ?c45 ?c46 (Nat.le_refl _) ?c47 dQ) ?_
   case c45 => (first | (simp [AD]; done) | (simp [AD, Cd, Value.cells]; done))
   case c46 => rfl
   case c47 => omega
   rintro v L' ⟨⟨a6, c6, rfl⟩, rfl⟩
   refine .a Y (.nil (.blk_n (.blk_n (.then_n (.region (.q (.add Y Y om) Y (.m Y (.nt (.slCast (T := 3) (sz := 1) (m' := (out ++ [(Λ.base :: Λ.zxs).getD j 0]).length) (xs' := Aq (out ++ [(Λ.base :: Λ.zxs).getD j 0])) O (by simp) (by simp [Aq, Value.cells]) ?_)))))))))
   exact .rk ((j + 1, .slice a6 (out.length + 1) c6, out ++ [(Λ.base :: Λ.zxs).getD j 0])) (⟨by dsimp only; omega, ⟨a6, c6, by simp⟩, by dsimp only; rw [It om, ← ho, V8 h28 (.inr (by rw [PE hi]; exact h31))]⟩) (by dsimp only; omega) O
  refine .kDF (t := 33) Y h8_34 (.gk (.gk (.gk (.gk (.gk (.gk (.gk (.gk (.gk (.pF Y Y (.an Y (.condF Y (.region (.m Y (.m Y (.oq (.buildSlice1 (vs := [_]) BC Fk Y Y Y Y Y dQ) ?_))))))))))))))))
  rintro v L' ⟨b6, rfl, rfl⟩
  refine .oq (.append1 Y Y Y BC Fk Y Y ?c55 ?c56 (Nat.le_refl _) ?c57 dQ) ?_
  case c55 => (first | (simp [AD]; done) | (simp [AD, Cd, Value.cells]; done))
  case c56 => rfl
  case c57 => omega
  rintro v L' ⟨⟨a6, c6, rfl⟩, rfl⟩
  refine .a Y (.nil (.blk_n (.blk_n (.then_n (.region (.q (.add Y Y om) Y (.m Y (.nt (.slCast (T := 3) (sz := 1) (m' := (out ++ [(Λ.base :: Λ.zxs).getD j 0]).length) (xs' := Aq (out ++ [(Λ.base :: Λ.zxs).getD j 0])) O (by simp) (by simp [Aq, Value.cells]) ?_)))))))))
  exact .rk ((j + 1, .slice a6 (out.length + 1) c6, out ++ [(Λ.base :: Λ.zxs).getD j 0])) (⟨by dsimp only; omega, ⟨a6, c6, by simp⟩, by dsimp only; rw [It om, ← ho, V8 h28 (.inl (eq_nil_of_length_eq_zero om))]⟩) (by dsimp only; omega) O
 have hje : j = 1 + Λ.zxs.length := by omega
 have hoz : out = A3 Λ := by rw [ho, hje]; unfold A3; rw [take_of_length_le om]
 subst hoz
 refine .xe (.sm Y (.oq (.c func56 [_] (GZ _ _ _)) ?_))
 rintro v L' ⟨⟨ac, cc, rfl⟩, rfl⟩
 refine .an Y (.ret (.lf (g := g) (x := x) (ea := ea) (ec := ec) (za := za) (zc := zc) (m := Λ.ents.length) (k := Λ.zxs.length) Λ ?_))
 exact .dn Y Y ⟨_, _, Y, Y⟩
def Hv (Λ : Lg) (z : Int) (j : Nat) : List En := (((Λ.ents.zip Λ.zxs).take j).filter fun q => decide (q.2 > z)).map IH
theorem KE {Λ : Lg} {z : Int} {j : Nat} (h1 : j < Λ.ents.length) (h2 : j < Λ.zxs.length) : Hv Λ z (j + 1) = if Λ.zxs.getD j 0 > z then Hv Λ z j ++ [IH (Λ.ents.getD j [], Λ.zxs.getD j 0)] else Hv Λ z j := by
 have hz : j < (Λ.ents.zip Λ.zxs).length := by rw [length_zip]; omega
 unfold Hv
 rw [take_succ_eq_append_getElem hz, filter_append, map_append]
 have e : (Λ.ents.zip Λ.zxs)[j] = (Λ.ents.getD j [], Λ.zxs.getD j 0) := by simp [getD_eq_getElem?_getD, h1, h2]
 rw [e]
 split
 ·rename_i g
  rw [filter_cons_of_pos (by simpa using g)]; rfl
 ·rename_i g
  rw [filter_cons_of_neg (by simpa using g)]; simp
theorem AAw : Sg Yl := ⟨⟨rfl, rfl⟩, fun y hy => by cases hy⟩
theorem TG.at {s : Bs} {e : En} {er : Int} (h : TG s e er) (z : Int) : e.pl = IH (s, z) ∧ Sg e := by
 unfold IH
 rcases h with ⟨-, h1, h2⟩ | ⟨-, h1, rfl⟩
 ·exact ⟨by dsimp only; rw [h1]; rfl, h2⟩
 ·exact ⟨by dsimp only; rw [h1]; rfl, AAw⟩
theorem DA (g x : Nat) (Λ : Lg) (z : Int) (hΛ : SR Λ) : Fn prog 22 #[AG g, AA z] [BW g x Λ] fun v L => (z < Λ.base ∧ v = .tuple #[.slice none 0 0, AA 81] ∧ L = [BW g x Λ]) ∨ (¬ z < Λ.base ∧ ∃ es : List En, es.map En.pl = Hk Λ z ∧ (∀ e ∈ es, Sg e) ∧ ∃ a c, v = .tuple #[.slice a es.length c, AA 0] ∧ L = [BW g x Λ, AV 42 11 (.slice a es.length c) es.length (es.flatMap BX), Aj entR es]) := by
 refine Fn.intro func22 Y Y fun F W => ?_
 refine .lgOpen O fun ea ec za zc => ?_
 have h1 := hΛ.ents
 have h2 := hΛ.same
 refine .sr (.a Y (.an Y (.seq (.sm Y (.m Y (.nf Y FC (.u (.ld Y AF) (.ui Y Y Y (.nt (.condD Y (fun h16 => ?_) (fun h16 => ?_)))))))))))
 ·refine .sr (.a Y (.an Y (.rt (.lf (g := g) (x := x) (ea := ea) (ec := ec) (za := za) (zc := zc) (m := Λ.ents.length) (k := Λ.zxs.length) Λ ?_))))
  exact .dn Y Y (.inl ⟨h16, Y, Y⟩)
 refine .sk (.seq (.add (Ak 42 11) (.add (p := Aj entR []) (fun h => Iv h) (.region (.an Y (.seq (.sm Y (.nf Y Ds (.u (.ld Y Ch) (.q (.slen Y underlying65 Y) Y (.m Y (.nt (.block (.loopK (ι := Nat × Value × (List En)) (fun q E => (22, AA q.1) :: (6, q.2.1) :: E) (fun q => [AV 42 11 q.2.1 q.2.2.length (q.2.2.flatMap BX), Aj entR q.2.2]) (fun q => q.1 ≤ Λ.ents.length ∧ (∃ a c, q.2.1 = .slice a q.2.2.length c) ∧ q.2.2.map En.pl = Hv Λ z q.1 ∧ (∀ e ∈ q.2.2, Sg e) ∧ q.2.2.length ≤ q.1) (fun q => Λ.ents.length - q.1) (0, .slice none 0 0, []) (ts := [0, 1, 4, 5, 20, 21]) O (⟨Nat.zero_le _, ⟨none, 0, Y⟩, Y, (fun e he => by cases he), Nat.le_refl _⟩) O O ?_))))))))))))))
 rintro ⟨j, u, es⟩ ⟨hj, ⟨au, cu, hu⟩, hes, hek, hel⟩
 dsimp only
 dsimp only at hj hu hes hek hel
 subst hu
 refine .sr (.ui Y Y Y (.nt (.seq (.condD Y (fun h23 => ?_) (fun h23 => ?_)))))
 ·have hj2 : j < Λ.ents.length := by omega
  have hjz : j < Λ.zxs.length := by omega
  refine .slShape (v := .slice ea _ ec) (xs := Bo Λ.ents) O om fun be ce' e0 mbe _ => ?_
  simp only [Value.slice.injEq, true_and] at e0
  obtain ⟨rfl, rfl⟩ := e0
  refine .slShape (v := .slice za _ zc) (xs := Aq Λ.zxs) O om fun bz cz e0 mbz _ => ?_
  simp only [Value.slice.injEq, true_and] at e0
  obtain ⟨rfl, rfl⟩ := e0
  have hsl : (Λ.ents.getD j []).length ≤ 1073741824 := by rw [getD_eq_getElem?_getD, List.getElem?_eq_getElem hj2]; exact hΛ.each _ (getElem_mem hj2)
  refine .sk (.seq (.block (.sm Y (.q (.indexAddr Y Y Bu om) Y (.q (.loadEl (p := Cp (.slice (some ⟨be, 0, none⟩) Λ.ents.length ec) Λ.ents) (i := j * 1) (v := AU (Λ.ents.getD j [])) Y G9 O (fun h hp => AE hp) (by simp [Bo, getD_eq_getElem?_getD, hj2])) Y ?_)))))
  refine .a Y (.an Y (.sm Y (.nf Y Cl (.u (.ld Y DM) (.m Y (.q (.indexAddr Y Y BC om) Y (.q (.loadEl (p := Cr (.slice (some ⟨bz, 0, none⟩) Λ.zxs.length zc) Λ.zxs) (i := j * 1) (v := AA (Λ.zxs.getD j 0)) Y AF O (fun h hp => AE hp) (by simp [Aq, getD_eq_getElem?_getD, hjz])) Y ?_)))))))
  refine .m Y (.ui Y Y Y (.nt (.condD Y (fun h35 => ?_) (fun h35 => ?_))))
  ·refine .sm Y (.oq (.c func57 [_] (Mw (Λ.ents.getD j []) om)) ?_)
   rintro v L' ⟨ge, er, hge, rfl, rfl⟩
   refine .m Y (.ex Y Y (.ex Y Y (.oq (.allocA Et) ?_)))
   rintro v L' ⟨b9, rfl, rfl⟩
   refine .sa Y Y H9 (by exact hge.cells) ?_
   refine .a Y (.nil (.ptCast (b := b9) (l' := BX ge) O (by exact rfl) (.then_n (.region (.m Y (.q (.loadAs (vs := BX ge) Y D3 O (by simp [BX, C5]) Y) Y (.oq (.buildSlice (vs := [_]) Fr Et Y Y Y Y cQ dQ) ?_)))))))
   rintro v L' ⟨b10, rfl, rfl⟩
   refine .oq (.append1 Y Y Y Fr Et Y Y ?c45 ?c46 (Nat.le_refl _) ?c47 dQ) ?_
   case c45 => simp only [map_cons, map_nil, flatten_cons, flatten_nil, append_nil]; simp only [Value.cells]; intro z hz; exact hge.cells z (by simpa using hz)
   case c46 => rfl
   case c47 => omega
   rintro v L' ⟨⟨a6, c6, rfl⟩, rfl⟩
   refine .a Y (.nil (.blk_n (.then_n (.region (.q (.add Y Y om) Y (.m Y (.nt (.bigAdd (f := entR) (l := es) (p := entR ge) ge Y O (.slCast (T := 42) (sz := 11) (m' := (es ++ [ge]).length) (xs' := (es ++ [ge]).flatMap BX) O (by simp) (by rw [flatMap_append]; simp [Value.cells]) ?_)))))))))
   exact .rk ((j + 1, .slice a6 (es.length + 1) c6, es ++ [ge])) (⟨by dsimp only; omega, ⟨a6, c6, by simp⟩, by dsimp only; rw [KE om om, if_pos h35, map_append, hes, ← (hge.at (Λ.zxs.getD j 0)).1]; rfl, (fun e he => by rcases mem_append.1 he with he | he; exact hek e he; rw [mem_singleton] at he; subst he; exact (hge.at 0).2), by dsimp only; rw [length_append, length_singleton]; omega⟩) (by dsimp only; omega) O
  refine .skip (.blk_n (.then_n (.region (.q (.add Y Y om) Y (.m Y (.nt ?_))))))
  exact .rk ((j + 1, .slice au es.length cu, es)) (⟨by dsimp only; omega, ⟨au, cu, rfl⟩, by dsimp only; rw [KE om om, if_neg h35]; exact hes, hek, by dsimp only; omega⟩) (by dsimp only; omega) O
 have hje : j = Λ.ents.length := by omega
 have hes2 : es.map En.pl = Hk Λ z := by rw [hes, hje]; unfold Hv Hk; rw [take_of_length_le (by rw [length_zip]; omega)]
 refine .xe (.sm Y (.a Y (.an Y (.ret (.lf (g := g) (x := x) (ea := ea) (ec := ec) (za := za) (zc := zc) (m := Λ.ents.length) (k := Λ.zxs.length) Λ ?_)))))
 exact .dn Y Y (.inr ⟨h16, es, hes2, hek, _, _, Y, Y⟩)
theorem Mp {δ : Dk} {ω : Wl} {N : Int} (h : Dh δ ω N) (a b : Int) : Dh (Af δ ω a b).1 (Af δ ω a b).2.1 (N + 2000000) ∧ (Af δ ω a b).1.now.length = δ.now.length ∧
  ((∃ c, (Af δ ω a b).2 = ({ ω with a := a, b := b, count := c }, 0)) ∨ (∃ e, (e = 1 ∨ e = 30) ∧ Af δ ω a b = (δ, ω, e))) := by
 have hk := UE h a b
 refine ⟨hk.well, hk.len, ?_⟩
 unfold Af
 rw [if_neg (by rw [h.doubt]; decide)]
 split
 ·exact .inr ⟨1, .inl rfl, rfl⟩
 ·split
  ·exact .inr ⟨30, .inr rfl, rfl⟩
  ·obtain ⟨n1, -, -⟩ := Ko h.al h.size.1 (ω.mark ω.area (ω.recs.take ω.synced.toNat) a b)
   rw [if_neg (by rw [n1]; exact fun g => g rfl)]
   exact .inl ⟨_, rfl⟩
theorem Tj {δ : Dk} {ω : Wl} {N : Int} (h : Dh δ ω N) : Dh (Ay δ ω).1 (Ay δ ω).2.1 (N + 2000000) ∧ (Ay δ ω).1.now.length = δ.now.length ∧
  ((∃ c, (Ay δ ω).2 = ({ ω with synced := ω.recs.length, count := c }, 0)) ∨ Ay δ ω = (δ, ω, 30)) := by
 have hk := Tf h
 refine ⟨hk.well, hk.len, ?_⟩
 unfold Ay
 rw [if_neg (by rw [h.doubt]; decide)]
 split
 ·rename_i hs
  refine .inl ⟨ω.count, ?_⟩
  rw [← hs]
 ·split
  ·exact .inr rfl
  ·rename_i hc
   obtain ⟨e, -, -⟩ := FJ h hc h.area h.fits h.al rfl (by have := h.acts; omega)
   rw [e]; exact .inl ⟨_, rfl⟩
theorem Wk {δ : Dk} {ω : Wl} {N : Int} (h : Dh δ ω N) {n : Nat} (hn : n ≤ ω.recs.length) : Dh (CK δ ω n).1 (CK δ ω n).2.1 (N + 2000000) ∧ (CK δ ω n).1.now.length = δ.now.length ∧
  ((∃ c, (CK δ ω n).2 = ({ ω with recs := ω.recs.take n, synced := n, count := c }, 0)) ∨ CK δ ω n = (δ, ω, 30)) := by
 have hk := Ws h n
 refine ⟨hk.well, hk.len, ?_⟩
 unfold CK
 rw [if_neg (by rw [h.doubt]; decide), if_neg om]
 split
 ·exact .inr rfl
 ·rename_i hc
  have hf := DX ω.recs n
  have := h.fits
  rw [Int.toNat_natCast]
  obtain ⟨e, -, -⟩ := FJ h hc h.area (l := ω.recs.take n) om h.al rfl (by have := h.acts; omega)
  rw [e]
  refine .inl ⟨ω.count + 1, ?_⟩
  rw [length_take, Nat.min_eq_left hn]
structure Pq (s : Ld) (N : Int) (r : Ld × Int) : Prop where
 well : EO r.1 (N + 4000000)
 len : r.1.δ.now.length = s.δ.now.length
 bad : r.2 ≠ 0 → r.1.Λ = s.Λ
 live : r.2 ≠ 2
theorem Pq.same {s : Ld} {N : Int} (h : EO s N) {e : Int} (he : e ≠ 2) : Pq s N (s, e) := ⟨h.more om, rfl, fun _ => rfl, he⟩
theorem SP {e : Int} (h : e = 33 ∨ e = 30 ∨ e = 1) : CU e ≠ 0 ∧ CU e ≠ 2 := by rcases h with rfl | rfl | rfl <;> exact ⟨by decide, by decide⟩
theorem PV {Λ : Lg} {e : Int} (h : e ≠ 2) : Λ.met e = Λ := by unfold Lg.met; rw [if_neg h]
theorem SO {s : Ld} {N : Int} (h : EO s N) : EO (AO s).1 (N + 2000000) ∧ (AO s).1.δ.now.length = s.δ.now.length ∧ (AO s).1.Λ = s.Λ ∧ (AO s).2 ≠ 2 ∧ ((AO s).2 = 0 → (AO s).1.ω.synced = s.ω.recs.length ∧ (AO s).1.ω.recs = s.ω.recs) := by
 unfold AO
 rw [if_neg (by rw [h.live]; decide)]
 obtain ⟨w1, w2, w3⟩ := Tj h.well
 obtain ⟨⟨δ1, ω1, e1⟩, hq⟩ : ∃ r, Ay s.δ s.ω = r := ⟨_, rfl⟩
 rw [hq] at w1 w2 w3 ⊢
 dsimp only at w1 w2 w3
 rcases w3 with ⟨c, g⟩ | g
 ·cases g
  exact ⟨⟨w1, h.w, h.live, h.recs, h.a, h.b⟩, w2, rfl, by show CU 0 ≠ 2; decide, fun _ => ⟨rfl, rfl⟩⟩
 ·cases g
  exact ⟨⟨w1, h.w, h.live, h.recs, h.a, h.b⟩, w2, rfl, by show CU 30 ≠ 2; decide, fun g => absurd (show CU 30 = 0 from g) dQ⟩
theorem TR {s : Ld} {N : Int} (h : EO s N) (n : Int) : Pq s N (AR s n) ∧ s.Λ.acc ≤ (AR s n).1.Λ.acc ∧ (AR s n).1.Λ.cur = s.Λ.cur := by
 unfold AR
 rw [if_neg (by rw [h.live]; decide)]
 split
 ·exact ⟨.same h dQ, Int.le_refl _, rfl⟩
 split
 ·exact ⟨.same h dQ, Int.le_refl _, rfl⟩
 rename_i h1 h2
 obtain ⟨w1, w2, w3⟩ := Mp h.well n s.Λ.cur
 obtain ⟨⟨δ1, ω1, e1⟩, hq⟩ : ∃ r, Af s.δ s.ω n s.Λ.cur = r := ⟨_, rfl⟩
 rw [hq] at w1 w2 w3 ⊢
 dsimp only at w1 w2 w3
 have he := h.w.eps
 rcases w3 with ⟨c, g⟩ | ⟨e, hee, g⟩
 ·cases g
  rw [if_pos (by show CU 0 = 0; decide)]
  exact ⟨⟨⟨w1.more om, ⟨h.w.few, h.w.each, h.w.base, h.w.snap, h.w.rows, ⟨he.1, by show s.Λ.cur ≤ n; omega, by show n ≤ _; omega⟩⟩, h.live, h.recs, rfl, rfl⟩, w2, fun g => absurd rfl g, by show (0 : Int) ≠ 2; decide⟩, by show s.Λ.acc ≤ n; omega, rfl⟩
 ·cases g
  obtain ⟨m1, m2⟩ := SP (e := e1) om
  rw [if_neg (show ¬ (Ce s.Λ (s.δ, s.ω, e1)).2 = 0 from m1)]
  have hm : s.Λ.met e1 = s.Λ := PV om
  exact ⟨⟨⟨w1.more om, by show Iq (s.Λ.met e1); rw [hm]; exact h.w, by show (s.Λ.met e1).doubt = false; rw [hm]; exact h.live, by show s.ω.recs = Ae (s.Λ.met e1).base (s.Λ.met e1).snap ++ (s.Λ.met e1).ents; rw [hm]; exact h.recs, by show s.ω.a = (s.Λ.met e1).acc; rw [hm]; exact h.a, by show s.ω.b = (s.Λ.met e1).cur; rw [hm]; exact h.b⟩, w2, fun _ => hm, m2⟩, by show s.Λ.acc ≤ (s.Λ.met e1).acc; rw [hm]; exact Int.le_refl _, by show (s.Λ.met e1).cur = s.Λ.cur; rw [hm]⟩
theorem UI {s : Ld} {N : Int} (h : EO s N) (n : Int) (hn : s.Λ.cur ≤ n ∧ n ≤ s.Λ.acc) : EO (BZ s n).1 (N + 2000000) ∧ (BZ s n).1.δ.now.length = s.δ.now.length ∧ (BZ s n).2 ≠ 2 ∧ (((BZ s n).2 = 0 ∧ (BZ s n).1.Λ = s.Λ.setCur n) ∨ ((BZ s n).2 ≠ 0 ∧ (BZ s n).1.Λ = s.Λ)) := by
 unfold BZ
 obtain ⟨w1, w2, w3⟩ := Mp h.well s.Λ.acc n
 obtain ⟨⟨δ1, ω1, e1⟩, hq⟩ : ∃ r, Af s.δ s.ω s.Λ.acc n = r := ⟨_, rfl⟩
 rw [hq] at w1 w2 w3 ⊢
 dsimp only at w1 w2 w3
 have he := h.w.eps
 rcases w3 with ⟨c, g⟩ | ⟨e, hee, g⟩
 ·cases g
  rw [if_pos (by show CU 0 = 0; decide)]
  exact ⟨⟨w1.more om, ⟨h.w.few, h.w.each, h.w.base, h.w.snap, h.w.rows, ⟨by show 0 ≤ n; omega, hn.2, he.2.2⟩⟩, h.live, h.recs, rfl, rfl⟩, w2, by show (0 : Int) ≠ 2; decide, .inl ⟨rfl, rfl⟩⟩
 ·cases g
  obtain ⟨m1, m2⟩ := SP (e := e1) om
  rw [if_neg (show ¬ (Ce s.Λ (s.δ, s.ω, e1)).2 = 0 from m1)]
  have hm : s.Λ.met e1 = s.Λ := PV om
  exact ⟨⟨w1.more om, by show Iq (s.Λ.met e1); rw [hm]; exact h.w, by show (s.Λ.met e1).doubt = false; rw [hm]; exact h.live, by show s.ω.recs = Ae (s.Λ.met e1).base (s.Λ.met e1).snap ++ (s.Λ.met e1).ents; rw [hm]; exact h.recs, by show s.ω.a = (s.Λ.met e1).acc; rw [hm]; exact h.a, by show s.ω.b = (s.Λ.met e1).cur; rw [hm]; exact h.b⟩, w2, m2, .inr ⟨m1, hm⟩⟩
theorem Wb {s : Ld} {N : Int} (h : EO s N) (n : Int) : Pq s N (AY s n) ∧ (AY s n).1.Λ.acc = s.Λ.acc ∧ s.Λ.cur ≤ (AY s n).1.Λ.cur ∧ ((AY s n).2 = 0 → (AY s n).1.Λ = s.Λ.setCur n) := by
 unfold AY
 rw [if_neg (by rw [h.live]; decide)]
 split
 ·exact ⟨.same h dQ, rfl, Int.le_refl _, fun g => absurd (show (82 : Int) = 0 from g) dQ⟩
 rename_i h1
 obtain ⟨k1, k2, k3, k4, -⟩ := SO h
 split
 ·rename_i h2
  exact ⟨⟨k1.more om, k2, fun _ => k3, k4⟩, by rw [k3], by rw [k3]; exact Int.le_refl _, fun g => absurd g h2⟩
 ·rename_i h2
  obtain ⟨j1, j2, j3, j4⟩ := UI k1 n (by rw [k3]; omega)
  rw [k3] at j4
  refine ⟨⟨j1.more om, j2.trans k2, fun g => ?_, j3⟩, ?_, ?_, fun g => ?_⟩
  ·rcases j4 with ⟨g1, -⟩ | ⟨-, g2⟩
   ·exact absurd g1 g
   ·exact g2
  ·rcases j4 with ⟨-, g2⟩ | ⟨-, g2⟩ <;> rw [g2] <;> rfl
  ·rcases j4 with ⟨-, g2⟩ | ⟨-, g2⟩ <;> rw [g2]
   ·show s.Λ.cur ≤ n; omega
   ·exact Int.le_refl _
  ·rcases j4 with ⟨-, g2⟩ | ⟨g1, -⟩
   ·exact g2
   ·exact absurd g g1
theorem VT {Λ : Lg} {z : Int} {n : Nat} (h : E4 Λ z = some n) : n ≤ Λ.zxs.length ∧ (Λ.base :: Λ.zxs).getD n 0 = z := by
 unfold E4 at h
 split at h
 ·rename_i hm
  cases h
  have := idxOf_lt_length_of_mem hm
  refine ⟨by omega, ?_⟩
  simp [getD_eq_getElem?_getD, this]
 ·split at h
  ·rename_i hb; cases h; exact ⟨Nat.zero_le _, hb.symm⟩
  ·cases h
theorem Xg {s : Ld} {N : Int} (h : EO s N) {n : Nat} (hn : n ≤ s.Λ.ents.length) : Pq s N (DE s n) ∧ ((DE s n).2 = 0 → (DE s n).1.Λ = ⟨s.Λ.acc, s.Λ.cur, s.Λ.base, s.Λ.snap, s.Λ.ents.take n, s.Λ.zxs.take n, s.Λ.doubt⟩ ∧ (DE s n).1.ω.synced = (DE s n).1.ω.recs.length) := by
 unfold DE
 obtain ⟨w1, w2, w3⟩ := Wk h.well (n := (Ae s.Λ.base s.Λ.snap).length + n) (by rw [h.recs, length_append]; omega)
 obtain ⟨⟨δ1, ω1, e1⟩, hq⟩ : ∃ r, CK s.δ s.ω (((Ae s.Λ.base s.Λ.snap).length + n : Nat) : Int) = r := ⟨_, rfl⟩
 rw [hq] at w1 w2 w3 ⊢
 dsimp only at w1 w2 w3
 rcases w3 with ⟨c, g⟩ | g
 ·cases g
  rw [if_pos (by show CU 0 = 0; decide)]
  have hr : s.ω.recs.take ((Ae s.Λ.base s.Λ.snap).length + n) = Ae s.Λ.base s.Λ.snap ++ s.Λ.ents.take n := by
   rw [h.recs, take_append, take_of_length_le om]; congr 1; congr 1; omega
  refine ⟨⟨⟨w1.more om, ⟨?_, fun x hx => h.w.each x (mem_of_mem_take hx), h.w.base, h.w.snap, h.w.rows.take n, h.w.eps⟩, h.live, hr, h.a, h.b⟩, w2, fun g => absurd rfl g, by show (0 : Int) ≠ 2; decide⟩, fun _ => ⟨rfl, ?_⟩⟩
  ·have := h.w.few; show (s.Λ.ents.take n).length ≤ 200; rw [length_take]; omega
  ·show (((Ae s.Λ.base s.Λ.snap).length + n : Nat) : Int) = (s.ω.recs.take _).length
   rw [length_take, h.recs, length_append]; omega
 ·cases g
  rw [if_neg (by show ¬ CU 30 = 0; decide)]
  exact ⟨⟨⟨w1.more om, h.w, h.live, h.recs, h.a, h.b⟩, w2, fun _ => rfl, by show CU 30 ≠ 2; decide⟩, fun g => absurd (show CU 30 = 0 from g) dQ⟩
theorem RX : ∀ f, E6 f [] = []
 | 0 => rfl
 | f + 1 => by unfold E6; rw [if_pos rfl]
theorem WQ {k n : Nat} (h1 : k * 4000 ≤ n - 4000 + 3999) (g : 4000 < n) : (k + 1) * 4000 ≤ n + 3999 := by omega
theorem NK : ∀ (f : Nat) (s : Bs), s.length ≤ f → (E6 f s).length * 4000 ≤ s.length + 3999 ∧ ∀ x ∈ E6 f s, x.length ≤ 4000
 | 0, s, h => by rw [show E6 0 s = [] from rfl]; exact ⟨by simp, fun x hx => by cases hx⟩
 | f + 1, s, h => by
  unfold E6
  split
  ·exact ⟨by simp, fun x hx => by cases hx⟩
  ·rename_i hs
   have hp : 0 < s.length := length_pos_iff.2 hs
   obtain ⟨h1, h2⟩ := NK f (s.drop 4000) (by rw [length_drop]; omega)
   rw [length_drop] at h1
   refine ⟨?_, ?_⟩
   ·rw [length_cons]
    rcases Nat.lt_or_ge 4000 s.length with g | g
    ·exact WQ h1 g
    ·rw [drop_eq_nil_of_le g, RX f]; simp; omega
   ·intro x hx
    rcases mem_cons.1 hx with rfl | hx
    ·rw [length_take]; omega
    ·exact h2 x hx
theorem Js (base : Int) (snap : Bs) (h : snap.length ≤ 65536) : (Ae base snap).length ≤ 18 := by
 unfold Ae HM
 have := (NK snap.length snap (Nat.le_refl _)).1
 rw [length_cons]; omega
theorem LW {e : En} (h : C7 e = true) (hi : Wj e) : ET (Bd e) = some e.pl := by
 unfold C7 at h
 cases hg : ET (Bd e) with
 | none => rw [hg] at h; simp at h
 | some q => rw [Ot hi hg]
theorem Lz : ∀ (l : List En) (b : Int), (∀ e ∈ l, Wj e) → l.all C7 = true → P4 b (l.map (·.zx)) → Cf b (l.map Bd) (l.map (·.zx))
 | [], _, _, _, _ => trivial
 | e :: t, b, hi, hf, hr => by
  rw [all_cons, Bool.and_eq_true] at hf
  have h0 := hr 0 (by simp)
  refine ⟨⟨e.pl, LW hf.1 (hi e (mem_cons_self ..)), rfl⟩, h0.1, (hi e (mem_cons_self ..)).zx, Lz t e.zx (fun x hx => hi x (mem_cons_of_mem _ hx)) hf.2 ?_⟩
  intro j hj
  have h1 := hr (j + 1) (by simpa using hj)
  have hp : ∀ k, k < (t.map (·.zx)).length → e.zx < (t.map (·.zx)).getD k 0 := by
   intro k
   induction k with
   | zero => intro hk; have := (hr 1 (by simpa using hk)).2 dQ; simpa using this
   | succ k ih =>
    intro hk
    have h2 := ih om
    have h3 := (hr (k + 2) (by simp at hk ⊢; omega)).2 om
    have h4 : ((e :: t).map (·.zx)).getD (k + 2 - 1) 0 = (t.map (·.zx)).getD k 0 := by simp
    have h5 : ((e :: t).map (·.zx)).getD (k + 2) 0 = (t.map (·.zx)).getD (k + 1) 0 := by simp
    rw [h4, h5] at h3; omega
  refine ⟨hp j hj, fun h0j => ?_⟩
  have h3 := h1.2 om
  have h4 : ((e :: t).map (·.zx)).getD (j + 1 - 1) 0 = (t.map (·.zx)).getD (j - 1) 0 := by
   obtain ⟨k, rfl⟩ : ∃ k, j = k + 1 := ⟨j - 1, by omega⟩
   simp
  have h5 : ((e :: t).map (·.zx)).getD (j + 1) 0 = (t.map (·.zx)).getD j 0 := by simp
  rw [h4, h5] at h3; exact h3
def i64 (x : Int) : Prop := -9223372036854775808 ≤ x ∧ x ≤ 9223372036854775807
theorem Tx (n : Int) : ((Hd n).toNat : Int) = n % 256 := by
 unfold Hd
 rw [UInt8.toNat_ofNat']
 omega
theorem YM : ∀ (k : Nat) (n : Int), 0 ≤ n → Rr (Br n k) 0 = n % 256 ^ k := by
 intro k
 induction k with
 | zero => intro n _; simp [Br, Rr]
 | succ k ih =>
  intro n hn
  have h1 := ih (n / 256) om
  rw [Br, RL, h1]
  simp only [Rr]
  rw [Tx, Int.pow_succ, Int.mul_comm (256 ^ k) 256]
  have h2 : n / 256 % 256 ^ k * 256 + n % 256 = n % (256 * 256 ^ k) := by
   have hp : (0 : Int) < 256 ^ k := Int.pow_pos dQ
   generalize (256 : Int) ^ k = p at *
   have e1 := Int.emod_add_mul_ediv n (256 * p)
   have e2 := Int.emod_add_mul_ediv n 256
   have e3 := Int.emod_add_mul_ediv (n / 256) p
   have e4 : n / 256 / p = n / (256 * p) := Int.ediv_ediv_of_nonneg om
   rw [e4] at e3
   generalize n / (256 * p) = q at *
   have e5 : 256 * p * q = 256 * (p * q) := Int.mul_assoc _ _ _
   generalize p * q = r at *
   omega
  exact h2
theorem C0 {k : Nat} {n : Int} (h0 : 0 ≤ n) (h1 : n < 256 ^ k) (h2 : n ≤ 9223372036854775807) : Bb (Br n k) = n := by
 unfold Bb
 rw [YM k n h0, Int.emod_eq_of_lt h0 h1]
 exact I5 om
structure MkR (m : Mk) : Prop where
 count : 0 ≤ m.count ∧ m.count ≤ 4294967295
 area : 0 ≤ m.area ∧ m.area ≤ 1
 len : 0 ≤ m.len ∧ m.len ≤ 4294967295
 num : 0 ≤ m.num ∧ m.num ≤ 4294967295
 a : 0 ≤ m.a ∧ m.a ≤ 9223372036854775807
 b : 0 ≤ m.b ∧ m.b ≤ 9223372036854775807
theorem MkI.r {δ : Dk} {m : Mk} (h : MkI δ m) (hs : 2 ≤ δ.now.length ∧ δ.now.length ≤ 32768) : MkR m := by
 have := CP hs
 obtain ⟨h1, h2, h3, h4, h5, h6⟩ := h
 exact ⟨by omega, h2, by omega, h4, h5, h6⟩
theorem F3 (p q r : Bs) {i j : Nat} (hi : i = p.length) (hj : j = p.length + q.length) : sub (p ++ q ++ r) i j = q := by
 subst hi; subst hj
 unfold sub
 rw [take_append_of_le_length (by simp), ← length_append, take_length, drop_left]
theorem TA {m : Mk} (h : MkR m) : Jd m.sec = m := by
 obtain ⟨h1, h2, h3, h4, h5, h6⟩ := h
 have e : (256 : Int) ^ 4 = 4294967296 ∧ (256 : Int) ^ 1 = 256 ∧ (256 : Int) ^ 8 = 18446744073709551616 := ⟨rfl, rfl, rfl⟩
 have a1 : sub m.sec 2 6 = Br m.count 4 := by
  rw [show m.sec = [87, 77] ++ Br m.count 4 ++ (Br m.area 1 ++ Br m.len 4 ++ Br m.num 4 ++ Br m.a 8 ++ Br m.b 8 ++ List.replicate 29 0 ++ Br m.count 4) by unfold Mk.sec; simp only [append_assoc]]
  exact F3 _ _ _ (by simp) (by simp [AN])
 have a2 : sub m.sec 6 7 = Br m.area 1 := by
  rw [show m.sec = ([87, 77] ++ Br m.count 4) ++ Br m.area 1 ++ (Br m.len 4 ++ Br m.num 4 ++ Br m.a 8 ++ Br m.b 8 ++ List.replicate 29 0 ++ Br m.count 4) by unfold Mk.sec; simp only [append_assoc]]
  exact F3 _ _ _ (by simp [AN]) (by simp [AN])
 have a3 : sub m.sec 7 11 = Br m.len 4 := by
  rw [show m.sec = ([87, 77] ++ Br m.count 4 ++ Br m.area 1) ++ Br m.len 4 ++ (Br m.num 4 ++ Br m.a 8 ++ Br m.b 8 ++ List.replicate 29 0 ++ Br m.count 4) by unfold Mk.sec; simp only [append_assoc]]
  exact F3 _ _ _ (by simp [AN]) (by simp [AN])
 have a4 : sub m.sec 11 15 = Br m.num 4 := by
  rw [show m.sec = ([87, 77] ++ Br m.count 4 ++ Br m.area 1 ++ Br m.len 4) ++ Br m.num 4 ++ (Br m.a 8 ++ Br m.b 8 ++ List.replicate 29 0 ++ Br m.count 4) by unfold Mk.sec; simp only [append_assoc]]
  exact F3 _ _ _ (by simp [AN]) (by simp [AN])
 have a5 : sub m.sec 15 23 = Br m.a 8 := by
  rw [show m.sec = ([87, 77] ++ Br m.count 4 ++ Br m.area 1 ++ Br m.len 4 ++ Br m.num 4) ++ Br m.a 8 ++ (Br m.b 8 ++ List.replicate 29 0 ++ Br m.count 4) by unfold Mk.sec; simp only [append_assoc]]
  exact F3 _ _ _ (by simp [AN]) (by simp [AN])
 have a6 : sub m.sec 23 31 = Br m.b 8 := by
  rw [show m.sec = ([87, 77] ++ Br m.count 4 ++ Br m.area 1 ++ Br m.len 4 ++ Br m.num 4 ++ Br m.a 8) ++ Br m.b 8 ++ (List.replicate 29 0 ++ Br m.count 4) by unfold Mk.sec; simp only [append_assoc]]
  exact F3 _ _ _ (by simp [AN]) (by simp [AN])
 unfold Jd
 rw [a1, a2, a3, a4, a5, a6, C0 om om om, C0 om om om, C0 om om om, C0 om om om, C0 om om om, C0 om om om]
theorem SM {δ : Dk} (hd : δ.dead = false) {n : Int} (hn : 0 ≤ n ∧ n < δ.now.length) : δ.read n = (δ.now.getD n.toNat [], 0) := by
 have h2 : δ.has n = true := by simp [Dk.has, hn.1, hn.2]
 unfold Dk.read
 rw [hd, h2]; rfl
theorem Tb {δ : Dk} (hd : δ.dead = false) (hs : 2 ≤ δ.now.length ∧ δ.now.length ≤ 32768) {m : Mk} (hm : MkI δ m) {n : Int} (hn : m.count % 2 = n) (hr : δ.now.getD n.toNat [] = m.sec) : Dx δ n = some m := by
 have e := SM hd (n := n) ⟨by omega, by omega⟩
 have hp := TA (hm.r hs)
 obtain ⟨h1, h2, h3, h4, h5, h6⟩ := hm
 unfold Dx
 rw [e, hr]
 dsimp only
 rw [if_neg dQ, hp, if_neg]
 unfold PY
 rintro (h | h | h | h | h | h | h)
 ·omega
 ·exact h hn
 ·omega
 ·omega
 ·omega
 ·omega
 ·exact h rfl
theorem TQ : ∀ (l : List Bs) (f : Nat) (out : List Bs) (num : Int), (∀ s ∈ l, s.length ≤ 4000) → (AB l).length < f → num = out.length + l.length → QP f (AB l) out num = some (out ++ l) := by
 intro l
 induction l with
 | nil =>
  intro f out num _ hf hn
  obtain ⟨g, rfl⟩ : ∃ g, f = g + 1 := ⟨f - 1, by omega⟩
  simp only [QP]
  rw [if_pos (by simp [AB]), if_pos (by simpa using hn.symm)]; simp
 | cons s l ih =>
  intro f out num hl hf hn
  obtain ⟨g, rfl⟩ : ∃ g, f = g + 1 := ⟨f - 1, by omega⟩
  have hs := hl s mem_cons_self
  have e : AB (s :: l) = BI s ++ AB l := by simp [AB]
  have hrl := B9 s
  have hlen : (AB (s :: l)).length = s.length + 6 + (AB l).length := by rw [e, length_append, hrl]
  have hcl : (s :: l).length = l.length + 1 := rfl
  have e2 : BI s ++ AB l = Br s.length 2 ++ s ++ (Br (F8 (Ci s)) 4 ++ AB l) := by simp only [BI, Ci, append_assoc]
  have t2 : (AB (s :: l)).take 2 = Br s.length 2 := by
   rw [e, e2, append_assoc, take_append_of_le_length (by simp [AN])]
   exact take_of_length_le (by simp [AN])
  have hp2 : (256 : Int) ^ 2 = 65536 := rfl
  have hsm : Bb ((AB (s :: l)).take 2) = s.length := by rw [t2]; exact C0 om om om
  simp only [QP]
  rw [hsm]
  have hne : AB (s :: l) ≠ [] := fun h => by rw [h] at hlen; simp at hlen; omega
  rw [if_neg hne, if_neg om, if_neg om]
  have hsub : sub (AB (s :: l)) 2 ((s.length : Int).toNat + 2) = s := by
   rw [e, e2]; exact F3 _ _ _ (by simp [AN]) (by simp [AN]; omega)
  have htk : (AB (s :: l)).take ((s.length : Int).toNat + 6) = BI s := by
   rw [e, show (s.length : Int).toNat + 6 = (BI s).length by rw [hrl]; omega, take_left]
  have hdr : (AB (s :: l)).drop ((s.length : Int).toNat + 6) = AB l := by
   rw [e, show (s.length : Int).toNat + 6 = (BI s).length by rw [hrl]; omega, drop_left]
  rw [hsub, htk, if_neg (fun h => h rfl), hdr, ih g (out ++ [s]) num (fun x hx => hl x (mem_cons_of_mem _ hx)) om (by simp; omega)]
  simp
theorem Un {l : List Bs} (h : ∀ s ∈ l, s.length ≤ 4000) : Sj (AB l) l.length = some l := by
 have := TQ l ((AB l).length + 1) [] l.length h om (by simp)
 simpa [Sj] using this
def NJ (L : Bs) (i : Nat) : Bs := (L.drop (i * 64)).take 64
def Nd (δ : Dk) (area : Int) (L : Bs) : Prop := ∀ i : Nat, (i : Int) < Ag δ → NJ L i <+: δ.now.getD (2 + area * Ag δ + (i : Int)).toNat []
theorem UP {L M : Bs} (h : L <+: M) (i : Nat) : NJ L i <+: NJ M i := by
 obtain ⟨r, rfl⟩ := h
 unfold NJ
 rw [drop_append, take_append]
 exact prefix_append _ _
theorem Nd.less {δ : Dk} {area : Int} {L M : Bs} (h : Nd δ area M) (hp : L <+: M) : Nd δ area L := fun i hi => (UP hp i).trans (h i hi)
theorem Wf {δ : Dk} (hok : δ.Ok) (hn : 2 ≤ δ.now.length) {area : Int} (ha : 0 ≤ area ∧ area ≤ 1) {L : Bs} (hA : Nd δ area L) : ∀ n : Nat, (n : Int) ≤ Ag δ → L.take (64 * n) <+: KL δ area n := by
 intro n
 induction n with
 | zero => intro _; simp
 | succ n ih =>
  intro hn2
  have h1 := ih om
  have hl := TB hok hn ha n om
  rw [Lr]
  by_cases hc : 64 * n ≤ L.length
  ·have e1 : L.take (64 * n) = KL δ area n := List.IsPrefix.eq_of_length h1 (by rw [length_take, hl]; omega)
   have e2 : L.take (64 * (n + 1)) = L.take (64 * n) ++ NJ L n := by
    rw [show 64 * (n + 1) = 64 * n + 64 by omega, take_add, show 64 * n = n * 64 by omega]; rfl
   rw [e2, e1]
   obtain ⟨t, ht⟩ := hA n om
   exact ⟨t, by rw [append_assoc, ht]⟩
  ·rw [take_of_length_le om] at h1 ⊢
   exact h1.trans (prefix_append _ _)
theorem Tp {δ : Dk} (hok : δ.Ok) (hn : 2 ≤ δ.now.length) {area : Int} (ha : 0 ≤ area ∧ area ≤ 1) {L : Bs} (hl : (L.length : Int) ≤ 64 * Ag δ) (hA : Nd δ area L) : (KL δ area ((L.length + 63) / 64)).take L.length = L := by
 have h1 := Wf hok hn ha hA ((L.length + 63) / 64) om
 rw [take_of_length_le om] at h1
 exact (prefix_iff_eq_take.1 h1).symm
def Wl.now (ω : Wl) : Mk := ⟨ω.count, ω.area, (AB (ω.recs.take ω.synced.toNat)).length, ω.synced, ω.a, ω.b⟩
def XW (δ : Dk) (c : Int) : Bs := δ.now.getD (c % 2).toNat []
def Vd (c : Int) (X : Bs) : Prop := X.length = 64 ∧ (X.drop 60 = Br (c - 1) 4 ∨ (sub X 2 6 = Br (c + 1) 4 ∧ X.drop 60 ≠ Br (c + 1) 4))
theorem YR (m : Mk) : sub m.sec 2 6 = Br m.count 4 := by
 rw [show m.sec = [87, 77] ++ Br m.count 4 ++ (Br m.area 1 ++ Br m.len 4 ++ Br m.num 4 ++ Br m.a 8 ++ Br m.b 8 ++ List.replicate 29 0 ++ Br m.count 4) by unfold Mk.sec; simp only [append_assoc]]
 exact F3 _ _ _ (by simp) (by simp [AN])
theorem P6 (m : Mk) : m.sec.drop 60 = Br m.count 4 := by
 unfold Mk.sec
 rw [drop_left' (by simp [AN])]
theorem YG {a b : Int} (ha : 0 ≤ a ∧ a ≤ 4294967295) (hb : 0 ≤ b ∧ b ≤ 4294967295) (h : Br a 4 = Br b 4) : a = b := by
 have e : (256 : Int) ^ 4 = 4294967296 := rfl
 have h1 := C0 (k := 4) ha.1 om om
 have h2 := C0 (k := 4) hb.1 om om
 rw [← h1, ← h2, h]
theorem Rv {δ : Dk} {n c : Int} {X : Bs} (hok : δ.Ok) (hd : δ.dead = false) (hn : 0 ≤ n ∧ n < δ.now.length) (hX : δ.now.getD n.toNat [] = X) (hc : 1 ≤ c ∧ c ≤ 4294967295) (ht : Vd c X) : Dx δ n = none ∨ ∃ k, Dx δ n = some k ∧ k.count < c := by
 rcases h : Dx δ n with _ | k
 ·exact .inl rfl
 ·obtain ⟨h1, -, h3, -⟩ := Px hok h
  have hk := h1.count
  rw [SM hd hn] at h3
  have h4 : X = k.sec := hX.symm.trans h3
  subst h4
  rcases ht.2 with h5 | ⟨h5, h6⟩
  ·rw [P6] at h5
   have := YG ⟨by omega, by omega⟩ ⟨by omega, by omega⟩ h5
   exact .inr ⟨k, rfl, by omega⟩
  ·rw [YR] at h5
   rw [P6] at h6
   exact absurd h5 h6
structure Kp (δ : Dk) (ω : Wl) : Prop where
 cnt : 1 ≤ ω.count
 a : 0 ≤ ω.a ∧ ω.a ≤ 9223372036854775807
 b : 0 ≤ ω.b ∧ ω.b ≤ 9223372036854775807
 long : ∀ s ∈ ω.recs, s.length ≤ 4000
 this : XW δ ω.count = ω.now.sec
 other : Vd ω.count (XW δ (ω.count + 1))
 area : Nd δ ω.area (AB ω.recs)
theorem Oq (l : List Bs) (k : Nat) : AB (l.take k) <+: AB l := ⟨AB (l.drop k), by rw [← CV, take_append_drop]⟩
theorem Kp.mkI {δ : Dk} {ω : Wl} {N : Int} (h : Kp δ ω) (hW : Dh δ ω N) : MkI δ ω.now := by
 have h1 := DX ω.recs ω.synced.toNat
 have h2 := hW.fits
 have h3 := BU ω.recs
 have h4 := CP hW.size
 have h5 := hW.synced
 exact ⟨⟨h.cnt, hW.count.2⟩, hW.area, ⟨by show (0 : Int) ≤ ((AB _).length : Nat); omega, by show ((AB _).length : Int) ≤ _; omega⟩, ⟨h5.1, by show ω.synced ≤ _; omega⟩, h.a, h.b⟩
theorem XU {δ : Dk} (m : Mk) (h1 : Dx δ (m.count % 2) = some m) (h2 : Dx δ ((m.count + 1) % 2) = none ∨ ∃ k, Dx δ ((m.count + 1) % 2) = some k ∧ k.count < m.count) : SE δ = some m := by
 unfold SE
 rcases (by omega : m.count % 2 = 0 ∧ (m.count + 1) % 2 = 1 ∨ m.count % 2 = 1 ∧ (m.count + 1) % 2 = 0) with ⟨e1, e2⟩ | ⟨e1, e2⟩ <;> rw [e1] at h1 <;> rw [e2] at h2 <;> rw [h1] <;> rcases h2 with h2 | ⟨k, h2, h3⟩ <;> rw [h2]
 ·dsimp only; rw [if_neg om]
 ·dsimp only; rw [if_pos om]
theorem Y3 {δ : Dk} {ω : Wl} {N : Int} (h : Kp δ ω) (hW : Dh δ ω N) (hok : δ.Ok) : SI δ = some ⟨ω.recs.take ω.synced.toNat, ω.synced, ω.area, ω.count, ω.a, ω.b, false⟩ := by
 have hm := h.mkI hW
 have hs := hW.synced
 have hsz := hW.size
 have f1 : Dx δ (ω.now.count % 2) = some ω.now := Tb hW.al.dead hW.size hm rfl h.this
 have f2 : Dx δ ((ω.now.count + 1) % 2) = none ∨ ∃ k, Dx δ ((ω.now.count + 1) % 2) = some k ∧ k.count < ω.now.count :=
  Rv hok hW.al.dead ⟨by omega, by omega⟩ rfl ⟨h.cnt, hW.count.2⟩ h.other
 rw [Rb (XU _ f1 f2)]
 unfold Yu
 have hA : Nd δ ω.area (AB (ω.recs.take ω.synced.toNat)) := h.area.less (Oq _ _)
 have hlen := DX ω.recs ω.synced.toNat
 have hfit := hW.fits
 have hb : RE δ ω.now = AB (ω.recs.take ω.synced.toNat) := Tp hok hW.size.1 hW.area om hA
 have hn : (ω.recs.take ω.synced.toNat).length = ω.synced.toNat := by rw [length_take]; omega
 have hz : ω.now.num = ((ω.recs.take ω.synced.toNat).length : Int) := by rw [hn]; show ω.synced = _; omega
 rw [hb, hz, Un (fun s hs => h.long s (mem_of_mem_take hs))]
 dsimp only
 rw [hn, show ((ω.synced.toNat : Nat) : Int) = ω.synced by omega]
 rfl
structure Rk where
 L : List (List UInt8)
 Old : List (List UInt8)
 Pend : List Bool
 N : Int
 At : Int
 Gone : Bool
structure Rk.Ok (ρ : Rk) : Prop where
 old : ρ.Old.length = ρ.L.length
 pend : ρ.Pend.length = ρ.L.length
 big : ρ.L.length ≤ 32768
 sec : ∀ s ∈ ρ.L, s.length = 64
 olds : ∀ s ∈ ρ.Old, s.length = 64
abbrev ZD (x : Nat) (vL vO vP : Value) (N At : Int) (Gone : Bool) : HP := Ar x [vL, vO, vP, AA N, AA At, .bool Gone] 120
def SL (x : Nat) (ρ : Rk) : HP := fun h => ∃ v : Value × Value × Value, ρ.Ok ∧ CG [ZD x v.1 v.2.1 v.2.2 ρ.N ρ.At ρ.Gone, Cp v.1 ρ.L, Cp v.2.1 ρ.Old, M7 v.2.2 ρ.Pend] h
section
variable {W : World} {n : Nat} {ds : List Deferred} {E : By} {L R : List HP} {X : Act → World → Prop}
theorem G.rkOpen {x : Nat} {ρ : Rk} (hL : BT (SL x ρ) L R) (h : ∀ vL vO vP, ρ.Ok → G W n ds E (ZD x vL vO vP ρ.N ρ.At ρ.Gone :: Cp vL ρ.L :: Cp vO ρ.Old :: M7 vP ρ.Pend :: R) X) : G W n ds E L X :=
 G.focus hL (G.open (q := fun v : Value × Value × Value => [ZD x v.1 v.2.1 v.2.2 ρ.N ρ.At ρ.Gone, Cp v.1 ρ.L, Cp v.2.1 ρ.Old, M7 v.2.2 ρ.Pend]) (φ := fun _ => ρ.Ok) (fun _ hp => hp) fun v hv => h v.1 v.2.1 v.2.2 hv)
theorem G.rkFold {x : Nat} {ρ : Rk} {l lL lO lP : List Value} {vL vO vP : Value} {nL nO nP : Nat} (hL : Am [Ar x l 120, AV 9 1 vL nL lL, AV 9 1 vO nO lO, AV 4 1 vP nP lP] L R)
  (h1 : l = [vL, vO, vP, AA ρ.N, AA ρ.At, .bool ρ.Gone]) (h2 : nL = ρ.L.length ∧ lL = Bo ρ.L) (h3 : nO = ρ.Old.length ∧ lO = Bo ρ.Old) (h4 : nP = ρ.Pend.length ∧ lP = HL ρ.Pend) (hok : ρ.Ok)
  (h : G W n ds E (SL x ρ :: R) X) : G W n ds E L X := by
 subst h1; obtain ⟨rfl, rfl⟩ := h2; obtain ⟨rfl, rfl⟩ := h3; obtain ⟨rfl, rfl⟩ := h4
 exact G.fold hL (fun _ hp => ⟨(vL, vO, vP), hok, hp⟩) h
end
def Rk.has (ρ : Rk) (n : Int) : Bool := decide (0 ≤ n) && decide (n < ρ.L.length)
def Rk.act (ρ : Rk) : Rk := { ρ with N := ρ.N + 1, Gone := if ρ.At > 0 ∧ ρ.N + 1 = ρ.At then true else ρ.Gone }
def Rk.write (ρ : Rk) (n : Int) (s : List UInt8) : Rk × Int :=
 if ρ.Gone then (ρ, 2) else if ρ.has n = false ∨ s.length ≠ 64 then (ρ, 20)
 else ({ ρ.act with L := ρ.L.set n.toNat s, Pend := ρ.Pend.set n.toNat true }, if ρ.act.Gone then 2 else 0)
def Rk.sync (ρ : Rk) : Rk × Int :=
 if ρ.Gone then (ρ, 2) else if ρ.act.Gone then (ρ.act, 2) else ({ ρ.act with Old := ρ.L, Pend := ρ.L.map fun _ => false }, 0)
def Rk.new (n : Nat) : Rk := ⟨List.replicate n zs, List.replicate n zs, List.replicate n false, 0, 0, false⟩
theorem IJ : Fn prog 59 #[] [] fun v L => v = AU zs ∧ L = [] := by
 refine Fn.intro func59 Y Y fun F W => ?_
 refine .sr (.an Y (.sr (.oq (.make Y Y A8 Fo Y ⟨by simp, by simp; rfl⟩ ?c2) ?_)))
 case c2 => omega
 rintro v L' ⟨b1_0, rfl, rfl⟩
 refine .q (.bytesPt (cs := zs) Y underlying133 underlying5 underlying9 O (by show (List.drop 0 (List.replicate (64 * 1) _)).take 64 = _; rw [drop_zero]; rfl) (by simp) dQ) Y (.an Y (.ret ?_))
 exact .vv
theorem Mz (x : Nat) (vL vO vP : Value) (N At : Int) (Gone : Bool) (hN : 0 ≤ N ∧ N < 4611686018427387904) : Fn prog 150 #[AG x] [ZD x vL vO vP N At Gone] fun v L => v = .bool (if At > 0 ∧ N + 1 = At then true else Gone) ∧ L = [ZD x vL vO vP (N + 1) At (if At > 0 ∧ N + 1 = At then true else Gone)] := by
 refine Fn.intro func150 Y Y fun F W => ?_
 refine .sr (.an Y (.sm Y (.nf Y LB (.u (.ld Y AF) (.q (.add Y Y om) Y (.nf Y LB (.st Y Y Y BV ?_)))))))
 refine .nt (.seq (.seq (.draw [] [[0, 1, 2, 3, 4, 5, 6, 7, 8, 9, 10, 11, 12, 13, 14, 15]] mixed kQ (.g0 (.mv Y Y (.nf Y Y Y QA (.kv Y (.ld Y AF) (.kv Y (.int Y Y Y) (.mv Y Y (.dec (t := 15) Y (fun h2_15 => ?_) (fun h2_15 => ?_)))))))))))
 ·refine D.kDT (t := 14) Y h2_15 (.gv Y (.move Y) (.gv Y (.nilp Y) (.gv Y (.fieldAddr Y LB) (.gv Y (.ld Y AF) (.gv Y (.move Y) (.gv Y (.nilp Y) (.gv Y (.fieldAddr Y QA) (.gv Y (.ld Y AF) (.gv Y (.int Y Y Y) (.kv Y (.pickT Y Y) (.pf (.condD Y (fun h25 => ?_) (fun h25 => ?_)))))))))))))
  ·refine .region (.m Y (.nf Y GM (.st Y Y Y Og ?_)))
   refine .nt (.sm Y (.nf Y GM (.u (.ld Y FV) (.an Y (.ret ?_)))))
   rw [if_pos ⟨by omega, by omega⟩]
   exact .vv
  refine .sk (.sm Y (.nf Y GM (.u (.ld Y FV) (.an Y (.ret ?_)))))
  rw [if_neg om]
  exact .vv
 refine D.kDF (t := 14) Y h2_15 (.gz Y (.gz Y (.gz Y (.gz Y (.gz Y (.gz Y (.gz Y (.gz Y (.gz Y (.kv Y (.pickF Y Y) (.pf (.condF Y (.sk (.sm Y (.nf Y GM (.u (.ld Y FV) (.an Y (.ret ?_))))))))))))))))))
 rw [if_neg om]
 exact .vv
theorem PS (x : Nat) (ρ : Rk) (n : Int) (s : List UInt8) (hN : 0 ≤ ρ.N ∧ ρ.N < 4611686018427387904) : Fn prog 105 #[AG x, AA n, AU s] [SL x ρ] fun v L => v = AA (ρ.write n s).2 ∧ L = [SL x (ρ.write n s).1] := by
 refine Fn.intro func105 Y Y fun F W => ?_
 refine .rkOpen .here fun vL vO vP hok => (.slAny (v := vL) O fun aL cL e lL => ?_)
 subst e
 refine .slAny (v := vP) O fun aP cP e lP => ?_
 subst e
 refine .sr (.an Y (.seq (.sm Y (.nf Y GM (.u (.ld Y FV) (.nt (.condB Y (fun h11 => ?_) (fun h11 => ?_))))))))
 ·refine .sr (.an Y (.rt ?_))
  have e : ρ.write n s = (ρ, 2) := by unfold Rk.write; simp only [h11, if_true]
  rw [e]
  refine .rkFold (ρ := ρ) O Y ⟨Y, Y⟩ ⟨Y, Y⟩ ⟨Y, Y⟩ hok ?_
  exact .vv
 refine .sk (.seq (.sm Y (.ui Y Y Y (.m Y (.dec (t := 14) Y (fun h3_14 => ?_) (fun h3_14 => ?_))))))
 ·refine .kDT (t := 13) Y h3_14 (.gk (.gk (.gk (.gk (.gk (.gk (.gk (.pT Y Y (.m Y (.gk (.gk (.gk (.pT Y Y (.nt (.condT Y (.sr (.an Y (.rt ?_))))))))))))))))))
  have e : ρ.write n s = (ρ, 20) := by unfold Rk.write; have hh : ρ.has n = false := (by simp [Rk.has]; omega); simp [h11, hh]
  rw [e]
  refine .rkFold (ρ := ρ) O Y ⟨Y, Y⟩ ⟨Y, Y⟩ ⟨Y, Y⟩ hok ?_
  exact .vv
 refine .kDF (t := 13) Y h3_14 (.gr (.m Y (.gr (.m Y (.gr (.u (.nilp Y) (.gr (.fa Y Fe (.gr (.u (.ld Y Ch) (.gr (.q (.slen Y underlying65 Y) Y (.gr (.ui Y Y Y (.pF Y Y (.m Y (.dec (t := 23) Y (fun h3_23 => ?_) (fun h3_23 => ?_))))))))))))))))))
 ·refine .kDT (t := 21) Y h3_23 (.kDT (t := 22) Y h3_23 (.gk (.gk (.gk (.pT Y Y (.nt (.condT Y (.sr (.an Y (.rt ?_))))))))))
  have e : ρ.write n s = (ρ, 20) := by unfold Rk.write; have hh : ρ.has n = false := (by simp [Rk.has]; omega); simp [h11, hh]
  rw [e]
  refine .rkFold (ρ := ρ) O Y ⟨Y, Y⟩ ⟨Y, Y⟩ ⟨Y, Y⟩ hok ?_
  exact .vv
 refine .kDF (t := 21) Y h3_23 (.kDF (t := 22) Y h3_23 (.gr (.m Y (.gr (.q (.strlen Y underlying9 Y) Y (.gr (.ui Y Y Y (.pF Y Y (.nt (.condN Y (fun h27 => ?_) (fun h27 => ?_)))))))))))
 ·refine .sr (.an Y (.rt ?_))
  have e : ρ.write n s = (ρ, 20) := by unfold Rk.write; have hs : s.length ≠ 64 := om; simp [h11, hs]
  rw [e]
  refine .rkFold (ρ := ρ) O Y ⟨Y, Y⟩ ⟨Y, Y⟩ ⟨Y, Y⟩ hok ?_
  exact .vv
 obtain ⟨q0, q1, q2⟩ : 0 ≤ n ∧ n < ρ.L.length ∧ n.toNat < ρ.L.length := by omega
 have hh : ρ.has n = true := by simp [Rk.has]; omega
 refine .sk (.sm Y (.oq (.c func150 [_] (Mz _ _ _ _ _ _ _ ?hN26)) ?_))
 case hN26 => omega
 rintro v L' ⟨rfl, rfl⟩
 refine .an Y (.seq (.slShape (v := .slice aL _ cL) O om fun bL cL' e mL _ => ?_))
 simp only [Value.slice.injEq, true_and] at e
 obtain ⟨rfl, rfl⟩ := e
 refine .region (.m Y (.nf Y Fe (.u (.ld Y Ch) (.m Y (.m Y (.q (.indexAddr Y Y Bu om) Y (.oq (.storeEl (i := n.toNat * 1) Y Y Y Wt ?hi36) ?_)))))))
 case hi36 => omega
 rintro v L' rfl
 refine .nt (.seq ?_)
 have hp := hok.pend
 refine .slShape (v := .slice aP _ cP) O om fun bP cP' e mP _ => ?_
 simp only [Value.slice.injEq, true_and] at e
 obtain ⟨rfl, rfl⟩ := e
 refine .region (.m Y (.nf Y Pb (.u (.ld Y Ud) (.m Y (.q (.indexAddr Y Y RV om) Y (.oq (.storeEl (i := n.toNat * 1) Y Y Y Og ?hi44) ?_))))))
 case hi44 => omega
 rintro v L' rfl
 refine .nt (.seq (.sm Y (.nt (.condB Y (fun h43 => ?_) (fun h43 => ?_)))))
 ·refine .sr (.an Y (.rt ?_))
  have e : ρ.write n s = ({ ρ.act with L := ρ.L.set n.toNat s, Pend := ρ.Pend.set n.toNat true }, if ρ.act.Gone then 2 else 0) := by unfold Rk.write; have hs : s.length = 64 := om; simp [h11, hh, hs]
  rw [e]
  have hg : ρ.act.Gone = true := by simpa [Rk.act] using h43
  rw [hg]
  refine .rkFold (ρ := { ρ.act with L := ρ.L.set n.toNat s, Pend := ρ.Pend.set n.toNat true }) O Y ⟨by simp, by simp [map_set]⟩ ⟨rfl, rfl⟩ ⟨by simp, by simp [map_set]⟩ ⟨by simpa [Rk.act] using hok.old, by simpa using hok.pend, by simpa using hok.big, fun t ht => (mem_or_eq_of_mem_set ht).elim (hok.sec t) (fun h => by rw [h]; omega), hok.olds⟩ ?_
  exact .vv
 refine .sk (.sr (.an Y (.ret ?_)))
 have e : ρ.write n s = ({ ρ.act with L := ρ.L.set n.toNat s, Pend := ρ.Pend.set n.toNat true }, if ρ.act.Gone then 2 else 0) := by unfold Rk.write; have hs : s.length = 64 := om; simp [h11, hh, hs]
 rw [e]
 have hg : ρ.act.Gone = false := by simpa [Rk.act] using h43
 rw [hg]
 refine .rkFold (ρ := { ρ.act with L := ρ.L.set n.toNat s, Pend := ρ.Pend.set n.toNat true }) O Y ⟨by simp, by simp [map_set]⟩ ⟨rfl, rfl⟩ ⟨by simp, by simp [map_set]⟩ ⟨by simpa [Rk.act] using hok.old, by simpa using hok.pend, by simpa using hok.big, fun t ht => (mem_or_eq_of_mem_set ht).elim (hok.sec t) (fun h => by rw [h]; omega), hok.olds⟩ ?_
 exact .vv
/- not in this seat -/
/- not in this seat -/
theorem Ry (x : Nat) (ρ : Rk) (hN : 0 ≤ ρ.N ∧ ρ.N < 4611686018427387904) : Fn prog 107 #[AG x] [SL x ρ] fun v L => v = AA ρ.sync.2 ∧ L = [SL x ρ.sync.1] := by
 refine Fn.intro func107 Y Y fun F W => ?_
 refine .rkOpen .here fun vL vO vP hok => ?_
 have ho := hok.old
 have hp := hok.pend
 have hbg := hok.big
 refine .slAny (v := vL) O fun aL cL e lL => ?_
 subst e
 refine .slAny (v := vO) O fun aO cO e lO => ?_
 subst e
 refine .slAny (v := vP) O fun aP cP e lP => ?_
 subst e
 refine .sr (.an Y (.seq (.sm Y (.nf Y GM (.u (.ld Y FV) (.nt (.condB Y (fun h8 => ?_) (fun h8 => ?_))))))))
 ·refine .sr (.an Y (.rt ?_))
  have e : ρ.sync = (ρ, 2) := by unfold Rk.sync; simp only [h8, if_true]
  rw [e]
  refine .rkFold (ρ := ρ) O Y ⟨Y, Y⟩ ⟨Y, Y⟩ ⟨Y, Y⟩ hok ?_
  exact .vv
 refine .sk (.sm Y (.oq (.c func150 [_] (Mz _ _ _ _ _ _ _ ?hN8)) ?_))
 case hN8 => omega
 rintro v L' ⟨rfl, rfl⟩
 refine .an Y (.seq (.sm Y (.nt (.condB Y (fun h11 => ?_) (fun h11 => ?_)))))
 ·refine .sr (.an Y (.rt ?_))
  have e : ρ.sync = (ρ.act, 2) := by unfold Rk.sync; have hg : ρ.act.Gone = true := (by simpa [Rk.act] using h11); simp [h8, hg]
  rw [e]
  refine .rkFold (ρ := ρ.act) O Y ⟨Y, Y⟩ ⟨Y, Y⟩ ⟨Y, Y⟩ ⟨hok.old, hok.pend, hok.big, hok.sec, hok.olds⟩ ?_
  exact .vv
 refine .sk (.seq (.sr (.an Y (.block ?_))))
 have hg : ρ.act.Gone = false := by simpa [Rk.act] using h11
 refine .loop (F := F) (ι := Nat) (fun i => [(0, AG x), (4, AA i)]) (fun i => [ZD x (.slice aL ρ.L.length cL) (.slice aO ρ.Old.length cO) (.slice aP ρ.Pend.length cP) (ρ.N + 1) ρ.At ρ.act.Gone, Cp (.slice aL ρ.L.length cL) ρ.L, AV 9 1 (.slice aO ρ.Old.length cO) ρ.Old.length ((Bo ρ.L).take i ++ (Bo ρ.Old).drop i), AV 4 1 (.slice aP ρ.Pend.length cP) ρ.Pend.length ((HL (ρ.L.map fun _ => false)).take i ++ (HL ρ.Pend).drop i)]) (fun i => i ≤ ρ.L.length) (fun i => ρ.L.length - i) 0 (Nat.zero_le _) O O O ?_
 intro i hi
 refine .seq (.sm Y (.m Y (.nf Y Fe (.u (.ld Y Ch) (.q (.slen Y underlying65 Y) Y (.ui Y Y Y (.nt (.condD Y (fun h18 => ?_) (fun h18 => ?_)))))))))
 ·have hi2 : i < ρ.L.length := by omega
  refine .sk (.seq (.block (.seq (.slShape (v := .slice aL _ cL) O om fun bL cL' e mL _ => ?_))))
  simp only [Value.slice.injEq, true_and] at e
  obtain ⟨rfl, rfl⟩ := e
  refine .slShape (v := .slice aO _ cO) O om fun bO cO' e mO _ => ?_
  simp only [Value.slice.injEq, true_and] at e
  obtain ⟨rfl, rfl⟩ := e
  refine .draw [13] [[0, 1, 2, 3, 4, 5, 6, 7, 8, 9, 10, 11, 12, 13]] mixed kQ (.g0 (.mv Y Y (.nf Y Y Y LN (.kv Y (.ld Y Ch) (.mv Y Y (.mv Y Y (.nf Y Y Y Fe (.kv Y (.ld Y Ch) (.mv Y Y (.kv Y (.indexAddr Y Y Bu om) (.kv Y (.loadSl (v := AU ρ.L[i]) (i := i * 1) Y G9 O (by simp [hi2])) (.kv Y (.indexAddr Y Y Bu om) (.hh Y (.storeEl (i := i * 1) Y Y Y Wt ?hi33) ?_)))))))))))))
  case hi33 => omega
  rintro v L' rfl
  refine D.pf (.slShape (v := .slice aP _ cP) O om fun bP cP' e mP _ => ?_)
  simp only [Value.slice.injEq, true_and] at e
  obtain ⟨rfl, rfl⟩ := e
  refine .region (.m Y (.nf Y Pb (.u (.ld Y Ud) (.m Y (.q (.indexAddr Y Y RV om) Y (.oq (.storeEl (i := i * 1) Y Y Y Og ?hi41) ?_))))))
  case hi41 => omega
  rintro v L' rfl
  refine .nil (.blk_n (.then_n ?_))
  have e1 : ((Bo ρ.L).take i ++ (Bo ρ.Old).drop i).set (i * 1) (AU ρ.L[i]) = (Bo ρ.L).take (i + 1) ++ (Bo ρ.Old).drop (i + 1) := by have := IC (l := Bo ρ.L) (m := Bo ρ.Old) (i := i) (by simpa using hi2) (by simpa using ho); rw [Nat.mul_one, ← this]; simp
  have e2 : ((HL (ρ.L.map fun _ => false)).take i ++ (HL ρ.Pend).drop i).set (i * 1) (.bool false) = (HL (ρ.L.map fun _ => false)).take (i + 1) ++ (HL ρ.Pend).drop (i + 1) := by have := IC (l := HL (ρ.L.map fun _ => false)) (m := HL ρ.Pend) (i := i) (by simpa using hi2) (by simpa using hp); rw [Nat.mul_one, ← this]; simp
  rw [e1, e2]
  refine .region (.m Y (.q (.add Y Y om) Y (.an Y (.round (i + 1) om om O O O))))
 have hi2 : i = ρ.L.length := by omega
 subst hi2
 rw [take_of_length_le (by simp), take_of_length_le (by simp), drop_eq_nil_of_le (by simp; omega), drop_eq_nil_of_le (by simp; omega), append_nil, append_nil]
 refine .xe (.sr (.an Y (.ret ?_)))
 have e : ρ.sync = ({ ρ.act with Old := ρ.L, Pend := ρ.L.map fun _ => false }, 0) := by unfold Rk.sync; simp [h8, hg]
 rw [e]
 refine .rkFold (ρ := { ρ.act with Old := ρ.L, Pend := ρ.L.map fun _ => false }) O Y ⟨Y, Y⟩ ⟨ho, Y⟩ ⟨by simpa using hp, rfl⟩ ⟨rfl, by simp [Rk.act], hok.big, hok.sec, hok.sec⟩ ?_
 exact .vv
theorem TY (n : Int) : Fn prog 30 #[AA n] [] fun v L => ((n < 16 ∨ 32768 < n) ∧ v = .tuple #[.pointer none, AA 1] ∧ L = []) ∨ ((16 ≤ n ∧ n ≤ 32768) ∧ ∃ x, v = .tuple #[AG x, AA 0] ∧ L = [SL x (Rk.new n.toNat)]) := by
 refine Fn.intro func30 Y Y fun F W => ?_
 refine .sr (.a Y (.an Y (.seq (.sm Y (.ui Y Y Y (.m Y (.dec (t := 8) Y (fun h1_8 => ?_) (fun h1_8 => ?_))))))))
 ·refine .kDT (t := 7) Y h1_8 (.gk (.gk (.pT Y Y (.nt (.condT Y (.sr (.a Y (.an Y (.rt ?_)))))))))
  exact .dn Y Y (.inl ⟨by omega, rfl, rfl⟩)
 refine .kDF (t := 7) Y h1_8 (.gr (.m Y (.gr (.ui Y Y Y (.pF Y Y (.nt (.condD Y (fun h11 => ?_) (fun h11 => ?_))))))))
 ·refine .sr (.a Y (.an Y (.rt ?_)))
  exact .dn Y Y (.inl ⟨by omega, rfl, rfl⟩)
 obtain ⟨hn1, hn2⟩ : 16 ≤ n ∧ n ≤ 32768 := by omega
 refine .sk (.sm Y (.oq (.make Y Y RV AAu Y ⟨by simp, by simp; rfl⟩ ?c13) ?_))
 case c13 => omega
 rintro v L' ⟨bP, rfl, rfl⟩
 refine .q (.build (us := [(2, _)]) ZK Y6 Y Y (by simp [AD])) Y (.oq (.box Y) ?_)
 rintro v L' ⟨x, rfl, rfl⟩
 refine .an Y (.seq (.sr (.an Y (.block (.add (Ak 9 1) (.add (Ak 9 1) (.fold (p := M7 (.slice (some ⟨bP, 0, none⟩) n.toNat n.toNat) (List.replicate n.toNat false)) (.cons (p := Ar bP _ _) O .nil) (fun h hp => by have := HX hp; simpa [M7, HL] using HI (n := n.toNat) (sz := 1) this (by simp)) (.loop (F := F) (ι := Nat × Value × Value) (fun i => [(0, AA n), (4, AG x), (5, AA i.1)]) (fun i => [ZD x i.2.1 i.2.2 (.slice (some ⟨bP, 0, none⟩) n.toNat n.toNat) 0 0 false, AV 9 1 i.2.1 i.1 (List.replicate i.1 (AU zs)), AV 9 1 i.2.2 i.1 (List.replicate i.1 (AU zs)), M7 (.slice (some ⟨bP, 0, none⟩) n.toNat n.toNat) (List.replicate n.toNat false)]) (fun i => i.1 ≤ n.toNat) (fun i => n.toNat - i.1) (0, .slice none 0 0, .slice none 0 0) (Nat.zero_le _) O O O ?_))))))))
 rintro ⟨i, vL, vO⟩ hi
 dsimp only at hi ⊢
 refine .seq (.sm Y (.m Y (.ui Y Y Y (.nt (.condD Y (fun h18 => ?_) (fun h18 => ?_))))))
 ·refine .sk (.seq (.block (.seq (.draw [5, 6, 7, 10] [[0, 1, 2, 3, 4, 5, 6, 7], [8, 9, 10]] mixed kQ (.go [Ar x _ _] O (.k Y (.move Y) (.k Y (.move Y) (.k Y (.nilp Y) (.k Y (.fieldAddr Y Fe) (.k Y (.ld Y Ch) (.hh Y (.c func59 [] (IJ)) ?_)))))))))))
  rintro v L' ⟨rfl, rfl⟩
  refine D.hh Y (.buildSlice1 (vs := [_]) Bu Fp Y Y Y Y Y dQ) ?_
  rintro v L' ⟨b7_6, rfl, rfl⟩
  refine D.hh Y (.append1 Y Y Y Bu Fp Y Y ?c32 ?c33 (Nat.le_refl _) ?c34 dQ) ?_
  case c32 => (first | (simp [AD]; done) | (simp [AD, Cd, Value.cells]; done))
  case c33 => rfl
  case c34 => omega
  rintro v L' ⟨⟨a7_7, c7_7, rfl⟩, rfl⟩
  refine D.ph (.g0 (.nf Y Y Y Fe (.hh Y (.store Y Y Y II ?c39 (Bk _ _)) ?_)))
  case c39 => first | decide | (simp; omega) | simp
  rintro v L' rfl
  refine D.pf (.draw [5, 6, 7, 10] [[0, 1, 2, 3, 4, 5, 6, 7], [8, 9, 10]] mixed kQ (.go [Ar x _ _] O (.k Y (.move Y) (.k Y (.move Y) (.k Y (.nilp Y) (.k Y (.fieldAddr Y LN) (.k Y (.ld Y Ch) (.hh Y (.c func59 [] (IJ)) ?_))))))))
  rintro v L' ⟨rfl, rfl⟩
  refine D.hh Y (.buildSlice1 (vs := [_]) Bu Fp Y Y Y Y Y dQ) ?_
  rintro v L' ⟨b8_6, rfl, rfl⟩
  refine D.hh Y (.append1 Y Y Y Bu Fp Y Y ?c51 ?c52 (Nat.le_refl _) ?c53 dQ) ?_
  case c51 => (first | (simp [AD]; done) | (simp [AD, Cd, Value.cells]; done))
  case c52 => rfl
  case c53 => omega
  rintro v L' ⟨⟨a8_7, c8_7, rfl⟩, rfl⟩
  refine D.ph (.g0 (.nf Y Y Y LN (.hh Y (.store Y Y Y II ?c58 (Bk _ _)) ?_)))
  case c58 => first | decide | (simp; omega) | simp
  rintro v L' rfl
  refine D.ph (.fin (.blk_n (.then_n ?_)))
  rw [← replicate_succ']
  refine .region (.m Y (.q (.add Y Y om) Y (.an Y (.round (i + 1, Value.slice a7_7 (i + 1) c7_7, Value.slice a8_7 (i + 1) c8_7) (by dsimp only; omega) (by dsimp only; omega) O O O))))
 have hi2 : i = n.toNat := by omega
 subst hi2
 refine .rkFold (ρ := Rk.new n.toNat) O Y ⟨by simp [Rk.new], by simp [Rk.new]⟩ ⟨by simp [Rk.new], by simp [Rk.new]⟩ ⟨by simp [Rk.new], by simp [Rk.new]⟩ ⟨by simp [Rk.new], by simp [Rk.new], by simp [Rk.new]; omega, by simp [Rk.new, MN], by simp [Rk.new, MN]⟩ (.xe (.sm rfl (.a rfl (.an rfl (.ret ?_)))))
 exact .dn Y Y (.inr ⟨⟨hn1, hn2⟩, x, Y, Y⟩)
/- not in this seat -/
/- not in this seat -/
end Go.Proofs.YtjhlofbhpjakgaaGreat
/-
 DERIVED: THE SHELF's CONTRACTS AT THIS DUMP, IN PLAIN WORDS (tools/lay-plain.mjs out of 'YtjhlofbhpjakgaaGreatLay.lean', which tools/lay-shelf.mjs wrote): THE SAME DECLARATIONS UNDER THE SAME NAMES: 'import', 'namespace', 'open', 'def', 'theorem' AND NOTHING ELSE: no command of the shelf's: FOR A HAND-IN. Each laying: the table of numbers ('.._ren') and one theorem, a field a fact of the dump's own or the kernel's comparison; each MG: ONE APPLICATION.
-/
namespace Go.Proofs
open Go List Go.Proofs.Tryz Go.Shelf
def Tryz.sortA_ren : Go.Shelf.Ren := ⟨fun | 5 => 46 | 8 => 84 | 7 => 83 | 19 => 133 | 20 => 134 | 10 => 124 | 11 => 125 | 12 => 126 | 13 => 127 | 14 => 128 | 15 => 129 | 16 => 130 | 17 => 131 | 18 => 132 | 30 => 159 | 31 => 160 | 32 => 161 | 33 => 162 | 34 => 163 | 35 => 164 | 40 => 180 | n => n, fun | 23 => 22 | 25 => 3 | 3 => 3 | 32 => 151 | 22 => 22 | 0 => 0 | 44 => 179 | 46 => 193 | 4 => 4 | 36 => 184 | 35 => 183 | 41 => 189 | 5 => 5 | 9 => 9 | 53 => 218 | 57 => 200 | 63 => 239 | 64 => 240 | n => n, fun | n => n⟩
theorem Tryz.sortA : Go.Proofs.SlLaysM.n5 prog Tryz.sortA_ren := {
 mixed := by kernel_rfl
 f5 := ⟨f46.name, by decide, func46.trans (congrArg some (by kernel_rfl))⟩
 f7 := ⟨f83.name, by decide, func83.trans (congrArg some (by kernel_rfl))⟩
 f8 := func84.trans (congrArg some (by kernel_rfl))
 f10 := ⟨f124.name, by decide, func124.trans (congrArg some (by kernel_rfl))⟩
 f11 := ⟨f125.name, by decide, func125.trans (congrArg some (by kernel_rfl))⟩
 f12 := ⟨f126.name, by decide, func126.trans (congrArg some (by kernel_rfl))⟩
 f13 := ⟨f127.name, by decide, func127.trans (congrArg some (by kernel_rfl))⟩
 f14 := ⟨f128.name, by decide, func128.trans (congrArg some (by kernel_rfl))⟩
 f15 := ⟨f129.name, by decide, func129.trans (congrArg some (by kernel_rfl))⟩
 f16 := ⟨f130.name, by decide, func130.trans (congrArg some (by kernel_rfl))⟩
 f17 := ⟨f131.name, by decide, func131.trans (congrArg some (by kernel_rfl))⟩
 f18 := ⟨f132.name, by decide, func132.trans (congrArg some (by kernel_rfl))⟩
 f19 := func133.trans (congrArg some (by kernel_rfl))
 f20 := func134.trans (congrArg some (by kernel_rfl))
 f30 := ⟨f159.name, by decide, func159.trans (congrArg some (by kernel_rfl))⟩
 f31 := func160.trans (congrArg some (by kernel_rfl))
 f32 := func161.trans (congrArg some (by kernel_rfl))
 f33 := ⟨f162.name, by decide, func162.trans (congrArg some (by kernel_rfl))⟩
 f34 := ⟨f163.name, by decide, func163.trans (congrArg some (by kernel_rfl))⟩
 f35 := ⟨f164.name, by decide, func164.trans (congrArg some (by kernel_rfl))⟩
 f40 := ⟨f180.name, by decide, func180.trans (congrArg some (by kernel_rfl))⟩
 t0 := underlying0
 a0 := Tryz.isAgg0
 z0 := Tryz.sizeOf0
 v0 := Tryz.zeroValue0
 t3 := underlying3
 a3 := Tryz.isAgg3
 z3 := Tryz.sizeOf3
 v3 := Tryz.zeroValue3
 t4 := underlying4
 a4 := Tryz.isAgg4
 z4 := Tryz.sizeOf4
 v4 := Tryz.zeroValue4
 t5 := underlying5
 a5 := Tryz.isAgg5
 z5 := Tryz.sizeOf5
 v5 := Tryz.zeroValue5
 t9 := underlying9
 a9 := Tryz.isAgg9
 z9 := Tryz.sizeOf9
 v9 := Tryz.zeroValue9
 t22 := underlying22
 a22 := Tryz.isAgg22
 z22 := Tryz.sizeOf22
 v22 := Tryz.zeroValue22
 t23 := underlying22
 a23 := Tryz.isAgg22
 z23 := Tryz.sizeOf22
 v23 := Tryz.zeroValue22
 t25 := underlying3
 a25 := Tryz.isAgg3
 z25 := Tryz.sizeOf3
 v25 := Tryz.zeroValue3
 t32 := underlying151
 a32 := Tryz.isAgg151
 z32 := Tryz.sizeOf151
 v32 := Tryz.zeroValue151
 t35 := underlying183
 a35 := Tryz.isAgg183
 z35 := Tryz.sizeOf183
 v35 := Tryz.zeroValue183
 t36 := underlying184
 a36 := Tryz.isAgg184
 z36 := Tryz.sizeOf184
 v36 := Tryz.zeroValue184
 t41 := underlying189
 a41 := Tryz.isAgg189
 z41 := Tryz.sizeOf189
 v41 := Tryz.zeroValue189
 t44 := underlying179
 a44 := Tryz.isAgg179
 z44 := Tryz.sizeOf179
 v44 := Tryz.zeroValue179
 t46 := underlying193
 a46 := Tryz.isAgg193
 z46 := Tryz.sizeOf193
 v46 := Tryz.zeroValue193
 t53 := underlying218
 a53 := Tryz.isAgg218
 z53 := Tryz.sizeOf218
 v53 := Tryz.zeroValue218
 t57 := underlying200
 a57 := Tryz.isAgg200
 z57 := Tryz.sizeOf200
 v57 := Tryz.zeroValue200
 t63 := underlying239
 a63 := Tryz.isAgg239
 z63 := Tryz.sizeOf239
 v63 := Tryz.zeroValue239
 t64 := underlying240
 a64 := Tryz.isAgg240
 z64 := Tryz.sizeOf240
 v64 := Tryz.zeroValue240 }
end Go.Proofs
namespace Go.Proofs.YtjhlofbhpjakgaaGreat
open Go List Go.Proofs.Tryz Go.RowKit Go.Maps Go.Sort Go.Shelf
def Bw (l : List Int) : List Int := l.mergeSort (fun x y => decide (x ≤ y))
open Go Go.Sort
theorem LX (l : List Int) : (Bw l).Perm l := mergeSort_perm _ _
theorem Gs (l : List Int) : (Bw l).length = l.length := (LX l).length_eq
theorem Tr {l : List Int} {x : Int} : x ∈ Bw l ↔ x ∈ l := (LX l).mem_iff
theorem Xu {P : Program} {ρ : Go.Shelf.Ren} (LM : SlLaysM.n5 P ρ) (e : TypeId) (v : Value) (n : Nat) (xs : List Int) (hn : n < 4611686018427387904) :
  Fn P (ρ.f 5) #[v] [AV e 1 v n (xs.map AA)] fun u L => u = .tuple #[] ∧ L = [AV e 1 v n ((Bw xs).map AA)] := by
 intro F w hs
 have hs' : St ((fun h => ∃ y : List Value × (Nat × Nat) × (Option (Nat × Nat)), (y.2.2 = none ∧ v = .slice none 0 0 ∧ n = 0 ∧ xs = []) ∨ (∃ b cap, y.2.2 = some (b, cap) ∧ v = .slice (some ⟨b, 0, none⟩) n cap ∧ h b = some (.cells (List.toArray (xs.map AA ++ y.1)) e y.2.1) ∧ xs.length = n ∧ cap ≤ xs.length + y.1.length ∧ n ≤ cap ∧ Rj y.2.1 0 cap)) :: F) w := by
  refine BS (fun h hp => ?_) hs
  rcases hp with ⟨h1, h2, h3⟩ | ⟨b, cap, rest, fr, h1, h2, h3, h4, h5, h6⟩
  ·exact ⟨([], (0, 0), none), .inl ⟨rfl, h1, h2, by simpa using h3⟩⟩
  ·exact ⟨(rest, fr, some (b, cap)), .inr ⟨b, cap, rfl, h1, h2, by simpa using h3, by simpa using h4, h5, by simpa using h6⟩⟩
 obtain ⟨⟨rest, fr, o⟩, h1, h2, hd, a1, a2, hp, hF⟩ := Jv hs'
 rcases hp with ⟨-, rfl, rfl, rfl⟩ | ⟨b, cap, -, rfl, p1, p2, p3, p4, p5⟩
 ·refine (AnyM.slices_Sort_int_none LM none 0 w).mono ?_
  rintro e w' ⟨rfl, rfl⟩
  refine ⟨_, _, ⟨rfl, rfl⟩, rfl, ?_, .refl _⟩
  have e : Bw [] = [] := eq_nil_of_length_eq_zero (mergeSort_perm _ _).length_eq
  rw [e]; exact hs
 ·subst p2
  have hb := a1 _ _ p1
  have hlt : b < w.heap.size := by
   rcases Nat.lt_or_ge b w.heap.size with h | h
   ·exact h
   ·simp [Array.getElem?_eq_none h] at hb
  have hH : Holds (Value.int .i64) w b 0 xs.toArray := by
   intro j hj
   have hj' : j < xs.length := by simpa using hj
   have hb' : w.heap[b]? = some (.cells (xs.map AA ++ rest).toArray e fr) := hb
   refine ⟨?_, ?_⟩
   ·simp only [World.cell?, hb', Nat.zero_add, Option.isSome_none, Bool.false_eq_true, if_false]
    rw [List.getElem?_toArray, List.getElem?_append_left (by simpa using hj')]
    simp [hj']
   ·have := p5 j om (by dsimp only at p3 p4 ⊢; omega)
    simp only [World.frozen?, hb', Nat.zero_add]
    simpa using this
  refine (AnyM.slices_Sort_int LM b 0 cap xs w hH hlt hn).mono ?_
  rintro en w' ⟨rfl, k, os, rfl⟩
  refine ⟨_, _, ⟨rfl, rfl⟩, rfl, ?_, ?_⟩
  ·have h2b : h2 b = none := (hd b).resolve_left (by rw [p1]; simp)
   have hsz : (Bw xs).length = xs.length := by rw [show (Bw xs).length = xs.length from (mergeSort_perm _ _).length_eq]
   have hnew : (grow (putRow (Value.int .i64) (Sort.ahead w k) b 0 (Bw xs).toArray) os).heap[b]? = some (.cells (putCells (Value.int .i64) 0 (Bw xs).toArray (xs.map AA ++ rest).toArray) e fr) := heap_sortedI _ hb
   have hrow : (putCells (Value.int .i64) 0 (Bw xs).toArray (xs.map AA ++ rest).toArray) = ((Bw xs).map AA ++ rest).toArray := by
    apply Array.ext_getElem?
    intro j
    simp only [putCells, Array.getElem?_mapIdx, List.getElem?_toArray, Nat.zero_le, true_and, Nat.zero_add, Nat.sub_zero, size_toArray]
    by_cases hj : j < xs.length
    ·rw [List.getElem?_append_left (by simpa using hj), List.getElem?_append_left (by simpa [hsz] using hj)]
     simp [hj, hsz]
    ·rw [List.getElem?_append_right (by simp; omega), List.getElem?_append_right (by simp [hsz]; omega)]
     simp [hj, hsz]
   refine ⟨fun c => if c = b then some (.cells ((Bw xs).map AA ++ rest).toArray e fr) else none, h2, fun c => ?_, fun c o e => ?_, fun c o hc => ?_, ?_, hF⟩
   ·by_cases e : c = b
    ·exact .inr (e ▸ h2b)
    ·exact .inl (if_neg e)
   ·by_cases hc : c = b
    ·subst hc; simp at e; subst e; rw [← hrow]; exact hnew
    ·simp [hc] at e
   ·have hcb : c ≠ b := by rintro rfl; rw [h2b] at hc; cases hc
    have hold := a2 _ _ hc
    have hclt : c < w.heap.size := by
     rcases Nat.lt_or_ge c w.heap.size with h | h
     ·exact h
     ·simp [Array.getElem?_eq_none h] at hold
    have := (grownBy_sortedI (w := w) (g := b) (n := k) (os := os) (Bw xs).toArray).block c hclt (fun e => hcb (by simpa using e))
    show (grow (putRow (Value.int .i64) (Sort.ahead w k) b 0 (Bw xs).toArray) os).heap[c]? = _
    rw [this]; exact hold
   ·exact .inr ⟨b, cap, rest, fr, rfl, if_pos rfl, by simp [hsz], by simpa [hsz] using p3, p4, by simpa using p5⟩
  ·refine ⟨rfl, rfl, rfl, ?_⟩
   show w.heap.size ≤ ((putRow (Value.int .i64) (Sort.ahead w k) b 0 _).heap ++ os).size
   simp [putRow, mapBlock, Sort.ahead]
open Go Go.RowKit
theorem Dk.new_ok {n : Int} (h : n.toNat ≤ 32768) : (Dk.new n).Ok :=
 ⟨by simp [Dk.new, MN], by simp [Dk.new], by simp [Dk.new], by simpa [Dk.new] using h, by simp [Dk.new], by simp [Dk.new]⟩
theorem ZU : Oo zs = List.replicate 64 (Value.int .u8 0) := by rw [Oo, zs, map_replicate]; rfl
theorem Tc (n : Nat) : DH (List.replicate n zs) = List.replicate (n * 64) (Value.int .u8 0) := by
 induction n with
 | zero => rfl
 | succ n ih =>
  have : DH (List.replicate (n + 1) zs) = Oo zs ++ DH (List.replicate n zs) := by simp [DH, replicate_succ]
  rw [this, ih, ZU, replicate_append_replicate]
  congr 1; omega
section
variable {P : Program} {E : By} {L R : List HP} {ty kt et : TypeId} {K β : Type} [DecidableEq K] {kv : K → Value} {enc : β → Value}
end
/- not in this seat: keysD_spec -/
/- not in this seat: sortedD_spec -/
theorem JH {β : Type} {m m2 : List (Int × β)} {k : Int} (h : BA m k = none) : BA (m ++ m2) k = BA m2 k := by
 induction m with
 | nil => rfl
 | cons x m ih =>
  obtain ⟨a, c⟩ := x
  by_cases hk : k = a
  ·subst hk; simp [BA] at h
  ·simp only [BA, hk, if_false] at h
   simp only [cons_append, BA, hk, if_false]
   exact ih h
theorem Ia {β : Type} {m : List (Int × β)} {k n : Int} {v : β} (h : k ≠ n) : BA (m ++ [(n, v)]) k = BA m k := by
 induction m with
 | nil => simp [BA, h]
 | cons x m ih =>
  obtain ⟨a, c⟩ := x
  simp only [cons_append, BA, ih]
def tx (l : List (List UInt8)) (n : Int) : List UInt8 := l.getD n.toNat []
def Dk.calm (δ : Dk) : Dk := { δ with left := 0 }
theorem Oj (r : Dk × Wl × Int) : (IQ r).2.2 = r.2.2 ∧ (IQ r).1 = r.1 := by unfold IQ; split <;> exact ⟨rfl, rfl⟩
structure Dur (δ δ0 : Dk) (area : Int) (L : Bs) : Prop where
 len : δ.now.length = δ0.now.length
 mark : ∀ k : Nat, k < 2 → δ.now.getD k [] = δ0.now.getD k []
 marks : ∀ k : Nat, k < 2 → BA δ.old (k : Int) = none
 here : Nd δ area L
 olds : ∀ i : Nat, (i : Int) < Ag δ → ∀ o, BA δ.old (2 + area * Ag δ + (i : Int)) = some o → NJ L i <+: o
structure Lv (δ : Dk) (ω : Wl) (N : Int) : Prop where
 dead : δ.dead = false
 well : Dh δ.calm ω N
 kp : Kp δ ω
 dur : Dur δ δ ω.area (AB (ω.recs.take ω.synced.toNat))
theorem AA4 {σ : Dk} {ω : Wl} {N : Int} (hd : Al σ) (ho : σ.old = []) (hdb : ω.doubt = false) (hfull : ω.synced = ω.recs.length) (size : 2 ≤ σ.now.length ∧ σ.now.length ≤ 32768) (acts : σ.acts ≤ N) (area : 0 ≤ ω.area ∧ ω.area ≤ 1) (count : 1 ≤ ω.count ∧ ω.count ≤ 4294967295)
  (ha : 0 ≤ ω.a ∧ ω.a ≤ 9223372036854775807) (hb : 0 ≤ ω.b ∧ ω.b ≤ 9223372036854775807) (hl : ∀ s ∈ ω.recs, s.length ≤ 4000) (fits : ((AB ω.recs).length : Int) ≤ 64 * Ag σ)
  (this : XW σ ω.count = ω.now.sec) (other : Vd ω.count (XW σ (ω.count + 1))) (hA : Nd σ ω.area (AB ω.recs)) (hok : σ.Ok) : Lv σ ω N ∧ SI σ = some ω := by
 have hk : Kp σ ω := ⟨count.1, ha, hb, hl, this, other, hA⟩
 have hw : Dh σ ω N := ⟨hd, hdb, size, acts, area, ⟨by omega, count.2⟩, ⟨by omega, by omega⟩, fits⟩
 have hc : σ.calm = σ := by
  obtain ⟨n, o, a, l, d⟩ := σ
  have : l = 0 := hd.left
  subst this; rfl
 refine ⟨⟨hd.dead, by rw [hc]; exact hw, hk, ⟨rfl, fun _ _ => rfl, fun k _ => by rw [ho]; rfl, hA.less (Oq _ _), fun i _ o h => by rw [ho] at h; cases h⟩⟩, ?_⟩
 rw [Y3 hk hw hok]
 obtain ⟨r, sy, ar, ct, x, y, db⟩ := ω
 dsimp only at hfull hdb ⊢
 subst hdb
 rw [hfull, Int.toNat_natCast, take_length]
def R0 (Λ : Lg) (f : Lg → Lg) (r : Dk × Wl × Int) : Ld × Int := if (Ce Λ r).2 = 0 then (⟨r.1, r.2.1, f (Ce Λ r).1.Λ⟩, 0) else Ce Λ r
def AAe (Λ : Lg) (n : Nat) : Lg := ⟨Λ.acc, Λ.cur, Λ.base, Λ.snap, Λ.ents.take n, Λ.zxs.take n, Λ.doubt⟩
theorem SB (ω : Wl) (Λ : Lg) (n : Nat) (δ' : Dk) : DE ⟨δ', ω, Λ⟩ n = R0 Λ (fun _ => AAe Λ n) (CK δ' ω (((Ae Λ.base Λ.snap).length + n : Nat) : Int)) := rfl
def AAa (Λ : Lg) (base : Int) (snap : Bs) (es : List Bs) (zs : List Int) : Lg := ⟨Λ.acc, Λ.cur, base, snap, es, zs, Λ.doubt⟩
theorem XJ (ω : Wl) (Λ : Lg) {base : Int} {snap : Bs} {es : List Bs} {zs : List Int} (h : ¬ es.length > 200) (δ' : Dk) : BG ⟨δ', ω, Λ⟩ base snap es zs = R0 Λ (fun _ => AAa Λ base snap es zs) (A1 δ' ω (Ae base snap ++ es)) := by
 unfold BG; rw [if_neg h]; rfl
/-! ### What lasts -/
theorem Iq.cut {Λ : Lg} (h : Iq Λ) (k : Nat) (d : Bool) : Iq ⟨Λ.acc, Λ.cur, Λ.base, Λ.snap, Λ.ents.take k, Λ.zxs.take k, d⟩ :=
 ⟨by have := h.few; show (Λ.ents.take k).length ≤ 200; rw [length_take]; omega, fun x hx => h.each x (mem_of_mem_take hx), h.base, h.snap, h.rows.take k, h.eps⟩
def JW : HP := fun _ => True
theorem F7 {δ : Dk} {ω : Wl} (h : (Ad δ).2 = some ω) : ω = (Fj δ).2.1 := by
 unfold Ad at h
 split at h
 ·cases h
 split at h
 ·cases h
 split at h
 ·cases h
 ·cases h; rfl
theorem Cm {z : Int} (hz : I64 z) : (Bc z).length ≤ 10 := DB (Jl hz)
/- not in this seat -/
/- not in this seat -/
theorem VU (n : Int) : Fn prog 29 #[AA n] [] fun v L => ((n < 16 ∨ 32768 < n) ∧ v = .tuple #[.pointer none, AA 1] ∧ L = []) ∨ ((16 ≤ n ∧ n ≤ 32768) ∧ ∃ x, v = .tuple #[AG x, AA 0] ∧ L = [Bg x (Dk.new n)]) := by
 refine Fn.intro func29 Y Y fun F W => ?_
 refine .sr (.a Y (.an Y (.seq (.sm Y (.ui Y Y Y (.m Y (.dec (t := 6) Y (fun h1_6 => ?_) (fun h1_6 => ?_))))))))
 ·refine .kDT (t := 5) Y h1_6 (.gk (.gk (.pT Y Y (.nt (.condT Y (.sr (.a Y (.an Y (.rt ?_)))))))))
  exact .dn Y Y (.inl ⟨by omega, rfl, rfl⟩)
 refine .kDF (t := 5) Y h1_6 (.gr (.m Y (.gr (.ui Y Y Y (.pF Y Y (.nt (.condD Y (fun h9 => ?_) (fun h9 => ?_))))))))
 ·refine .sr (.a Y (.an Y (.rt ?_)))
  exact .dn Y Y (.inl ⟨by omega, rfl, rfl⟩)
 obtain ⟨hn1, hn2⟩ : 16 ≤ n ∧ n ≤ 32768 := by omega
 refine .sk (.sm Y (.oq (.make Y Y OV ON Y ⟨by simp, by simp; rfl⟩ ?c13) ?_))
 case c13 => omega
 rintro v L' ⟨nb, rfl, rfl⟩
 refine .oq (.makeMap underlying115) ?_
 rintro v L' ⟨ob, rfl, rfl⟩
 refine .q (.build (us := [(0, _), (1, _)]) Zh Yx Y Y (by simp [AD])) Y (.oq (.box Y) ?_)
 rintro v L' ⟨x, rfl, rfl⟩
 refine .a Y (.an Y (.ret (.fold (p := mapR ob []) (.cons (p := pt ob (.map #[] 0)) O .nil) (fun h hp => VI (HX hp)) (.dkFold (nb := nb) (ob := ob) (δ := Dk.new n) O (by simp [Dk.new]; rfl) (Tc _).symm Y (Dk.new_ok om) ?_))))
 exact .dn Y Y (.inr ⟨⟨hn1, hn2⟩, x, Y, Y⟩)
/- not in this seat -/
theorem XI {α : Type} {f : α → List Value} {sz k : Nat} {l : List α} {i : Nat} (hf : ∀ x ∈ l, (f x).length = sz) (hi : i < l.length) (hk : k < sz) : (l.flatMap f)[i * sz + k]? = (f l[i])[k]? := by
 have h := BE hf hi
 rw [← h, List.getElem?_take, if_pos hk, List.getElem?_drop]
section
variable {P : Program} {ops : Array Oper} {n : Nat} {RO : List HP} {H : List Nat} {Fin : EF → List HP → Prop}
variable {j : Nat} {S : List Nat} {E : By} {RW : List HP} {op : Op} {ty : TypeId} {pos : String} {aft : Array Edge}
end
theorem Hb (v : Value) (n : Nat) (xs : List Value) (p : HP) (hr : ∀ h : Hp, p h → B5 1 h v n xs) (hc : ∀ y ∈ xs, AD y = true) (hb : n ≤ 4294967296) : Fn prog 86 #[v] [p] fun u L => (∃ a c, u = .slice a n c) ∧ L = [AV 3 1 u n xs, p] := by
 refine Fn.intro func86 Y Y fun F W => ?_
 refine .rdAny (p := p) hr O fun aa ca e hlen => ?_
 subst e
 refine .sr (.an Y (.seq (.sm Y ?_)))
 rcases aa with _ | aa
 ·refine .q (.sleq Y Y underlying22) Y (.nt (.condT Y (.sr (.an Y (.rt (.nilEmpty (p := p) hr O fun e1 e2 => ?_))))))
  subst e1; subst e2
  refine .add (Ak 3 1) ?_
  exact .dn Y Y ⟨⟨_, _, Y⟩, Y⟩
 refine .q (.sleq Y Y underlying22) Y (.nt (.condF Y (.sk (.sr (.oq (.buildSlice1 (vs := []) BC Fk Y Y Y Y Y dQ) ?_)))))
 rintro v L' ⟨b0, rfl, rfl⟩
 refine .m Y (.slMake (n := 0) (c := 0) (xs := []) (b := b0) O (Nat.le_refl _) (Nat.zero_le _) Y (.oq (.append (n := 0) (m := n) (xs := []) (ys := xs) (p := p) Y Y Y BC (.inl ⟨_, underlying22⟩) Fk Y Y ?hc9 ?hr10 ?hb11 dQ) ?_))
 case hc9 => exact hc
 case hr10 => exact hr
 case hb11 => omega
 rintro v L' ⟨⟨a1, c1, rfl⟩, rfl⟩; rw [Nat.zero_add, nil_append]
 refine .an Y (.ret ?_)
 exact .dn Y Y ⟨⟨_, _, Y⟩, Y⟩
theorem To (a : Int) : Fn prog 183 #[AA a] [] fun v L => v = .bool false ∧ L = [] := by
 refine Fn.intro func183 Y Y fun F W => ?_
 refine .sr (.an Y (.sm Y (.m Y (.q (.as (v' := .bool false) (by simp) (.int Y Y Y)) Y (.an Y (.ret ?_))))))
 exact .vv
theorem Ti (a : Int) : Fn prog 164 #[AA a] [] fun v L => v = .bool false ∧ L = [] := by
 refine Fn.intro func164 Y Y fun F W => ?_
 refine .sr (.an Y (.sm Y (.m Y (.q (.as (v' := .bool false) (by simp) (.int Y Y Y)) Y (.an Y (.ret ?_))))))
 exact .vv
theorem TN (a b : Int) : Fn prog 130 #[AA a, AA b] [] fun v L => v = .bool (decide (a < b)) ∧ L = [] := by
 refine Fn.intro func130 Y Y fun F W => ?_
 refine .sr (.an Y (.sm Y (.cv func164 [_] (Ti a) ?_)))
 refine .m Y (.gk (.gk (.gk (.pF Y Y (.m Y (.gr (.m Y (.gr (.m Y (.gr (.ui Y Y Y (.pF Y Y (.an Y (.ret ?_))))))))))))))
 exact .vv
theorem Yh {zs : List Int} {z : Int} {i : Nat} (hs : zs.Pairwise (· < ·)) (hi : i < zs.length) (h : zs.getD i 0 = z) : z ∈ zs ∧ i = zs.idxOf z := by
 have e : zs[i] = z := by simpa [getD_eq_getElem?_getD, hi] using h
 have hn : zs.Nodup := hs.imp (fun h => by omega)
 refine ⟨e ▸ getElem_mem hi, ?_⟩
 have hl := idxOf_lt_length_of_mem (e ▸ getElem_mem hi : z ∈ zs)
 have h1 : zs[zs.idxOf z] = z := getElem_idxOf hl
 exact (getElem_inj hn).1 (e.trans h1.symm)
theorem Nk {zs : List Int} {z : Int} {i : Nat} (hs : zs.Pairwise (· < ·)) (h1 : ∀ k, k < i → zs.getD k 0 < z) (h2 : ∀ k, i ≤ k → k < zs.length → z ≤ zs.getD k 0) (h : ¬ (i < zs.length ∧ zs.getD i 0 = z)) : ¬ z ∈ zs := by
 intro hm
 obtain ⟨k, hk, hz⟩ := mem_iff_getElem.1 hm
 have e : zs.getD k 0 = z := by simpa [getD_eq_getElem?_getD, hk] using hz
 rcases Nat.lt_or_ge k i with g | g
 ·have := h1 k g; omega
 ·have hi : i < zs.length := by omega
  have h3 := h2 i (Nat.le_refl _) hi
  rcases Nat.eq_or_lt_of_le g with g | g
  ·subst g; exact h ⟨hi, e⟩
  ·have := pairwise_iff_getElem.1 hs i k hi hk g
   have e1 : zs.getD i 0 = zs[i] := by simp [getD_eq_getElem?_getD, hi]
   exact h ⟨hi, by omega⟩
theorem UA (a b : Nat) (h : a + b ≤ 8589934592) : Value.int .i64 (IntKind.i64.wrap ((IntKind.u64.wrap ((a : Int) + b)).fdiv (2 ^ min (1 : Int).toNat IntKind.u64.bits))) = AA (((a + b) / 2 : Nat) : Int) := by
 have e1 : IntKind.u64.wrap ((a : Int) + b) = ((a + b : Nat) : Int) := by
  simp [IntKind.wrap, IntKind.bits, IntKind.signed]; omega
 rw [e1]
 have e2 : ((a + b : Nat) : Int).fdiv (2 ^ min (1 : Int).toNat IntKind.u64.bits) = (((a + b) / 2 : Nat) : Int) := by
  show ((a + b : Nat) : Int).fdiv 2 = _
  rw [Int.fdiv_eq_ediv_of_nonneg _ dQ]; omega
 rw [e2]
 have e3 : IntKind.i64.wrap (((a + b) / 2 : Nat) : Int) = (((a + b) / 2 : Nat) : Int) := by
  rw [N3]; omega
 rw [e3]
theorem Yd {zs : List Int} (hs : zs.Pairwise (· < ·)) {a b : Nat} (h : a < b) (hb : b < zs.length) : zs.getD a 0 < zs.getD b 0 := by
 have := pairwise_iff_getElem.1 hs a b om hb h
 simpa [getD_eq_getElem?_getD, hb, show a < zs.length by omega] using this
theorem AAD {zs : List Int} (hs : zs.Pairwise (· < ·)) {a b : Nat} {z : Int} (hb : b < zs.length) (h : a < b) (hz : zs.getD b 0 < z) : zs.getD a 0 < z := by
 have := Yd hs h hb; omega
theorem AAR {zs : List Int} (hs : zs.Pairwise (· < ·)) {a b : Nat} {z : Int} (h : b ≤ a) (ha : a < zs.length) (hz : ¬ zs.getD b 0 < z) : z ≤ zs.getD a 0 := by
 rcases Nat.eq_or_lt_of_le h with g | g
 ·subst g; omega
 ·have := Yd hs g ha; omega
theorem Nw (va : Value) (zs : List Int) (z : Int) (p : HP) (hr : ∀ h : Hp, p h → B5 1 h va zs.length (Aq zs)) (hs : zs.Pairwise (· < ·)) (hl : zs.length ≤ 4294967296) : Fn prog 166 #[va, AA z] [p] fun v L => (∃ i : Nat, v = .tuple #[AA i, .bool (decide (z ∈ zs))] ∧ (z ∈ zs → i = zs.idxOf z)) ∧ L = [p] := by
 refine Fn.intro func166 Y Y fun F W => ?_
 refine .rdAny (p := p) hr O fun aa ca e0 _ => ?_
 subst e0
 refine .sr (.a Y (.an Y (.sm Y (.q (.slen Y underlying22 Y) Y (.an Y (.sm Y (.a Y (.an Y (.seq (.block (.loopK (ι := Nat × Nat) (fun q E => (7, AA q.1) :: (8, AA q.2) :: E) (fun q => []) (fun q => q.1 ≤ q.2 ∧ q.2 ≤ zs.length ∧ (∀ k, k < q.1 → zs.getD k 0 < z) ∧ ∀ k, q.2 ≤ k → k < zs.length → z ≤ zs.getD k 0) (fun q => q.2 - q.1) (0, zs.length) (ts := [0, 1, 4, 5, 6]) O (⟨Nat.zero_le _, Nat.le_refl _, fun k hk => absurd hk (Nat.not_lt_zero k), fun k h1 h2 => absurd h2 (Nat.not_lt.2 h1)⟩) O O ?_)))))))))))
 rintro ⟨i, j⟩ ⟨hij, hj, hlo, hhi⟩
 dsimp only
 dsimp only at hij hj hlo hhi
 refine .seq (.sm Y (.m Y (.ui Y Y Y (.nt (.condD Y (fun h15 => ?_) (fun h15 => ?_))))))
 ·have hm : (i + j) / 2 < zs.length := by omega
  refine .rdShape (p := p) hr O om fun ba oa e => ?_
  subst e
  refine .sk (.block (.sm Y (.m Y (.q (.add Y Y om) Y (.q (.conv Y underlying3 underlying151) Y (.q (.shr Y Y (by first | decide | omega)) Y (.q (.as (v' := AA (((i + j) / 2 : Nat) : Int)) (by exact UA i j om) (.conv Y underlying151 underlying3)) Y (.an Y (.sm Y (.m Y (.q (.indexAddr Y Y BC om) Y (.q (.loadEl (p := p) (i := ((i + j) / 2) * 1) (v := AA (zs.getD ((i + j) / 2) 0)) Y AF O hr (by have hil : (i + j) / 2 < zs.length := om; simp [Aq, getD_eq_getElem?_getD, hil])) Y ?_))))))))))))
  refine .m Y (.cv func130 [_, _] (TN _ z) ?_)
  refine .nt (.condD Y (fun h27 => ?_) (fun h27 => ?_))
  ·refine .region (.m Y (.q (.add Y Y om) Y (.a Y (.nil (.blk_n (.then_n ?_))))))
   exact .rk (((i + j) / 2 + 1, j)) (⟨by dsimp only; omega, hj, fun k hk => by rcases Nat.lt_or_ge k ((i + j) / 2) with g | g; exact AAD hs om g h27; obtain rfl : k = (i + j) / 2 := (by dsimp only at hk; omega); exact h27, hhi⟩) (by dsimp only; omega) O
  refine .region (.m Y (.a Y (.nil (.blk_n (.then_n ?_)))))
  exact .rk ((i, (i + j) / 2)) (⟨by dsimp only; omega, by dsimp only; omega, hlo, fun k h1 h2 => AAR hs h1 h2 h27⟩) (by dsimp only; omega) O
 refine .xe (.sm Y (.m Y (.m Y (.ui Y Y Y (.m Y (.dec (t := 35) Y (fun h8_35 => ?_) (fun h8_35 => ?_)))))))
 ·refine .rdShape (p := p) hr O om fun ba oa e => ?_
  subst e
  refine .kDT (t := 34) Y h8_35 (.gr (.m Y (.gr (.m Y (.gr (.q (.indexAddr Y Y BC om) Y (.gr (.q (.loadEl (p := p) (i := (i) * 1) (v := AA (zs.getD (i) 0)) Y AF O hr (by have hil : i < zs.length := om; simp [Aq, getD_eq_getElem?_getD, hil])) Y ?_))))))))
  refine .gr (.m Y (.gr (.ui Y Y Y (.gr (.m Y (.dec (t := 42) Y (fun h8_42 => ?_) (fun h8_42 => ?_)))))))
  ·refine .kDT (t := 41) Y h8_42 (.gk (.gk (.gk (.gk (.gk (.gk (.gn (.gn (.gk (.gr (.pT Y Y (.pT Y Y (.a Y (.an Y (.ret ?_)))))))))))))))
   have hji : j = i := by omega
   subst hji
   exact .dn Y Y ⟨⟨_, by rw [decide_eq_true (Yh hs om h8_42).1], fun _ => (Yh hs om h8_42).2⟩, rfl⟩
  refine .kDF (t := 41) Y h8_42 (.gr (.m Y (.gr (.m Y (.gr (.q (.indexAddr Y Y BC om) Y (.gr (.q (.loadEl (p := p) (i := (i) * 1) (v := AA (zs.getD (i) 0)) Y AF O hr (by have hil : i < zs.length := om; simp [Aq, getD_eq_getElem?_getD, hil])) Y ?_))))))))
  refine .gr (.cv func183 [_] (To _) ?_)
  refine .gr (.m Y (.gk (.gk (.gr (.pF Y Y (.gr (.pF Y Y (.pT Y Y (.a Y (.an Y (.ret ?_)))))))))))
  have hji : j = i := by omega
  subst hji
  exact .dn Y Y ⟨⟨_, by rw [decide_eq_false (Nk hs hlo hhi (fun g => h8_42 g.2))], fun h => absurd h (Nk hs hlo hhi (fun g => h8_42 g.2))⟩, rfl⟩
 refine .kDF (t := 34) Y h8_35 (.gk (.gk (.gk (.gk (.gk (.gk (.gk (.gn (.gn (.gn (.gn (.gn (.gn (.gn (.gn (.gn (.gk (.pF Y Y (.a Y (.an Y (.ret ?_)))))))))))))))))))))
 have hji : j = i := by omega
 subst hji
 exact .dn Y Y ⟨⟨_, by rw [decide_eq_false (Nk hs hlo hhi (fun g => by omega))], fun h => absurd h (Nk hs hlo hhi (fun g => by omega))⟩, rfl⟩
theorem RU (g x : Nat) (Λ : Lg) (z : Int) (hΛ : SR Λ) (hs : Λ.zxs.Pairwise (· < ·)) : Fn prog 139 #[AG g, AA z] [BW g x Λ] fun v L => v = .tuple #[AA ((E4 Λ z).getD 0 : Nat), .bool (E4 Λ z).isSome] ∧ L = [BW g x Λ] := by
 refine Fn.intro func139 Y Y fun F W => ?_
 refine .lgOpen O fun ea ec za zc => ?_
 have h1 := hΛ.ents
 have h2 := hΛ.same
 refine .sr (.a Y (.an Y (.sm Y (.nf Y Cl (.u (.ld Y DM) (.m Y (.oq (.call func166 Y Y (vs := [_, _]) Y (Nw _ Λ.zxs z (Cr (.slice za Λ.zxs.length zc) Λ.zxs) (fun h hp => AE hp) hs om)) ?_)))))))
 rintro v L' ⟨⟨i, rfl, hix⟩, rfl⟩
 refine .m Y (.ex Y Y (.ex Y Y (.a Y (.an Y (.seq (.sm Y (.nt (.condD Y (fun h17 => ?_) (fun h17 => ?_)))))))))
 ·have hil := idxOf_lt_length_of_mem h17
  have hi := hix h17
  refine .sm Y (.q (.add Y Y om) Y (.a Y (.an Y (.rt (.lf (g := g) (x := x) (ea := ea) (ec := ec) (za := za) (zc := zc) (m := Λ.ents.length) (k := Λ.zxs.length) Λ ?_)))))
  have hp : E4 Λ z = some (Λ.zxs.idxOf z + 1) := by unfold E4; rw [if_pos h17]
  rw [hp, hi]
  exact .dn Y Y ⟨by simp, rfl⟩
 refine .sk (.seq (.draw [] [[0, 1, 2, 3, 4, 5, 6, 7]] mixed kQ (.g0 (.mv Y Y (.mv Y Y (.nf Y Y Y FC (.kv Y (.ld Y AF) (.kv Y (.int Y Y Y) (.kv Y (.assign Y) (.kv Y (.assign Y) (.pf (.ret (.lf (g := g) (x := x) (ea := ea) (ec := ec) (za := za) (zc := zc) (m := Λ.ents.length) (k := Λ.zxs.length) Λ ?_)))))))))))))
 have hp : E4 Λ z = if z = Λ.base then some 0 else none := by unfold E4; rw [if_neg h17]
 rw [hp]
 exact .dn Y Y ⟨by by_cases hz : z = Λ.base <;> simp [hz], rfl⟩
theorem Ks (g x : Nat) (Λ : Lg) (e : Int) (ea : Option Addr) (ec : Nat) (za : Option Addr) (zc : Nat) : Fn prog 35 #[AG g, AA e] [Ar g [AA Λ.acc, AA Λ.cur, AG x, AA Λ.base, AU Λ.snap, .slice ea Λ.ents.length ec, .slice za Λ.zxs.length zc, .bool Λ.doubt] 90] fun v L => v = AA (CU e) ∧ L = [Ar g [AA Λ.acc, AA Λ.cur, AG x, AA Λ.base, AU Λ.snap, .slice ea Λ.ents.length ec, .slice za Λ.zxs.length zc, .bool (Λ.met e).doubt] 90] := by
 refine Fn.intro func35 Y Y fun F W => ?_
 refine .sr (.an Y (.seq (.sm Y (.nt (.block (.sr (.ui Y Y Y (.an Y (.condD Y (fun h6 => ?_) (fun h6 => ?_))))))))))
 ·refine .region (.m Y (.nf Y F0 (.st Y Y Y Og ?_)))
  refine .nil (.blk_n (.then_n (.sm Y (.an Y (.ret ?_)))))
  have hm : (Λ.met e).doubt = true := by unfold Lg.met; rw [if_pos h6]
  have he : CU e = e := by unfold CU; rw [if_neg om]
  rw [hm, he]
  exact .vv
 refine .seq (.sr (.ui Y Y Y (.an Y (.dec (t := 11) Y (fun h11 => ?_) (fun h11 => ?_)))))
 ·refine .condT Y (.sk (.condT Y (.sr (.an Y (.ret (.blk_r (.then_r ?_)))))))
  have hm : (Λ.met e).doubt = Λ.doubt := by unfold Lg.met; rw [if_neg h6]
  have he : CU e = 83 := by unfold CU; rw [if_pos om]
  rw [hm, he]
  exact .vv
 refine .condF Y (.region (.ui Y Y Y (.an Y (.dec (t := 11) Y (fun h11 => ?_) (fun h11 => ?_)))))
 ·refine .condT Y (.sr (.an Y (.ret (.blk_r (.then_r ?_)))))
  have hm : (Λ.met e).doubt = Λ.doubt := by unfold Lg.met; rw [if_neg h6]
  have he : CU e = 83 := by unfold CU; rw [if_pos om]
  rw [hm, he]
  exact .vv
 refine .condF Y (.skip (.blk_n (.then_n (.sm Y (.an Y (.ret ?_))))))
 have hm : (Λ.met e).doubt = Λ.doubt := by unfold Lg.met; rw [if_neg h6]
 have he : CU e = e := by unfold CU; rw [if_neg om]
 rw [hm, he]
 exact .vv
theorem JI {Λ : Lg} {e : Int} : (Λ.met e).acc = Λ.acc := by unfold Lg.met; split <;> rfl
theorem Ki {Λ : Lg} {e : Int} : (Λ.met e).cur = Λ.cur := by unfold Lg.met; split <;> rfl
theorem Pi {Λ : Lg} {e : Int} : (Λ.met e).base = Λ.base := by unfold Lg.met; split <;> rfl
theorem O5 {Λ : Lg} {e : Int} : (Λ.met e).snap = Λ.snap := by unfold Lg.met; split <;> rfl
theorem JB {Λ : Lg} {e : Int} : (Λ.met e).ents = Λ.ents := by unfold Lg.met; split <;> rfl
theorem Km {Λ : Lg} {e : Int} : (Λ.met e).zxs = Λ.zxs := by unfold Lg.met; split <;> rfl
theorem Vb {Λ : Lg} {e : Int} (h : CU e = 0) : (Λ.met e).doubt = Λ.doubt := by
 unfold Lg.met
 rw [if_neg]
 intro g; rw [g] at h; exact absurd h dQ
theorem UL (g x d : Nat) (δ : Dk) (ω : Wl) (Λ : Lg) (z : Int) (hI : MV δ ω) (hΛ : SR Λ) (hs : Λ.zxs.Pairwise (· < ·)) (hsn : Λ.snap.length ≤ 65536) : Fn prog 90 #[AG g, AA z] [BW g x Λ, CX x d ω, Bg d δ] fun v L => v = AA (CE ⟨δ, ω, Λ⟩ z).2 ∧ L = [BW g x (CE ⟨δ, ω, Λ⟩ z).1.Λ, CX x d (CE ⟨δ, ω, Λ⟩ z).1.ω, Bg d (CE ⟨δ, ω, Λ⟩ z).1.δ] := by
 refine Fn.intro func90 Y Y fun F W => ?_
 refine .lgOpen O fun ea ec za zc => ?_
 have h1 := hΛ.ents
 have h2 := hΛ.same
 have h0 := Js Λ.base Λ.snap hsn
 refine .sr (.an Y (.seq (.sm Y (.nf Y F0 (.u (.ld Y FV) (.nt (.condB Y (fun h11 => ?_) (fun h11 => ?_))))))))
 ·refine .sr (.an Y (.rt ?_))
  have hr : CE ⟨δ, ω, Λ⟩ z = (⟨δ, ω, Λ⟩, 2) := by unfold CE; dsimp only; rw [if_pos h11]
  rw [hr]
  try dsimp only
  refine .lf (g := g) (x := x) Λ ?_
  exact .vv
 refine .sk (.seq (.lf (g := g) (x := x) Λ ?_))
 refine .region (.m Y (.m Y (.cv func139 [_, _] (RU g x Λ z hΛ hs) ?_)))
 refine .m Y (.ex Y Y (.ex Y Y (.a Y (.an Y (.seq (.sr ?_))))))
 rcases hpl : E4 Λ z with _ | n
 ·refine .m Y (.u (.not Y) (.nt (.condT Y (.sr (.an Y (.rt ?_))))))
  have hr : CE ⟨δ, ω, Λ⟩ z = (⟨δ, ω, Λ⟩, 81) := by unfold CE; dsimp only; rw [if_neg (by rw [h11]; decide), hpl]
  rw [hr]
  try dsimp only
  exact .vv
 simp only [Option.getD_some]
 have hpe := (VT hpl).1
 refine .m Y (.u (.not Y) (.nt (.condF Y (.sk (.seq (.lgOpen O fun ea ec za zc => (.slAddr (a := ea) (c := ec) O fun hcap1 hadea => (.slAddr (a := za) (c := zc) O fun hcap2 hadza => (.draw [13, 17, 18] [[0, 1, 2, 3, 4, 5, 6, 7, 8, 9, 10, 11, 12, 15, 13, 14, 16, 17], [18], [19]] mixed kQ (.go [Ar g _ _] O (.k Y (.move Y) (.k Y (.move Y) (.k Y (.nilp Y) (.k Y (.fieldAddr Y Gr) (.k Y (.ld Y LR) (.mv Y Y (.nf Y Y Y FC (.kv Y (.ld Y AF) (.mv Y Y (.nf Y Y Y Kc (.kv Y (.ld Y G9) (.k Y (.move Y) (.hh Y (.c func61 [_, _] (Ha Λ.base Λ.snap hΛ.base om)) ?_)))))))))))))))))))))))
 rintro v L' ⟨bh, ch, rfl, rfl⟩
 refine D.kv Y (.slen Y underlying65 Y) (.kv Y (.as (v' := AA (((Ae Λ.base Λ.snap).length + n : Nat) : Int)) (by simp) (.add Y Y om)) (.hh Y (.c func140 [_, _] (TV x d ω δ (((Ae Λ.base Λ.snap).length + n : Nat) : Int) hI)) ?_))
 rintro v L' ⟨rfl, rfl⟩
 refine D.ph (.g0 (.hh Y (.c func35 [_, _] (Ks g x Λ _ ea ec za zc)) ?_))
 rintro v L' ⟨rfl, rfl⟩
 refine D.ph (.g0 (.kv Y (.assign Y) (.pf (.seq (.sm Y (.ui Y Y Y (.nt (.condD Y (fun h40 => ?_) (fun h40 => ?_)))))))))
 ·refine .draw [16, 19] [[0, 1, 2, 3, 4, 5, 6, 7, 8, 9, 10, 11, 12, 13, 14, 15, 16], [17, 18, 19]] mixed kQ (.g0 (.mv Y Y (.k Y (.move Y) (.mv Y Y (.nf Y Y Y Ds (.kv Y (.ld Y Ch) (.mv Y Y (.kv Y (.to (v' := .slice ea n ec) (.slTo (j := (n : Int)) Y Bu Y om hadea) (by rw [Int.toNat_natCast])) (.mv Y Y (.nf Y Y Y Cl (.kv Y (.ld Y DM) (.k Y (.move Y) (.k Y (.to (v' := .slice za n zc) (.slTo (j := (n : Int)) Y BC Y om hadza) (by rw [Int.toNat_natCast])) (.nf Y Y Y Ds (.hh Y (.store Y Y Y II ?c52 (Bk _ _)) ?_)))))))))))))))
  case c52 => first | decide | (simp; omega) | simp
  rintro v L' rfl
  refine D.ph (.g0 (.nf Y Y Y Cl (.hh Y (.store Y Y Y HV ?c57 (Bk _ _)) ?_)))
  case c57 => first | decide | (simp; omega) | simp
  rintro v L' rfl
  refine D.pf (.sm Y (.an Y (.ret ?_)))
  have hr : CE ⟨δ, ω, Λ⟩ z = DE ⟨δ, ω, Λ⟩ n := by unfold CE; dsimp only; rw [if_neg (by rw [h11]; decide), hpl]
  rw [hr]
  have hr2 : DE ⟨δ, ω, Λ⟩ n = (⟨(CK δ ω (((Ae Λ.base Λ.snap).length + n : Nat) : Int)).1, (CK δ ω (((Ae Λ.base Λ.snap).length + n : Nat) : Int)).2.1, ⟨Λ.acc, Λ.cur, Λ.base, Λ.snap, Λ.ents.take n, Λ.zxs.take n, Λ.doubt⟩⟩, 0) := by unfold DE; dsimp only; rw [if_pos (show (Ce Λ (CK δ ω (((Ae Λ.base Λ.snap).length + n : Nat) : Int))).2 = 0 from h40)]
  rw [hr2, h40]
  try dsimp only
  refine .slTo (a := ea) (c := ec) (m := Λ.ents.length) (k := n) om O (.slTo (a := za) (c := zc) (m := Λ.zxs.length) (k := n) om O ?_)
  have hmd : (Λ.met (CK δ ω (((Ae Λ.base Λ.snap).length + n : Nat) : Int)).2.2).doubt = Λ.doubt := by unfold Lg.met; rw [if_neg (fun g2 => by rw [g2] at h40; exact absurd h40 dQ)]
  rw [hmd]
  refine .lgFold (g := g) (x := x) (ea := ea) (ec := ec) (za := za) (zc := zc) (m := n) (k := n) (⟨Λ.acc, Λ.cur, Λ.base, Λ.snap, Λ.ents.take n, Λ.zxs.take n, Λ.doubt⟩ : Lg) O Y (by simp; omega) (by simp; omega) (by simp [Bo, map_take]) (by simp [Aq, map_take]) ?_
  exact .vv
 refine .sk (.sm Y (.an Y (.ret ?_)))
 have hr : CE ⟨δ, ω, Λ⟩ z = DE ⟨δ, ω, Λ⟩ n := by unfold CE; dsimp only; rw [if_neg (by rw [h11]; decide), hpl]
 rw [hr]
 have hr2 : DE ⟨δ, ω, Λ⟩ n = Ce Λ (CK δ ω (((Ae Λ.base Λ.snap).length + n : Nat) : Int)) := by unfold DE; dsimp only; rw [if_neg (show ¬ (Ce Λ (CK δ ω (((Ae Λ.base Λ.snap).length + n : Nat) : Int))).2 = 0 from h40)]
 rw [hr2]
 try dsimp only
 refine .lgFold (g := g) (x := x) (ea := ea) (ec := ec) (za := za) (zc := zc) (m := Λ.ents.length) (k := Λ.zxs.length) (Λ.met (CK δ ω (((Ae Λ.base Λ.snap).length + n : Nat) : Int)).2.2) O (by rw [JI, Ki, Pi, O5]) (by rw [JB]) (by rw [Km]) (by rw [JB]) (by rw [Km]) ?_
 exact .vv
def Vu (b : Nat) (base : Int) (snap : Bs) (es : List Bs) (zs : List Int) : HP := fun h => ∃ y : (Option Addr × Nat) × (Option Addr × Nat), True ∧ CG [Ar b [AA 0, AA 0, .pointer none, AA base, AU snap, .slice y.1.1 es.length y.1.2, .slice y.2.1 zs.length y.2.2, .bool false] 90,
 Cp (.slice y.1.1 es.length y.1.2) es, Cr (.slice y.2.1 zs.length y.2.2) zs] h
section
variable {W : World} {n : Nat} {ds : List Deferred} {E : By} {L R : List HP} {X : Act → World → Prop}
theorem G.lgNOpen {b : Nat} {base : Int} {snap : Bs} {es : List Bs} {zs : List Int} (hL : BT (Vu b base snap es zs) L R) (h : ∀ ea ec za zc, G W n ds E (Ar b [AA 0, AA 0, .pointer none, AA base, AU snap, .slice ea es.length ec, .slice za zs.length zc, .bool false] 90 :: Cp (.slice ea es.length ec) es :: Cr (.slice za zs.length zc) zs :: R) X) : G W n ds E L X :=
 G.focus hL (G.open (q := fun y : (Option Addr × Nat) × (Option Addr × Nat) => [Ar b [AA 0, AA 0, .pointer none, AA base, AU snap, .slice y.1.1 es.length y.1.2, .slice y.2.1 zs.length y.2.2, .bool false] 90, Cp (.slice y.1.1 es.length y.1.2) es, Cr (.slice y.2.1 zs.length y.2.2) zs]) (φ := fun _ => True) (fun _ hp => hp) fun y _ => h y.1.1 y.1.2 y.2.1 y.2.2)
theorem G.lgNFold {b : Nat} (base : Int) (snap : Bs) (es : List Bs) (zs : List Int) {l xs ys : List Value} {ea za : Option Addr} {ec zc m k : Nat} (hL : Am [Ar b l 90, AV 9 1 (.slice ea m ec) m xs, AV 3 1 (.slice za k zc) k ys] L R)
  (hl : l = [AA 0, AA 0, .pointer none, AA base, AU snap, .slice ea m ec, .slice za k zc, .bool false]) (hm : m = es.length) (hk : k = zs.length) (he : xs = Bo es) (hz : ys = Aq zs) (h : G W n ds E (Vu b base snap es zs :: R) X) : G W n ds E L X := by
 subst hl; subst hm; subst hk; subst he; subst hz
 exact G.fold hL (fun _ hp => ⟨((ea, ec), (za, zc)), trivial, hp⟩) h
end
theorem UW (s : Bs) : (BI s).length = s.length + 6 := by rw [B9]
theorem Oy : ∀ {l : List Bs}, (∀ s ∈ l, s.length ≤ 4000) → (AB l).length ≤ l.length * 4006
 | [], _ => by simp [AB]
 | s :: l, h => by
  have h1 := Oy (l := l) (fun x hx => h x (mem_cons_of_mem _ hx))
  have h2 := h s (mem_cons_self ..)
  have e : AB (s :: l) = BI s ++ AB l := by simp [AB]
  rw [e, length_append, UW, length_cons]
  omega
theorem PT {base : Int} {snap : Bs} {es : List Bs} (hs : snap.length ≤ 65536) (he : es.length ≤ 200) (h : ((Ae base snap ++ es).any fun s => decide (s.length > 4000)) = false) : (AB (Ae base snap ++ es)).length ≤ 3000000 := by
 have h1 := Js base snap hs
 have h2 := Oy (l := Ae base snap ++ es) (fun s hs => by
  have := any_eq_false.1 h s hs
  simpa using this)
 rw [length_append] at h2
 omega
theorem TC {s : Ld} {base : Int} {snap : Bs} {es : List Bs} {zs : List Int} (h : (BG s base snap es zs).2 ≠ 0) : ∃ e, (BG s base snap es zs).1.Λ = s.Λ.met e := by
 unfold BG at h ⊢
 split
 ·exact ⟨0, rfl⟩
 ·rename_i g
  rw [if_neg g] at h
  split
  ·rename_i g2; rw [if_pos g2] at h; exact absurd rfl h
  ·exact ⟨_, rfl⟩
theorem Pp (g x d : Nat) (δ : Dk) (ω : Wl) (Λ : Lg) (base : Int) (snap : Bs) (ve vz : Value) (es : List Bs) (zs : List Int) (ea : Option Addr) (ec : Nat) (za : Option Addr) (zc : Nat) (p : HP) (hI : MV δ ω) (hb : I64 base) (hsn : snap.length ≤ 65536) (hre : ∀ h : Hp, p h → B5 1 h ve es.length (Bo es)) (hrz : ∀ h : Hp, p h → B5 1 h vz zs.length (Aq zs)) (hel : es.length ≤ 4294967296) (hzl : zs.length = es.length) :
    Fn prog 138 #[AG g, .agg [AA 0, AA 0, .pointer none, AA base, AU snap, ve, vz, .bool false].toArray] [Ar g [AA Λ.acc, AA Λ.cur, AG x, AA Λ.base, AU Λ.snap, .slice ea Λ.ents.length ec, .slice za Λ.zxs.length zc, .bool Λ.doubt] 90, CX x d ω, Bg d δ, p] fun v L => v = AA (BG ⟨δ, ω, Λ⟩ base snap es zs).2 ∧ (((BG ⟨δ, ω, Λ⟩ base snap es zs).2 = 0 ∧ L = [BW g x (BG ⟨δ, ω, Λ⟩ base snap es zs).1.Λ, CX x d (BG ⟨δ, ω, Λ⟩ base snap es zs).1.ω, Bg d (BG ⟨δ, ω, Λ⟩ base snap es zs).1.δ, p]) ∨ ((BG ⟨δ, ω, Λ⟩ base snap es zs).2 ≠ 0 ∧ L = [Ar g [AA Λ.acc, AA Λ.cur, AG x, AA Λ.base, AU Λ.snap, .slice ea Λ.ents.length ec, .slice za Λ.zxs.length zc, .bool (BG ⟨δ, ω, Λ⟩ base snap es zs).1.Λ.doubt] 90, CX x d (BG ⟨δ, ω, Λ⟩ base snap es zs).1.ω, Bg d (BG ⟨δ, ω, Λ⟩ base snap es zs).1.δ, p])) := by
 refine Fn.intro func138 Y Y fun F W => ?_
 refine .rdAny (p := p) hre O fun ae ce e _ => ?_
 subst e
 refine .rdAny (p := p) hrz O fun az cz e _ => ?_
 subst e
 have h0 := Js base snap hsn
 refine .sr (.oq (.box Y) ?_)
 rintro v L' ⟨b3, rfl, rfl⟩
 refine .a Y (.nil (.ptCast (b := b3) (l' := [AA 0, AA 0, .pointer none, AA base, AU snap, .slice ae es.length ce, .slice az zs.length cz, .bool false]) O Y (.then_n (.seq (.sr (.fa Y Ds (.u (.ld Y Ch) (.q (.slen Y underlying65 Y) Y (.ui Y Y Y (.nt (.condD Y (fun h9 => ?_) (fun h9 => ?_))))))))))))
 ·refine .sr (.an Y (.rt ?_))
  have hr : BG ⟨δ, ω, Λ⟩ base snap es zs = (⟨δ, ω, Λ⟩, 83) := by unfold BG; rw [if_pos om]
  rw [hr]
  exact .dn Y Y ⟨Y, .inr ⟨show (83 : Int) ≠ 0 by decide, rfl⟩⟩
 refine .sk (.seq (.draw [9, 12, 13, 14] [[0, 1, 2, 3, 4, 5, 6, 7, 8, 10, 11, 9, 12, 13], [14], [15]] mixed kQ (.go [Ar b3 _ _, Ar g _ _] O (.k Y (.move Y) (.k Y (.move Y) (.k Y (.nilp Y) (.k Y (.fieldAddr Y Gr) (.k Y (.ld Y LR) (.kv Y (.fieldAddr Y FC) (.kv Y (.ld Y AF) (.kv Y (.fieldAddr Y Kc) (.kv Y (.ld Y G9) (.k Y (.fieldAddr Y Ds) (.k Y (.ld Y Ch) (.hh Y (.c func61 [_, _] (Ha base snap hb om)) ?_)))))))))))))))
 rintro v L' ⟨bh, ch, rfl, rfl⟩
 refine D.hh Y (.append (n := (Ae base snap).length) (m := es.length) (xs := Bo (Ae base snap)) (ys := Bo es) (p := p) Y Y Y Bu (.inl ⟨_, underlying65⟩) Fp Y Y ?hc22 hre ?hb23 dQ) ?_
 case hc22 => intro y hy; obtain ⟨z, -, rfl⟩ := mem_map.1 hy; rfl
 case hb23 => omega
 rintro v L' ⟨⟨a12, c12, rfl⟩, rfl⟩
 refine D.hh Y (.c func165 [_, _] (Oe x d ω δ (.slice a12 ((Ae base snap).length + es.length) c12) (Ae base snap ++ es) (AV 9 1 (.slice a12 ((Ae base snap).length + es.length) c12) ((Ae base snap).length + es.length) (Bo (Ae base snap) ++ Bo es)) hI ?hr26 ?hln27 ?hlb28)) ?_
 case hr26 => exact fun h hp => (by rw [length_append, show Bo (Ae base snap ++ es) = Bo (Ae base snap) ++ Bo es from map_append]; exact AE hp)
 case hln27 => rw [length_append]; omega
 case hlb28 => exact PT hsn om
 rintro v L' ⟨rfl, rfl⟩
 refine D.ph (.g0 (.hh Y (.c func35 [_, _] (Ks g x Λ _ ea ec za zc)) ?_))
 rintro v L' ⟨rfl, rfl⟩
 refine D.ph (.g0 (.kv Y (.assign Y) (.pf (.seq (.sm Y (.ui Y Y Y (.nt (.condD Y (fun h26 => ?_) (fun h26 => ?_)))))))))
 ·refine .draw [10, 13, 16, 19, 22, 25] [[0, 1, 2, 3, 4, 5, 6, 7, 8, 9, 11, 12, 10, 13, 14, 15, 16, 17, 18, 19, 20, 21, 22], [23, 24, 25]] mixed kQ (.go [Ar b3 _ _] O (.k Y (.move Y) (.k Y (.move Y) (.k Y (.move Y) (.k Y (.move Y) (.k Y (.fieldAddr Y FC) (.k Y (.ld Y AF) (.k Y (.fieldAddr Y Kc) (.k Y (.ld Y G9) (.kv Y (.fieldAddr Y Ds) (.kv Y (.ld Y Ch) (.k Y (.fieldAddr Y Cl) (.k Y (.ld Y DM) (.hh Y (.c func123 [_] (KJ _ es.length (Bo es) p hre ?hc46 ?hb47)) ?_))))))))))))))
  case hc46 => intro y hy; obtain ⟨z, -, rfl⟩ := mem_map.1 hy; rfl
  case hb47 => omega
  rintro v L' ⟨⟨a10, c10, rfl⟩, rfl⟩
  refine D.hh Y (.c func86 [_] (Hb _ zs.length (Aq zs) p hrz ?hc50 ?hb51)) ?_
  case hc50 => intro y hy; obtain ⟨z, -, rfl⟩ := mem_map.1 hy; rfl
  case hb51 => omega
  rintro v L' ⟨⟨a13, c13, rfl⟩, rfl⟩
  refine D.nf Y Y Y FC (.hh Y (.store Y Y Y BV ?c56 (Bk _ _)) ?_)
  case c56 => first | decide | (simp; omega) | simp
  rintro v L' rfl
  refine D.nf Y Y Y Kc (.hh Y (.store Y Y Y Wt ?c61 (Bk _ _)) ?_)
  case c61 => first | decide | (simp; omega) | simp
  rintro v L' rfl
  refine D.nf Y Y Y Ds (.hh Y (.store Y Y Y II ?c66 (Bk _ _)) ?_)
  case c66 => first | decide | (simp; omega) | simp
  rintro v L' rfl
  refine D.ph (.g0 (.nf Y Y Y Cl (.hh Y (.store Y Y Y HV ?c71 (Bk _ _)) ?_)))
  case c71 => first | decide | (simp; omega) | simp
  rintro v L' rfl
  refine D.pf (.sm Y (.an Y (.ret ?_)))
  have hr : BG ⟨δ, ω, Λ⟩ base snap es zs = (⟨(A1 δ ω (Ae base snap ++ es)).1, (A1 δ ω (Ae base snap ++ es)).2.1, ⟨Λ.acc, Λ.cur, base, snap, es, zs, Λ.doubt⟩⟩, 0) := by unfold BG; dsimp only; rw [if_neg om, if_pos (show (Ce Λ (A1 δ ω (Ae base snap ++ es))).2 = 0 from h26)]
  rw [hr, h26]
  dsimp only
  rw [Vb h26]
  refine .lgFold (g := g) (x := x) (ea := a10) (ec := c10) (za := a13) (zc := c13) (m := es.length) (k := zs.length) (⟨Λ.acc, Λ.cur, base, snap, es, zs, Λ.doubt⟩ : Lg) O Y Y Y Y Y ?_
  exact .dn Y Y ⟨Y, .inl ⟨Y, Y⟩⟩
 refine .sk (.sm Y (.an Y (.ret ?_)))
 have hr : BG ⟨δ, ω, Λ⟩ base snap es zs = Ce Λ (A1 δ ω (Ae base snap ++ es)) := by unfold BG; dsimp only; rw [if_neg om, if_neg (show ¬ (Ce Λ (A1 δ ω (Ae base snap ++ es))).2 = 0 from h26)]
 rw [hr]
 exact .dn Y Y ⟨Y, .inr ⟨h26, Y⟩⟩
theorem Zj {p : HP} {h : Hp} (hp : CG [p] h) : ∀ {sz n : Nat} {v : Value} {ys : List Value}, (∀ h, p h → B5 sz h v n ys) → B5 sz h v n ys := by
 obtain ⟨g1, g2, -, le1, le2, q1, q2⟩ := hp
 intro sz n v ys hr
 exact Bm (hr _ q1) le1
/- not in this seat -/
theorem QH (b : Nat) (base : Int) (snap : Bs) (es : List Bs) (zs : List Int) (s : Bs) (z : Int) (hl : es.length ≤ 4294967296) (hm : zs.length ≤ 4294967296) : Fn prog 37 #[AG b, AU s, AA z] [Vu b base snap es zs] fun v L => v = .tuple #[] ∧ L = [Vu b base snap (es ++ [s]) (zs ++ [z])] := by
 refine Fn.intro func37 Y Y fun F W => ?_
 refine .lgNOpen O fun ea ec za zc => (.sm Y (.m Y (.nf Y Ds (.u (.ld Y Ch) (.m Y (.oq (.buildSlice1 (vs := [_]) Bu Fp Y Y Y Y Y dQ) ?_))))))
 rintro v L' ⟨b0, rfl, rfl⟩
 refine .oq (.append1 Y Y Y Bu Fp Y Y ?c9 ?c10 (Nat.le_refl _) ?c11 dQ) ?_
 case c9 => (first | (simp [AD]; done) | (simp [AD, Cd, Value.cells]; done))
 case c10 => rfl
 case c11 => omega
 rintro v L' ⟨⟨a0, c0, rfl⟩, rfl⟩
 refine .nf Y Ds (.st Y Y Y II ?_)
 refine .nt (.region (.m Y (.m Y (.nf Y Cl (.u (.ld Y DM) (.m Y (.oq (.buildSlice1 (vs := [_]) BC Fk Y Y Y Y Y dQ) ?_)))))))
 rintro v L' ⟨b1, rfl, rfl⟩
 refine .oq (.append1 Y Y Y BC Fk Y Y ?c27 ?c28 (Nat.le_refl _) ?c29 dQ) ?_
 case c27 => (first | (simp [AD]; done) | (simp [AD, Cd, Value.cells]; done))
 case c28 => rfl
 case c29 => omega
 rintro v L' ⟨⟨a1, c1, rfl⟩, rfl⟩
 refine .nf Y Cl (.st Y Y Y HV ?_)
 refine .nil (.done_n (.lgNFold (b := b) base snap (es ++ [s]) (zs ++ [z]) O Y (by simp) (by simp) (by simp [Bo, Value.cells]) (by simp [Aq, Value.cells]) ?_))
 exact .vv
theorem P5 {zs : List Int} {i : Nat} (h : i < zs.length) : (Aq zs)[i * 1]? = some (AA (zs.getD i 0)) := by
 rw [Nat.mul_one]; simp [Aq, getD_eq_getElem?_getD, h]
theorem N5 {l : List En} {j : Nat} (h : j < l.length) (hf : C7 l[j] = false) : l.all C7 = false := by
 rw [all_eq_false]; exact ⟨l[j], getElem_mem h, by rw [hf]; decide⟩
theorem VP {l : List En} (h : ∀ j (hj : j < l.length), C7 l[j] = true) : l.all C7 = true := by
 rw [all_eq_true]; intro e he
 obtain ⟨j, hj, rfl⟩ := mem_iff_getElem.1 he
 exact h j hj
theorem Pf {β : Type} {f : En → β} {l : List En} {j : Nat} (h : j < l.length) : (l.take j).map f ++ [f l[j]] = (l.take (j + 1)).map f := by
 rw [take_succ_eq_append_getElem h, map_append]; rfl
theorem Mh (g x d : Nat) (δ : Dk) (ω : Wl) (Λ : Lg) (z : Int) (snap : Bs) (va : Value) (l : List En) (p : HP) (hI : MV δ ω) (hz : I64 z) (hcells : ∀ h : Hp, p h → B5 11 h va l.length (l.flatMap BX)) (hll : l.length ≤ 1073741824) (hx : ∀ e ∈ l, MU p e) : Fn prog 89 #[AG g, AA z, AU snap, va] [BW g x Λ, CX x d ω, Bg d δ, p] fun v L => v = AA (Au ⟨δ, ω, Λ⟩ z snap l).2 ∧ L = [BW g x (Au ⟨δ, ω, Λ⟩ z snap l).1.Λ, CX x d (Au ⟨δ, ω, Λ⟩ z snap l).1.ω, Bg d (Au ⟨δ, ω, Λ⟩ z snap l).1.δ, p] := by
 refine Fn.intro func89 Y Y fun F W => ?_
 refine .lgOpen O fun ea ec za zc => (.rdAny (p := p) hcells O fun a0 c0 e _ => ?_)
 subst e
 refine .sr (.an Y (.seq (.block (.sm Y (.nf Y F0 (.u (.ld Y FV) (.an Y (.condB Y (fun h16 => ?_) (fun h16 => ?_)))))))))
 ·refine .sr (.an Y (.ret (.blk_r (.then_r ?_))))
  have hr : Au ⟨δ, ω, Λ⟩ z snap l = (⟨δ, ω, Λ⟩, 2) := by unfold Au; dsimp only; rw [if_pos h16]
  rw [hr]
  try dsimp only
  refine .lf (g := g) (x := x) Λ ?_
  exact .vv
 refine .sm Y (.ui Y Y Y (.m Y (.dec (t := 24) Y (fun h3_24 => ?_) (fun h3_24 => ?_))))
 ·refine .kDT (t := 23) Y h3_24 (.gk (.gk (.gk (.pT Y Y (.an Y (.condT Y (.sr (.an Y (.ret (.blk_r (.then_r ?_)))))))))))
  have hr : Au ⟨δ, ω, Λ⟩ z snap l = (⟨δ, ω, Λ⟩, 1) := by unfold Au; dsimp only; rw [if_neg (by rw [h16]; decide), if_pos (by first | exact .inl h3_24 | exact .inr om)]
  rw [hr]
  try dsimp only
  refine .lf (g := g) (x := x) (ea := ea) (ec := ec) (za := za) (zc := zc) (m := Λ.ents.length) (k := Λ.zxs.length) Λ ?_
  exact .vv
 refine .kDF (t := 23) Y h3_24 (.gr (.m Y (.gr (.q (.strlen Y underlying9 Y) Y (.gr (.ui Y Y Y (.pF Y Y (.an Y (.condD Y (fun h21 => ?_) (fun h21 => ?_))))))))))
 ·refine .sr (.an Y (.ret (.blk_r (.then_r ?_))))
  have hr : Au ⟨δ, ω, Λ⟩ z snap l = (⟨δ, ω, Λ⟩, 1) := by unfold Au; dsimp only; rw [if_neg (by rw [h16]; decide), if_pos (by first | exact .inl h3_24 | exact .inr om)]
  rw [hr]
  try dsimp only
  refine .lf (g := g) (x := x) (ea := ea) (ec := ec) (za := za) (zc := zc) (m := Λ.ents.length) (k := Λ.zxs.length) Λ ?_
  exact .vv
 refine .skip (.blk_n (.then_n (.sm Y (.m Y (.q (.buildN (pl := [(0, 2), (2, 1), (3, 1), (4, 1), (5, 1), (6, 1), (7, 1)]) (us := [(2, _), (3, _)]) (cells := [AA 0, AA 0, .pointer none, AA z, AU snap, .slice none 0 0, .slice none 0 0, .bool false]) underlying90 kQ VS Y Y) Y (.oq (.allocA VS) ?_))))))
 rintro v L' ⟨b9, rfl, rfl⟩
 refine .sa Y Y AAJ (by simp [AD]) ?_
 refine .nil (.ptCast (b := b9) (l' := [AA 0, AA 0, .pointer none, AA z, AU snap, .slice none 0 0, .slice none 0 0, .bool false]) O Y (.add (Ak 9 1) (.add (Ak 3 1) (.lgNFold (b := b9) (ea := none) (ec := 0) (za := none) (zc := 0) (m := 0) (k := 0) (xs := []) (ys := []) z snap ((l.take 0).map Bd) ((l.take 0).map (·.zx)) O Y Y Y Y Y (.then_n (.seq (.sm Y (.q (.slen Y underlying60 Y) Y (.m Y (.nt (.block (.loopK (ι := Nat) (fun q E => (34, AA q) :: E) (fun q => [Vu b9 z snap ((l.take q).map Bd) ((l.take q).map (·.zx))]) (fun q => q ≤ l.length ∧ ∀ i (hi : i < q) (hl : i < l.length), C7 l[i] = true) (fun q => l.length - q) (0) (ts := [0, 1, 9, 32, 33]) O (⟨Nat.zero_le _, fun i hi => by omega⟩) O O ?_))))))))))))
 rintro j ⟨hj, hft⟩
 refine .sr (.ui Y Y Y (.nt (.seq (.condD Y (fun h35 => ?_) (fun h35 => ?_)))))
 ·have hj2 : j < l.length := by omega
  refine .rdShape (p := p) hcells O om fun ba oa e => ?_
  subst e
  have hX := hx _ (getElem_mem hj2)
  refine .sk (.seq (.block (.sr (.q (.indexAddr Y Y Fr om) Y (.q (.loadRdA (sz := 11) (j := j * 11) (k := 11) (p := p) (vs := BX l[j]) Y D3 O hcells (by simp) om om (BE (f := BX) (sz := 11) (fun _ _ => Y) hj2)) Y (.oq (.allocA Et) ?_))))))
  rintro v L' ⟨b11, rfl, rfl⟩
  refine .sa Y Y H9 (by exact hX.l.cells) ?_
  refine .nil (.ptCast (b := b11) (l' := BX l[j]) O (by exact rfl) (.then_n (.sr (.q (.loadAs (vs := BX l[j]) Y D3 O (by simp [BX, C5]) Y) Y (.oq (.c func33 [_] (L4 l[j] p hX)) ?_)))))
  rintro v L' ⟨s1, hs1, rfl, rfl⟩
  refine .m Y (.ex Y Y (.ex Y Y (.a Y (.an Y (.seq (.sm Y (.u (.not Y) (.nt (.condB Y (fun h44 => ?_) (fun h44 => ?_))))))))))
  ·refine .sr (.an Y (.rt (.blk_r (.then_r (.then_r (.blk_r (.then_r ?_)))))))
   have hr : Au ⟨δ, ω, Λ⟩ z snap l = (⟨δ, ω, Λ⟩, 1) := by unfold Au; dsimp only; rw [if_neg (by rw [h16]; decide), if_neg (by rintro (g1 | g1); exact h3_24 g1; omega), if_pos (N5 hj2 (by simpa using h44))]
   rw [hr]
   try dsimp only
   refine .lf (g := g) (x := x) (ea := ea) (ec := ec) (za := za) (zc := zc) (m := Λ.ents.length) (k := Λ.zxs.length) Λ ?_
   exact .vv
  have hfj : C7 l[j] = true := by simpa using h44
  have hse := hs1 hfj
  subst hse
  refine .sk (.region (.m Y (.fa Y EH (.u (.ld Y AF) (.oq (.c func37 [_, _, _] (QH b9 z snap ((l.take j).map Bd) ((l.take j).map (·.zx)) (Bd l[j]) l[j].zx ?h147 ?h248)) ?_)))))
  case h147 => rw [length_map, length_take]; omega
  case h248 => rw [length_map, length_take]; omega
  rintro v L' ⟨rfl, rfl⟩; rw [Pf hj2, Pf hj2]
  refine .nil (.blk_n (.then_n (.region (.q (.add Y Y om) Y (.m Y (.nt ?_))))))
  exact .rk (j + 1) (⟨by omega, fun i hi hl2 => by rcases Nat.lt_or_ge i j with g1 | g1; exact hft i g1 hl2; obtain rfl : i = j := om; exact hfj⟩) om O
 have hje : j = l.length := by omega
 subst hje
 rw [take_length]
 have hall := VP (fun i hi => hft i hi hi)
 refine .lgNOpen O fun na nc nz nd => ?_
 have hzl : (l.map (·.zx)).length = l.length := length_map _
 refine .xe (.seq (.sr (.fa Y Cl (.u (.ld Y DM) (.q (.slen Y underlying22 Y) Y (.m Y (.nt (.block (.loopK (ι := Nat) (fun q E => (53, AA q) :: E) (fun q => []) (fun q => q ≤ (l.map (·.zx)).length ∧ ∀ k, k < q → z < ((l.map (·.zx))).getD k 0 ∧ (0 < k → ((l.map (·.zx))).getD (k - 1) 0 < ((l.map (·.zx))).getD k 0)) (fun q => (l.map (·.zx)).length - q) (0) (ts := [0, 1, 9, 51, 52]) O (⟨Nat.zero_le _, fun k hk => by omega⟩) O O ?_)))))))))
 rintro i ⟨hi, hgood⟩
 refine .sr (.ui Y Y Y (.nt (.seq (.condD Y (fun h54 => ?_) (fun h54 => ?_)))))
 ·refine .slShape (v := .slice nz _ nd) (xs := Aq (l.map (·.zx))) O om fun bn cq e0 mq _ => ?_
  simp only [Value.slice.injEq, true_and] at e0
  obtain ⟨rfl, rfl⟩ := e0
  refine .sk (.seq (.block (.sm Y (.q (.indexAddr Y Y BC om) Y (.q (.loadEl (p := Cr (.slice (some ⟨bn, 0, none⟩) (l.map (·.zx)).length nd) (l.map (·.zx))) (i := (i) * 1) (v := AA (((l.map (·.zx))).getD (i) 0)) Y AF O (fun h hp => AE hp) (P5 om)) Y (.a Y (.an Y (.sm Y (.m Y (.ui Y Y Y (.m Y (.dec (t := 61) Y (fun h17_61 => ?_) (fun h17_61 => ?_)))))))))))))
  ·refine .kDT (t := 60) Y h17_61 (.gk (.gk (.gk (.gn (.gn (.gn (.gn (.gn (.gn (.gn (.gn (.gk (.pT Y Y (.nt (.condT Y (.sr (.an Y (.ret (.blk_r (.then_r (.then_r (.blk_r (.then_r ?_)))))))))))))))))))))))
   have hr : Au ⟨δ, ω, Λ⟩ z snap l = (⟨δ, ω, Λ⟩, 81) := by unfold Au; dsimp only; rw [if_neg (by rw [h16]; decide), if_neg (by rintro (g1 | g1); exact h3_24 g1; omega), if_neg (by rw [hall]; decide), if_pos (fun hR => by have hRi := hR i om; exact absurd hRi.1 om)]
   rw [hr]
   try dsimp only
   refine .lf (g := g) (x := x) (ea := ea) (ec := ec) (za := za) (zc := zc) (m := Λ.ents.length) (k := Λ.zxs.length) Λ ?_
   exact .vv
  refine .kDF (t := 60) Y h17_61 (.gr (.m Y (.gr (.ui Y Y Y (.gr (.m Y (.dec (t := 64) Y (fun h17_64 => ?_) (fun h17_64 => ?_))))))))
  ·refine .kDT (t := 63) Y h17_64 (.gr (.m Y (.gr (.fa Y Cl (.gr (.u (.ld Y DM) (.gr (.m Y (.gr (.q (.as (v' := AA ((i - 1 : Nat) : Int)) (by congr 1; omega) (.sub Y Y om)) Y (.gr (.q (.indexAddr Y Y BC om) Y (.gr (.q (.loadEl (p := Cr (.slice (some ⟨bn, 0, none⟩) (l.map (·.zx)).length nd) (l.map (·.zx))) (i := (i - 1) * 1) (v := AA (((l.map (·.zx))).getD (i - 1) 0)) Y AF O (fun h hp => AE hp) (P5 om)) Y (.gr (.ui Y Y Y (.gr (.pT Y Y (.pF Y Y (.nt ?_))))))))))))))))))))
   refine .condD Y (fun h74 => ?_) (fun h74 => ?_)
   ·refine .sr (.an Y (.ret (.blk_r (.then_r (.then_r (.blk_r (.then_r ?_)))))))
    have hr : Au ⟨δ, ω, Λ⟩ z snap l = (⟨δ, ω, Λ⟩, 81) := by unfold Au; dsimp only; rw [if_neg (by rw [h16]; decide), if_neg (by rintro (g1 | g1); exact h3_24 g1; omega), if_neg (by rw [hall]; decide), if_pos (fun hR => by have hRi := hR i om; have := hRi.2 om; omega)]
    rw [hr]
    try dsimp only
    refine .lf (g := g) (x := x) (ea := ea) (ec := ec) (za := za) (zc := zc) (m := Λ.ents.length) (k := Λ.zxs.length) Λ ?_
    exact .vv
   refine .skip (.blk_n (.then_n (.region (.q (.add Y Y om) Y (.m Y (.nt ?_))))))
   exact .rk (i + 1) (⟨by omega, fun k hk => by rcases Nat.lt_or_ge k i with g1 | g1; exact hgood k g1; obtain rfl : k = i := om; exact ⟨by omega, fun h0k => by first | omega | exact absurd h0k om⟩⟩) om O
  refine .kDF (t := 63) Y h17_64 (.gk (.gk (.gk (.gk (.gk (.gk (.gk (.gk (.gr (.pF Y Y (.pF Y Y (.nt (.condF Y (.skip (.blk_n (.then_n (.region (.q (.add Y Y om) Y (.m Y (.nt ?_))))))))))))))))))))
  exact .rk (i + 1) (⟨by omega, fun k hk => by rcases Nat.lt_or_ge k i with g1 | g1; exact hgood k g1; obtain rfl : k = i := om; exact ⟨by omega, fun h0k => by first | omega | exact absurd h0k om⟩⟩) om O
 have hR : P4 z (l.map (·.zx)) := fun k hk => hgood k om
 refine .fold (p := CG [Cp (.slice na (l.map Bd).length nc) (l.map Bd), Cr (.slice nz (l.map (·.zx)).length nd) (l.map (·.zx))]) (q := [Cp (.slice na (l.map Bd).length nc) (l.map Bd), Cr (.slice nz (l.map (·.zx)).length nd) (l.map (·.zx))]) O (fun _ hp => hp) (.xe (.sm Y (.q (.loadAs (vs := [AA 0, AA 0, .pointer none, AA z, AU snap, .slice na (l.map Bd).length nc, .slice nz (l.map (·.zx)).length nd, .bool false]) Y AAE O (by simp) Y) Y ?_)))
 have hsp := Pp g x d δ ω Λ z snap (.slice na (l.map Bd).length nc) (.slice nz (l.map (·.zx)).length nd) (l.map Bd) (l.map (·.zx)) ea ec za zc (CG [Cp (.slice na (l.map Bd).length nc) (l.map Bd), Cr (.slice nz (l.map (·.zx)).length nd) (l.map (·.zx))]) hI hz om (fun h hp => (by obtain ⟨g1, g2, -, le1, le2, q1, q2⟩ := hp; exact Bm (AE q1) le1)) (fun h hp => (by obtain ⟨g1, g2, -, le1, le2, q1, q2⟩ := hp; exact Bm (Zj q2 (fun _ q => AE q)) le2)) (by rw [length_map]; omega) (by rw [length_map, length_map])
 refine .oq (.c func138 [_, _] (hsp)) ?_
 rintro v L' ⟨rfl, ⟨hf0, rfl⟩ | ⟨hf1, rfl⟩⟩
 ·refine .an Y (.ret ?_)
  have hr : Au ⟨δ, ω, Λ⟩ z snap l = BG ⟨δ, ω, Λ⟩ z snap (l.map Bd) (l.map (·.zx)) := by unfold Au; dsimp only; rw [if_neg (by rw [h16]; decide), if_neg (by rintro (g1 | g1); exact h3_24 g1; omega), if_neg (by rw [hall]; decide), if_neg (fun g => g hR)]
  rw [hr]
  exact .vv
 refine .an Y (.ret ?_)
 have hr : Au ⟨δ, ω, Λ⟩ z snap l = BG ⟨δ, ω, Λ⟩ z snap (l.map Bd) (l.map (·.zx)) := by unfold Au; dsimp only; rw [if_neg (by rw [h16]; decide), if_neg (by rintro (g1 | g1); exact h3_24 g1; omega), if_neg (by rw [hall]; decide), if_neg (fun g => g hR)]
 rw [hr]
 obtain ⟨e9, he9⟩ := TC hf1
 rw [he9]
 dsimp only
 refine .lgFold (g := g) (x := x) (ea := ea) (ec := ec) (za := za) (zc := zc) (m := Λ.ents.length) (k := Λ.zxs.length) (Λ.met e9) O (by rw [JI, Ki, Pi, O5]) (by rw [JB]) (by rw [Km]) (by rw [JB]) (by rw [Km]) ?_
 exact .vv
/- not in this seat -/
/- not in this seat -/
theorem UV {δ : Dk} {ω : Wl} {ar : Int} {l : List Bs} (h : (Ax δ ω ar l).2.2 = 0) : IQ (Ax δ ω ar l) = ((Ax δ ω ar l).1, { ω with recs := l, synced := l.length, area := ar, count := ω.count + 1 }, 0) := by
 have e : (Ax δ ω ar l).2.1 = { ω with recs := l, synced := l.length, area := ar, count := ω.count + 1 } := by
  unfold Ax at h ⊢
  split
  ·rename_i h1; rw [if_pos h1] at h; exact absurd h (by show ¬ (2 : Int) = 0; decide)
  ·rename_i h1
   rw [if_neg h1] at h
   split
   ·rename_i h2; rw [if_pos h2] at h; exact absurd h (by show ¬ (2 : Int) = 0; decide)
   ·rfl
 unfold IQ
 rw [if_neg (by rw [h]; decide)]
 exact Prod.ext rfl (Prod.ext e h)
theorem T9 {δ : Dk} {ω : Wl} {l : List Bs} (h : (A1 δ ω l).2.2 = 0) : (A1 δ ω l).2.1.recs = l ∧ (A1 δ ω l).2.1.a = ω.a ∧ (A1 δ ω l).2.1.b = ω.b ∧ ∀ s ∈ l, s.length ≤ 4000 := by
 unfold A1 at h ⊢
 split
 ·rename_i g; rw [if_pos g] at h; exact absurd h (by show ¬ (34 : Int) = 0; decide)
 rename_i g1
 rw [if_neg g1] at h
 split
 ·rename_i g; rw [if_pos g] at h; exact absurd h (by show ¬ (33 : Int) = 0; decide)
 rename_i g2
 rw [if_neg g2] at h
 have h4 : ∀ s ∈ l, s.length ≤ 4000 := fun s hs => by
  have := any_eq_false.1 (by simpa using g2 : (l.any fun s => decide (s.length > 4000)) = false) s hs
  simpa using this
 split
 ·rename_i g; rw [if_pos g] at h; exact absurd h (by show ¬ (30 : Int) = 0; decide)
 rename_i g3
 rw [if_neg g3] at h
 split
 ·rename_i g; rw [if_pos g] at h; exact absurd h (by show ¬ (30 : Int) = 0; decide)
 rename_i g4
 rw [if_neg g4] at h
 split
 ·rename_i g; rw [if_pos g, (Oj _).1] at h; exact absurd h g
 rename_i g5
 rw [if_neg g5, (Oj _).1] at h
 rw [UV h]
 exact ⟨rfl, rfl, rfl, h4⟩
theorem Zg {e : Int} (h : CU e = 0) : e = 0 := by unfold CU at h; split at h <;> omega
structure WK (δ : Dk) (ω : Wl) (N : Int) : Prop where
 size : 2 ≤ δ.now.length ∧ δ.now.length ≤ 32768
 acts : δ.acts ≤ N
 area : 0 ≤ ω.area ∧ ω.area ≤ 1
 count : 0 ≤ ω.count ∧ ω.count ≤ 4294967295
 synced : 0 ≤ ω.synced ∧ ω.synced ≤ ω.recs.length
 fits : ((AB ω.recs).length : Int) ≤ 64 * Ag δ
theorem WK.i {δ : Dk} {ω : Wl} {N : Int} (h : WK δ ω N) (hN : N + 10000000 < 4611686018427387904) : MV δ ω := ⟨h.size, by have := h.acts; omega, h.area, h.count, h.synced, h.fits⟩
theorem WK.of {δ : Dk} {ω : Wl} (h : MV δ ω) {N : Int} (hN : δ.acts ≤ N) : WK δ ω N := ⟨h.size, hN, h.area, h.count, h.synced, h.fits⟩
theorem WK.mv {δ δ' : Dk} {ω : Wl} {N M : Int} (h : WK δ ω N) (hl : δ'.now.length = δ.now.length) (ha : δ'.acts ≤ M) : WK δ' ω M := ⟨by rw [hl]; exact h.size, ha, h.area, h.count, h.synced, by rw [Dp hl]; exact h.fits⟩
theorem WK.more {δ : Dk} {ω : Wl} {N M : Int} (h : WK δ ω N) (hN : N ≤ M) : WK δ ω M := h.mv rfl (by have := h.acts; omega)
theorem WK.recs {δ : Dk} {ω : Wl} {N : Int} (h : WK δ ω N) {l : List Bs} {sy ar c a b : Int} {db : Bool} (hs : 0 ≤ sy ∧ sy ≤ l.length) (ha : 0 ≤ ar ∧ ar ≤ 1) (hc : 0 ≤ c ∧ c ≤ 4294967295) (hf : ((AB l).length : Int) ≤ 64 * Ag δ) : WK δ ⟨l, sy, ar, c, a, b, db⟩ N := ⟨h.size, h.acts, ha, hc, hs, hf⟩
theorem Jw {r : Dk × Wl × Int} {N : Int} (h : WK r.1 r.2.1 N) : WK (IQ r).1 (IQ r).2.1 N ∧ (IQ r).2.1.a = r.2.1.a ∧ (IQ r).2.1.b = r.2.1.b := by
 unfold IQ
 split
 ·exact ⟨⟨h.size, h.acts, h.area, h.count, h.synced, h.fits⟩, rfl, rfl⟩
 ·exact ⟨h, rfl, rfl⟩
theorem OG {δ : Dk} {ω : Wl} {N : Int} (h : WK δ ω N) {ar : Int} {l : List Bs} (hc : ω.count ≠ 4294967295) (ha : 0 ≤ ar ∧ ar ≤ 1) (hf : ((AB l).length : Int) ≤ 64 * Ag δ) : WK (Ax δ ω ar l).1 (Ax δ ω ar l).2.1 (N + 4) ∧ (Ax δ ω ar l).2.1.a = ω.a ∧ (Ax δ ω ar l).2.1.b = ω.b := by
 have hk := EZ δ
 have hn := D1 δ.sync.1 (ω.mark ar l ω.a ω.b)
 have h0 := h.acts
 have hct := h.count
 have hl : (BB δ.sync.1 (ω.mark ar l ω.a ω.b)).1.now.length = δ.now.length := by rw [hn.1, hk.1]
 unfold Ax
 split
 ·exact ⟨h.mv (by rw [hk.1]) (by dsimp only; omega), rfl, rfl⟩
 split
 ·exact ⟨h.mv hl (by dsimp only; omega), rfl, rfl⟩
 ·refine ⟨(WK.recs (h.mv hl (M := N + 4) om) ⟨by omega, Int.le_refl _⟩ ha ⟨by omega, by omega⟩ (by rw [Dp hl]; exact hf)), rfl, rfl⟩
theorem M0 {δ : Dk} {ω : Wl} {N : Int} (h : WK δ ω N) (s : Bs) : WK (AM δ ω s).1 (AM δ ω s).2.1 (N + 2000000) ∧ ((AM δ ω s).2.1.a = ω.a ∧ (AM δ ω s).2.1.b = ω.b) ∧ ((AM δ ω s).2.2 = 0 → s.length ≤ 4000) := by
 have hk := IU δ ω.area (AB ω.recs ++ BI s) (AB ω.recs).length
 have h0 := h.acts
 have hh := CP h.size
 have hm := h.more (M := N + 2000000) om
 unfold AM
 split
 ·exact ⟨hm, ⟨rfl, rfl⟩, fun g => absurd (show (34 : Int) = 0 from g) dQ⟩
 split
 ·exact ⟨hm, ⟨rfl, rfl⟩, fun g => absurd (show (33 : Int) = 0 from g) dQ⟩
 split
 ·exact ⟨hm, ⟨rfl, rfl⟩, fun g => absurd (show (30 : Int) = 0 from g) dQ⟩
 rename_i h1 h2 h3
 have hal : (AB ω.recs ++ BI s).length = (AB ω.recs).length + s.length + 6 := by rw [length_append, B9]; omega
 have hM : WK (Ca δ ω.area (AB ω.recs ++ BI s) (AB ω.recs).length).1 ω (N + 2000000) := h.mv hk.1 om
 split
 ·obtain ⟨q1, q2, q3⟩ := Jw (r := ((Ca δ ω.area (AB ω.recs ++ BI s) (AB ω.recs).length).1, ω, (Ca δ ω.area (AB ω.recs ++ BI s) (AB ω.recs).length).2)) hM
  exact ⟨q1, ⟨q2, q3⟩, fun _ => by omega⟩
 ·refine ⟨WK.recs hM ⟨h.synced.1, by have := h.synced.2; rw [length_append, length_singleton]; omega⟩ h.area h.count ?_, ⟨rfl, rfl⟩, fun _ => by omega⟩
  rw [Dp hk.1, CV, length_append, show AB [s] = BI s by simp [AB], B9]; omega
theorem SN {δ : Dk} {ω : Wl} {N : Int} (h : WK δ ω N) : WK (Ay δ ω).1 (Ay δ ω).2.1 (N + 2000000) ∧ (Ay δ ω).2.1.a = ω.a ∧ (Ay δ ω).2.1.b = ω.b := by
 have hm := h.more (M := N + 2000000) om
 unfold Ay
 split
 ·exact ⟨hm, rfl, rfl⟩
 split
 ·exact ⟨hm, rfl, rfl⟩
 split
 ·exact ⟨hm, rfl, rfl⟩
 rename_i h1 h2 h3
 obtain ⟨s1, s2, s3⟩ := OG h (ar := ω.area) (l := ω.recs) h3 h.area h.fits
 obtain ⟨q1, q2, q3⟩ := Jw (s1.more (M := N + 2000000) om)
 exact ⟨q1, q2.trans s2, q3.trans s3⟩
theorem ZV {δ : Dk} {ω : Wl} {N : Int} (h : WK δ ω N) (n : Int) : WK (CK δ ω n).1 (CK δ ω n).2.1 (N + 2000000) ∧ (CK δ ω n).2.1.a = ω.a ∧ (CK δ ω n).2.1.b = ω.b := by
 have hm := h.more (M := N + 2000000) om
 unfold CK
 split
 ·exact ⟨hm, rfl, rfl⟩
 split
 ·exact ⟨hm, rfl, rfl⟩
 split
 ·exact ⟨hm, rfl, rfl⟩
 rename_i h1 h2 h3
 obtain ⟨s1, s2, s3⟩ := OG h (ar := ω.area) (l := ω.recs.take n.toNat) h3 h.area (by have := CM ω.recs n.toNat; have := h.fits; omega)
 obtain ⟨q1, q2, q3⟩ := Jw (s1.more (M := N + 2000000) om)
 exact ⟨q1, q2.trans s2, q3.trans s3⟩
theorem Wr {δ : Dk} {ω : Wl} {N : Int} (h : WK δ ω N) (l : List Bs) : WK (A1 δ ω l).1 (A1 δ ω l).2.1 (N + 2000000) ∧ (A1 δ ω l).2.1.a = ω.a ∧ (A1 δ ω l).2.1.b = ω.b := by
 have hm := h.more (M := N + 2000000) om
 have hk := IU δ (1 - ω.area) (AB l) 0
 have h0 := h.acts
 have hh := CP h.size
 unfold A1
 split
 ·exact ⟨hm, rfl, rfl⟩
 split
 ·exact ⟨hm, rfl, rfl⟩
 split
 ·exact ⟨hm, rfl, rfl⟩
 split
 ·exact ⟨hm, rfl, rfl⟩
 rename_i h1 h2 h3 h4
 have hM : WK (Ca δ (1 - ω.area) (AB l) 0).1 ω (N + 1500000) := h.mv hk.1 om
 split
 ·obtain ⟨q1, q2, q3⟩ := Jw (r := ((Ca δ (1 - ω.area) (AB l) 0).1, ω, (Ca δ (1 - ω.area) (AB l) 0).2)) (hM.more (M := N + 2000000) om)
  exact ⟨q1, q2, q3⟩
 ·have har := h.area
  obtain ⟨s1, s2, s3⟩ := OG hM (ar := 1 - ω.area) (l := l) (fun g => h3 (.inr g)) om (by rw [Dp hk.1]; omega)
  obtain ⟨q1, q2, q3⟩ := Jw (s1.more (M := N + 2000000) om)
  exact ⟨q1, q2.trans s2, q3.trans s3⟩
theorem SW {δ : Dk} {ω : Wl} {N : Int} (h : WK δ ω N) (a b : Int) : WK (Af δ ω a b).1 (Af δ ω a b).2.1 (N + 2000000) ∧ ((Af δ ω a b).2.2 = 0 → (Af δ ω a b).2.1.a = a ∧ (Af δ ω a b).2.1.b = b) ∧ ((Af δ ω a b).2.2 ≠ 0 → (Af δ ω a b).2.1.a = ω.a ∧ (Af δ ω a b).2.1.b = ω.b) := by
 have hm := h.more (M := N + 2000000) om
 have hk := D1 δ (ω.mark ω.area (ω.recs.take ω.synced.toNat) a b)
 have h0 := h.acts
 unfold Af
 split
 ·exact ⟨hm, fun g => absurd (show (34 : Int) = 0 from g) dQ, fun _ => ⟨rfl, rfl⟩⟩
 split
 ·exact ⟨hm, fun g => absurd (show (1 : Int) = 0 from g) dQ, fun _ => ⟨rfl, rfl⟩⟩
 split
 ·exact ⟨hm, fun g => absurd (show (30 : Int) = 0 from g) dQ, fun _ => ⟨rfl, rfl⟩⟩
 rename_i h1 h2 h3
 have hM : WK (BB δ (ω.mark ω.area (ω.recs.take ω.synced.toNat) a b)).1 ω (N + 2000000) := h.mv hk.1 om
 split
 ·rename_i h4
  obtain ⟨q1, q2, q3⟩ := Jw (r := ((BB δ (ω.mark ω.area (ω.recs.take ω.synced.toNat) a b)).1, ω, (BB δ (ω.mark ω.area (ω.recs.take ω.synced.toNat) a b)).2)) hM
  exact ⟨q1, fun g => by rw [(Oj _).1] at g; exact absurd g h4, fun _ => ⟨q2, q3⟩⟩
 ·have hct := h.count
  exact ⟨WK.recs hM h.synced h.area ⟨by omega, by omega⟩ (by rw [Dp hk.1]; exact h.fits), fun _ => ⟨rfl, rfl⟩, fun g => absurd rfl g⟩
structure GU (s : Ld) (N : Int) : Prop where
 wk : WK s.δ s.ω N
 w : Iq s.Λ
 a : s.ω.a = s.Λ.acc
 b : s.ω.b = s.Λ.cur
theorem GU.more {s : Ld} {N M : Int} (h : GU s N) (hN : N ≤ M) : GU s M := ⟨h.wk.more hN, h.w, h.a, h.b⟩
theorem Iq.met {Λ : Lg} (h : Iq Λ) (e : Int) : Iq (Λ.met e) := by
 unfold Lg.met
 split
 ·exact ⟨h.few, h.each, h.base, h.snap, h.rows, h.eps⟩
 ·exact h
theorem Is {s : Ld} {N M : Int} {f : Lg → Lg} {r : Dk × Wl × Int} (h : GU s N) (hr : WK r.1 r.2.1 M) (h0 : r.2.2 = 0 → Iq (f s.Λ) ∧ r.2.1.a = (f s.Λ).acc ∧ r.2.1.b = (f s.Λ).cur) (h1 : r.2.2 ≠ 0 → r.2.1.a = s.ω.a ∧ r.2.1.b = s.ω.b) : GU (R0 s.Λ f r).1 M := by
 unfold R0
 split
 ·rename_i g
  have e0 := Zg g
  obtain ⟨q1, q2, q3⟩ := h0 e0
  have hm : s.Λ.met r.2.2 = s.Λ := by rw [e0]; rfl
  exact ⟨hr, by show Iq (f (s.Λ.met r.2.2)); rw [hm]; exact q1, by show r.2.1.a = (f (s.Λ.met r.2.2)).acc; rw [hm]; exact q2, by show r.2.1.b = (f (s.Λ.met r.2.2)).cur; rw [hm]; exact q3⟩
 ·rename_i g
  have e0 : r.2.2 ≠ 0 := fun e => g (by show CU r.2.2 = 0; rw [e]; rfl)
  obtain ⟨q2, q3⟩ := h1 e0
  exact ⟨hr, h.w.met _, by show r.2.1.a = (s.Λ.met r.2.2).acc; rw [JI, q2]; exact h.a, by show r.2.1.b = (s.Λ.met r.2.2).cur; rw [Ki, q3]; exact h.b⟩
theorem LL {s : Ld} {N : Int} (h : GU s N) {e : En} (he : Wj e) : GU (AK s e).1 (N + 2000000) := by
 have hm := h.more (M := N + 2000000) om
 obtain ⟨q1, ⟨q2, q3⟩, q4⟩ := M0 h.wk (Bd e)
 unfold AK
 split
 ·exact hm
 split
 ·exact hm
 split
 ·exact hm
 split
 ·exact hm
 rename_i h1 h2 h3 h4
 refine Is (f := fun L => L.keep (Bd e) e.zx) h q1 (fun e0 => ⟨?_, by rw [q2]; exact h.a, by rw [q3]; exact h.b⟩) (fun _ => ⟨q2, q3⟩)
 have hf : C7 e = true := by simpa using h2
 have hfew := h.w.few
 refine ⟨?_, fun x hx => ?_, h.w.base, h.w.snap, h.w.rows.keep ⟨e.pl, LW hf he, rfl⟩ he.zx (show PB s.Λ.base s.Λ.zxs < e.zx from Int.not_le.1 h3), h.w.eps⟩
 ·show (s.Λ.ents ++ [Bd e]).length ≤ 200; rw [length_append, length_singleton]; omega
 ·rcases mem_append.1 (show x ∈ s.Λ.ents ++ [Bd e] from hx) with hx | hx
  ·exact h.w.each x hx
  ·rw [mem_singleton] at hx; subst hx; exact q4 e0
theorem LK {s : Ld} {N : Int} (h : GU s N) : GU (AO s).1 (N + 2000000) := by
 obtain ⟨q1, q2, q3⟩ := SN h.wk
 unfold AO
 split
 ·exact h.more om
 ·exact ⟨q1, h.w.met _, by show _ = (s.Λ.met _).acc; rw [JI, ← h.a]; exact q2, by show _ = (s.Λ.met _).cur; rw [Ki, ← h.b]; exact q3⟩
theorem Lp {s : Ld} {N : Int} (h : GU s N) (n : Int) : GU (AR s n).1 (N + 2000000) := by
 have hm := h.more (M := N + 2000000) om
 have he := h.w.eps
 obtain ⟨q1, q2, q3⟩ := SW h.wk n s.Λ.cur
 unfold AR
 split
 ·exact hm
 split
 ·exact hm
 split
 ·exact hm
 rename_i h1 h2 h3
 exact Is (f := fun L => L.setAcc n) h q1 (fun e0 => ⟨⟨h.w.few, h.w.each, h.w.base, h.w.snap, h.w.rows, ⟨he.1, by show s.Λ.cur ≤ n; omega, by show n ≤ _; omega⟩⟩, (q2 e0).1, (q2 e0).2⟩) q3
theorem Qz {s : Ld} {N : Int} (h : GU s N) (n : Int) (hn : 0 ≤ n ∧ n ≤ s.Λ.acc) : GU (BZ s n).1 (N + 2000000) := by
 have he := h.w.eps
 obtain ⟨q1, q2, q3⟩ := SW h.wk s.Λ.acc n
 exact Is (f := fun L => L.setCur n) h q1 (fun e0 => ⟨⟨h.w.few, h.w.each, h.w.base, h.w.snap, h.w.rows, ⟨hn.1, hn.2, he.2.2⟩⟩, (q2 e0).1, (q2 e0).2⟩) q3
theorem UU {s : Ld} {N : Int} (h : GU s N) (n : Int) : GU (AY s n).1 (N + 4000000) := by
 have hm := h.more (M := N + 4000000) om
 have hs := LK h
 have he := h.w.eps
 unfold AY
 split
 ·exact hm
 split
 ·exact hm
 split
 ·exact hs.more om
 rename_i h1 h2 h3
 have hq : (AO s).1.Λ.acc = s.Λ.acc := by
  unfold AO
  split
  ·rfl
  ·exact JI ..
 exact (Qz hs n ⟨by omega, by rw [hq]; omega⟩).more om
theorem Sa {s : Ld} {N : Int} (h : GU s N) (z : Int) : GU (CE s z).1 (N + 2000000) := by
 have hm := h.more (M := N + 2000000) om
 unfold CE
 split
 ·exact hm
 split
 ·exact hm
 ·rename_i n hn
  obtain ⟨q1, q2, q3⟩ := ZV h.wk (((Ae s.Λ.base s.Λ.snap).length + n : Nat) : Int)
  exact Is (f := fun _ => AAe s.Λ n) h q1 (fun _ => ⟨h.w.cut n _, q2.trans h.a, q3.trans h.b⟩) (fun _ => ⟨q2, q3⟩)
theorem Tu {s : Ld} {N : Int} (h : GU s N) {base : Int} {snap : Bs} {es : List Bs} {zs : List Int} (hb : 0 ≤ base ∧ base ≤ 9223372036854775807) (hs : snap.length ≤ 65536) (hr : Cf base es zs) : GU (BG s base snap es zs).1 (N + 2000000) := by
 have hm := h.more (M := N + 2000000) om
 obtain ⟨q1, q2, q3⟩ := Wr h.wk (Ae base snap ++ es)
 unfold BG
 split
 ·exact hm
 rename_i h1
 exact Is (f := fun _ => AAa s.Λ base snap es zs) h q1 (fun e0 => ⟨⟨by show es.length ≤ 200; omega, fun x hx => (T9 e0).2.2.2 x (mem_append_right _ hx), hb, hs, hr, h.w.eps⟩, q2.trans h.a, q3.trans h.b⟩) (fun _ => ⟨q2, q3⟩)
theorem P7 {s : Ld} {N : Int} (h : GU s N) {z : Int} (hz : z ≤ 9223372036854775807) (snap : Bs) {l : List En} (hi : ∀ e ∈ l, Wj e) : GU (Au s z snap l).1 (N + 2000000) := by
 have hm := h.more (M := N + 2000000) om
 unfold Au
 split
 ·exact hm
 split
 ·exact hm
 split
 ·exact hm
 split
 ·exact hm
 rename_i h0 h1 h2 h3
 exact Tu h om om (Lz l z hi (by simpa using h2) (by simpa using h3))
theorem U7 {δ : Dk} (hs : 2 ≤ δ.now.length ∧ δ.now.length ≤ 32768) {N : Int} (ha : δ.acts ≤ N) : WK (Ab δ).1 newW (N + 100) := by
 have hk : (Ab δ).1.now.length = δ.now.length ∧ (Ab δ).1.acts ≤ δ.acts + 100 := by
  unfold Ab
  repeat' split
  all_goals first
   | exact ⟨(B4 δ 3).1, by have := (B4 δ 3).2; dsimp only; omega⟩
   | exact ⟨(B4 δ 2).1, by have := (B4 δ 2).2; dsimp only; omega⟩
   | exact ⟨(B4 δ 1).1, by have := (B4 δ 1).2; dsimp only; omega⟩
   | exact ⟨(B4 δ 0).1, by have := (B4 δ 0).2; dsimp only; omega⟩
 have hh := CP (δ := (Ab δ).1) (by rw [hk.1]; exact hs)
 exact ⟨by rw [hk.1]; exact hs, by omega, ⟨by decide, by decide⟩, ⟨by decide, by decide⟩, ⟨by decide, by decide⟩, by show (0 : Int) ≤ _; omega⟩
theorem QM {δ : Dk} (hs : 2 ≤ δ.now.length ∧ δ.now.length ≤ 32768) {N : Int} (ha : δ.acts ≤ N) : WK (DQ δ).1 (DQ δ).2.1 (N + 2000100) ∧ ((DQ δ).2.1.a = 0 ∧ (DQ δ).2.1.b = 0) ∧ (∀ ω, (Ad δ).2 = some ω → GU ⟨(Ad δ).1, ω, RI⟩ (N + 5000000)) ∧ (2 ≤ (Ad δ).1.now.length ∧ (Ad δ).1.now.length ≤ 32768) ∧ (Ad δ).1.acts ≤ N + 5000000 := by
 have h0 := U7 hs ha
 obtain ⟨q1, ⟨q2, q3⟩, -⟩ := M0 h0 (Cj 0 0)
 have q1 : WK (DQ δ).1 (DQ δ).2.1 (N + 2000100) := q1.more om
 have q2 : (DQ δ).2.1.a = 0 := q2
 have q3 : (DQ δ).2.1.b = 0 := q3
 obtain ⟨r1, r2, r3⟩ := SN q1
 have r1 : WK (Fj δ).1 (Fj δ).2.1 (N + 5000000) := WK.more r1 om
 have r2 : (Fj δ).2.1.a = 0 := r2.trans q2
 have r3 : (Fj δ).2.1.b = 0 := r3.trans q3
 have hW : Iq RI := ⟨Nat.zero_le _, fun s hs => (by cases hs), ⟨by decide, by decide⟩, Nat.zero_le _, trivial, ⟨by decide, by decide, by decide⟩⟩
 refine ⟨q1, ⟨q2, q3⟩, ?_⟩
 unfold Ad
 split
 ·exact ⟨fun ω h => (by cases h), h0.size, by have := h0.acts; dsimp only; omega⟩
 split
 ·exact ⟨fun ω h => (by cases h), q1.size, by have := q1.acts; dsimp only; omega⟩
 split
 ·exact ⟨fun ω h => (by cases h), r1.size, r1.acts⟩
 ·exact ⟨fun ω h => by cases h; exact ⟨r1, hW, r2, r3⟩, r1.size, r1.acts⟩
open Go Go.Sort
abbrev Er (l : List Int) : List Int := Lib.compact l
theorem R9 {P : Program} {ρ : Go.Shelf.Ren} (LM : Lays2.n20 P ρ) (e : TypeId) (v : Value) (n : Nat) (xs : List Int) (hn : n < 4611686018427387904) :
  Fn P (ρ.f 20) #[v] [AV e 1 v n (xs.map AA)] fun u L => (∃ a c, u = .slice a (Er xs).length c) ∧ L = [AV e 1 u (Er xs).length ((Er xs).map AA)] := by
 intro F w hs
 have hs' : St ((fun h => ∃ y : List Value × (Nat × Nat) × (Option (Nat × Nat)), (y.2.2 = none ∧ v = .slice none 0 0 ∧ n = 0 ∧ xs = []) ∨ (∃ b cap, y.2.2 = some (b, cap) ∧ v = .slice (some ⟨b, 0, none⟩) n cap ∧ h b = some (.cells (List.toArray (xs.map AA ++ y.1)) e y.2.1) ∧ xs.length = n ∧ cap ≤ xs.length + y.1.length ∧ n ≤ cap ∧ Rj y.2.1 0 cap)) :: F) w := by
  refine BS (fun h hp => ?_) hs
  rcases hp with ⟨h1, h2, h3⟩ | ⟨b, cap, rest, fr, h1, h2, h3, h4, h5, h6⟩
  ·exact ⟨([], (0, 0), none), .inl ⟨rfl, h1, h2, by simpa using h3⟩⟩
  ·exact ⟨(rest, fr, some (b, cap)), .inr ⟨b, cap, rfl, h1, h2, by simpa using h3, by simpa using h4, h5, by simpa using h6⟩⟩
 obtain ⟨⟨rest, fr, o⟩, h1, h2, hd, a1, a2, hp, hF⟩ := Jv hs'
 rcases hp with ⟨-, rfl, rfl, rfl⟩ | ⟨b, cap, -, rfl, p1, p2, p3, p4, p5⟩
 ·refine (Any.slices_Compact_int_empty LM none 0 w).mono ?_
  rintro en w' ⟨rfl, rfl⟩
  have e0 : Er [] = [] := rfl
  exact ⟨_, _, ⟨⟨none, 0, by rw [e0]; rfl⟩, by rw [e0]; rfl⟩, rfl, hs, .refl _⟩
 ·subst p2
  have hb := a1 _ _ p1
  have hH : Holds (Value.int .i64) w b 0 xs.toArray := by
   intro j hj
   have hj' : j < xs.length := by simpa using hj
   have hb' : w.heap[b]? = some (.cells (xs.map AA ++ rest).toArray e fr) := hb
   refine ⟨?_, ?_⟩
   ·simp only [World.cell?, hb', Nat.zero_add, Option.isSome_none, Bool.false_eq_true, if_false]
    rw [List.getElem?_toArray, List.getElem?_append_left (by simpa using hj')]
    simp [hj']
   ·have := p5 j om (by dsimp only at p3 p4 ⊢; omega)
    simp only [World.frozen?, hb', Nat.zero_add]
    simpa using this
  refine (Any.slices_Compact_int LM b 0 cap xs w hH om p4).mono ?_
  rintro en w' ⟨rfl, k, rfl⟩
  have hle := Lib.compact_length_le xs
  generalize hcs : Lib.compact xs = cs at hle
  have hcl : (cs ++ List.replicate (xs.length - cs.length) 0).length = xs.length := by rw [length_append, length_replicate]; omega
  refine ⟨_, _, ⟨⟨_, _, by unfold Er; rw [hcs]⟩, rfl⟩, rfl, ?_, ?_⟩
  ·have h2b : h2 b = none := (hd b).resolve_left (by rw [p1]; simp)
   have hnew : (putRow (Value.int .i64) (Sort.ahead w k) b 0 (cs ++ List.replicate (xs.length - cs.length) 0).toArray).heap[b]? = some (.cells (putCells (Value.int .i64) 0 (cs ++ List.replicate (xs.length - cs.length) 0).toArray (xs.map AA ++ rest).toArray) e fr) := by
    have hb2 : w.heap[b]? = some (.cells (xs.map AA ++ rest).toArray e fr) := hb
    simp [putRow, mapBlock, Sort.ahead, Array.getElem?_modify, hb2, onCells]
   have hrow : (putCells (Value.int .i64) 0 (cs ++ List.replicate (xs.length - cs.length) 0).toArray (xs.map AA ++ rest).toArray) = (cs.map AA ++ ((List.replicate (xs.length - cs.length) (0 : Int)).map AA ++ rest)).toArray := by
    rw [← append_assoc, ← map_append]
    generalize cs ++ List.replicate (xs.length - cs.length) 0 = ts at hcl
    apply Array.ext_getElem?
    intro j
    simp only [putCells, Array.getElem?_mapIdx, List.getElem?_toArray, Nat.zero_le, true_and, Nat.zero_add, Nat.sub_zero, size_toArray]
    by_cases hj : j < xs.length
    ·rw [List.getElem?_append_left (by simpa using hj), List.getElem?_append_left (by simpa [hcl] using hj)]
     simp [hj, hcl]
    ·rw [List.getElem?_append_right (by simp; omega), List.getElem?_append_right (by simp [hcl]; omega)]
     simp [hj, hcl]
   refine ⟨fun c => if c = b then some (.cells (cs.map AA ++ ((List.replicate (xs.length - cs.length) (0 : Int)).map AA ++ rest)).toArray e fr) else none, h2, fun c => ?_, fun c o e => ?_, fun c o hc => ?_, ?_, hF⟩
   ·by_cases e : c = b
    ·exact .inr (e ▸ h2b)
    ·exact .inl (if_neg e)
   ·by_cases hc : c = b
    ·subst hc
     dsimp only at e
     rw [if_pos rfl] at e
     obtain rfl := Option.some.inj e
     rw [← hrow]; exact hnew
    ·simp [hc] at e
   ·have hcb : c ≠ b := by rintro rfl; rw [h2b] at hc; cases hc
    have hold := a2 _ _ hc
    show (putRow (Value.int .i64) (Sort.ahead w k) b 0 _).heap[c]? = _
    have hold2 : w.heap[c]? = some o := hold
    simp [putRow, mapBlock, Sort.ahead, Array.getElem?_modify, Ne.symm hcb, hold2]
   ·unfold Er; rw [hcs]
    refine .inr ⟨b, cap, _, fr, rfl, if_pos rfl, by simp, ?_, by omega, by simpa using p5⟩
    simp at p3 ⊢; omega
  ·refine ⟨rfl, rfl, rfl, ?_⟩
   show w.heap.size ≤ (putRow (Value.int .i64) (Sort.ahead w k) b 0 _).heap.size
   simp [putRow, mapBlock, Sort.ahead]
structure Fw where
 ld : Int
 ph : Int
 ep : Int
 com : Int
 sil : Int
 heard : List Int
structure Ms where
 kind : Int
 ep : Int
 zx : Int
 nu : Int
 ses : Int
 mv : Value
 data : Bs
 ev : Value
 ents : List En
 q0 : Value
 q1 : Value
 q2 : Value
 q3 : Value
 q4 : Value
 q5 : Value
 q6 : Value
 q7 : Value
 q8 : Value
 q9 : Value
 q10 : Value
def BF (m : Ms) : List Value := [AA m.kind, AA m.ep, AA m.zx, AA m.nu, AA m.ses, m.mv, AU m.data, m.ev, m.q0, m.q1, m.q2, m.q3, m.q4, m.q5, m.q6, m.q7, m.q8, m.q9, m.q10]
structure Or (p : HP) (m : Ms) : Prop where
 kind : I64 m.kind
 ep : I64 m.ep
 zx : I64 m.zx
 nu : I64 m.nu
 cells : ∀ v ∈ BF m, AD v = true
 data : m.data.length ≤ 1048576
 l : ∀ h : Hp, p h → B5 11 h m.ev m.ents.length (m.ents.flatMap BX)
 len : m.ents.length ≤ 1048576
 x : ∀ e ∈ m.ents, MU p e
structure Mo where
 kind : Int
 ep : Int
 zx : Int
 nu : Int
 marks : List Int
def IE (m : Mo) (mv : Value) : List Value := [AA m.kind, AA m.ep, AA m.zx, AA m.nu, AA 0, mv, AU [], .slice none 0 0, AA 0, AA 0, AU [], AU [], .slice none 0 0, AA 0, AA 0, .bool false, .slice none 0 0, .slice none 0 0, .slice none 0 0]
abbrev KT (v : Value) (ld : Int) (m : Mo) (mv : Value) : HP := AV 77 20 v 1 (AA ld :: IE m mv)
def KW (v : Value) (ld : Int) : Option Mo → HP
 | none => fun _ => v = .slice none 0 0
 | some m => fun h => ∃ mv : Value, True ∧ CG [KT v ld m mv, Cr mv m.marks] h
def Tm : Option Mo → Nat
 | none => 0
 | some _ => 1
def G4 (f g : Nat) (F : Fw) : HP := fun h => ∃ y : Option Addr × Nat, True ∧ CG [Ar f [AA F.ld, AG g, AA F.ph, AA F.ep, AA F.com, AA F.sil, .slice y.1 F.heard.length y.2] 98, Cr (.slice y.1 F.heard.length y.2) F.heard] h
section
variable {W : World} {n : Nat} {ds : List Deferred} {E : By} {L R : List HP} {X : Act → World → Prop}
theorem G.rdBoth {p : HP} {sz m : Nat} {v : Value} {ys : List Value} (hr : ∀ h : Hp, p h → B5 sz h v m ys) (hL : BT p L R)
  (h : ∀ a c, v = .slice a m c → (0 < m → ∃ b off, a = some ⟨b, off, none⟩) → G W n ds E L X) : G W n ds E L X := by
 intro a w he hk hs
 obtain ⟨h1, -, hp⟩ := AZ (hs.pick hL)
 rcases hr _ hp with ⟨rfl, rfl, ad, c, rfl⟩ | ⟨b, off, cap, l, T, fr, hv, -⟩
 ·exact h _ _ rfl (fun h0 => absurd h0 om) a w he hk hs
 ·exact h _ _ hv (fun _ => ⟨_, _, rfl⟩) a w he hk hs
theorem G.fwOpen {f g : Nat} {F : Fw} (hL : BT (G4 f g F) L R) (h : ∀ ha hc, G W n ds E (Ar f [AA F.ld, AG g, AA F.ph, AA F.ep, AA F.com, AA F.sil, .slice ha F.heard.length hc] 98 :: Cr (.slice ha F.heard.length hc) F.heard :: R) X) : G W n ds E L X :=
 G.focus hL (G.open (q := fun y : Option Addr × Nat => [Ar f [AA F.ld, AG g, AA F.ph, AA F.ep, AA F.com, AA F.sil, .slice y.1 F.heard.length y.2] 98, Cr (.slice y.1 F.heard.length y.2) F.heard]) (φ := fun _ => True) (fun _ hp => hp) fun y _ => h y.1 y.2)
theorem G.fwFold {f g : Nat} (F : Fw) {l hs : List Value} {ha : Option Addr} {hc m : Nat} (hL : Am [Ar f l 98, AV 3 1 (.slice ha m hc) m hs] L R) (hl : l = [AA F.ld, AG g, AA F.ph, AA F.ep, AA F.com, AA F.sil, .slice ha m hc]) (hm : m = F.heard.length) (hh : hs = Aq F.heard) (h : G W n ds E (G4 f g F :: R) X) : G W n ds E L X := by
 subst hl; subst hm; subst hh
 exact G.fold hL (fun _ hp => ⟨(ha, hc), trivial, hp⟩) h
theorem G.outFold (m : Mo) {v mv : Value} {ld : Int} {l zs : List Value} {k : Nat} (hL : Am [AV 77 20 v 1 l, AV 3 1 mv k zs] L R) (hl : l = AA ld :: IE m mv) (hk : k = m.marks.length) (hz : zs = Aq m.marks) (h : G W n ds E (KW v ld (some m) :: R) X) : G W n ds E L X := by
 subst hl; subst hk; subst hz
 exact G.fold hL (fun _ hp => ⟨mv, trivial, hp⟩) h
theorem G.outNone (ld : Int) (h : G W n ds E (KW (.slice none 0 0) ld none :: L) X) : G W n ds E L X := G.add (fun _ => rfl) h
theorem G.outOpen {v : Value} {ld : Int} {m : Mo} (hL : BT (KW v ld (some m)) L R) (h : ∀ mv, G W n ds E (KT v ld m mv :: Cr mv m.marks :: R) X) : G W n ds E L X :=
 G.focus hL (G.open (q := fun mv : Value => [KT v ld m mv, Cr mv m.marks]) (φ := fun _ => True) (fun _ hp => hp) fun mv _ => h mv)
end
def Fw.lose (F : Fw) : Fw := ⟨F.ld, 4, F.ep, F.com, F.sil, F.heard⟩
def Fw.go (F : Fw) (ph ep : Int) : Fw := ⟨F.ld, ph, ep, F.com, F.sil, F.heard⟩
def Fw.toPh (F : Fw) (ph : Int) : Fw := ⟨F.ld, ph, F.ep, F.com, F.sil, F.heard⟩
def Fw.hush (F : Fw) (s : Int) : Fw := ⟨F.ld, F.ph, F.ep, F.com, s, F.heard⟩
def Fw.comm (F : Fw) (z : Int) : Fw := ⟨F.ld, F.ph, F.ep, max F.com z, F.sil, F.heard⟩
def Fw.hear (F : Fw) (l : List Int) : Fw := ⟨F.ld, F.ph, F.ep, F.com, F.sil, l⟩
def BN : List En → Ld → Ld × Int
 | [], s => AO s
 | e :: l, s => if (AK s e).2 ≠ 0 then AK s e else BN l (AK s e).1
abbrev Fz := Fw × Ld × Option Mo
def EY (F : Fw) (s : Ld) (m : Ms) : Fz :=
 if F.ph > 1 ∨ m.ep < max 1 s.Λ.acc ∨ m.ep > 1073741824 then (F.lose, s, none)
 else if m.ep > s.Λ.acc then
  (if (AR s m.ep).2 ≠ 0 then (F.lose, (AR s m.ep).1, none) else (F.go 1 m.ep, (AR s m.ep).1, some ⟨3, m.ep, 0, (AR s m.ep).1.Λ.cur, A3 (AR s m.ep).1.Λ⟩))
 else (F.go 1 m.ep, s, some ⟨3, m.ep, 0, -1, A3 s.Λ⟩)
def Ea (s : Ld) (z : Int) (l : List En) : Ld × Int := if (CE s z).2 ≠ 0 then CE s z else BN l (CE s z).1
def D2 (s : Ld) (m : Ms) : Ld × Int := if m.nu = 1 then Au s m.zx m.data m.ents else Ea s m.zx m.ents
def Gz (F : Fw) (r : Ld × Int) : Fz := if r.2 ≠ 0 then (F.lose, r.1, none) else if (AY r.1 F.ep).2 ≠ 0 then (F.lose, (AY r.1 F.ep).1, none) else (F.toPh 2, (AY r.1 F.ep).1, some ⟨5, F.ep, 0, 0, []⟩)
def FZ (F : Fw) (s : Ld) (m : Ms) : Fz := if F.ph ≠ 1 ∨ m.ep ≠ F.ep then (F.lose, s, none) else Gz F (D2 s m)
def FY (l : List En) : Int := (l.map (·.zx)).getD 0 0
def DZ (F : Fw) (s : Ld) (m : Ms) : Fz :=
 if ¬ (F.ph = 2 ∨ F.ph = 3) ∨ m.ents.length ≠ 1 ∨ (FY m.ents).tdiv 4294967296 ≠ F.ep then (F.lose, s, none)
 else if (BN m.ents s).2 ≠ 0 then (F.lose, (BN m.ents s).1, none) else (F, (BN m.ents s).1, some ⟨8, 0, FY m.ents, 0, []⟩)
def Dw (F : Fw) (s : Ld) (m : Ms) : Fw := if F.ph = 3 ∧ m.zx ≤ A5 s.Λ then F.comm m.zx else F
def EQ (F : Fw) (s : Ld) (m : Ms) : Fz := if F.ph < 2 then (F, s, none) else ((Dw F s m).hear [], s, some ⟨11, 0, 0, 0, F.heard⟩)
def Ff (F : Fw) (s : Ld) (m : Ms) : Fz := if F.ph ≠ 3 ∨ m.zx > A5 s.Λ then (F.lose, s, none) else (F.comm m.zx, s, none)
def RP (F : Fw) (s : Ld) (m : Ms) : Fz := if F.ph ≠ 2 then (F.lose, s, none) else Ff (F.toPh 3) s m
def BL (F : Fw) (s : Ld) (m : Ms) : Fz :=
 if m.kind = 2 then EY F s m else if m.kind = 4 then FZ F s m else if m.kind = 7 then DZ F s m else if m.kind = 10 then EQ F s m
 else if m.kind = 6 then RP F s m else if m.kind = 9 then Ff F s m else (F, s, none)
def AX (F : Fw) (s : Ld) (m : Ms) : Fz := if F.ph = 4 then (F, s, none) else BL (F.hush 0) s m
def E2 (F : Fw) (s : Ld) : Option Mo := if F.ph = 4 then none else some ⟨1, s.Λ.acc, 0, 0, []⟩
def Bl (F : Fw) (s : Ld) (l : List Int) : Fw × Option Mo :=
 if F.ph = 4 then (F, none) else if F.sil + 1 = 8 then ((F.hush 8).lose, none)
 else (((F.hush (F.sil + 1)).hear (Lib.compact (Bw (F.heard ++ l)))), if F.ph = 0 ∧ (F.sil + 1) % 2 = 0 then some ⟨1, s.Λ.acc, 0, 0, []⟩ else none)
structure FwI (F : Fw) (K : Nat) : Prop where
 sil : F.ph = 4 ∨ (0 ≤ F.sil ∧ F.sil ≤ 7)
 heard : F.heard.length ≤ K
end Go.Proofs.YtjhlofbhpjakgaaGreat
