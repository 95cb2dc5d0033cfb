/- Own work, in part by program, for topShipped.proved. -/
import Derived.Test.YtbhkloaagkkioaaGreatDoorCTShipP1
import Derived.Test.YtbhkloaagkkioaaGreatDoorCTShipP4
import Derived.Test.YtbhkloaagkkioaaGreatDoorCTShipP3
import Derived.Test.YtbhkloaagkkioaaGreatDoorCTShipP2
set_option maxRecDepth 100000
namespace Go.Proofs.YtbhkloaagkkioaaGreatDoor
open Go List Go.Proofs.Tryz
theorem ABX (s:Bs):Fn prog 153 #[AF s] [] fun v L=>v= .bool (decide (s.length>4000))∧L=[]:=by
 refine Fn.intro func153 Y Y fun F W=>?_
 refine Z ?_
 exact .dn Y Y ⟨congrArg Value.bool (decide_eq_decide.2 om),Y⟩
theorem O3 (v:Value) (l:List Bs) (p:HP) (hr:∀h:Hp,p h→CA 1 h v l.length (A1 l)) (hl:l.length≤4294967296):Fn prog 212 #[v, .func (.func 153) #[] #[]] [p] fun u L=>(∃r:Int,u=AA r∧(decide (r≥0)=l.any (fun s:Bs=>decide (s.length>4000))))∧L=[p]:=by
 refine Fn.intro func212 Y Y fun F W=>?_
 refine .rdAny (p:=p) hr O fun aa ca e _=>?_
 subst e
 refine Z ?_
 refine .loopK (ι:=Nat) (fun q E=>(8,AA q)::E) (fun q=>[]) (fun q=>q≤l.length∧∀j (hj:j<q) (hl:j<l.length),¬l[j].length>4000) (fun q=>l.length-q) (0) (ts:=[0,1,7]) O (⟨Nat.zero_le _,fun j hj=>by omega⟩) O O ?_
 rintro i ⟨hi,hb⟩
 refine Z ?_
 refine .condD Y (fun h9=>?_) (fun h9=>?_)
 ·have hi2:i<l.length:=by omega
  refine .rdShape (p:=p) hr O om fun ba oa e=>?_
  subst e
  refine Z ?_
  refine .q (.indexAddr Y Y Br om) Y (.q (.loadRd (sz:=1) (j:=i) (p:=p) (v:=AF l[i]) Y HL O hr (by simp) (by simp [hi2])) Y (.oq (.callV func153 Y Y (us:=[]) (vs:=[_]) (ws:=[]) Y Y (ABX l[i])) ?_))
  rintro v L' ⟨rfl,rfl⟩
  refine .nt (.condD Y (fun h16=>?_) (fun h16=>?_))
  ·refine Z ?_
   exact .dn Y Y ⟨⟨_,Y,by rw [decide_eq_true om];exact (any_eq_true.2 ⟨l[i],getElem_mem hi2,decide_eq_true h16⟩).symm⟩,rfl⟩
  refine Z ?_
  exact .rk (i+1) (⟨by omega,fun j hj hl=>by rcases Nat.lt_or_ge j i with h|h;exact hb j h hl;obtain rfl:j=i:=om;exact h16⟩) om O
 refine Z ?_
 exact .dn Y Y ⟨⟨_,Y,by rw [decide_eq_false dQ];symm;rw [any_eq_false];intro s hs;obtain ⟨j,hj,rfl⟩:=mem_iff_getElem.1 hs;simpa using hb j om hj⟩,rfl⟩
theorem K9 (v:Value) (l:List Bs) (p:HP) (hr:∀h:Hp,p h→CA 1 h v l.length (A1 l)) (hl:l.length≤4294967296):Fn prog 152 #[v, .func (.func 153) #[] #[]] [p] fun u L=>u= .bool (l.any (fun s:Bs=>decide (s.length>4000)))∧L=[p]:=by
 refine Fn.intro func152 Y Y fun F W=>?_
 refine Z ?_
 refine .oq (.c func212 [_,_] (O3 v l p hr hl)) ?_
 rintro v' L' ⟨⟨r,rfl,hrl⟩,rfl⟩
 refine Z ?_
 exact .dn Y Y ⟨congrArg Value.bool hrl,Y⟩
theorem SU (x d:Nat) (ω:Wl) (δ:Dk) (va:Value) (l:List Bs) (p:HP) (hI:WlI δ ω) (hr:∀h:Hp,p h→CA 1 h va l.length (A1 l)) (hln:l.length≤3000000) (hlb2:(l.any fun s=>decide (s.length>4000))=false→(AH l).length≤3000000):Fn prog 94 #[AD x,va] [LW x d ω,DQ d δ,p] fun v L=>v=AA (BA δ ω l).2.2∧L=[LW x d (BA δ ω l).2.1,DQ d (BA δ ω l).1,p]:=by
 refine Fn.introD (vs:=[AD x,va]) func94 Y Y ?_
 intro F W
 refine .wlOpen (ω:=ω) O fun vr vb=>(.slAny (v:=vr) O fun arr crr e _=>?_)
 subst e
 refine .slAny (v:=vb) O fun abb cbb e _=>?_
 subst e
 refine .slAddr (T:=9) O fun hrc hra=>?_
 obtain ⟨hn,hA,har,hct,hsy,hfit⟩:=hI
 have hh:=D3 hn
 have hll:=D0 ω.recs
 have hlk:=PY ((AH l).length+1) δ (1-ω.area) (AH l) (0/64)
 have hlm:=D0 l
 refine .rdAny (p:=p) hr O fun aq cq e _=>?_
 subst e
 refine .sr (.oq (.alloc AEK) ?_)
 rintro v L' ⟨be,rfl,rfl⟩
 refine .nil (.ptCast (b:=be) (l':=[AA 0]) O Y ?_)
 refine Z ?_
 refine .defer (vs:=[_,_]) Y (Z ?_)
 refine .condB Y (fun h8=>?_) (fun h8=>?_)
 ·refine Z ?_
  refine .ptCast (b:=be) (l':=[AA 34]) O Y ?_
  refine Z ?_
  refine .doneD func74 Y Y (BR x d (.slice arr ω.recs.length crr) ω.synced (.slice abb (AH ω.recs).length cbb) ω.area ω.count ω.a ω.b ω.doubt be 34) O ?_
  rintro u L' ⟨rfl,rfl⟩
  have e:BA δ ω l=(δ,ω,34):=by unfold BA;rw [if_pos h8]
  rw [e,if_neg (show ¬(34:Int)=2 by decide)]
  refine .wlFold (x:=x) (d:=d) (ω:=ω) O Y Y Y Y Y ?_
  exact .d1 Y (.cell Y EP O Y) ⟨Y,Y⟩
 have hdb:¬ω.doubt=true:=by rw [h8];decide
 refine Z ?_
 refine .oq (.call func152 Y Y (vs:=[_,_]) Y (K9 _ l p hr om)) ?_
 rintro v L' ⟨rfl,rfl⟩
 refine Z ?_
 refine .condB Y (fun h13=>?_) (fun h13=>?_)
 ·refine Z ?_
  refine .ptCast (b:=be) (l':=[AA 33]) O Y ?_
  refine Z ?_
  refine .doneD func74 Y Y (BR x d (.slice arr ω.recs.length crr) ω.synced (.slice abb (AH ω.recs).length cbb) ω.area ω.count ω.a ω.b ω.doubt be 33) O ?_
  rintro u L' ⟨rfl,rfl⟩
  have e:BA δ ω l=(δ,ω,33):=by unfold BA;rw [if_neg hdb,if_pos h13]
  rw [e,if_neg (show ¬(33:Int)=2 by decide)]
  refine .wlFold (x:=x) (d:=d) (ω:=ω) O Y Y Y Y Y ?_
  exact .d1 Y (.cell Y EP O Y) ⟨Y,Y⟩
 have hlb:=hlb2 (by simpa using h13)
 have hlong:¬l.any (fun s:Bs=>decide (s.length>4000))=true:=by rw [h13];decide
 refine Z ?_
 refine .q (.mul Y Y om) Y (.cv func75 [_,_] (Ma x d (.slice arr ω.recs.length crr) ω.synced (.slice abb (AH ω.recs).length cbb) ω.area ω.count ω.a ω.b ω.doubt δ ((l.length:Int)*6) hn) ?_)
 refine Z ?_
 refine .ndec (t:=23) Y (fun h6_23=>?_) (fun h6_23=>?_)
 ·refine .kNT (t:=22) Y h6_23 (Z ?_)
  refine .ptCast (b:=be) (l':=[AA 30]) O Y ?_
  refine Z ?_
  refine .doneD func74 Y Y (BR x d (.slice arr ω.recs.length crr) ω.synced (.slice abb (AH ω.recs).length cbb) ω.area ω.count ω.a ω.b ω.doubt be 30) O ?_
  rintro u L' ⟨rfl,rfl⟩
  have e:BA δ ω l=(δ,ω,30):=by unfold BA;rw [if_neg hdb,if_neg hlong,if_pos (by first|exact .inl h6_23|exact .inr h16)]
  rw [e,if_neg (show ¬(30:Int)=2 by decide)]
  refine .wlFold (x:=x) (d:=d) (ω:=ω) O Y Y Y Y Y ?_
  exact .d1 Y (.cell Y EP O Y) ⟨Y,Y⟩
 refine .kNF (t:=22) Y h6_23 (Z ?_)
 refine .condD Y (fun h16=>?_) (fun h16=>?_)
 ·refine Z ?_
  refine .ptCast (b:=be) (l':=[AA 30]) O Y ?_
  refine Z ?_
  refine .doneD func74 Y Y (BR x d (.slice arr ω.recs.length crr) ω.synced (.slice abb (AH ω.recs).length cbb) ω.area ω.count ω.a ω.b ω.doubt be 30) O ?_
  rintro u L' ⟨rfl,rfl⟩
  have e:BA δ ω l=(δ,ω,30):=by unfold BA;rw [if_neg hdb,if_neg hlong,if_pos (by first|exact .inl h6_23|exact .inr h16)]
  rw [e,if_neg (show ¬(30:Int)=2 by decide)]
  refine .wlFold (x:=x) (d:=d) (ω:=ω) O Y Y Y Y Y ?_
  exact .d1 Y (.cell Y EP O Y) ⟨Y,Y⟩
 refine Z ?_
 have hfull:¬(¬((l.length:Int)*6≤64*Af δ)∨ω.count=4294967295):=by rintro (h|h);exact h h6_23;exact h16 h
 refine Z ?_
 refine .oq (.call func154 Y Y (vs:=[_]) Y (AA7 _ l p hr om)) ?_
 rintro v L' ⟨⟨al,cl,rfl⟩,rfl⟩
 refine Z ?_
 refine .cv func75 [_,_] (Ma x d (.slice arr ω.recs.length crr) ω.synced (.slice abb (AH ω.recs).length cbb) ω.area ω.count ω.a ω.b ω.doubt δ (AH l).length hn) ?_
 refine Z ?_
 refine .condN Y (fun h36=>?_) (fun h36=>?_)
 ·refine Z ?_
  refine .ptCast (b:=be) (l':=[AA 30]) O Y ?_
  refine Z ?_
  refine .doneD func74 Y Y (BR x d (.slice arr ω.recs.length crr) ω.synced (.slice abb (AH ω.recs).length cbb) ω.area ω.count ω.a ω.b ω.doubt be 30) O ?_
  rintro u L' ⟨rfl,rfl⟩
  have e:BA δ ω l=(δ,ω,30):=by unfold BA;rw [if_neg hdb,if_neg hlong,if_neg hfull,if_pos h36]
  rw [e,if_neg (show ¬(30:Int)=2 by decide)]
  refine .wlFold (x:=x) (d:=d) (ω:=ω) O Y Y Y Y Y ?_
  exact .d1 Y (.cell Y EP O Y) ⟨Y,Y⟩
 refine Z ?_
 refine .oq (.call func78 Y Y (vs:=[_,_,_,_]) Y (Qe x d (.slice arr ω.recs.length crr) ω.synced (.slice abb (AH ω.recs).length cbb) ω.area ω.count ω.a ω.b ω.doubt (.slice al (AH l).length cl) δ (1-ω.area) (AH l) 0 (Ex (.slice al (AH l).length cl) (AH l)) hn om om (fun h hp=>Ad hp) om (Nat.zero_le _))) ?_
 rintro v L' ⟨rfl,rfl⟩
 refine Z ?_
 refine .condN Y (fun h46=>?_) (fun h46=>?_)
 ·refine Z ?_
  refine .ptCast (b:=be) (l':=[AA (DR δ (1-ω.area) (AH l) 0).2]) O Y ?_
  refine Z ?_
  refine .doneD func74 Y Y (BR x d (.slice arr ω.recs.length crr) ω.synced (.slice abb (AH ω.recs).length cbb) ω.area ω.count ω.a ω.b ω.doubt be (DR δ (1-ω.area) (AH l) 0).2) O ?_
  rintro u L' ⟨rfl,rfl⟩
  have h2:(DR δ (1-ω.area) (AH l) 0).2=2:=by rcases Tb δ (1-ω.area) (AH l) 0 with h|h;exact absurd h (by simpa using h46);exact h
  have e:BA δ ω l=((DR δ (1-ω.area) (AH l) 0).1,{ω with doubt:=true},2):=by unfold BA;rw [if_neg hdb,if_neg hlong,if_neg hfull,if_neg (fun h=>h h36),if_pos (by simpa using h46),h2];rfl
  rw [e,h2,if_pos rfl]
  refine .wlFold (x:=x) (d:=d) (ω:={ω with doubt:=true}) O Y Y Y Y Y ?_
  exact .d1 Y (.cell Y EP O Y) ⟨Y,Y⟩
 refine Z ?_
 refine .oq (.c func83 [_,_,_,_] (Q5 x d (.slice arr ω.recs.length crr) (.slice abb (AH ω.recs).length cbb) ω (DR δ (1-ω.area) (AH l) 0).1 (1-ω.area) _ (.slice al (AH l).length cl) l p (Ex (.slice al (AH l).length cl) (AH l)) hct ?hA66 ?hl67 hr (fun h hp=>Ad hp))) ?_
 case hA66=>have:=hlk.2;unfold DR;omega
 case hl67=>omega
 rintro v L' (⟨δ',hs,rfl,rfl⟩|⟨δ',hs,rfl,vr',vb',rfl⟩)
 ·refine Z ?_
  refine .ptCast (b:=be) (l':=[AA 2]) O Y ?_
  refine Z ?_
  refine .doneD func74 Y Y (BR x d (.slice arr ω.recs.length crr) ω.synced (.slice abb (AH ω.recs).length cbb) ω.area ω.count ω.a ω.b ω.doubt be 2) O ?_
  rintro u L' ⟨rfl,rfl⟩
  have e:BA δ ω l=(δ',{ω with doubt:=true},2):=by unfold BA;rw [if_neg hdb,if_neg hlong,if_neg hfull,if_neg (fun h=>h h36),if_neg (by simpa using h46),hs];rfl
  rw [e,if_pos rfl]
  refine .wlFold (x:=x) (d:=d) (ω:={ω with doubt:=true}) O Y Y Y Y Y ?_
  exact .d1 Y (.cell Y EP O Y) ⟨Y,Y⟩
 refine Z ?_
 refine .ptCast (b:=be) (l':=[AA 0]) O Y ?_
 refine Z ?_
 refine .doneD func74 Y Y (BR x d vr' _ vb' _ _ _ _ _ be 0) O ?_
 rintro u L' ⟨rfl,rfl⟩
 have e:BA δ ω l=(δ',{ω with recs:=l,synced:=l.length,area:=1-ω.area,count:=ω.count+1},0):=by unfold BA;rw [if_neg hdb,if_neg hlong,if_neg hfull,if_neg (fun h=>h h36),if_neg (by simpa using h46),hs];rfl
 rw [e,if_neg (show ¬(0:Int)=2 by decide)]
 refine .wlFold (x:=x) (d:=d) (ω:={ω with recs:=l,synced:=l.length,area:=1-ω.area,count:=ω.count+1}) O Y Y Y Y Y ?_
 exact .d1 Y (.cell Y EP O Y) ⟨Y,Y⟩
def Er:Mk:=⟨1,0,0,0,0,0⟩
def F8 (δ:Dk):Nat→Dk×Int
 |0=>(δ,0)
 |1=>δ.write 0 zs
 |2=>(δ.write 0 zs).1.write 1 Er.sec
 |_=>((δ.write 0 zs).1.write 1 Er.sec).1.sync
def newW:Wl:=⟨[],0,0,1,0,0,false⟩
def BN (δ:Dk):Dk×Option Wl:=if (F8 δ 1).2≠0 then ((F8 δ 1).1,none) else if (F8 δ 2).2≠0 then ((F8 δ 2).1,none) else if (F8 δ 3).2≠0 then ((F8 δ 3).1,none) else ((F8 δ 3).1,some newW)
theorem ABF (b1 d:Nat) (δ:Dk) (hA:δ.acts<4611686018427387904):Fn prog 69 #[AD b1] [AW b1 [AD d] 27,DQ d δ] fun v L=>v=AA (δ.write 0 zs).2∧L=[AW b1 [AD d] 27,DQ d (δ.write 0 zs).1]:=by
 refine Fn.intro func69 Y Y fun F W=>?_
 refine Z ?_
 refine .draw [1,3] [[0,1,2],[3],[4]] mixed kQ (.go [AW b1 [AD d] 27] O (Z ?_))
 refine D.hh Y (.make Y Y Bw K2 Y ⟨by simp,by simp;rfl⟩ ?hc3) ?_
 case hc3=>omega
 rintro v L' ⟨bz,rfl,rfl⟩;rw [show (64:Int).toNat=64 from rfl]
 refine D.kv Y (.bytesPt (cs:=zs) Y underlying111 underlying5 underlying9 O Y dQ dQ) (.ph (.g0 (.hh Y (.c func70 [_,_,_] (H0 d δ 0 zs hA)) ?_)))
 rintro v L' ⟨rfl,rfl⟩
 refine D.ph (.g0 (Z ?_))
 exact .vv
theorem Z8 (b1 d:Nat) (δ:Dk) (hA:δ.acts<4611686018427387904):Fn prog 71 #[AD b1] [AW b1 [AD d] 27,DQ d δ] fun v L=>v=AA (δ.write 1 Er.sec).2∧L=[AW b1 [AD d] 27,DQ d (δ.write 1 Er.sec).1]:=by
 refine Fn.intro func71 Y Y fun F W=>?_
 refine Z ?_
 refine .draw [3] [[0,1,2,3],[4]] mixed kQ (.go [AW b1 [AD d] 27] O (Z ?_))
 refine D.kv Y (.to (v':= .agg (D7 Er).toArray) (.build (us:=[(0,_)]) Gm Db Y Y (by simp [AB])) Y) (.m Y kQ (.c func72 [_] (I3 Er)) O ?_)
 refine D.hh Y (.c func70 [_,_,_] (H0 d δ 1 Er.sec hA)) ?_
 rintro v L' ⟨rfl,rfl⟩
 refine D.ph (.g0 (Z ?_))
 exact .vv
theorem IQ (δ:Dk) (i:Nat):(F8 δ i).1.now.length=δ.now.length∧(F8 δ i).1.acts≤δ.acts+3:=by
 have h1:=C1 δ 0 zs
 have h2:=C1 (δ.write 0 zs).1 1 Er.sec
 have h3:=IA ((δ.write 0 zs).1.write 1 Er.sec).1
 match i with
 |0=>exact ⟨rfl,by show δ.acts≤_;omega⟩
 |1=>exact ⟨h1.1,by show (δ.write 0 zs).1.acts≤_;omega⟩
 |2=>exact ⟨by show ((δ.write 0 zs).1.write 1 Er.sec).1.now.length=_;omega,by show ((δ.write 0 zs).1.write 1 Er.sec).1.acts≤_;omega⟩
 |(n+3)=>exact ⟨by show (((δ.write 0 zs).1.write 1 Er.sec).1.sync).1.now.length=_;rw [h3.1];omega,by show (((δ.write 0 zs).1.write 1 Er.sec).1.sync).1.acts≤_;omega⟩
theorem AI3:Ah prog 92=some .nilFunc:=by kernel_rfl
theorem ACe:A9 prog 92=some none:=by kernel_rfl
theorem UT (d:Nat) (δ:Dk) (hA:δ.acts+10<4611686018427387904):Fn prog 31 #[AD d] [DQ d δ] fun v L=>((BN δ).2=none∧v= .tuple #[.pointer none,AA 2]∧L=[DQ d (BN δ).1])∨
    ((BN δ).2=some newW∧∃x,v= .tuple #[AD x,AA 0]∧L=[DQ d (BN δ).1,LW x d newW]):=by
 refine Fn.intro func31 Y Y fun F W=>?_
 have hk:=IQ δ
 refine .sr (.oq (.box Y) ?_)
 rintro v L' ⟨b1,rfl,rfl⟩
 refine .a Y (.a Y (.nil (.ptCast (b:=b1) (l':=[AD d]) O Y ?_)))
 refine .then_n (.seq (.sr (.u (.ld Y AEn) (.q (.ptreq Y Y underlying27) Y (.nt (.condF Y (.sk (.seq (.sr (.q (.func (us:=[]) (vs:=[_]) Y Y) Y (.q (.func (us:=[]) (vs:=[_]) Y Y) Y (.u (.ld Y AEn) (.q (.func (us:=[_]) (vs:=[]) Y Y) Y (.oq (.buildSlice1 (vs:=[_,_,_]) IC AI3 Y Y Y Y Y dQ) ?_))))))))))))))
 rintro v L' ⟨b3_4,rfl,rfl⟩
 refine .q (.slen Y underlying154 Y) Y (.m Y (.nt (.block (.loopK (ι:=Nat) (fun q E=>(14,AA q)::E) (fun q=>[DQ d (F8 δ q).1]) (fun q=>q≤3∧∀j,j<q→(F8 δ (j+1)).2=0) (fun q=>3-q) (0) (ts:=[1,12,13]) O (⟨Nat.zero_le _,fun j hj=>by omega⟩) O O ?_))))
 rintro i ⟨hi,hb⟩
 refine .sr (.ui Y Y Y (.nt (.seq (.condD Y (fun h15=>?_) (fun h15=>?_)))))
 ·refine .sk (.seq (.block (.sr ?_)))
  rcases (show i=0∨i=1∨i=2 by omega) with rfl|rfl|rfl
  ·refine .q (.indexAddr Y Y IC om) Y (.u (.ld Y ACe) (.an Y (.sm Y (.oq (.callV func69 Y Y (us:=[]) (vs:=[]) (ws:=[_]) Y Y (ABF b1 d δ om)) ?_))))
   rintro v L' ⟨rfl,rfl⟩
   refine .ui Y Y Y (.nt (.condN Y (fun h20=>?_) (fun h20=>?_)))
   ·refine .sr (.a Y (.an Y (.ret (.blk_r (.then_r (.then_r (.blk_r (.then_r ?_))))))))
    have hF:BN δ=((F8 δ 1).1,none):=by unfold BN;rw [if_pos (show (F8 δ 1).2≠0 from h20)]
    exact .dn Y Y (.inl ⟨by rw [hF],rfl,by rw [hF]⟩)
   refine .skip (.blk_n (.then_n (.region (.q (.add Y Y om) Y (.m Y (.nt ?_))))))
   exact .rk (1) (⟨by omega,fun j hj=>by rcases Nat.lt_or_ge j 0 with h|h;exact hb j h;obtain rfl:j=0:=om;exact h20⟩) om O
  ·refine .q (.indexAddr Y Y IC om) Y (.u (.ld Y ACe) (.an Y (.sm Y (.oq (.callV func71 Y Y (us:=[]) (vs:=[]) (ws:=[_]) Y Y (Z8 b1 d (F8 δ 1).1 (by have:=(IQ δ 1).2;omega))) ?_))))
   rintro v L' ⟨rfl,rfl⟩
   refine .ui Y Y Y (.nt (.condN Y (fun h20=>?_) (fun h20=>?_)))
   ·refine .sr (.a Y (.an Y (.ret (.blk_r (.then_r (.then_r (.blk_r (.then_r ?_))))))))
    have hF:BN δ=((F8 δ 2).1,none):=by unfold BN;rw [if_neg (by rw [hb 0 om];decide),if_pos (show (F8 δ 2).2≠0 from h20)]
    exact .dn Y Y (.inl ⟨by rw [hF],rfl,by rw [hF]⟩)
   refine .skip (.blk_n (.then_n (.region (.q (.add Y Y om) Y (.m Y (.nt ?_))))))
   exact .rk (2) (⟨by omega,fun j hj=>by rcases Nat.lt_or_ge j 1 with h|h;exact hb j h;obtain rfl:j=1:=om;exact h20⟩) om O
  refine .q (.indexAddr Y Y IC om) Y (.u (.ld Y ACe) (.an Y (.sm Y (.oq (.callV func73 Y Y (us:=[_]) (vs:=[]) (ws:=[]) Y Y (MW d (F8 δ 2).1 ?hA34)) ?_))))
  case hA34=>have:=(IQ δ 2).2;omega
  rintro v L' ⟨rfl,rfl⟩
  refine .ui Y Y Y (.nt (.condN Y (fun h20=>?_) (fun h20=>?_)))
  ·refine .sr (.a Y (.an Y (.ret (.blk_r (.then_r (.then_r (.blk_r (.then_r ?_))))))))
   have hF:BN δ=((F8 δ 3).1,none):=by unfold BN;rw [if_neg (by rw [hb 0 om];decide),if_neg (by rw [hb 1 om];decide),if_pos (show (F8 δ 3).2≠0 from h20)]
   exact .dn Y Y (.inl ⟨by rw [hF],rfl,by rw [hF]⟩)
  refine .skip (.blk_n (.then_n (.region (.q (.add Y Y om) Y (.m Y (.nt ?_))))))
  exact .rk (3) (⟨by omega,fun j hj=>by rcases Nat.lt_or_ge j 2 with h|h;exact hb j h;obtain rfl:j=2:=om;exact h20⟩) om O
 refine .xe (.seq ?_)
 obtain rfl:i=3:=by omega
 refine .add (AU 9 1) (.add (AU 5 1) (.region (.u (.ld Y AEn) (.q (.build (us:=[(0,_),(5,_)]) ADN ADO Y Y (by simp [AB])) Y (.oq (.box Y) ?_)))))
 rintro v L' ⟨x,rfl,rfl⟩
 refine .a Y (.a Y (.nil (.ptCast (b:=x) (l':=[AD d, .slice none 0 0,AA 0, .slice none 0 0,AA 0,AA 1,AA 0,AA 0, .bool false]) O Y ?_)))
 refine .then_n (.ret ?_)
 have hF:BN δ=((F8 δ 3).1,some newW):=by unfold BN;rw [if_neg (by rw [hb 0 om];decide),if_neg (by rw [hb 1 om];decide),if_neg (by rw [hb 2 om];decide)]
 refine .wlFold (x:=x) (d:=d) (ω:=newW) O Y Y Y Y Y ?_
 exact .dn Y Y (.inr ⟨by rw [hF],x,rfl,by rw [hF]⟩)
structure Lg where
 acc:Int
 cur:Int
 base:Int
 snap:Bs
 ents:List Bs
 zxs:List Int
 doubt:Bool
def lg0:Lg:=⟨0,0,0,[],[],[],false⟩
def JL (g x:Nat) (Λ:Lg):HP:=fun h=> ∃y:(Option Addr×Nat)×(Option Addr×Nat),True∧CP [AW g [AA Λ.acc,AA Λ.cur,AD x,AA Λ.base,AF Λ.snap, .slice y.1.1 Λ.ents.length y.1.2, .slice y.2.1 Λ.zxs.length y.2.2, .bool Λ.doubt] 96,
 ET (.slice y.1.1 Λ.ents.length y.1.2) Λ.ents,EO (.slice y.2.1 Λ.zxs.length y.2.2) Λ.zxs] h
section
variable {W:World} {n:Nat} {ds:List Deferred} {E:Bi} {L R:List HP} {X:Act→World→Prop}
theorem G.lgOpen {g x:Nat} {Λ:Lg} (hL:BJ (JL g x Λ) L R) (h:∀ea ec za zc,G W n ds E (AW g [AA Λ.acc,AA Λ.cur,AD x,AA Λ.base,AF Λ.snap, .slice ea Λ.ents.length ec, .slice za Λ.zxs.length zc, .bool Λ.doubt] 96::ET (.slice ea Λ.ents.length ec) Λ.ents::EO (.slice za Λ.zxs.length zc) Λ.zxs::R) X):G W n ds E L X:=
 G.focus hL (G.open (q:=fun y:(Option Addr×Nat)×(Option Addr×Nat)=>[AW g [AA Λ.acc,AA Λ.cur,AD x,AA Λ.base,AF Λ.snap, .slice y.1.1 Λ.ents.length y.1.2, .slice y.2.1 Λ.zxs.length y.2.2, .bool Λ.doubt] 96,ET (.slice y.1.1 Λ.ents.length y.1.2) Λ.ents,EO (.slice y.2.1 Λ.zxs.length y.2.2) Λ.zxs]) (φ:=fun _=>True) (fun _ hp=>hp) fun y _=>h y.1.1 y.1.2 y.2.1 y.2.2)
theorem G.lgFold {g x:Nat} (Λ:Lg) {l es zs:List Value} {ea za:Option Addr} {ec zc m k:Nat} (hL:A4 [AW g l 96,At 9 1 (.slice ea m ec) m es,At 3 1 (.slice za k zc) k zs] L R)
  (hl:l=[AA Λ.acc,AA Λ.cur,AD x,AA Λ.base,AF Λ.snap, .slice ea m ec, .slice za k zc, .bool Λ.doubt]) (hm:m=Λ.ents.length) (hk:k=Λ.zxs.length) (he:es=A1 Λ.ents) (hz:zs=BZ Λ.zxs) (h:G W n ds E (JL g x Λ::R) X):G W n ds E L X:=by
 subst hl;subst hm;subst hk;subst he;subst hz
 exact G.fold hL (fun _ hp=>⟨((ea,ec),(za,zc)),trivial,hp⟩) h
theorem G.lf {g x:Nat} (Λ:Lg) {l es zs:List Value} {ea za:Option Addr} {ec zc m k:Nat} (h:G W n ds E (JL g x Λ::R) X) (hL:A4 [AW g l 96,At 9 1 (.slice ea m ec) m es,At 3 1 (.slice za k zc) k zs] L R:=by repeat' constructor) (hl:l=[AA Λ.acc,AA Λ.cur,AD x,AA Λ.base,AF Λ.snap, .slice ea m ec, .slice za k zc, .bool Λ.doubt]:=by exact rfl) (hm:m=Λ.ents.length:=by first|rfl|simp [Lg.keep]) (hk:k=Λ.zxs.length:=by first|rfl|simp [Lg.keep]) (he:es=A1 Λ.ents:=by first|rfl|simp [Lg.keep]) (hz:zs=BZ Λ.zxs:=by first|rfl|simp [Lg.keep]):G W n ds E L X:=G.lgFold Λ hL hl hm hk he hz h
end
def FX (Λ:Lg):Int:=Λ.zxs.getLast?.getD Λ.base
def Lg.met (Λ:Lg) (e:Int):Lg:=if e=2 then ⟨Λ.acc,Λ.cur,Λ.base,Λ.snap,Λ.ents,Λ.zxs,true⟩ else Λ
def Dj (e:Int):Int:=if e=30∨e=33 then 83 else e
def Lg.keep (Λ:Lg) (s:Bs) (z:Int):Lg:=⟨Λ.acc,Λ.cur,Λ.base,Λ.snap,Λ.ents++[s],Λ.zxs++[z],Λ.doubt⟩
def FE:Nat→Bs→List Bs
 |0,_=>[]
 |f+1,s=>if s=[] then [] else s.take 4000::FE f (s.drop 4000)
def JB (s:Bs):List Bs:=FE s.length s
def CV (base:Int) (n:Nat):Bs:=Bl base++BW n
def BP (base:Int) (snap:Bs):List Bs:=CV base snap.length::JB snap
theorem Je:∀(f g:Nat) (s:Bs),s.length≤f→s.length≤g→FE f s=FE g s
 |0,0,_,_,_=>rfl
 |0,g+1,s,h,_=>by
  have:s=[]:=eq_nil_of_length_eq_zero om
  subst this;rfl
 |f+1,0,s,_,h=>by
  have:s=[]:=eq_nil_of_length_eq_zero om
  subst this;rfl
 |f+1,g+1,s,hf,hg=>by
  unfold FE
  split
  ·rfl
  ·rename_i h
   have:0<s.length:=length_pos_iff.2 h
   rw [Je f g (s.drop 4000) (by rw [length_drop];omega) (by rw [length_drop];omega)]
theorem Xn {s:Bs} (h:s≠[]):JB s=s.take 4000::JB (s.drop 4000):=by
 have hl:0<s.length:=length_pos_iff.2 h
 unfold JB
 rw [Je s.length (s.length-1+1) s om om]
 show (if s=[] then [] else s.take 4000::FE (s.length-1) (s.drop 4000))=_
 rw [if_neg h,Je (s.length-1) (s.drop 4000).length (s.drop 4000) (by rw [length_drop];omega) (Nat.le_refl _)]
theorem Wg:JB []=[]:=rfl
def slen:Value→Nat
 | .slice _ n _=>n
 |_=>0
def W6 (e:En):Bool:=e.subs.all fun y=>decide (slen y.subsV=0)
def EK (e:En):Bool:=W6 e&&(Fg (Cb e)).isSome
structure Ld where
 δ:Dk
 ω:Wl
 Λ:Lg
def IL (Λ:Lg) (r:Dk×Wl×Int):Ld×Int:=(⟨r.1,r.2.1,Λ.met r.2.2⟩,Dj r.2.2)
def Aj (s:Ld) (e:En):Ld×Int:=
 if s.Λ.doubt=true then (s,2) else if EK e=false then (s,1) else if e.zx≤FX s.Λ then (s,81) else if s.Λ.ents.length=200∨((Cb e).length:Int)>Yh s.δ s.ω then (s,83)
 else if (IL s.Λ (Ao s.δ s.ω (Cb e))).2=0 then (⟨(Ao s.δ s.ω (Cb e)).1,(Ao s.δ s.ω (Cb e)).2.1,(IL s.Λ (Ao s.δ s.ω (Cb e))).1.Λ.keep (Cb e) e.zx⟩,0) else IL s.Λ (Ao s.δ s.ω (Cb e))
def Cn (out:List Int) (z:Int):List Int:=
 if z=0 then out else if out≠[]∧(out.getLastD 0)/4294967296=z/4294967296 then out.dropLast++[z] else out++[z]
def SA (Λ:Lg):List Int:=(Λ.base::Λ.zxs).foldl Cn []
structure RP (Λ:Lg):Prop where
 ents:Λ.ents.length≤200
 same:Λ.zxs.length=Λ.ents.length
 each:∀s∈Λ.ents,s.length≤1073741824
 base:Aw Λ.base
 zxs:∀z∈Λ.zxs,Aw z
theorem AD8 (t:Bs) (k:Nat):t.take (min k t.length)=t.take k:=by
 rcases Nat.le_total k t.length with h|h
 ·rw [Nat.min_eq_left h]
 ·rw [Nat.min_eq_right h,take_of_length_le (Nat.le_refl _),take_of_length_le h]
theorem AEv (t:Bs) (k:Nat):t.drop (min k t.length)=t.drop k:=by
 rcases Nat.le_total k t.length with h|h
 ·rw [Nat.min_eq_left h]
 ·rw [Nat.min_eq_right h,drop_eq_nil_of_le (Nat.le_refl _),drop_eq_nil_of_le h]
theorem AO.shaped1 {P:Program} {E:Bi} {o:Oper} {pre R:List HP} {e:TypeId} {sz k:Nat} {ys:List Value} (hk:0<k) (h:AO P o E pre fun v L'=>(∃a c,v= .slice a k c)∧L'=At e sz v k ys::R):
  AO P o E pre fun v L'=> ∃b c,v= .slice (some ⟨b,0,none⟩) k c∧L'=At e sz v k ys::R:=by
 intro ρ w F ha hs
 refine (h ρ w F ha hs).mono ?_
 rintro v w' ⟨L',⟨-,rfl⟩,hs',hk'⟩
 obtain ⟨h1,-,hp⟩:=Ae hs'
 rcases hp with ⟨-,h2,-⟩|⟨b,cap,rest,fr,hv,-⟩
 ·omega
 ·exact ⟨_,⟨b,cap,hv,rfl⟩,hs',hk'⟩
theorem Nt (g x:Nat) (Λ:Lg) (s:Bs) (z:Int) (hl:RP Λ):Fn prog 38 #[AD g,AF s,AA z] [JL g x Λ] fun v L=>v= .tuple #[]∧L=[JL g x (Λ.keep s z)]:=by
 refine Fn.intro func38 Y Y fun F W=>?_
 refine .lgOpen O fun ea ec za zc=>?_
 have h1:=hl.ents
 have h2:=hl.same
 refine Z ?_
 refine .oq (.buildSlice1 (vs:=[_]) Br Gf Y Y Y Y Y dQ) ?_
 rintro v L' ⟨b0,rfl,rfl⟩
 refine .oq (.append1 Y Y Y Br Gf Y Y ?c9 ?c10 (Nat.le_refl _) ?c11 dQ) ?_
 case c9=>(first|(simp [AB];done)|(simp [AB,AQ,Value.cells];done))
 case c10=>rfl
 case c11=>omega
 rintro v L' ⟨⟨a0,c0,rfl⟩,rfl⟩
 refine Z ?_
 refine .oq (.buildSlice1 (vs:=[_]) Bv FA Y Y Y Y Y dQ) ?_
 rintro v L' ⟨b1,rfl,rfl⟩
 refine .oq (.append1 Y Y Y Bv FA Y Y ?c27 ?c28 (Nat.le_refl _) ?c29 dQ) ?_
 case c27=>(first|(simp [AB];done)|(simp [AB,AQ,Value.cells];done))
 case c28=>rfl
 case c29=>omega
 rintro v L' ⟨⟨a1,c1,rfl⟩,rfl⟩
 refine Z ?_
 refine .done_n (.lf (g:=g) (x:=x) (Λ.keep s z) ?_)
 exact .vv
theorem AAD (g x:Nat) (Λ:Lg) (e:Int):Fn prog 37 #[AD g,AA e] [JL g x Λ] fun v L=>v=AA (Dj e)∧L=[JL g x (Λ.met e)]:=by
 refine Fn.intro func37 Y Y fun F W=>?_
 refine .lgOpen O fun ea ec za zc=>(Z ?_)
 refine .condD Y (fun h6=>?_) (fun h6=>?_)
 ·refine Z ?_
  have hm:Λ.met e=⟨Λ.acc,Λ.cur,Λ.base,Λ.snap,Λ.ents,Λ.zxs,true⟩:=by unfold Lg.met;rw [if_pos h6]
  have he:Dj e=e:=by unfold Dj;rw [if_neg om]
  rw [hm,he]
  refine .lf (g:=g) (x:=x) ⟨Λ.acc,Λ.cur,Λ.base,Λ.snap,Λ.ents,Λ.zxs,true⟩ ?_
  exact .vv
 refine Z ?_
 refine .dec (t:=11) Y (fun h11=>?_) (fun h11=>?_)
 ·refine Z ?_
  have hm:Λ.met e=Λ:=by unfold Lg.met;rw [if_neg h6]
  have he:Dj e=83:=by unfold Dj;rw [if_pos om]
  rw [hm,he]
  refine .lf (g:=g) (x:=x) Λ ?_
  exact .vv
 refine Z ?_
 refine .dec (t:=11) Y (fun h11=>?_) (fun h11=>?_)
 ·refine Z ?_
  have hm:Λ.met e=Λ:=by unfold Lg.met;rw [if_neg h6]
  have he:Dj e=83:=by unfold Dj;rw [if_pos om]
  rw [hm,he]
  refine .lf (g:=g) (x:=x) Λ ?_
  exact .vv
 refine Z ?_
 have hm:Λ.met e=Λ:=by unfold Lg.met;rw [if_neg h6]
 have he:Dj e=e:=by unfold Dj;rw [if_neg om]
 rw [hm,he]
 refine .lf (g:=g) (x:=x) Λ ?_
 exact .vv
theorem TP {Λ:Lg} (h:Λ.zxs.length=0):FX Λ=Λ.base:=by
 unfold FX;rw [eq_nil_of_length_eq_zero h];rfl
theorem Y6 {Λ:Lg} {i:Nat} (h:i+1=Λ.zxs.length):FX Λ=Λ.zxs[i]'om:=by
 unfold FX
 rw [List.getLast?_eq_getElem?,List.getElem?_eq_getElem om]
 simp only [Option.getD_some]
 congr 1;omega
theorem Gh (g x:Nat) (Λ:Lg) (hl:RP Λ):Fn prog 10 #[AD g] [JL g x Λ] fun v L=>v=AA (FX Λ)∧L=[JL g x Λ]:=by
 refine Fn.intro func10 Y Y fun F W=>?_
 refine .lgOpen O fun ea ec za zc=>?_
 have h1:=hl.ents
 have h2:=hl.same
 refine Z ?_
 refine .condD Y (fun h8=>?_) (fun h8=>?_)
 ·refine Z ?_
  rw [TP (Λ:=Λ) om]
  refine .lf (g:=g) (x:=x) Λ ?_
  exact .vv
 refine Z ?_
 obtain ⟨i,hi⟩:∃i,i+1=Λ.zxs.length:=⟨Λ.zxs.length-1,by omega⟩
 refine .slShape (v:= .slice za _ zc) (xs:=BZ Λ.zxs) O om fun bz cz e0 mbz _=>?_
 simp only [Value.slice.injEq,true_and] at e0
 obtain ⟨rfl,rfl⟩:=e0
 refine .draw [] [[0,1,2,3,4,5,6,7,8,9,10,11,12]] mixed kQ (.g0 (.mv Y Y (.nf Y Y Y IE (.kv Y (.ld Y N5) (.mv Y Y (.nf Y Y Y IE (.kv Y (.ld Y N5) (.kv Y (.slen Y underlying23 Y) (.kv Y (.as (v':=AA (i:Nat)) (by congr 1;omega) (.sub Y Y om)) (.kv Y (.indexAddr Y Y Bv om) (.kv Y (.loadEl (p:=EO (.slice (some ⟨bz,0,none⟩) Λ.zxs.length zc) Λ.zxs) (i:=i*1) (v:=AA (Λ.zxs[i]'om)) Y CT O (fun h hp=>Ad hp) (by simp [List.getElem?_eq_getElem (show i<Λ.zxs.length by omega)])) ?_)))))))))))
 refine Z ?_
 rw [Y6 hi]
 refine .lf (g:=g) (x:=x) Λ ?_
 exact .vv
theorem My (base:Int) (snap:Bs) (hb:Aw base) (hs:snap.length≤2147483648):Fn prog 33 #[AA base,AF snap] [] fun v L=> ∃b c,v= .slice (some ⟨b,0,none⟩) (BP base snap).length c∧L=[ET v (BP base snap)]:=by
 refine Fn.intro func33 Y Y fun F W=>?_
 have hz:(Bl base).length≤10:=CN (OR hb)
 refine Z ?_
 refine .oq (.c func79 [] (HV)) ?_
 rintro v L' ⟨cw,rfl,rfl⟩
 refine Z ?_
 refine .oq (.c func80 [_,_] (D1 cw [] base hb (by simp))) ?_
 rintro v L' ⟨rfl,rfl⟩;rw [nil_append]
 refine Z ?_
 refine .cv func81 [_,_] (Dt cw (Bl base) snap.length om om) ?_
 refine Z ?_
 refine .cv func82 [_] (Fx cw (Bl base++BW snap.length)) ?_
 refine .oq (.buildSlice1 (vs:=[_]) Br Gf Y Y Y Y Y dQ) ?_
 rintro v L' ⟨b4,rfl,rfl⟩
 refine Z ?_
 refine .slMake (b:=b4) (n:=1) (c:=1) (xs:=A1 [CV base snap.length]) O dQ (by simp) Y (Z ?_)
 refine .loopK (ι:=Bs×Value×(List Bs)) (fun q E=>(1,AF q.1)::(6,q.2.1)::E) (fun q=>[ET q.2.1 q.2.2]) (fun q=>q.2.2++JB q.1=BP base snap∧q.2.2.length+q.1.length≤1+snap.length∧∃b c,q.2.1= .slice (some ⟨b,0,none⟩) q.2.2.length c) (fun q=>q.1.length) (snap, .slice (some ⟨b4,0,none⟩) 1 1,[CV base snap.length]) (ts:=[4]) O (⟨Y,by dsimp only [length_cons,length_nil];omega,b4,1,rfl⟩) O O ?_
 rintro ⟨t,u,l⟩ ⟨hl,hlt,bu,cu,hu⟩
 dsimp only
 dsimp only at hl hlt hu
 subst hu
 refine Z ?_
 refine .condN Y (fun h20=>?_) (fun h20=>?_)
 ·have ht:0<t.length:=length_pos_iff.2 (by simpa using h20)
  refine Z ?_
  refine .q (.as (v':=AA ((min 4000 t.length:Nat):Int)) (by congr 1;omega) (.min2 Y Y)) Y (Z ?_)
  refine .q (.to (v':=AF (t.take 4000)) (.strTo Y Y underlying9 om) (by simp only [Int.toNat_natCast,AD8])) Y (.oq (.buildSlice1 (vs:=[_]) Br Gf Y Y Y Y Y dQ) ?_)
  rintro v L' ⟨b8,rfl,rfl⟩
  refine .oq (.shaped1 (k:=l.length+1) ?hk25 (.append1 Y Y Y Br Gf Y Y ?h126 ?h227 (Nat.le_refl _) ?h328 dQ)) ?_
  case hk25=>omega
  case h126=>(first|(simp [AB];done)|(simp [AB,AQ,Value.cells];done))
  case h227=>rfl
  case h328=>omega
  rintro v L' ⟨b7,c7,rfl,rfl⟩
  refine Z ?_
  refine .q (.to (v':=AF (t.drop 4000)) (.strFrom Y Y underlying9 om) (by simp only [Int.toNat_natCast,AEv])) Y (Z ?_)
  refine .slCast (T:=9) (sz:=1) (m':=(l++[t.take 4000]).length) (xs':=A1 (l++[t.take 4000])) O (by simp) (by simp [A1,Value.cells]) ?_
  exact .rk ((t.drop 4000, .slice (some ⟨b7,0,none⟩) (l.length+1) c7,l++[t.take 4000])) (⟨by dsimp only;rw [append_assoc,singleton_append,←Xn h20];exact hl,by dsimp only;rw [length_append,length_drop,length_singleton];omega,b7,c7,by simp⟩) (by dsimp only;rw [length_drop];omega) O
 have ht:t=[]:=by simpa using h20
 subst ht
 rw [Wg,append_nil] at hl
 subst hl
 refine Z ?_
 exact .dn Y Y ⟨_,_,Y,Y⟩
structure EnX (p:HP) (e:En):Prop where
 l:EnL p e
 sub:∀y∈e.subs,∃a n c,y.subsV= .slice a n c
def IH (y:Pt):Bool:=decide (slen y.subsV>0)
theorem YO (l:List Pt):(l.all fun y=>decide (slen y.subsV=0))= !l.any IH:=by
 induction l with
 |nil=>rfl
 |cons y l ih=>
  rw [all_cons,any_cons,ih]
  have e:decide (slen y.subsV=0)= !IH y:=by
   unfold IH
   rcases Nat.eq_zero_or_pos (slen y.subsV) with h|h
   ·rw [h];rfl
   ·rw [decide_eq_false om,decide_eq_true h];rfl
  rw [e];cases IH y<;>rfl
theorem RP.met {Λ:Lg} (h:RP Λ) (e:Int):RP (Λ.met e):=by
 unfold Lg.met
 split
 ·exact ⟨h.ents,h.same,h.each,h.base,h.zxs⟩
 ·exact h
theorem Zj (y:Pt) (a:Option Addr) (n c:Nat) (hy:y.subsV= .slice a n c):Fn prog 85 #[.agg (A0 y).toArray] [] fun v L=>v= .bool (IH y)∧L=[]:=by
 refine Fn.intro func85 Y Y fun F W=>?_
 refine .sr (.oq (.box Y) ?_)
 rintro v L' ⟨b1,rfl,rfl⟩
 refine .a Y (.nil (.ptCast (b:=b1) (l':=A0 y) O Y ?_))
 refine .then_n (.sr (.fa Y Fs (.q (.to (v':= .slice a n c) (.load Y O6 O Y) hy) Y (Z ?_))))
 exact .dn Y Y ⟨congrArg Value.bool (decide_eq_decide.2 (by rw [hy];show _↔n>0;omega)),Y⟩
theorem AAK (v:Value) (l:List Pt) (p:HP) (hr:∀h:Hp,p h→CA 8 h v l.length (l.flatMap A0)) (hl:l.length≤4294967296) (hs:∀y∈l,∃a n c,y.subsV= .slice a n c):Fn prog 143 #[v, .func (.func 85) #[] #[]] [p] fun u L=>(∃r:Int,u=AA r∧(decide (r≥0)=l.any IH))∧L=[p]:=by
 refine Fn.intro func143 Y Y fun F W=>?_
 refine .rdAny (p:=p) hr O fun aa ca e _=>?_
 subst e
 refine Z ?_
 refine .loopK (ι:=Nat) (fun q E=>(8,AA q)::E) (fun q=>[]) (fun q=>q≤l.length∧∀j (hj:j<q) (hl:j<l.length),IH l[j]=false) (fun q=>l.length-q) (0) (ts:=[0,1,7]) O (⟨Nat.zero_le _,fun j hj=>by omega⟩) O O ?_
 rintro i ⟨hi,hb⟩
 refine Z ?_
 refine .condD Y (fun h9=>?_) (fun h9=>?_)
 ·have hi2:i<l.length:=by omega
  obtain ⟨sa,sn,sc,hsy⟩:=hs _ (getElem_mem hi2)
  refine .rdShape (p:=p) hr O om fun ba oa e=>?_
  subst e
  refine Z ?_
  refine .q (.indexAddr Y Y FQ om) Y (.q (.loadRdA (sz:=8) (j:=i*8) (k:=8) (p:=p) (vs:=A0 l[i]) Y A3 O hr (by simp) om om (BH (f:=A0) (sz:=8) (fun _ _=>Y) om)) Y (.oq (.callV func85 Y Y (us:=[]) (vs:=[_]) (ws:=[]) Y Y (Zj l[i] sa sn sc hsy)) ?_))
  rintro v L' ⟨rfl,rfl⟩
  refine .nt (.condB Y (fun h16=>?_) (fun h16=>?_))
  ·refine Z ?_
   exact .dn Y Y ⟨⟨_,Y,by rw [decide_eq_true om];exact (any_eq_true.2 ⟨l[i],getElem_mem hi2,h16⟩).symm⟩,rfl⟩
  refine Z ?_
  exact .rk (i+1) (⟨by omega,fun j hj hl=>by rcases Nat.lt_or_ge j i with h|h;exact hb j h hl;obtain rfl:j=i:=om;exact h16⟩) om O
 refine Z ?_
 exact .dn Y Y ⟨⟨_,Y,by rw [decide_eq_false dQ];symm;rw [any_eq_false];intro s hs;obtain ⟨j,hj,rfl⟩:=mem_iff_getElem.1 hs;rw [hb j om hj];decide⟩,rfl⟩
theorem Ov (v:Value) (l:List Pt) (p:HP) (hr:∀h:Hp,p h→CA 8 h v l.length (l.flatMap A0)) (hl:l.length≤4294967296) (hs:∀y∈l,∃a n c,y.subsV= .slice a n c):Fn prog 84 #[v, .func (.func 85) #[] #[]] [p] fun u L=>u= .bool (l.any IH)∧L=[p]:=by
 refine Fn.intro func84 Y Y fun F W=>?_
 refine Z ?_
 refine .oq (.c func143 [_,_] (AAK v l p hr hl hs)) ?_
 rintro v' L' ⟨⟨r,rfl,hrl⟩,rfl⟩
 refine Z ?_
 exact .dn Y Y ⟨congrArg Value.bool hrl,Y⟩
theorem OG (e:En) (p:HP) (he:EnX p e):Fn prog 35 #[.agg (CB e).toArray] [p] fun v L=> ∃s1,(EK e=true→s1=Cb e)∧v= .tuple #[AF s1, .bool (EK e)]∧L=[p]:=by
 refine Fn.intro func35 Y Y fun F W=>?_
 have hle:=he.l.len
 have hns:W6 e= !e.subs.any IH:=YO e.subs
 refine .sr (.oq (.box Y) ?_)
 rintro v L' ⟨b1,rfl,rfl⟩
 refine Z ?_
 refine .pc b1 (CB e) ?_
 refine Z ?_
 refine .oq (.call func84 Y Y (vs:=[_,_]) Y (Ov _ e.subs p he.l.w.subs (by have:=he.l.few.1;omega) he.sub)) ?_
 rintro v L' ⟨rfl,rfl⟩
 refine .nt (.condB Y (fun h10=>?_) (fun h10=>?_))
 ·refine Z ?_
  have hf:EK e=false:=by unfold EK;rw [hns,h10];rfl
  rw [hf]
  exact .dn Y Y ⟨[],(fun h=>by cases h),rfl,rfl⟩
 refine Z ?_
 refine .q (.loadAs (vs:=CB e) Y Cz O (by simp [CB,A0]) Y) Y (.cv func65 [_] (Qr e p he.l) ?_)
 refine Z ?_
 refine .oq (.c func44 [_] (Jy (Cb e) om)) ?_
 rintro v L' ⟨ge,er,hge,rfl,rfl⟩
 refine Z ?_
 refine .oq (.allocA Cq) ?_
 rintro v L' ⟨b5,rfl,rfl⟩
 refine .sa Y Y GO (by exact hge.cells) ?_
 refine .an Y (.sm Y (.m Y (.q (.as (v':= .bool (EK e)) (by exact congrArg Value.bool (by unfold EK;rw [hns,h10];rcases hge with ⟨rfl,h2,-⟩|⟨rfl,h2,-⟩<;>rw [h2]<;>rfl)) (.int Y Y Y)) Y (Z ?_))))
 exact .dn Y Y ⟨Cb e,fun _=>Y,Y,Y⟩
theorem LG (g x d:Nat) (δ:Dk) (ω:Wl) (Λ:Lg) (e:En) (p:HP) (he:EnX p e) (hI:WlI δ ω) (hΛ:RP Λ):Fn prog 8 #[AD g, .agg (CB e).toArray] [JL g x Λ,LW x d ω,DQ d δ,p] fun v L=>v=AA (Aj ⟨δ,ω,Λ⟩ e).2∧L=[JL g x (Aj ⟨δ,ω,Λ⟩ e).1.Λ,LW x d (Aj ⟨δ,ω,Λ⟩ e).1.ω,DQ d (Aj ⟨δ,ω,Λ⟩ e).1.δ,p]:=by
 refine Fn.intro func8 Y Y fun F W=>?_
 have hle:=he.l.len
 have hfi:=hI.fits
 have hhl:=D3 hI.size
 refine .sr (.oq (.box Y) ?_)
 rintro v L' ⟨b3,rfl,rfl⟩
 refine Z ?_
 refine .pc b3 (CB e) ?_
 refine Z ?_
 refine .lgOpen O fun ea ec za zc=>(Z ?_)
 refine .condB Y (fun h11=>?_) (fun h11=>?_)
 ·refine Z ?_
  have hr:Aj ⟨δ,ω,Λ⟩ e=(⟨δ,ω,Λ⟩,2):=by unfold Aj;dsimp only;rw [if_pos h11]
  rw [hr]
  try dsimp only
  refine .lf (g:=g) (x:=x) Λ ?_
  exact .vv
 refine .lf (g:=g) (x:=x) Λ ?_
 refine Z ?_
 refine .q (.loadAs (vs:=CB e) Y Cz O (by simp [CB,A0]) Y) Y (.oq (.c func35 [_] (OG e p he)) ?_)
 rintro v L' ⟨s1,hs1,rfl,rfl⟩
 refine Z ?_
 refine .condB Y (fun h17=>?_) (fun h17=>?_)
 ·refine Z ?_
  have hr:Aj ⟨δ,ω,Λ⟩ e=(⟨δ,ω,Λ⟩,1):=by unfold Aj;dsimp only;rw [if_neg (by rw [h11];decide),if_pos (by simpa using h17)]
  rw [hr]
  try dsimp only
  exact .vv
 have hfit:EK e=true:=by simpa using h17
 have hs1:=hs1 hfit
 subst hs1
 refine .seq (.draw [] [[0,1,2,3,4,5]] mixed kQ (.go [AW b3 _ _,JL g x Λ] O (Z ?_)))
 refine D.m Y kQ (.c func10 [_] (Gh g x Λ hΛ)) O ?_
 refine Z ?_
 refine .condD Y (fun h20=>?_) (fun h20=>?_)
 ·refine Z ?_
  have hr:Aj ⟨δ,ω,Λ⟩ e=(⟨δ,ω,Λ⟩,81):=by unfold Aj;dsimp only;rw [if_neg (by rw [h11];decide),if_neg (by rw [hfit];decide),if_pos h20]
  rw [hr]
  try dsimp only
  exact .vv
 refine .seq (.lgOpen O fun ea ec za zc=>(Z ?_))
 refine .dec (t:=33) Y (fun h8_33=>?_) (fun h8_33=>?_)
 ·refine .kDT (t:=32) Y h8_33 (Z ?_)
  refine .lf (g:=g) (x:=x) Λ ?_
  refine Z ?_
  have hr:Aj ⟨δ,ω,Λ⟩ e=(⟨δ,ω,Λ⟩,83):=by unfold Aj;dsimp only;rw [if_neg (by rw [h11];decide),if_neg (by rw [hfit];decide),if_neg h20,if_pos (by first|exact .inl om|exact .inr h26)]
  rw [hr]
  try dsimp only
  exact .vv
 refine .kDF (t:=32) Y h8_33 (Z ?_)
 refine .cv func36 [_] (YN x d ω δ hI.size om) ?_
 refine Z ?_
 refine .lf (g:=g) (x:=x) Λ ?_
 refine Z ?_
 refine .condD Y (fun h26=>?_) (fun h26=>?_)
 ·refine Z ?_
  have hr:Aj ⟨δ,ω,Λ⟩ e=(⟨δ,ω,Λ⟩,83):=by unfold Aj;dsimp only;rw [if_neg (by rw [h11];decide),if_neg (by rw [hfit];decide),if_neg h20,if_pos (by first|exact .inl om|exact .inr h26)]
  rw [hr]
  try dsimp only
  exact .vv
 refine Z ?_
 refine .lgOpen O fun ea ec za zc=>(Z ?_)
 refine .cv func32 [_,_] (L7 x d ω δ (Cb e) hI om) ?_
 refine .lf (g:=g) (x:=x) Λ ?_
 refine .cv func37 [_,_] (AAD g x Λ _) ?_
 refine Z ?_
 refine .condD Y (fun h52=>?_) (fun h52=>?_)
 ·refine Z ?_
  refine .cv func38 [_,_,_] (Nt g x _ (Cb e) e.zx (hΛ.met _)) ?_
  refine Z ?_
  have hr:Aj ⟨δ,ω,Λ⟩ e=(⟨(Ao δ ω (Cb e)).1,(Ao δ ω (Cb e)).2.1,(IL Λ (Ao δ ω (Cb e))).1.Λ.keep (Cb e) e.zx⟩,0):=by unfold Aj;dsimp only;rw [if_neg (by rw [h11];decide),if_neg (by rw [hfit];decide),if_neg h20,if_neg (by rintro (g|g);omega;exact h26 g),if_pos (show (IL Λ (Ao δ ω (Cb e))).2=0 from h52)]
  rw [hr]
  try dsimp only
  rw [h52]
  exact .vv
 refine Z ?_
 have hr:Aj ⟨δ,ω,Λ⟩ e=IL Λ (Ao δ ω (Cb e)):=by unfold Aj;dsimp only;rw [if_neg (by rw [h11];decide),if_neg (by rw [hfit];decide),if_neg h20,if_neg (by rintro (g|g);omega;exact h26 g),if_neg (show ¬(IL Λ (Ao δ ω (Cb e))).2=0 from h52)]
 rw [hr]
 try dsimp only
 exact .vv
/- not in this seat -/
/- not in this seat -/
/- not in this seat -/
theorem Kd (g x:Nat) (Λ:Lg):Fn prog 15 #[AD g] [JL g x Λ] fun v L=>v=AA Λ.base∧L=[JL g x Λ]:=by
 refine Fn.intro func15 Y Y fun F W=>?_
 refine .lgOpen O fun ea ec za zc=>(Z ?_)
 refine .lf (g:=g) (x:=x) Λ ?_
 exact .vv
theorem Oe (g x:Nat) (Λ:Lg):Fn prog 17 #[AD g] [JL g x Λ] fun v L=>v=AF Λ.snap∧L=[JL g x Λ]:=by
 refine Fn.intro func17 Y Y fun F W=>?_
 refine .lgOpen O fun ea ec za zc=>(Z ?_)
 refine .lf (g:=g) (x:=x) Λ ?_
 exact .vv
/- not in this seat -/
/- not in this seat -/
def tl (ω:Wl):List Bs:=if ω.doubt then [] else ω.recs
def ab:Bs:=[97,98]
section
variable {W:World} {n:Nat} {ds:List Deferred} {E:Bi} {L R:List HP} {X:Act→World→Prop}
theorem G.dkOk {d:Nat} {δ:Dk} (hL:BJ (DQ d δ) L R) (h:δ.Ok→G W n ds E L X):G W n ds E L X:=by
 intro ac w he hk hs
 obtain ⟨g1,-,hp⟩:=Ae (hs.pick hL)
 obtain ⟨x,hok,-⟩:=hp
 exact h hok ac w he hk hs
end
structure Al (δ:Dk):Prop where
 dead:δ.dead=false
 left:δ.left=0
theorem Pb {δ:Dk} (h:Al δ):δ.act.2=0∧Al δ.act.1:=by
 obtain ⟨h1,h2⟩:=h
 exact ⟨by simp [Dk.act,TB,h2],by simp [Dk.act,R5,h1,h2],by simp [Dk.act,Pv,h2]⟩
theorem Iu {δ:Dk} (h:Al δ) {n:Int} {s:Bs} (hn:0≤n∧n<δ.now.length) (hs:s.length=64):(δ.write n s).2=0∧Al (δ.write n s).1∧(δ.write n s).1.now=δ.now.set n.toNat s:=by
 have hh:δ.has n=true:=by simp [Dk.has,hn.1,hn.2]
 have hp:Al (δ.put n s):=⟨h.dead,h.left⟩
 have e:δ.write n s=(δ.put n s).act:=by unfold Dk.write;rw [if_neg (by rw [h.dead];decide),if_neg (by rw [hh];simp [hs])]
 rw [e]
 exact ⟨(Pb hp).1,(Pb hp).2,rfl⟩
theorem Rz {δ:Dk} (h:Al δ):δ.sync.2=0∧Al δ.sync.1∧δ.sync.1.now=δ.now:=by
 have e:δ.sync=({δ.act.1 with old:=[]},0):=by unfold Dk.sync;rw [if_neg (by rw [h.dead];decide),if_pos (Pb h).1]
 rw [e]
 exact ⟨rfl,⟨(Pb h).2.dead,(Pb h).2.left⟩,rfl⟩
theorem AEX {δ:Dk} {area:Int} {all:Bs} {i:Nat} (ha:0≤area∧area≤1) (hn:2≤δ.now.length) (hl:(all.length:Int)≤64*Af δ) (hi:i*64<all.length):2≤2+area*Af δ+i∧2+area*Af δ+i<δ.now.length:=by
 have e:Af δ=((δ.now.length:Int)-2)/2:=rfl
 generalize Af δ=k at *
 rcases (by omega:area=0∨area=1) with rfl|rfl<;>omega
theorem MQ:∀(f:Nat) (δ:Dk) (area:Int) (all:Bs) (i:Nat),Al δ→0≤area∧area≤1→2≤δ.now.length→(all.length:Int)≤64*Af δ→(Fc f δ area all i).2=0∧Al (Fc f δ area all i).1:=by
 intro f
 induction f with
 |zero=>intro δ area all i h _ _ _;exact ⟨rfl,h⟩
 |succ f ih=>
  intro δ area all i h ha hn hl
  simp only [Fc]
  split
  ·rename_i hi
   have hr:=AEX ha hn hl hi
   obtain ⟨w1,w2,w3⟩:=Iu h (n:=2+area*Af δ+i) (s:=Ck all i) ⟨by omega,hr.2⟩ (H1 _ _)
   rw [if_neg (by rw [w1];decide)]
   have hlen:(δ.write (2+area*Af δ+i) (Ck all i)).1.now.length=δ.now.length:=(C1 _ _ _).1
   exact ih _ _ _ _ w2 ha (by rw [hlen];exact hn) (by rw [Ge hlen];exact hl)
  ·exact ⟨rfl,h⟩
theorem Pm (m:Mk):m.sec.length=64:=by simp [Mk.sec,Av]
theorem AGx {δ:Dk} (h:Al δ) (hn:2≤δ.now.length) (m:Mk):(C3 δ m).2=0∧Al (C3 δ m).1∧(C3 δ m).1.now=δ.now.set (m.count%2).toNat m.sec:=by
 obtain ⟨w1,w2,w3⟩:=Iu h (n:=m.count%2) (s:=m.sec) ⟨by omega,by omega⟩ (Pm m)
 obtain ⟨s1,s2,s3⟩:=Rz w2
 unfold C3
 rw [if_neg (by rw [w1];decide),if_neg (by rw [s1];decide)]
 exact ⟨rfl,s2,s3.trans w3⟩
theorem AGf {δ:Dk} (h:Al δ) (hn:2≤δ.now.length) (ω:Wl) (area:Int) (l:List Bs):∃δ',Cr δ ω area l=(δ',{ω with recs:=l,synced:=l.length,area:=area,count:=ω.count+1},0)∧Al δ'∧δ'.now=δ.now.set ((ω.count+1)%2).toNat (ω.mark area l ω.a ω.b).sec∧δ'.acts≤δ.acts+3:=by
 obtain ⟨s1,s2,s3⟩:=Rz h
 have sk:=IA δ
 obtain ⟨n1,n2,n3⟩:=AGx s2 (by rw [s3];exact hn) (ω.mark area l ω.a ω.b)
 have nk:=M9 δ.sync.1 (ω.mark area l ω.a ω.b)
 refine ⟨(C3 δ.sync.1 (ω.mark area l ω.a ω.b)).1,?_,n2,by rw [n3,s3];rfl,by omega⟩
 unfold Cr
 rw [if_neg (by rw [s1];decide),if_neg (by rw [n1];decide)]
structure EG (δ:Dk) (ω:Wl) (N:Int):Prop where
 al:Al δ
 doubt:ω.doubt=false
 size:2≤δ.now.length∧δ.now.length≤32768
 acts:δ.acts≤N
 area:0≤ω.area∧ω.area≤1
 count:0≤ω.count∧ω.count≤4294967295
 synced:0≤ω.synced∧ω.synced≤ω.recs.length
 fits:((AH ω.recs).length:Int)≤64*Af δ
theorem EG.i {δ:Dk} {ω:Wl} {N:Int} (h:EG δ ω N) (hN:N≤1000000000000):WlI δ ω:=⟨h.size,by have:=h.acts;omega,h.area,h.count,h.synced,h.fits⟩
theorem EG.more {δ:Dk} {ω:Wl} {N M:Int} (h:EG δ ω N) (hN:N≤M):EG δ ω M:=⟨h.al,h.doubt,h.size,by have:=h.acts;omega,h.area,h.count,h.synced,h.fits⟩
theorem FY (δ:Dk) (area:Int) (all:Bs) (frm:Nat):(DR δ area all frm).1.now.length=δ.now.length∧(DR δ area all frm).1.acts≤δ.acts+(all.length+1):=by
 have:=PY (all.length+1) δ area all (frm/64)
 exact ⟨this.1,by have:=this.2;show (Fc _ _ _ _ _).1.acts≤_;omega⟩
theorem K5 (l:List Bs) (k:Nat):(AH (l.take k)).length≤(AH l).length:=It l k
theorem Fw {δ:Dk} {ω:Wl} {N:Int} (h:EG δ ω N) (s:Bs):
    EG (Ao δ ω s).1 (Ao δ ω s).2.1 (N+2000000)∧(Ao δ ω s).1.now.length=δ.now.length∧
    ((s.length≤4000∧((AH ω.recs).length:Int)+s.length+6≤64*Af δ∧(Ao δ ω s).2=({ω with recs:=ω.recs++[s]},0))∨
     (s.length>4000∧Ao δ ω s=(δ,ω,33))∨(s.length≤4000∧¬((AH ω.recs).length:Int)+s.length+6≤64*Af δ∧Ao δ ω s=(δ,ω,30))):=by
  have hm:=h.more (M:=N+2000000) om
  by_cases h1:s.length>4000
  · have e:Ao δ ω s=(δ,ω,33):=by unfold Ao;rw [if_neg (by rw [h.doubt];decide),if_pos h1]
    rw [e];exact ⟨hm,rfl, .inr (.inl ⟨h1,rfl⟩)⟩
  by_cases h2:((AH ω.recs).length:Int)+s.length+6≤64*Af δ
  · have hl:(AH ω.recs++Bo s).length=(AH ω.recs).length+s.length+6:=by rw [length_append,E9];omega
    have hh:=D3 h.size
    obtain ⟨a1,a2⟩:=MQ ((AH ω.recs++Bo s).length+1) δ ω.area (AH ω.recs++Bo s) ((AH ω.recs).length/64) h.al h.area h.size.1 om
    have ak:=FY δ ω.area (AH ω.recs++Bo s) (AH ω.recs).length
    have e:Ao δ ω s=((DR δ ω.area (AH ω.recs++Bo s) (AH ω.recs).length).1,{ω with recs:=ω.recs++[s]},0):=by
      unfold Ao;rw [if_neg (by rw [h.doubt];decide),if_neg h1,if_neg (fun g=>g h2),if_neg (by show ¬(Fc _ _ _ _ _).2≠0;rw [a1];decide)]
    rw [e]
    refine ⟨⟨a2,h.doubt,by rw [ak.1];exact h.size,?_,h.area,h.count,?_,?_⟩,ak.1, .inl ⟨by omega,h2,rfl⟩⟩
    · have:=h.acts;have:=ak.2;dsimp only;omega
    · have:=h.synced;simp;omega
    · rw [Ge ak.1];show ((AH (ω.recs++[s])).length:Int)≤_
      rw [Cy,show AH [s]=Bo s by simp [AH],hl];omega
  · have e:Ao δ ω s=(δ,ω,30):=by unfold Ao;rw [if_neg (by rw [h.doubt];decide),if_neg h1,if_pos h2]
    rw [e];exact ⟨hm,rfl, .inr (.inr ⟨by omega,h2,rfl⟩)⟩
theorem J2 {δ:Dk} {ω:Wl} {N:Int} (h:EG δ ω N) (hc:ω.count≠4294967295) {area:Int} (ha:0≤area∧area≤1) {l:List Bs} (hl:((AH l).length:Int)≤64*Af δ) {δ1:Dk} (h1:Al δ1) (h2:δ1.now.length=δ.now.length) (h3:δ1.acts≤N+1900000):
  (Po (Cr δ1 ω area l)).2=({ω with recs:=l,synced:=l.length,area:=area,count:=ω.count+1},0)∧EG (Po (Cr δ1 ω area l)).1 {ω with recs:=l,synced:=l.length,area:=area,count:=ω.count+1} (N+2000000)∧(Po (Cr δ1 ω area l)).1.now=δ1.now.set ((ω.count+1)%2).toNat (ω.mark area l ω.a ω.b).sec:=by
 obtain ⟨δ',e,a1,a2,a3⟩:=AGf h1 (by rw [h2];exact h.size.1) ω area l
 rw [e]
 have e2:Po (δ',{ω with recs:=l,synced:=l.length,area:=area,count:=ω.count+1},0)=(δ',{ω with recs:=l,synced:=l.length,area:=area,count:=ω.count+1},0):=rfl
 rw [e2]
 have hlen:δ'.now.length=δ.now.length:=by rw [a2,length_set,h2]
 have:=h.count
 refine ⟨rfl,⟨a1,h.doubt,by rw [hlen];exact h.size,?_,ha,?_,?_,?_⟩,a2⟩
 ·dsimp only;omega
 ·dsimp only;omega
 ·dsimp only;omega
 ·dsimp only;rw [Ge hlen];exact hl
structure AGo (δ:Dk) (ω:Wl) (N:Int) (r:Dk×Wl×Int):Prop where
 well:EG r.1 r.2.1 (N+2000000)
 len:r.1.now.length=δ.now.length
theorem AGo.same {δ:Dk} {ω:Wl} {N:Int} (h:EG δ ω N) {e:Int}:AGo δ ω N (δ,ω,e):=⟨h.more om,rfl⟩
theorem AAO {δ:Dk} {ω:Wl} {N:Int} (h:EG δ ω N) (hc:ω.count≠4294967295) {area:Int} (ha:0≤area∧area≤1) {l:List Bs} (hl:((AH l).length:Int)≤64*Af δ) {δ1:Dk} (h1:Al δ1) (h2:δ1.now.length=δ.now.length) (h3:δ1.acts≤N+1900000):AGo δ ω N (Po (Cr δ1 ω area l)):=by
 obtain ⟨e,w,n⟩:=J2 h hc ha hl h1 h2 h3
 exact ⟨by rw [e];exact w,by rw [n,length_set,h2]⟩
theorem Wv {δ:Dk} {ω:Wl} {N:Int} (h:EG δ ω N) (l:List Bs):AGo δ ω N (BA δ ω l):=by
 unfold BA
 rw [if_neg (by rw [h.doubt];decide)]
 split
 ·exact .same h
 ·split
  ·exact .same h
  ·split
   ·exact .same h
   ·rename_i h1 h2 h3
    have hl:((AH l).length:Int)≤64*Af δ:=by omega
    have ha:0≤1-ω.area∧1-ω.area≤1:=by have:=h.area;omega
    have hh:=D3 h.size
    obtain ⟨a1,a2⟩:=MQ ((AH l).length+1) δ (1-ω.area) (AH l) (0/64) h.al ha h.size.1 hl
    have ak:=FY δ (1-ω.area) (AH l) 0
    rw [if_neg (by show ¬(Fc _ _ _ _ _).2≠0;rw [a1];decide)]
    exact AAO h om ha hl a2 ak.1 (by have:=h.acts;have:=ak.2;omega)
theorem AIf (n:Int):Al (Dk.new n):=⟨rfl,rfl⟩
theorem M3 {n:Int} (h:16≤n∧n≤32768):(BN (Dk.new n)).2=some newW∧EG (BN (Dk.new n)).1 newW 3∧(BN (Dk.new n)).1.now=((Dk.new n).now.set 0 zs).set 1 Er.sec:=by
 have hl:(Dk.new n).now.length=n.toNat:=by simp [Dk.new]
 obtain ⟨a1,a2,a3⟩:=Iu (AIf n) (n:=0) (s:=zs) ⟨by omega,by omega⟩ rfl
 have e1:(F8 (Dk.new n) 1)=(Dk.new n).write 0 zs:=rfl
 have l1:((Dk.new n).write 0 zs).1.now.length=n.toNat:=by rw [a3,length_set,hl]
 obtain ⟨b1,b2,b3⟩:=Iu a2 (n:=1) (s:=Er.sec) ⟨by omega,by omega⟩ (Pm _)
 have l2:(((Dk.new n).write 0 zs).1.write 1 Er.sec).1.now.length=n.toNat:=by rw [b3,length_set,l1]
 obtain ⟨c1,c2,c3⟩:=Rz b2
 have e:BN (Dk.new n)=((F8 (Dk.new n) 3).1,some newW):=by
  unfold BN
  rw [if_neg (by rw [e1,a1];decide),if_neg (by show ¬(((Dk.new n).write 0 zs).1.write 1 Er.sec).2≠0;rw [b1];decide),if_neg (by show ¬((((Dk.new n).write 0 zs).1.write 1 Er.sec).1.sync).2≠0;rw [c1];decide)]
 rw [e]
 have hk:=IQ (Dk.new n) 3
 have h0:(Dk.new n).acts=0:=rfl
 have hn3:(F8 (Dk.new n) 3).1.now=(((Dk.new n).write 0 zs).1.write 1 Er.sec).1.now:=c3
 have l3:(F8 (Dk.new n) 3).1.now.length=n.toNat:=by rw [hn3,l2]
 refine ⟨rfl,⟨c2,rfl,by dsimp only;omega,by dsimp only;omega,⟨by decide,by decide⟩,⟨by decide,by decide⟩,⟨by decide,by decide⟩,?_⟩,?_⟩
 ·show ((0:Nat):Int)≤64*Af (F8 (Dk.new n) 3).1
  unfold Af;omega
 ·show (F8 (Dk.new n) 3).1.now=_
  rw [hn3,b3,a3];rfl
def AH9:Rn Nat:=runP 0 (EN 65536)
def Nu:Rn (Int×Nat):=B1 AS fun b=>B1 AH9 fun n=>Ir (b,n)
def lhZ (s:Bs):Option (Int×Nat):=match Nu (some s) with
 |(q,some [])=>some q
 |_=>none
theorem AAA {n:Int} (h:Aw n) (r:Bs):AS (some (Bl n++r))=(n,some r):=by
 unfold AS runP;dsimp only;rw [K4 h]
theorem ABc {n:Nat} (h:n≤65536) (r:Bs):AH9 (some (BW n++r))=(n,some r):=by
 unfold AH9 runP;dsimp only;rw [Iw h dQ]
theorem AFm {base:Int} {n:Nat} (hb:Aw base) (hn:n≤65536):lhZ (CV base n)=some (base,n):=by
 have e:Nu (some (CV base n))=((base,n),some []):=by
  unfold Nu B1 Ir CV
  rw [AAA hb];dsimp only
  have:=ABc hn []
  rw [append_nil] at this
  rw [this]
 unfold lhZ;rw [e]
def Im (many:Nat):Bs→List Bs→Option (Bs×List Bs)
 |sn,[]=>if sn.length<many then none else some (sn,[])
 |sn,r::t=>if sn.length<many then (if r.length=min 4000 (many-sn.length) then Im many (sn++r) t else none) else some (sn,r::t)
theorem Ms {many:Nat} {sn:Bs} (h:¬sn.length<many) (l:List Bs):Im many sn l=some (sn,l):=by
 cases l<;>(unfold Im;rw [if_neg h])
theorem ABY {many:Nat} {sn:Bs} (h:sn.length<many):Im many sn []=none:=by unfold Im;rw [if_pos h]
theorem AEC {many:Nat} {sn r:Bs} {t:List Bs} (h:sn.length<many) (hr:¬r.length=min 4000 (many-sn.length)):Im many sn (r::t)=none:=by
 show (if _ then _ else _)=_;rw [if_pos h,if_neg hr]
theorem Rc {many:Nat} {sn r:Bs} {t:List Bs} (h:sn.length<many) (hr:r.length=min 4000 (many-sn.length)):Im many sn (r::t)=Im many (sn++r) t:=by
 show (if _ then _ else _)=_;rw [if_pos h,if_pos hr]
theorem Qh (many:Nat):∀(f:Nat) (t sn:Bs) (es:List Bs),t.length≤f→sn.length+t.length=many→Im many sn (FE f t++es)=some (sn++t,es)
 |0,t,sn,es,h,hm=>by
  have:t=[]:=eq_nil_of_length_eq_zero om
  subst this
  rw [append_nil];exact Ms (by simp at hm;omega) es
 |f+1,t,sn,es,h,hm=>by
  unfold FE
  split
  ·rename_i ht;subst ht
   rw [append_nil];exact Ms (by simp at hm;omega) es
  ·rename_i ht
   have hp:0<t.length:=length_pos_iff.2 ht
   rw [cons_append,Rc om (by rw [length_take];omega),Qh many f _ _ es (by rw [length_drop];omega) (by rw [length_append,length_take,length_drop];omega),append_assoc,take_append_drop]
def LK:Lg→List Bs→Option Lg
  |Λ,[]=>some Λ
  |Λ,s::t=>match Fg s with
    |none=>none
    |some e=>if e.zx≤FX Λ∨Λ.ents.length=200 then none else LK (Λ.keep s e.zx) t
theorem Z9 {Λ:Lg} {s:Bs} {t:List Bs} (h:Fg s=none):LK Λ (s::t)=none:=by
 show (match Fg s with|none=>none|some e=>_)=_;rw [h]
theorem T1 {Λ:Lg} {s:Bs} {t:List Bs} {e:En} (h:Fg s=some e) (hb:e.zx≤FX Λ∨Λ.ents.length=200):LK Λ (s::t)=none:=by
 show (match Fg s with|none=>none|some e=>_)=_;rw [h];exact if_pos hb
theorem Qz {Λ:Lg} {s:Bs} {t:List Bs} {e:En} (h:Fg s=some e) (hb:¬(e.zx≤FX Λ∨Λ.ents.length=200)):LK Λ (s::t)=LK (Λ.keep s e.zx) t:=by
 show (match Fg s with|none=>none|some e=>_)=_;rw [h];exact if_neg hb
def ACH (a b base:Int):Option (Bs×List Bs)→Option Lg
 |none=>none
 |some (sn,u)=>LK ⟨a,b,base,sn,[],[],false⟩ u
def HH (a b:Int):List Bs→Option Lg
  |[]=>none
  |r::t=>match lhZ r with
    |none=>none
    |some (base,n)=>if base<0 then none else ACH a b base (Im n [] t)
def Hy (ω:Wl):Option Lg:=if ω.a>1073741824∨ω.b>ω.a then none else HH ω.a ω.b ω.recs
/-! ### Rows: each record an entry, its numbers rising -/
def Dh:Int→List Bs→List Int→Prop
 |_,[],[]=>True
 |b,s::t,z::u=>(∃e,Fg s=some e∧e.zx=z)∧b<z∧Aw z∧Dh z t u
 |_,_,_=>False
def ZE (b:Int) (zs:List Int):Int:=zs.getLast?.getD b
theorem Wk (b z:Int) (u:List Int):ZE b (z::u)=ZE z u:=by
 unfold ZE;rw [List.getLast?_cons];rfl
theorem Dh.len:∀{es:List Bs} {zs:List Int} {b:Int},Dh b es zs→zs.length=es.length
 |[],[],_,_=>rfl
 |_::_,_::_,_,h=>congrArg (· +1) (Dh.len h.2.2.2)
 |[],_::_,_,h=>h.elim
 |_::_,[],_,h=>h.elim
theorem Dh.keep {s:Bs} {z:Int} (hs:∃e,Fg s=some e∧e.zx=z) (hi:Aw z):∀{es:List Bs} {zs:List Int} {b:Int},Dh b es zs→ZE b zs<z→Dh b (es++[s]) (zs++[z])
 |[],[],_,_,hz=>⟨hs,hz,hi,trivial⟩
 |_::_,_::_,_,h,hz=>⟨h.1,h.2.1,h.2.2.1,Dh.keep hs hi h.2.2.2 (by rw [Wk] at hz;exact hz)⟩
 |[],_::_,_,h,_=>h.elim
 |_::_,[],_,h,_=>h.elim
theorem Dh.gt:∀{es:List Bs} {zs:List Int} {b:Int},Dh b es zs→∀z∈zs,b<z
 |[],[],_,_,z,hz=>by cases hz
 |_::_,z0::_,_,h,z,hz=>by
  rcases mem_cons.1 hz with rfl|hz
  ·exact h.2.1
  ·have:=h.2.1;have:=Dh.gt h.2.2.2 z hz;omega
 |[],_::_,_,h,_,_=>h.elim
 |_::_,[],_,h,_,_=>h.elim
theorem Dh.i64:∀{es:List Bs} {zs:List Int} {b:Int},Dh b es zs→∀z∈zs,Aw z
 |[],[],_,_,z,hz=>by cases hz
 |_::_,z0::_,_,h,z,hz=>by
  rcases mem_cons.1 hz with rfl|hz
  ·exact h.2.2.1
  ·exact Dh.i64 h.2.2.2 z hz
 |[],_::_,_,h,_,_=>h.elim
 |_::_,[],_,h,_,_=>h.elim
theorem Dh.up:∀{es:List Bs} {zs:List Int} {b:Int},Dh b es zs→(b::zs).Pairwise (· < ·)
 |[],[],_,_=>by simp
 |_::_,z0::u,b,h=>pairwise_cons.2 ⟨fun z hz=>Dh.gt (es:=_::_) (zs:=z0::u) h z hz,Dh.up h.2.2.2⟩
 |[],_::_,_,h=>h.elim
 |_::_,[],_,h=>h.elim
theorem Q3:∀{es:List Bs} {zs:List Int} {Λ:Lg},Dh (FX Λ) es zs→Λ.ents.length+es.length≤200→LK Λ es=some ⟨Λ.acc,Λ.cur,Λ.base,Λ.snap,Λ.ents++es,Λ.zxs++zs,Λ.doubt⟩
 |[],[],Λ,_,_=>by rw [append_nil,append_nil];rfl
 |s::t,z::u,Λ,h,hl=>by
  obtain ⟨⟨e,he,hz⟩,h2,h3,h4⟩:=h
  rw [length_cons] at hl
  rw [Qz he (by rw [hz];omega)]
  have hk:FX (Λ.keep s e.zx)=z:=by unfold FX Lg.keep;rw [hz];simp
  rw [Q3 (zs:=u) (by rw [hk];exact h4) (by show (Λ.ents++[s]).length+_≤_;rw [length_append,length_singleton];omega)]
  unfold Lg.keep
  rw [hz];simp
 |[],_::_,_,h,_=>h.elim
 |_::_,[],_,h,_=>h.elim
structure LgW (Λ:Lg):Prop where
 few:Λ.ents.length≤200
 each:∀s∈Λ.ents,s.length≤4000
 base:0≤Λ.base∧Λ.base≤9223372036854775807
 snap:Λ.snap.length≤65536
 rows:Dh Λ.base Λ.ents Λ.zxs
 eps:0≤Λ.cur∧Λ.cur≤Λ.acc∧Λ.acc≤1073741824
theorem LgW.i {Λ:Lg} (h:LgW Λ):RP Λ:=⟨h.few,h.rows.len,fun s hs=>by have:=h.each s hs;omega,⟨by have:=h.base;omega,h.base.2⟩,h.rows.i64⟩
theorem Tn {Λ:Lg} (h:LgW Λ) (hd:Λ.doubt=false):HH Λ.acc Λ.cur (BP Λ.base Λ.snap++Λ.ents)=some Λ:=by
 unfold BP HH
 rw [cons_append];dsimp only
 rw [AFm ⟨by have:=h.base;omega,h.base.2⟩ h.snap];dsimp only
 rw [if_neg (by have:=h.base;omega)]
 unfold JB
 rw [Qh Λ.snap.length Λ.snap.length Λ.snap [] Λ.ents (Nat.le_refl _) (by simp)]
 show LK ⟨Λ.acc,Λ.cur,Λ.base,[]++Λ.snap,[],[],false⟩ Λ.ents=_
 rw [Q3 (zs:=Λ.zxs) (Λ:=⟨Λ.acc,Λ.cur,Λ.base,[]++Λ.snap,[],[],false⟩) h.rows (by have:=h.few;simpa using this)]
 rw [←hd];simp
/-! ### Calls -/
def Fa (Λ:Lg) (z:Int):Option Nat:=if z∈Λ.zxs then some (Λ.zxs.idxOf z+1) else if z=Λ.base then some 0 else none
def AHs (s:Ld) (n:Nat):Ld×Int:=
 if (IL s.Λ (AFM s.δ s.ω (((BP s.Λ.base s.Λ.snap).length+n:Nat):Int))).2=0 then (⟨(AFM s.δ s.ω (((BP s.Λ.base s.Λ.snap).length+n:Nat):Int)).1,(AFM s.δ s.ω (((BP s.Λ.base s.Λ.snap).length+n:Nat):Int)).2.1,⟨s.Λ.acc,s.Λ.cur,s.Λ.base,s.Λ.snap,s.Λ.ents.take n,s.Λ.zxs.take n,s.Λ.doubt⟩⟩,0) else IL s.Λ (AFM s.δ s.ω (((BP s.Λ.base s.Λ.snap).length+n:Nat):Int))
def ALA (s:Ld) (z:Int):Ld×Int:=if s.Λ.doubt=true then (s,2) else match Fa s.Λ z with
 |none=>(s,81)
 |some n=>AHs s n
def A2 (s:Ld) (base:Int) (snap:Bs) (es:List Bs) (zs:List Int):Ld×Int:=
 if es.length>200 then (s,83) else if (IL s.Λ (BA s.δ s.ω (BP base snap++es))).2=0 then (⟨(BA s.δ s.ω (BP base snap++es)).1,(BA s.δ s.ω (BP base snap++es)).2.1,⟨s.Λ.acc,s.Λ.cur,base,snap,es,zs,s.Λ.doubt⟩⟩,0) else IL s.Λ (BA s.δ s.ω (BP base snap++es))
def VY (b:Int) (zs:List Int):Prop:= ∀j,j<zs.length→b<zs.getD j 0∧(0<j→zs.getD (j-1) 0<zs.getD j 0)
instance (b:Int) (zs:List Int):Decidable (VY b zs):=by unfold VY;infer_instance
def BD (s:Ld) (z:Int) (snap:Bs) (l:List En):Ld×Int:=
 if s.Λ.doubt=true then (s,2) else if z<0∨snap.length>65536 then (s,1) else if l.all EK=false then (s,1) else if ¬VY z (l.map (·.zx)) then (s,81) else A2 s z snap (l.map Cb) (l.map (·.zx))
def Bh (s:Ld) (z:Int) (snap:Bs):Ld×Int:=
 if s.Λ.doubt=true then (s,2) else if snap.length>65536 then (s,1) else match Fa s.Λ z with
 |none=>(s,81)
 |some n=>A2 s z snap (s.Λ.ents.drop n) (s.Λ.zxs.drop n)
def GQ (δ:Dk):Dk×Wl×Int:=Ao (BN δ).1 newW (CV 0 0)
def I7 (δ:Dk):Dk×Wl×Int:=Ej (GQ δ).1 (GQ δ).2.1
def A6 (δ:Dk):Dk×Option Wl:=if (BN δ).2.isNone=true then ((BN δ).1,none) else if (GQ δ).2.2≠0 then ((GQ δ).1,none) else if (I7 δ).2.2≠0 then ((I7 δ).1,none) else ((I7 δ).1,some (I7 δ).2.1)
def PK (q:Bs×Int):En:=(Fg q.1).getD en0
def Np (Λ:Lg) (z:Int):List En:=((Λ.ents.zip Λ.zxs).filter fun q=>decide (q.2>z)).map PK
/-! ### On a disk that lives -/
structure Ho (s:Ld) (N:Int):Prop where
 well:EG s.δ s.ω N
 w:LgW s.Λ
 live:s.Λ.doubt=false
 recs:s.ω.recs=BP s.Λ.base s.Λ.snap++s.Λ.ents
 a:s.ω.a=s.Λ.acc
 b:s.ω.b=s.Λ.cur
theorem Ho.more {s:Ld} {N M:Int} (h:Ho s N) (hN:N≤M):Ho s M:=⟨h.well.more hN,h.w,h.live,h.recs,h.a,h.b⟩
theorem QV {s:Ld} {N:Int} (h:Ho s N) {e:En} (he:EnI e):Ho (Aj s e).1 (N+2000000)∧(Aj s e).1.δ.now.length=s.δ.now.length∧
  (((Aj s e).2=0∧(Aj s e).1.Λ=s.Λ.keep (Cb e) e.zx∧EK e=true∧FX s.Λ<e.zx∧(Cb e).length≤4000∧s.Λ.ents.length<200)∨((Aj s e).2≠0∧(Aj s e).1=s)):=by
 have hm:=h.more (M:=N+2000000) om
 unfold Aj
 rw [if_neg (by rw [h.live];decide)]
 split
 ·exact ⟨hm,rfl, .inr ⟨show (1:Int)≠0 by decide,rfl⟩⟩
 rename_i hf
 have hf:EK e=true:=by simpa using hf
 split
 ·exact ⟨hm,rfl, .inr ⟨show (81:Int)≠0 by decide,rfl⟩⟩
 rename_i hz
 split
 ·exact ⟨hm,rfl, .inr ⟨show (83:Int)≠0 by decide,rfl⟩⟩
 rename_i hr
 obtain ⟨w1,w2,w3⟩:=Fw h.well (Cb e)
 have hfew:=h.w.few
 rcases w3 with ⟨g1,g2,g3⟩|⟨g1,g3⟩|⟨g1,g2,g3⟩
 ·obtain ⟨δ1,q,hq⟩:∃δ1 q,Ao s.δ s.ω (Cb e)=(δ1,q):=⟨_,_,rfl⟩
  rw [hq] at w1 w2 g3 ⊢
  dsimp only at w1 w2 g3
  subst g3
  have e0:IL s.Λ (δ1,({s.ω with recs:=s.ω.recs++[Cb e]}:Wl),(0:Int))=(⟨δ1,{s.ω with recs:=s.ω.recs++[Cb e]},s.Λ⟩,0):=rfl
  rw [e0,if_pos rfl]
  dsimp only at w1 ⊢
  obtain ⟨b,hb⟩:∃b,Fg (Cb e)=some b:=by
   unfold EK at hf
   cases hg:Fg (Cb e) with
   |none=>rw [hg] at hf;simp at hf
   |some b=>exact ⟨b,rfl⟩
  have hbz:b.zx=e.zx:=by
   rw [ACn he hb];rfl
  refine ⟨⟨w1,⟨?_,?_,h.w.base,h.w.snap,Dh.keep ⟨b,hb,hbz⟩ he.zx h.w.rows (by show FX s.Λ<_;omega),h.w.eps⟩,h.live,?_,h.a,h.b⟩,w2, .inl ⟨rfl,rfl,hf,by omega,g1,by omega⟩⟩
  ·show (s.Λ.ents++[Cb e]).length≤200;rw [length_append,length_singleton];omega
  ·intro x hx
   rcases mem_append.1 hx with hx|hx
   ·exact h.w.each x hx
   ·rw [mem_singleton] at hx;subst hx;exact g1
  ·show s.ω.recs++[Cb e]=BP s.Λ.base s.Λ.snap++(s.Λ.ents++[Cb e])
   rw [h.recs,append_assoc]
 ·rw [g3,if_neg (by show ¬Dj 33=0;decide)]
  exact ⟨hm,rfl, .inr ⟨by show Dj 33≠0;decide,rfl⟩⟩
 ·rw [g3,if_neg (by show ¬Dj 30=0;decide)]
  exact ⟨hm,rfl, .inr ⟨by show Dj 30≠0;decide,rfl⟩⟩
theorem AJu:LgW lg0:=⟨by decide,(fun s hs=>by cases hs),by decide,by decide,trivial,by decide⟩
theorem Ib {n:Int} (h:16≤n∧n≤32768):∃ω,(A6 (Dk.new n)).2=some ω∧Ho ⟨(A6 (Dk.new n)).1,ω,lg0⟩ 4000003∧(A6 (Dk.new n)).1.now.length=n.toNat∧EG (BN (Dk.new n)).1 newW 3∧EG (GQ (Dk.new n)).1 (GQ (Dk.new n)).2.1 2000003:=by
 obtain ⟨f1,f2,f3⟩:=M3 h
 obtain ⟨δ1,hq⟩:∃δ1,(BN (Dk.new n)).1=δ1:=⟨_,rfl⟩
 have hF1:GQ (Dk.new n)=Ao δ1 newW (CV 0 0):=by rw [←hq];rfl
 rw [hq] at f2 f3
 have hnl:δ1.now.length=n.toNat:=by rw [f3,length_set,length_set];simp [Dk.new]
 obtain ⟨w1,w2,w3⟩:=Fw f2 (CV 0 0)
 have hl:(CV 0 0).length=2:=by kernel_rfl
 have hh:7≤Af δ1:=by unfold Af;omega
 have h0:(AH newW.recs).length=0:=rfl
 rcases w3 with ⟨-,-,g3⟩|⟨g1,-⟩|⟨-,g2,-⟩
 rotate_left
 ·omega
 ·omega
 obtain ⟨⟨δ2,q2⟩,hq2⟩:∃r,Ao δ1 newW (CV 0 0)=r:=⟨_,rfl⟩
 rw [hq2] at w1 w2 g3 hF1
 dsimp only at w1 w2 g3
 subst g3
 dsimp only at w1
 have hs:Ej δ2 {newW with recs:=newW.recs++[CV 0 0]}=Po (Cr δ2 {newW with recs:=newW.recs++[CV 0 0]} 0 [CV 0 0]):=by
  unfold Ej
  rw [if_neg dQ,if_neg (by show ¬((0:Int)=((1:Nat):Int));decide),if_neg dQ];rfl
 obtain ⟨e,w,k⟩:=J2 w1 dQ (area:=0) dQ (l:=[CV 0 0]) w1.fits w1.al rfl (by have:=w1.acts;omega)
 have hF2:I7 (Dk.new n)=Po (Cr δ2 {newW with recs:=newW.recs++[CV 0 0]} 0 [CV 0 0]):=by unfold I7;rw [hF1];exact hs
 have hfm:A6 (Dk.new n)=((I7 (Dk.new n)).1,some (I7 (Dk.new n)).2.1):=by
  unfold A6
  rw [f1,if_neg dQ,if_neg (by rw [hF1];exact fun g=>g rfl),if_neg (by rw [hF2,e];decide)]
 rw [hfm,hF2,hF1,hq]
 dsimp only
 exact ⟨_,rfl,⟨by rw [e,show (4000003:Int)=3+2000000+2000000 by decide];exact w,AJu,rfl,by rw [e];rfl,by rw [e];rfl,by rw [e];rfl⟩,by rw [k,length_set,w2,hnl],f2,w1⟩
theorem Uy:Fn prog 50 #[.slice none 0 0] [At 3 1 (.slice none 0 0) 0 []] fun u L=>u= .slice none 0 0∧L=[At 3 1 u 0 []]:=by
 refine Fn.intro func50 Y Y fun F W=>?_
 refine Z ?_
 refine .q (.clip (n:=0) Y Bv Y Y (Nat.le_refl _) (.inl Y)) Y (Z ?_)
 exact .dn Y Y ⟨Y,Y⟩
theorem Vc (b n c:Nat) (hc:n≤c) (xs:List Value):Fn prog 50 #[.slice (some ⟨b,0,none⟩) n c] [At 3 1 (.slice (some ⟨b,0,none⟩) n c) n xs] fun u L=>u= .slice (some ⟨b,0,none⟩) n n∧L=[At 3 1 u n xs]:=by
 refine Fn.intro func50 Y Y fun F W=>?_
 refine Z ?_
 refine .q (.clip (n:=n) Y Bv Y Y hc (.inr ⟨_,_,Y⟩)) Y (Z ?_)
 refine .slClip O ?_
 exact .dn Y Y ⟨Y,Y⟩
theorem XR (v:Value) (n:Nat) (xs:List Value):Fn prog 50 #[v] [At 3 1 v n xs] fun u L=>(∃a c,u= .slice a n c)∧L=[At 3 1 u n xs]:=by
 intro F w hs
 obtain ⟨g1,-,hp⟩:=Ae hs
 rcases hp with ⟨rfl,rfl,rfl⟩|⟨b,cap,rest,fr,rfl,-,-,-,h4,-⟩
 ·exact (Uy F w hs).mono fun e w' ⟨u,L,⟨h1,h2⟩,h3⟩=>⟨u,L,⟨⟨_,_,h1⟩,h2⟩,h3⟩
 ·exact (Vc b n cap h4 xs F w hs).mono fun e w' ⟨u,L,⟨h1,h2⟩,h3⟩=>⟨u,L,⟨⟨_,_,h1⟩,h2⟩,h3⟩
theorem AK4:(CV 0 0).length=2:=by kernel_rfl
theorem H8 (d:Nat) (δ:Dk) (hA:δ.acts+10<4611686018427387904) (hI:WlI (BN δ).1 newW) (hI1:WlI (GQ δ).1 (GQ δ).2.1):Fn prog 7 #[AD d] [DQ d δ] fun v L=>((A6 δ).2=none∧v= .tuple #[.pointer none,AA 2]∧L=[DQ d (A6 δ).1])∨
    (∃ω g x,(A6 δ).2=some ω∧v= .tuple #[AD g,AA 0]∧L=[JL g x lg0,LW x d ω,DQ d (A6 δ).1]):=by
 refine Fn.intro func7 Y Y fun F W=>?_
 refine Z ?_
 refine .oq (.c func31 [_] (UT d δ hA)) ?_
 rintro v L' (⟨hf,rfl,rfl⟩|⟨hf,x,rfl,rfl⟩)
 ·refine Z ?_
  have hr:A6 δ=((BN δ).1,none):=by unfold A6;rw [hf];rfl
  rw [hr]
  exact .dn Y Y (.inl ⟨Y,Y,Y⟩)
 refine Z ?_
 refine .oq (.c func33 [_,_] (My 0 [] dQ dQ)) ?_
 rintro v L' ⟨ba,ca,rfl,rfl⟩;rw [show BP 0 []=[CV 0 0] from rfl];dsimp only [length_cons,length_nil]
 refine Z ?_
 refine .q (.indexAddr Y Y Br om) Y (Z ?_)
 refine .q (.loadEl (p:=ET (.slice (some ⟨ba,0,none⟩) (0+1) ca) [CV 0 0]) (i:=0) (v:=AF (CV 0 0)) Y HL O (fun h hp=>Ad hp) Y) Y (Z ?_)
 refine .oq (.c func32 [_,_] (L7 x d newW (BN δ).1 (CV 0 0) hI (by rw [AK4];decide))) ?_
 rintro v L' ⟨rfl,rfl⟩;rw [show Ao (BN δ).1 newW (CV 0 0)=GQ δ from rfl]
 refine Z ?_
 refine .ndec (t:=23) Y (fun h4_23=>?_) (fun h4_23=>?_)
 ·refine .kNT (t:=21) Y h4_23 (.kNT (t:=22) Y h4_23 (Z ?_))
  have hr:A6 δ=((GQ δ).1,none):=by unfold A6;rw [hf,if_neg dQ,if_pos h4_23]
  rw [hr]
  exact .dn Y Y (.inl ⟨Y,Y,Y⟩)
 refine .kNF (t:=21) Y h4_23 (.kNF (t:=22) Y h4_23 (Z ?_))
 refine .oq (.c func34 [_] (WD x d (GQ δ).2.1 (GQ δ).1 hI1)) ?_
 rintro v L' ⟨rfl,rfl⟩;rw [show Ej (GQ δ).1 (GQ δ).2.1=I7 δ from rfl]
 refine Z ?_
 refine .condN Y (fun h27=>?_) (fun h27=>?_)
 ·refine Z ?_
  have hr:A6 δ=((I7 δ).1,none):=by unfold A6;rw [hf,if_neg dQ,if_neg (fun g=>g h4_23),if_pos h27]
  rw [hr]
  exact .dn Y Y (.inl ⟨Y,Y,Y⟩)
 refine Z ?_
 refine .q (.buildN (pl:=[(0,2),(2,1),(3,1),(4,1),(5,1),(6,1),(7,1)]) (us:=[(1,_)]) (cells:=[AA 0,AA 0,AD x,AA 0,AF [], .slice none 0 0, .slice none 0 0, .bool false]) underlying96 kQ Tg Y Y) Y (.oq (.box Y) ?_)
 rintro v L' ⟨g,rfl,rfl⟩
 refine Z ?_
 refine .ptCast (b:=g) (l':=[AA 0,AA 0,AD x,AA 0,AF [], .slice none 0 0, .slice none 0 0, .bool false]) O Y ?_
 refine Z ?_
 have hr:A6 δ=((I7 δ).1,some (I7 δ).2.1):=by unfold A6;rw [hf,if_neg dQ,if_neg (fun g=>g h4_23),if_neg (fun g=>g h27)]
 rw [hr]
 refine .add (AU 9 1) (.add (AU 3 1) (.lgFold (g:=g) (x:=x) (ea:=none) (ec:=0) (za:=none) (zc:=0) (es:=[]) (zs:=[]) lg0 O Y Y Y Y Y ?_))
 exact .dn Y Y (.inr ⟨_,_,_,Y,Y,Y⟩)
theorem Uv (g x:Nat) (Λ:Lg) (hl:RP Λ) (ea:Option Addr) (ec:Nat) (za:Option Addr) (zc:Nat):Fn prog 10 #[AD g] [AW g [AA Λ.acc,AA Λ.cur,AD x,AA Λ.base,AF Λ.snap, .slice ea Λ.ents.length ec, .slice za Λ.zxs.length zc, .bool Λ.doubt] 96,ET (.slice ea Λ.ents.length ec) Λ.ents,EO (.slice za Λ.zxs.length zc) Λ.zxs] fun v L=>v=AA (FX Λ)∧L=[AW g [AA Λ.acc,AA Λ.cur,AD x,AA Λ.base,AF Λ.snap, .slice ea Λ.ents.length ec, .slice za Λ.zxs.length zc, .bool Λ.doubt] 96,ET (.slice ea Λ.ents.length ec) Λ.ents,EO (.slice za Λ.zxs.length zc) Λ.zxs]:=by
 refine Fn.intro func10 Y Y fun F W=>?_
 have h1:=hl.ents
 have h2:=hl.same
 refine Z ?_
 refine .condD Y (fun h8=>?_) (fun h8=>?_)
 ·refine Z ?_
  rw [TP (Λ:=Λ) om]
  exact .vv
 refine Z ?_
 obtain ⟨i,hi⟩:∃i,i+1=Λ.zxs.length:=⟨Λ.zxs.length-1,by omega⟩
 refine .slShape (v:= .slice za _ zc) (xs:=BZ Λ.zxs) O om fun bz cz e0 mbz _=>?_
 simp only [Value.slice.injEq,true_and] at e0
 obtain ⟨rfl,rfl⟩:=e0
 refine .draw [] [[0,1,2,3,4,5,6,7,8,9,10,11,12]] mixed kQ (.g0 (.mv Y Y (.nf Y Y Y IE (.kv Y (.ld Y N5) (.mv Y Y (.nf Y Y Y IE (.kv Y (.ld Y N5) (.kv Y (.slen Y underlying23 Y) (.kv Y (.as (v':=AA (i:Nat)) (by congr 1;omega) (.sub Y Y om)) (.kv Y (.indexAddr Y Y Bv om) (.kv Y (.loadEl (p:=EO (.slice (some ⟨bz,0,none⟩) Λ.zxs.length zc) Λ.zxs) (i:=i*1) (v:=AA (Λ.zxs[i]'om)) Y CT O (fun h hp=>Ad hp) (by simp [List.getElem?_eq_getElem (show i<Λ.zxs.length by omega)])) ?_)))))))))))
 refine Z ?_
 rw [Y6 hi]
 exact .vv
theorem UL (st:Rs):Aw (AS st).1:=by
 unfold AS runP
 split
 ·decide
 ·split
  ·rename_i x hx;exact (Tm hx).2
  ·decide
theorem ADy {s:Bs} {e:En} (h:Fg s=some e):Aw e.zx:=by
 unfold Fg ADg at h
 split at h
 ·rename_i q hq
  cases h
  have:e.zx=(AS (some s)).1:=by rw [show e=(enR (some s)).1 by rw [hq]];rfl
  rw [this];exact UL _
 ·cases h
theorem RP.keep {Λ:Lg} (h:RP Λ) (hl:Λ.ents.length<200) {s:Bs} (hs:s.length≤1073741824) {z:Int} (hz:Aw z):RP (Λ.keep s z):=by
 refine ⟨?_,?_,?_,h.base,?_⟩
 ·show (Λ.ents++[s]).length≤200;rw [length_append,length_singleton];omega
 ·show (Λ.zxs++[z]).length=(Λ.ents++[s]).length;rw [length_append,length_append,h.same];rfl
 ·intro x hx
  rcases mem_append.1 hx with hx|hx
  ·exact h.each x hx
  ·rw [mem_singleton] at hx;subst hx;exact hs
 ·intro x hx
  rcases mem_append.1 hx with hx|hx
  ·exact h.zxs x hx
  ·rw [mem_singleton] at hx;subst hx;exact hz
def UN (st:Rs):Nat×Rs:=runP 0 (EN 65536) st
theorem AGR (st:Rs):(UN st).1≤65536:=by
 unfold UN runP
 split
 ·exact Nat.zero_le _
 ·split
  ·rename_i x hx;exact (K7 hx).2
  ·exact Nat.zero_le _
theorem AHR {s:Bs} (h:(UN (AS (some s)).2).2=some []):lhZ s=some ((AS (some s)).1,(UN (AS (some s)).2).1):=by
 have e:Nu (some s)=(((AS (some s)).1,(UN (AS (some s)).2).1),some []):=by rw [←h];rfl
 unfold lhZ;rw [e]
theorem AI6 {s:Bs} (h:¬(UN (AS (some s)).2).2=some []):lhZ s=none:=by
 unfold lhZ
 split
 ·rename_i q hq;exact absurd (show (Nu (some s)).2=some [] by rw [hq]) h
 ·rfl
theorem YJ {a b:Int} {l:List Bs} (h:0<l.length):HH a b l=match lhZ (l.getD 0 []) with
  |none=>none
  |some (base,n)=>if base<0 then none else ACH a b base (Im n [] (l.drop 1)):=by
 cases l with
 |nil=>simp at h
 |cons r t=>rfl
theorem Mu {l:List Bs} {i:Nat} (h:i<l.length):l.drop i=l.getD i []::l.drop (i+1):=by
 rw [drop_eq_getElem_cons h];simp [getD_eq_getElem?_getD,h]
theorem Q7 (b o c:Nat):(if c=(1:Int).toNat then (⟨b,o,none⟩:Addr) else ⟨b,o+(1:Int).toNat*1,none⟩)=⟨b,if c=1 then o else o+1,none⟩:=by
 show (if c=1 then _ else (⟨b,o+1,none⟩:Addr))=_
 split<;>rfl
theorem UW {h:Hp} {b o n c:Nat} {l:List Bs} (hr:CA 1 h (.slice (some ⟨b,o,none⟩) n c) n (A1 l)) (hn:0<n) (hc:n≤c):CA 1 h (.slice (some ⟨b,if c=1 then o else o+1,none⟩) (n-1) (c-1)) (n-1) (A1 (l.drop 1)):=by
 have hl:(A1 l).length=n*1:=HJ hr
 rw [show (A1 l).length=l.length by simp [A1]] at hl
 rcases Nat.lt_or_ge 1 n with h1|h1
 ·rw [if_neg om]
  have:=Oc (k:=1) hr h1
  rw [show (A1 l).drop (1*1)=A1 (l.drop 1) by simp [A1,map_drop]] at this
  exact this
 ·obtain rfl:n=1:=by omega
  refine .inl ⟨rfl,?_,_,_,rfl⟩
  rw [drop_eq_nil_of_le om];rfl
theorem Tu (g x:Nat) (a b:Int) (va:Value) (l:List Bs) (p:HP) (hr:∀h:Hp,p h→CA 1 h va l.length (A1 l)) (hl:l.length≤1048576) (hs:∀s∈l,s.length≤1073741824):Fn prog 49 #[AD g,va] [JL g x ⟨a,b,0,[],[],[],false⟩,p] fun v L=> ∃Λ ok,(ok=true→HH a b l=some Λ)∧(ok=false→HH a b l=none)∧v= .bool ok∧L=[JL g x Λ,p]:=by
 refine Fn.intro func49 Y Y fun F W=>?_
 refine .rdAny (p:=p) hr O fun aa ca e0 _=>?_
 subst e0
 refine Z ?_
 refine .condD Y (fun h13=>?_) (fun h13=>?_)
 ·have hln:l=[]:=eq_nil_of_length_eq_zero om
  subst hln
  refine Z ?_
  exact .dn Y Y ⟨_,false,(fun h=>by cases h),fun _=>rfl,rfl,rfl⟩
 refine .rdShapeC (p:=p) hr O om fun ba oa e hcap=>?_
 subst e
 have hpc:=YJ (a:=a) (b:=b) (l:=l) om
 have hs0:(l.getD 0 []).length≤1073741824:=by cases l with|nil=>simp|cons r t=>exact hs r (mem_cons_self ..)
 refine Z ?_
 refine .q (.indexAddr Y Y Br om) Y (.q (.loadEl (p:=p) (i:=0) (v:=AF (l.getD 0 [])) Y HL O hr (by have hil:0<l.length:=om;simp [A1,getD_eq_getElem?_getD,hil])) Y ?_)
 refine .oq (.c func107 [_] (Kj (l.getD 0 []) om)) ?_
 rintro v L' ⟨r,rfl,rfl⟩
 refine Z ?_
 refine .cv func108 [_] (Jk r (some (l.getD 0 []))) ?_
 refine .lgOpen O fun ea ec za zc=>(Z ?_)
 refine .oq (.call func109 Y Y (vs:=[_,_]) Y (G6 r 65536 dQ _)) ?_
 rintro v L' ⟨rfl,rfl⟩;rw [show runP 0 (EN 65536) (AS (some (l.getD 0 []))).2=UN (AS (some (l.getD 0 []))).2 from rfl]
 refine Z ?_
 refine .oq (.c func110 [_] (MG r _)) ?_
 rintro v L' ⟨e1,he1,rfl,st',rfl⟩
 refine Z ?_
 refine .ndec (t:=28) Y (fun h6_28=>?_) (fun h6_28=>?_)
 ·refine .kNT (t:=27) Y h6_28 (Z ?_)
  refine .lf (g:=g) (x:=x) ⟨a,b,(AS (some (l.getD 0 []))).1,[],[],[],false⟩ ?_
  exact .dn Y Y ⟨_,false,(fun h=>by cases h),fun _=>by rw [hpc,AI6 (fun g=>h6_28 (he1.2 g))],rfl,rfl⟩
 refine .kNF (t:=27) Y h6_28 (Z ?_)
 refine .condD Y (fun h34=>?_) (fun h34=>?_)
 ·refine Z ?_
  refine .lf (g:=g) (x:=x) ⟨a,b,(AS (some (l.getD 0 []))).1,[],[],[],false⟩ ?_
  exact .dn Y Y ⟨_,false,(fun h=>by cases h),fun _=>by rw [hpc,AHR (he1.1 (by simpa using h6_28))];exact if_pos h34,rfl,rfl⟩
 have hI0:=UL (some (l.getD 0 []))
 have hn0:=AGR (AS (some (l.getD 0 []))).2
 have hlh:=AHR (he1.1 (by simpa using h6_28))
 rw [hlh] at hpc
 generalize hbase:(AS (some (l.getD 0 []))).1=base at *
 generalize hmany:(UN (AS (some (l.getD 0 []))).2).1=many at *
 dsimp only at hpc
 rw [if_neg h34] at hpc
 refine .lf (g:=g) (x:=x) ⟨a,b,base,[],[],[],false⟩ ?_
 refine Z ?_
 refine .q (.to (v':= .slice (some ⟨ba,if ca=1 then oa else oa+1,none⟩) (l.length-1) (ca-1)) (.slSlice (i:=1) (j:=((l.length:Nat):Int)) Y Br Y Y om) (by rw [Q7];simp)) Y (Z ?_)
 refine .loopK (ι:=Nat×Nat×Nat×Bs) (fun q E=>(1, .slice (some ⟨ba,q.2.1,none⟩) (l.length-q.1) q.2.2.1)::E) (fun q=>[JL g x ⟨a,b,base,q.2.2.2,[],[],false⟩]) (fun q=>q.1≤l.length∧l.length-q.1≤q.2.2.1∧(∀h:Hp,p h→CA 1 h (.slice (some ⟨ba,q.2.1,none⟩) (l.length-q.1) q.2.2.1) (l.length-q.1) (A1 (l.drop q.1)))∧HH a b l=ACH a b base (Im many q.2.2.2 (l.drop q.1))∧q.2.2.2.length≤many) (fun q=>l.length-q.1) (1,(if ca=1 then oa else oa+1),ca-1,[]) (ts:=[0,6]) O (⟨by dsimp only;omega,by dsimp only;omega,fun h hp=>UW (hr h hp) om hcap,hpc,Nat.zero_le _⟩) O O ?_
 rintro ⟨i,o,c,sn⟩ ⟨hi,hic,hru,hpz,hsn⟩
 dsimp only
 dsimp only at hi hic hru hpz hsn
 refine .lgOpen O fun ea ec za zc=>?_
 dsimp only
 refine Z ?_
 refine .condD Y (fun h43=>?_) (fun h43=>?_)
 ·refine Z ?_
  refine .draw [] [[0,1,2,3,4,5,6,7,8,9,10,11,12,13,14,15,16,17]] mixed kQ (.g0 (Z ?_))
  refine D.dec (t:=47) Y (fun h10_47=>?_) (fun h10_47=>?_)
  ·refine D.kDT (t:=46) Y h10_47 (Z ?_)
   refine .lf (g:=g) (x:=x) ⟨a,b,base,sn,[],[],false⟩ ?_
   exact .dn Y Y ⟨_,false,(fun h=>by cases h),fun _=>by rw [hpz];rw [drop_eq_nil_of_le om,ABY om];rfl,rfl,rfl⟩
  refine D.kDF (t:=46) Y h10_47 (Z ?_)
  refine D.gv Y (.indexAddr Y Y Br om) (.gv Y (.loadEl (p:=p) (i:=0) (v:=AF (l.getD i [])) Y HL O hru (by have hil:i<l.length:=om;simp [A1,List.getElem?_drop,getD_eq_getElem?_getD,hil])) ?_)
  refine Z ?_
  refine D.gv Y (.min2 Y Y) (Z ?_)
  refine .condN Y (fun h61=>?_) (fun h61=>?_)
  ·refine Z ?_
   refine .lf (g:=g) (x:=x) ⟨a,b,base,sn,[],[],false⟩ ?_
   exact .dn Y Y ⟨_,false,(fun h=>by cases h),fun _=>by rw [hpz];rw [Mu om,AEC om om];rfl,rfl,rfl⟩
  refine Z ?_
  refine .draw [10] [[0,1,2,3,4,5,6,7,8,9,10]] mixed kQ (.g0 (Z ?_))
  refine D.kv Y (.indexAddr Y Y Br om) (.kv Y (.loadEl (p:=p) (i:=0) (v:=AF (l.getD i [])) Y HL O hru (by have hil:i<l.length:=om;simp [A1,List.getElem?_drop,getD_eq_getElem?_getD,hil])) ?_)
  refine D.kv Y (.concat Y Y om) (Z ?_)
  refine D.hh Y (.store Y Y Y Xz ?c70 (Bd _ _)) ?_
  case c70=>first|decide|(simp;omega)|simp
  rintro v L' rfl
  refine Z ?_
  refine .q (.to (v':= .slice (some ⟨ba,if c=1 then o else o+1,none⟩) ((l.length-i)-1) (c-1)) (.slSlice (i:=1) (j:=(((l.length-i):Nat):Int)) Y Br Y Y om) (by rw [Q7];simp)) Y (Z ?_)
  refine .lf (g:=g) (x:=x) ⟨a,b,base,(sn++l.getD i []),[],[],false⟩ ?_
  exact .rk ((i+1,(if c=1 then o else o+1),c-1,sn++l.getD i [])) (⟨by dsimp only;omega,by dsimp only;omega,fun h hp=>by have h9:=UW (hru h hp) om hic;rw [drop_drop] at h9;exact h9,by rw [hpz,Mu om,Rc om om],by dsimp only;rw [length_append];omega⟩) (by dsimp only;omega) O
 have hlt1:∀s∈l.drop i,s.length≤1073741824:=fun s hs1=>hs s (mem_of_mem_drop hs1)
 rw [Ms om] at hpz
 refine .lf (g:=g) (x:=x) ⟨a,b,base,sn,[],[],false⟩ ?_
 refine Z ?_
 refine .loopK (ι:=Nat×Lg) (fun q E=>(76,AA q.1)::E) (fun q=>[JL g x q.2]) (fun q=>q.1≤l.length-i∧RP q.2∧HH a b l=LK q.2 ((l.drop i).drop q.1)) (fun q=>l.length-i-q.1) (0,⟨a,b,base,sn,[],[],false⟩) (ts:=[0,74,75]) O (⟨Nat.zero_le _,⟨Nat.zero_le _,Y,(fun s hs=>by cases hs),hI0,fun z hz=>by cases hz⟩,hpz⟩) O O ?_
 rintro ⟨j,Λ⟩ ⟨hj,hΛ,hpe⟩
 dsimp only
 dsimp only at hj hΛ hpe
 refine Z ?_
 refine .condD Y (fun h77=>?_) (fun h77=>?_)
 ·have hjl:j<(l.drop i).length:=by rw [length_drop];omega
  have hdj:=Mu hjl
  have hsl:((l.drop i).getD j []).length≤1073741824:=by rw [getD_eq_getElem?_getD,List.getElem?_eq_getElem hjl];exact hlt1 _ (getElem_mem hjl)
  refine Z ?_
  refine .q (.indexAddr Y Y Br om) Y (.q (.loadEl (p:=p) (i:=j*1) (v:=AF ((l.drop i).getD j [])) Y HL O hru (by rw [Nat.mul_one];simp [A1,List.getElem?_drop,getD_eq_getElem?_getD,show i+j<l.length by omega])) Y ?_)
  refine Z ?_
  refine .oq (.c func44 [_] (Jy ((l.drop i).getD j []) om)) ?_
  rintro v L' ⟨ge,er,hge,rfl,rfl⟩
  refine Z ?_
  refine .oq (.allocA Cq) ?_
  rintro v L' ⟨b9,rfl,rfl⟩
  refine .sa Y Y GO (by exact hge.cells) ?_
  refine Z ?_
  refine .pc b9 (CB ge) ?_
  refine .lgOpen O fun ea ec za zc=>(Z ?_)
  refine .draw [] [[0,1,2,3,4,5,6,7,8,9,10,11,12,13,14,15,16]] mixed kQ (.go [AW b9 _ _,AW g _ _,ET _ Λ.ents,EO _ Λ.zxs] O (Z ?_))
  refine D.ndec (t:=87) Y (fun h18_87=>?_) (fun h18_87=>?_)
  ·refine D.kNT (t:=86) Y h18_87 (Z ?_)
   refine .lf (g:=g) (x:=x) Λ ?_
   exact .dn Y Y ⟨_,false,(fun h=>by cases h),fun _=>by rw [hpe,hdj,Z9 (by rcases hge with ⟨g1,-,-⟩|⟨-,g2,-⟩;exact absurd g1 h18_87;exact g2)],rfl,rfl⟩
  have hgz:Fg ((l.drop i).getD j [])=some ge.pl:=by rcases hge with ⟨-,g2,-⟩|⟨g1,-⟩;exact g2;omega
  have hgi:Aw ge.zx:=(ADy hgz:Aw ge.pl.zx)
  refine D.kNF (t:=86) Y h18_87 (Z ?_)
  refine D.gm (t:=87) Y Y Y kQ (.c func10 [_] (Uv g x Λ hΛ ea ec za zc)) O ?_
  refine Z ?_
  refine D.dec (t:=94) Y (fun h18_94=>?_) (fun h18_94=>?_)
  ·refine D.kDT (t:=92) Y h18_94 (.kDT (t:=93) Y h18_94 (Z ?_))
   refine .lf (g:=g) (x:=x) Λ ?_
   exact .dn Y Y ⟨_,false,(fun h=>by cases h),fun _=>by rw [hpe,hdj,T1 hgz (by first|exact .inl h18_94|exact .inr om)],rfl,rfl⟩
  refine D.kDF (t:=92) Y h18_94 (.kDF (t:=93) Y h18_94 (Z ?_))
  refine .condD Y (fun h101=>?_) (fun h101=>?_)
  ·refine Z ?_
   refine .lf (g:=g) (x:=x) Λ ?_
   exact .dn Y Y ⟨_,false,(fun h=>by cases h),fun _=>by rw [hpe,hdj,T1 hgz (by first|exact .inl h18_94|exact .inr om)],rfl,rfl⟩
  refine .lf (g:=g) (x:=x) Λ ?_
  have hkI:RP (Λ.keep ((l.drop i).getD j []) ge.zx):=hΛ.keep (by have:=hΛ.ents;omega) hsl hgi
  refine Z ?_
  refine .cv func38 [_,_,_] (Nt g x Λ ((l.drop i).getD j []) ge.zx hΛ) ?_
  refine Z ?_
  exact .rk ((j+1,Λ.keep ((l.drop i).getD j []) ge.zx)) (⟨by dsimp only;omega,hkI,by rw [hpe,hdj,Qz hgz (by rintro (g1|g1);exact h18_94 g1;omega)];rfl⟩) (by dsimp only;omega) O
 refine Z ?_
 exact .dn Y Y ⟨_,true,fun _=>by rw [hpe,drop_eq_nil_of_le (by rw [length_drop];omega)];rfl,(fun h=>by cases h),rfl,rfl⟩
theorem WO (d:Nat) (δ:Dk) (hn:2≤δ.now.length∧δ.now.length≤32768) (hok:δ.Ok) (hrs:∀ω,Hb δ=some ω→ω.doubt=false∧ω.recs.length≤1048576∧∀s∈ω.recs,s.length≤1073741824):Fn prog 19 #[AD d] [DQ d δ] fun v L=>(δ.dead=true∧v= .tuple #[.pointer none,AA 2]∧L=[DQ d δ])∨
    (δ.dead=false∧Hb δ=none∧v= .tuple #[.pointer none,AA 80]∧L=[DQ d δ])∨(δ.dead=false∧∃ω,Hb δ=some ω∧((Hy ω=none∧v= .tuple #[.pointer none,AA 80]∧L=[DQ d δ])∨(∃Λ g x,Hy ω=some Λ∧v= .tuple #[AD g,AA 0]∧L=[JL g x Λ,LW x d ω,DQ d δ]))):=by
 refine Fn.intro func19 Y Y fun F W=>?_
 refine Z ?_
 refine .oq (.c func46 [_] (AA3 d δ hn hok)) ?_
 rintro v L' (⟨hdd,rfl,rfl⟩|⟨hdd,hop,rfl,rfl⟩|⟨hdd,ω,hop,x,rfl,rfl⟩)
 ·refine Z ?_
  exact .dn Y Y (.inl ⟨hdd,Y,Y⟩)
 ·refine Z ?_
  exact .dn Y Y (.inr (.inl ⟨hdd,hop,Y,Y⟩))
 obtain ⟨hr1,hr2,hr3⟩:=hrs ω hop
 refine Z ?_
 refine .cv func47 [_] (VF x d ω) ?_
 refine Z ?_
 refine .q (.build (us:=[(0,_),(1,_)]) AKE AJs Y Y (by simp [AB])) Y (Z ?_)
 refine .q (.buildN (pl:=[(0,2),(2,1),(3,1),(4,1),(5,1),(6,1),(7,1)]) (us:=[(0,_),(1,_)]) (cells:=[AA ω.a,AA ω.b,AD x,AA 0,AF [], .slice none 0 0, .slice none 0 0, .bool false]) underlying96 kQ Tg Y Y) Y (.oq (.box Y) ?_)
 rintro v L' ⟨g,rfl,rfl⟩
 refine Z ?_
 refine .ptCast (b:=g) (l':=[AA ω.a,AA ω.b,AD x,AA 0,AF [], .slice none 0 0, .slice none 0 0, .bool false]) O Y ?_
 refine .add (AU 9 1) (.add (AU 3 1) (.lgFold (g:=g) (x:=x) (ea:=none) (ec:=0) (za:=none) (zc:=0) (es:=[]) (zs:=[]) ⟨ω.a,ω.b,0,[],[],[],false⟩ O Y Y Y Y Y (Z ?_)))
 refine .oq (.c func48 [_] (P4 x d ω om)) ?_
 rintro v L' (⟨h,-,-⟩|⟨-,aR,cR,rfl,rfl⟩);· rw [hr1] at h;cases h
 refine Z ?_
 refine .dec (t:=41) Y (fun h9_41=>?_) (fun h9_41=>?_)
 ·refine .kDT (t:=40) Y h9_41 (Z ?_)
  exact .dn Y Y (.inr (.inr ⟨hdd,ω,hop, .inl ⟨by unfold Hy;rw [if_pos (.inl h9_41)],rfl,rfl⟩⟩))
 refine .kDF (t:=40) Y h9_41 (Z ?_)
 refine .dec (t:=46) Y (fun h9_46=>?_) (fun h9_46=>?_)
 ·refine .kDT (t:=44) Y h9_46 (.kDT (t:=45) Y h9_46 (Z ?_))
  exact .dn Y Y (.inr (.inr ⟨hdd,ω,hop, .inl ⟨by unfold Hy;rw [if_pos (.inr h9_46)],rfl,rfl⟩⟩))
 refine .kDF (t:=44) Y h9_46 (.kDF (t:=45) Y h9_46 (Z ?_))
 refine .oq (.c func49 [_,_] (Tu g x ω.a ω.b (.slice aR ω.recs.length cR) ω.recs (ET (.slice aR ω.recs.length cR) ω.recs) (fun h hp=>Ad hp) hr2 hr3)) ?_
 rintro v L' ⟨Λ,ok,hpy,hpn,rfl,rfl⟩
 refine Z ?_
 refine .condB Y (fun h51=>?_) (fun h51=>?_)
 ·refine Z ?_
  exact .dn Y Y (.inr (.inr ⟨hdd,ω,hop, .inl ⟨by unfold Hy;rw [if_neg (by rintro (g1|g1);exact h9_41 g1;exact h9_46 g1)];exact hpn (by simpa using h51),rfl,rfl⟩⟩))
 refine Z ?_
 exact .dn Y Y (.inr (.inr ⟨hdd,ω,hop, .inr ⟨Λ,g,x,by unfold Hy;rw [if_neg (by rintro (g1|g1);exact h9_41 g1;exact h9_46 g1)];exact hpy (by simpa using h51),rfl,rfl⟩⟩))
theorem AO.preImp {P:Program} {E:Bi} {o:Oper} {p p':HP} {R:List HP} {K:Value→List HP→Prop} (hi:∀h,p h→p' h) (h:AO P o E (p'::R) K):AO P o E (p::R) K:=by
 intro ρ w F ha hs
 exact h ρ w F ha (B0 hi hs)
theorem AHX (z:Int):AA (z.fdiv (2^min (32:Int).toNat IntKind.i64.bits))=AA (z/4294967296):=by
 show AA (z.fdiv 4294967296)=_
 rw [Int.fdiv_eq_ediv_of_nonneg _ dQ]
theorem Lr {all:List Int} {j:Nat} (h:j<all.length):(all.take (j+1)).foldl Cn []=Cn ((all.take j).foldl Cn []) (all.getD j 0):=by
 rw [take_succ_eq_append_getElem h,foldl_append]
 simp [getD_eq_getElem?_getD,h]
theorem AKr {out:List Int} {z:Int} (h:z=0):Cn out z=out:=by unfold Cn;rw [if_pos h]
theorem AFs {out:List Int} {z:Int} (h:¬z=0) (h2:out≠[]) (h3:out.getLastD 0/4294967296=z/4294967296):Cn out z=out.dropLast++[z]:=by unfold Cn;rw [if_neg h,if_pos ⟨h2,h3⟩]
theorem ADC {out:List Int} {z:Int} (h:¬z=0) (h2:out=[]∨¬out.getLastD 0/4294967296=z/4294967296):Cn out z=out++[z]:=by
 unfold Cn;rw [if_neg h,if_neg]
 rintro ⟨g1,g2⟩;rcases h2 with h2|h2
 ·exact g1 h2
 ·exact h2 g2
theorem AAM {out:List Int} {i:Nat} (h:i+1=out.length) (z:Int):out.set i z=out.dropLast++[z]:=by
 obtain ⟨l,x,rfl⟩:∃l x,out=l++[x]:=⟨out.dropLast,out.getLast (by intro g;subst g;simp at h),(dropLast_concat_getLast _).symm⟩
 rw [length_append,length_singleton] at h
 obtain rfl:i=l.length:=by omega
 simp
theorem Ug {out:List Int} {i:Nat} (h:i+1=out.length):out.getLastD 0=out.getD i 0:=by
 obtain ⟨l,x,rfl⟩:∃l x,out=l++[x]:=⟨out.dropLast,out.getLast (by intro g;subst g;simp at h),(dropLast_concat_getLast _).symm⟩
 rw [length_append,length_singleton] at h
 obtain rfl:i=l.length:=by omega
 simp [getD_eq_getElem?_getD]
theorem AIx (out:List Int) (z:Int):(Cn out z).length≤out.length+1:=by
 unfold Cn
 split
 ·omega
 ·split
  ·rw [length_append,length_dropLast,length_singleton];omega
  ·rw [length_append,length_singleton];omega
theorem AGW (all:List Int) (j:Nat) (h:j≤all.length):((all.take j).foldl Cn []).length≤j:=by
 induction j with
 |zero=>simp
 |succ j ih=>
  rw [Lr om]
  have:=AIx ((all.take j).foldl Cn []) (all.getD j 0)
  have:=ih om
  omega
theorem NL (g x:Nat) (Λ:Lg) (hΛ:RP Λ):Fn prog 20 #[AD g] [JL g x Λ] fun v L=> ∃a c,v= .slice a (SA Λ).length c∧L=[JL g x Λ,EO v (SA Λ)]:=by
 refine Fn.intro func20 Y Y fun F W=>?_
 refine .lgOpen O fun ea ec za zc=>?_
 have h1:=hΛ.ents
 have h2:=hΛ.same
 refine Z ?_
 refine .add (AU 3 1) (Z ?_)
 refine .draw [4,9] [[0,1,2,3,5,6,7,8,11,4,9,10]] mixed kQ (.go [AW g _ _] O (Z ?_))
 refine D.hh Y (.buildSlice1 (vs:=[_]) Bv FA Y Y Y Y Y dQ) ?_
 rintro v L' ⟨b4,rfl,rfl⟩
 refine D.hh Y (.preImp (p:=AW b4 [AA Λ.base] 3) (p':=At 3 1 (.slice (some ⟨b4,0,none⟩) 1 1) 1 [AA Λ.base]) (fun h hp=>TE hp Y) (.append (n:=1) (m:=Λ.zxs.length) (xs:=[AA Λ.base]) (ys:=BZ Λ.zxs) (p:=EO (.slice za Λ.zxs.length zc) Λ.zxs) Y Y Y Bv (.inl ⟨_,underlying23⟩) FA Y Y ?hc14 ?hr15 ?hb16 dQ)) ?_
 case hc14=>intro y hy;obtain ⟨z,-,rfl⟩:=mem_map.1 hy;rfl
 case hr15=>exact fun h hp=>Ad hp
 case hb16=>omega
 rintro v L' ⟨⟨a9,c9,rfl⟩,rfl⟩
 refine Z ?_
 refine .slShape (v:= .slice a9 _ c9) O om fun b9 cc9 e0 mb9 _=>?_
 simp only [Value.slice.injEq,true_and] at e0
 obtain ⟨rfl,rfl⟩:=e0
 have hall:(Λ.base::Λ.zxs).length=1+Λ.zxs.length:=by rw [length_cons];omega
 refine Z ?_
 refine .loopK (ι:=Nat×Value×(List Int)) (fun q E=>(18,AA q.1)::(3,q.2.1)::E) (fun q=>[EO q.2.1 q.2.2]) (fun q=>q.1≤1+Λ.zxs.length∧(∃a c,q.2.1= .slice a q.2.2.length c)∧q.2.2=(((Λ.base::Λ.zxs).take q.1).foldl Cn [])) (fun q=>1+Λ.zxs.length-q.1) (0, .slice none 0 0,[]) (ts:=[2,16,17]) O (⟨Nat.zero_le _,⟨none,0,Y⟩,Y⟩) O O ?_
 rintro ⟨j,u,out⟩ ⟨hj,⟨au,cu,hu⟩,ho⟩
 dsimp only
 dsimp only at hj hu ho
 subst hu
 have hol:out.length≤j:=by rw [ho];exact AGW _ _ om
 refine Z ?_
 refine .condD Y (fun h19=>?_) (fun h19=>?_)
 ·refine Z ?_
  refine .q (.indexAddr Y Y Bv om) Y (.q (.loadEl (p:=At 3 1 (.slice (some ⟨b9,0,none⟩) (1+Λ.zxs.length) c9) (1+Λ.zxs.length) ([AA Λ.base]++BZ Λ.zxs)) (i:=j*1) (v:=AA ((Λ.base::Λ.zxs).getD j 0)) Y CT O (fun h hp=>Ad hp) (by have hjl:j<(Λ.base::Λ.zxs).length:=om;rw [show [AA Λ.base]++BZ Λ.zxs=BZ (Λ.base::Λ.zxs) from rfl];simp only [BZ,List.getElem?_map,Nat.mul_one,List.getElem?_eq_getElem hjl,getD_eq_getElem?_getD];rfl)) Y ?_)
  refine Z ?_
  refine .condD Y (fun h28=>?_) (fun h28=>?_)
  ·refine Z ?_
   exact .rk ((j+1, .slice au out.length cu,out)) (⟨by dsimp only;omega,⟨_,_,rfl⟩,by dsimp only;rw [Lr om,←ho,AKr h28]⟩) (by dsimp only;omega) O
  refine Z ?_
  refine .dec (t:=34) Y (fun h8_34=>?_) (fun h8_34=>?_)
  ·obtain ⟨i,hi⟩:∃i,i+1=out.length:=⟨out.length-1,by omega⟩
   refine .slShape (v:= .slice au _ cu) (xs:=BZ out) O om fun bu cu' e0 mbu _=>?_
   simp only [Value.slice.injEq,true_and] at e0
   obtain ⟨rfl,rfl⟩:=e0
   refine .kDT (t:=33) Y h8_34 (.gr (.m Y (.gr (.m Y (.gr (.q (.as (v':=AA (i:Nat)) (by congr 1;omega) (.sub Y Y om)) Y (Z ?_)))))))
   refine .q (.indexAddr Y Y Bv om) Y (Z ?_)
   refine .q (.loadEl (p:=EO (.slice (some ⟨bu,0,none⟩) out.length cu) out) (i:=i*1) (v:=AA (out.getD i 0)) Y CT O (fun h hp=>Ad hp) (by have hil:i<out.length:=om;simp [BZ,getD_eq_getElem?_getD,hil])) Y ?_
   refine Z ?_
   refine .q (.as (v':=AA (out.getD i 0/4294967296)) (by exact AHX _) (.shr Y Y (by first|decide|omega))) Y (Z ?_)
   refine .q (.as (v':=AA ((Λ.base::Λ.zxs).getD j 0/4294967296)) (by exact AHX _) (.shr Y Y (by first|decide|omega))) Y (Z ?_)
   refine .condD Y (fun h31=>?_) (fun h31=>?_)
   ·refine .region (.m Y (.m Y (.q (.as (v':=AA (i:Nat)) (by congr 1;omega) (.sub Y Y om)) Y (Z ?_))))
    refine .q (.indexAddr Y Y Bv om) Y (.oq (.storeRd (sz:=1) (n:=out.length) (c:=cu) (j:=i*1) (xs:=BZ out) Y Y Y IV ?h138 ?h239) ?_)
    case h138=>simp
    case h239=>omega
    rintro v L' rfl
    refine Z ?_
    refine .slCast (T:=3) (sz:=1) (m':=(out.set i ((Λ.base::Λ.zxs).getD j 0)).length) (xs':=BZ (out.set i ((Λ.base::Λ.zxs).getD j 0))) O (by simp) (by simp [BZ,map_set]) ?_
    exact .rk ((j+1, .slice (some ⟨bu,0,none⟩) out.length cu,out.set i ((Λ.base::Λ.zxs).getD j 0))) (⟨by dsimp only;omega,⟨some ⟨bu,0,none⟩,cu,by simp⟩,by dsimp only;rw [Lr om,←ho,AFs h28 (by intro g;rw [g] at hi;simp at hi) (by rw [Ug hi];exact h31),AAM hi]⟩) (by dsimp only;omega) O
   refine Z ?_
   refine .oq (.buildSlice1 (vs:=[_]) Bv FA Y Y Y Y Y dQ) ?_
   rintro v L' ⟨b6,rfl,rfl⟩
   refine .oq (.append1 Y Y Y Bv FA Y Y ?c45 ?c46 (Nat.le_refl _) ?c47 dQ) ?_
   case c45=>(first|(simp [AB];done)|(simp [AB,AQ,Value.cells];done))
   case c46=>rfl
   case c47=>omega
   rintro v L' ⟨⟨a6,c6,rfl⟩,rfl⟩
   refine Z ?_
   refine .slCast (T:=3) (sz:=1) (m':=(out++[(Λ.base::Λ.zxs).getD j 0]).length) (xs':=BZ (out++[(Λ.base::Λ.zxs).getD j 0])) O (by simp) (by simp [BZ,Value.cells]) ?_
   exact .rk ((j+1, .slice a6 (out.length+1) c6,out++[(Λ.base::Λ.zxs).getD j 0])) (⟨by dsimp only;omega,⟨a6,c6,by simp⟩,by dsimp only;rw [Lr om,←ho,ADC h28 (.inr (by rw [Ug hi];exact h31))]⟩) (by dsimp only;omega) O
  refine .kDF (t:=33) Y h8_34 (Z ?_)
  refine .oq (.buildSlice1 (vs:=[_]) Bv FA Y Y Y Y Y dQ) ?_
  rintro v L' ⟨b6,rfl,rfl⟩
  refine .oq (.append1 Y Y Y Bv FA Y Y ?c55 ?c56 (Nat.le_refl _) ?c57 dQ) ?_
  case c55=>(first|(simp [AB];done)|(simp [AB,AQ,Value.cells];done))
  case c56=>rfl
  case c57=>omega
  rintro v L' ⟨⟨a6,c6,rfl⟩,rfl⟩
  refine Z ?_
  refine .slCast (T:=3) (sz:=1) (m':=(out++[(Λ.base::Λ.zxs).getD j 0]).length) (xs':=BZ (out++[(Λ.base::Λ.zxs).getD j 0])) O (by simp) (by simp [BZ,Value.cells]) ?_
  exact .rk ((j+1, .slice a6 (out.length+1) c6,out++[(Λ.base::Λ.zxs).getD j 0])) (⟨by dsimp only;omega,⟨a6,c6,by simp⟩,by dsimp only;rw [Lr om,←ho,ADC h28 (.inl (eq_nil_of_length_eq_zero om))]⟩) (by dsimp only;omega) O
 have hje:j=1+Λ.zxs.length:=by omega
 have hoz:out=SA Λ:=by rw [ho,hje];unfold SA;rw [take_of_length_le om]
 subst hoz
 refine Z ?_
 refine .oq (.c func50 [_] (XR _ _ _)) ?_
 rintro v L' ⟨⟨ac,cc,rfl⟩,rfl⟩
 refine Z ?_
 refine .lf (g:=g) (x:=x) (ea:=ea) (ec:=ec) (za:=za) (zc:=zc) (m:=Λ.ents.length) (k:=Λ.zxs.length) Λ ?_
 exact .dn Y Y ⟨_,_,Y,Y⟩
def Jl (Λ:Lg) (z:Int) (j:Nat):List En:=(((Λ.ents.zip Λ.zxs).take j).filter fun q=>decide (q.2>z)).map PK
theorem M5 {Λ:Lg} {z:Int} {j:Nat} (h1:j<Λ.ents.length) (h2:j<Λ.zxs.length):Jl Λ z (j+1)=if Λ.zxs.getD j 0>z then Jl Λ z j++[PK (Λ.ents.getD j [],Λ.zxs.getD j 0)] else Jl Λ z j:=by
 have hz:j<(Λ.ents.zip Λ.zxs).length:=by rw [length_zip];omega
 unfold Jl
 rw [take_succ_eq_append_getElem hz,filter_append,map_append]
 have e:(Λ.ents.zip Λ.zxs)[j]=(Λ.ents.getD j [],Λ.zxs.getD j 0):=by simp [getD_eq_getElem?_getD,h1,h2]
 rw [e]
 split
 ·rename_i g
  rw [filter_cons_of_pos (by simpa using g)];rfl
 ·rename_i g
  rw [filter_cons_of_neg (by simpa using g)];simp
theorem AKt:Yu en0:=⟨⟨rfl,rfl⟩,fun y hy=>by cases hy⟩
theorem YH.at {s:Bs} {e:En} {er:Int} (h:YH s e er) (z:Int):e.pl=PK (s,z)∧Yu e:=by
 unfold PK
 rcases h with ⟨-,h1,h2⟩|⟨-,h1,rfl⟩
 ·exact ⟨by dsimp only;rw [h1];rfl,h2⟩
 ·exact ⟨by dsimp only;rw [h1];rfl,AKt⟩
theorem KH (g x:Nat) (Λ:Lg) (z:Int) (hΛ:RP Λ):Fn prog 14 #[AD g,AA z] [JL g x Λ] fun v L=>(z<Λ.base∧v= .tuple #[.slice none 0 0,AA 81]∧L=[JL g x Λ])∨(¬z<Λ.base∧∃es:List En,es.map En.pl=Np Λ z∧(∀e∈es,Yu e)∧∃a c,v= .tuple #[.slice a es.length c,AA 0]∧L=[JL g x Λ,At 40 11 (.slice a es.length c) es.length (es.flatMap CB),Am entR es]):=by
 refine Fn.intro func14 Y Y fun F W=>?_
 refine .lgOpen O fun ea ec za zc=>?_
 have h1:=hΛ.ents
 have h2:=hΛ.same
 refine Z ?_
 refine .condD Y (fun h16=>?_) (fun h16=>?_)
 ·refine Z ?_
  refine .lf (g:=g) (x:=x) (ea:=ea) (ec:=ec) (za:=za) (zc:=zc) (m:=Λ.ents.length) (k:=Λ.zxs.length) Λ ?_
  exact .dn Y Y (.inl ⟨h16,Y,Y⟩)
 refine Z ?_
 refine .add (AU 40 11) (.add (p:=Am entR []) (fun h=>CH h) (Z ?_))
 refine .loopK (ι:=Nat×Value×(List En)) (fun q E=>(22,AA q.1)::(6,q.2.1)::E) (fun q=>[At 40 11 q.2.1 q.2.2.length (q.2.2.flatMap CB),Am entR q.2.2]) (fun q=>q.1≤Λ.ents.length∧(∃a c,q.2.1= .slice a q.2.2.length c)∧q.2.2.map En.pl=Jl Λ z q.1∧(∀e∈q.2.2,Yu e)∧q.2.2.length≤q.1) (fun q=>Λ.ents.length-q.1) (0, .slice none 0 0,[]) (ts:=[0,1,4,5,20,21]) O (⟨Nat.zero_le _,⟨none,0,Y⟩,Y,(fun e he=>by cases he),Nat.le_refl _⟩) O O ?_
 rintro ⟨j,u,es⟩ ⟨hj,⟨au,cu,hu⟩,hes,hek,hel⟩
 dsimp only
 dsimp only at hj hu hes hek hel
 subst hu
 refine Z ?_
 refine .condD Y (fun h23=>?_) (fun h23=>?_)
 ·have hj2:j<Λ.ents.length:=by omega
  have hjz:j<Λ.zxs.length:=by omega
  refine .slShape (v:= .slice ea _ ec) (xs:=A1 Λ.ents) O om fun be ce' e0 mbe _=>?_
  simp only [Value.slice.injEq,true_and] at e0
  obtain ⟨rfl,rfl⟩:=e0
  refine .slShape (v:= .slice za _ zc) (xs:=BZ Λ.zxs) O om fun bz cz e0 mbz _=>?_
  simp only [Value.slice.injEq,true_and] at e0
  obtain ⟨rfl,rfl⟩:=e0
  have hsl:(Λ.ents.getD j []).length≤1073741824:=by rw [getD_eq_getElem?_getD,List.getElem?_eq_getElem hj2];exact hΛ.each _ (getElem_mem hj2)
  refine Z ?_
  refine .q (.indexAddr Y Y Br om) Y (.q (.loadEl (p:=ET (.slice (some ⟨be,0,none⟩) Λ.ents.length ec) Λ.ents) (i:=j*1) (v:=AF (Λ.ents.getD j [])) Y HL O (fun h hp=>Ad hp) (by simp [A1,getD_eq_getElem?_getD,hj2])) Y ?_)
  refine Z ?_
  refine .q (.indexAddr Y Y Bv om) Y (.q (.loadEl (p:=EO (.slice (some ⟨bz,0,none⟩) Λ.zxs.length zc) Λ.zxs) (i:=j*1) (v:=AA (Λ.zxs.getD j 0)) Y CT O (fun h hp=>Ad hp) (by simp [BZ,getD_eq_getElem?_getD,hjz])) Y ?_)
  refine Z ?_
  refine .condD Y (fun h35=>?_) (fun h35=>?_)
  ·refine Z ?_
   refine .oq (.c func44 [_] (Jy (Λ.ents.getD j []) om)) ?_
   rintro v L' ⟨ge,er,hge,rfl,rfl⟩
   refine Z ?_
   refine .oq (.allocA Cq) ?_
   rintro v L' ⟨b9,rfl,rfl⟩
   refine .sa Y Y GO (by exact hge.cells) ?_
   refine Z ?_
   refine .pc b9 (CB ge) ?_
   refine Z ?_
   refine .q (.loadAs (vs:=CB ge) Y Cz O (by simp [CB,A0]) Y) Y (.oq (.buildSlice (vs:=[_]) Ft Cq Y Y Y Y cQ dQ) ?_)
   rintro v L' ⟨b10,rfl,rfl⟩
   refine .oq (.append1 Y Y Y Ft Cq Y Y ?c45 ?c46 (Nat.le_refl _) ?c47 dQ) ?_
   case c45=>simp only [map_cons,map_nil,flatten_cons,flatten_nil,append_nil];simp only [Value.cells];intro z hz;exact hge.cells z (by simpa using hz)
   case c46=>rfl
   case c47=>omega
   rintro v L' ⟨⟨a6,c6,rfl⟩,rfl⟩
   refine Z ?_
   refine .bigAdd (f:=entR) (l:=es) (p:=entR ge) ge Y O (.slCast (T:=40) (sz:=11) (m':=(es++[ge]).length) (xs':=(es++[ge]).flatMap CB) O (by simp) (by rw [flatMap_append];simp [Value.cells]) ?_)
   exact .rk ((j+1, .slice a6 (es.length+1) c6,es++[ge])) (⟨by dsimp only;omega,⟨a6,c6,by simp⟩,by dsimp only;rw [M5 om om,if_pos h35,map_append,hes,←(hge.at (Λ.zxs.getD j 0)).1];rfl,(fun e he=>by rcases mem_append.1 he with he|he;exact hek e he;rw [mem_singleton] at he;subst he;exact (hge.at 0).2),by dsimp only;rw [length_append,length_singleton];omega⟩) (by dsimp only;omega) O
  refine Z ?_
  exact .rk ((j+1, .slice au es.length cu,es)) (⟨by dsimp only;omega,⟨au,cu,rfl⟩,by dsimp only;rw [M5 om om,if_neg h35];exact hes,hek,by dsimp only;omega⟩) (by dsimp only;omega) O
 have hje:j=Λ.ents.length:=by omega
 have hes2:es.map En.pl=Np Λ z:=by rw [hes,hje];unfold Jl Np;rw [take_of_length_le (by rw [length_zip];omega)]
 refine Z ?_
 refine .lf (g:=g) (x:=x) (ea:=ea) (ec:=ec) (za:=za) (zc:=zc) (m:=Λ.ents.length) (k:=Λ.zxs.length) Λ ?_
 exact .dn Y Y (.inr ⟨h16,es,hes2,hek,_,_,Y,Y⟩)
theorem PJ {δ:Dk} {ω:Wl} {N:Int} (h:EG δ ω N) (l:List Bs):EG (BA δ ω l).1 (BA δ ω l).2.1 (N+2000000)∧(BA δ ω l).1.now.length=δ.now.length∧
  ((∃ar c,(BA δ ω l).2=({ω with recs:=l,synced:=l.length,area:=ar,count:=c},0)∧∀s∈l,s.length≤4000)∨(∃e,(e=33∨e=30)∧BA δ ω l=(δ,ω,e))):=by
 have hk:=Wv h l
 refine ⟨hk.well,hk.len,?_⟩
 unfold BA
 rw [if_neg (by rw [h.doubt];decide)]
 split
 ·exact .inr ⟨33, .inl rfl,rfl⟩
 ·rename_i hlong
  split
  ·exact .inr ⟨30, .inr rfl,rfl⟩
  ·split
   ·exact .inr ⟨30, .inr rfl,rfl⟩
   ·rename_i h2 h3
    have hl:((AH l).length:Int)≤64*Af δ:=by omega
    have ha:0≤1-ω.area∧1-ω.area≤1:=by have:=h.area;omega
    have hh:=D3 h.size
    obtain ⟨a1,a2⟩:=MQ ((AH l).length+1) δ (1-ω.area) (AH l) (0/64) h.al ha h.size.1 hl
    have ak:=FY δ (1-ω.area) (AH l) 0
    rw [if_neg (by show ¬(Fc _ _ _ _ _).2≠0;rw [a1];exact fun g=>g rfl)]
    obtain ⟨e,-,-⟩:=J2 h om ha hl a2 ak.1 (by have:=h.acts;have:=ak.2;show (DR δ (1-ω.area) (AH l) 0).1.acts≤_;omega)
    have e2:(Po (Cr (DR δ (1-ω.area) (AH l) 0).1 ω (1-ω.area) l)).2=({ω with recs:=l,synced:=l.length,area:=1-ω.area,count:=ω.count+1},0):=e
    rw [e2]
    refine .inl ⟨1-ω.area,ω.count+1,rfl,fun s hs=>?_⟩
    rcases Nat.lt_or_ge 4000 s.length with g|g
    ·exact absurd (any_eq_true.2 ⟨s,hs,decide_eq_true g⟩) hlong
    ·exact g
structure YU (s:Ld) (N:Int) (r:Ld×Int):Prop where
 well:Ho r.1 (N+4000000)
 len:r.1.δ.now.length=s.δ.now.length
 bad:r.2≠0→r.1.Λ=s.Λ
 live:r.2≠2
theorem YU.same {s:Ld} {N:Int} (h:Ho s N) {e:Int} (he:e≠2):YU s N (s,e):=⟨h.more om,rfl,fun _=>rfl,he⟩
theorem AFR {e:Int} (h:e=33∨e=30∨e=1):Dj e≠0∧Dj e≠2:=by rcases h with rfl|rfl|rfl<;>exact ⟨by decide,by decide⟩
theorem AEs {Λ:Lg} {e:Int} (h:e≠2):Λ.met e=Λ:=by unfold Lg.met;rw [if_neg h]
theorem ABC {s:Ld} {N:Int} (h:Ho s N) {e:En} (he:EnI e):YU s N (Aj s e):=by
 obtain ⟨w1,w2,w3⟩:=QV h he
 refine ⟨w1.more om,w2,fun g=>?_,?_⟩
 ·rcases w3 with ⟨g1,-⟩|⟨-,g2⟩
  ·exact absurd g1 g
  ·rw [g2]
 ·intro g
  rcases w3 with ⟨g1,-⟩|⟨-,g2⟩
  ·rw [g1] at g;cases g
  ·revert g
   unfold Aj
   rw [if_neg (by rw [h.live];decide)]
   split
   ·show (1:Int)=2→False;decide
   split
   ·show (81:Int)=2→False;decide
   split
   ·show (83:Int)=2→False;decide
   rcases (Fw h.well (Cb e)).2.2 with ⟨-,-,q⟩|⟨-,q⟩|⟨-,-,q⟩
   ·obtain ⟨⟨δ1,q1⟩,hq⟩:∃r,Ao s.δ s.ω (Cb e)=r:=⟨_,rfl⟩
    rw [hq] at q ⊢;dsimp only at q;subst q
    rw [if_pos (by show Dj 0=0;decide)]
    show (0:Int)=2→False;decide
   ·rw [q,if_neg (by show ¬Dj 33=0;decide)];show Dj 33=2→False;decide
   ·rw [q,if_neg (by show ¬Dj 30=0;decide)];show Dj 30=2→False;decide
theorem AE6 {Λ:Lg} {z:Int} {n:Nat} (h:Fa Λ z=some n):n≤Λ.zxs.length∧(Λ.base::Λ.zxs).getD n 0=z:=by
 unfold Fa at h
 split at h
 ·rename_i hm
  cases h
  have:=idxOf_lt_length_of_mem hm
  refine ⟨by omega,?_⟩
  simp [getD_eq_getElem?_getD,this]
 ·split at h
  ·rename_i hb;cases h;exact ⟨Nat.zero_le _,hb.symm⟩
  ·cases h
theorem X2:∀f,FE f []=[]
 |0=>rfl
 |f+1=>by unfold FE;rw [if_pos rfl]
theorem ADI {k n:Nat} (h1:k*4000≤n-4000+3999) (g:4000<n):(k+1)*4000≤n+3999:=by omega
theorem MM:∀(f:Nat) (s:Bs),s.length≤f→(FE f s).length*4000≤s.length+3999∧∀x∈FE f s,x.length≤4000
 |0,s,h=>by rw [show FE 0 s=[] from rfl];exact ⟨by simp,fun x hx=>by cases hx⟩
 |f+1,s,h=>by
  unfold FE
  split
  ·exact ⟨by simp,fun x hx=>by cases hx⟩
  ·rename_i hs
   have hp:0<s.length:=length_pos_iff.2 hs
   obtain ⟨h1,h2⟩:=MM f (s.drop 4000) (by rw [length_drop];omega)
   rw [length_drop] at h1
   refine ⟨?_,?_⟩
   ·rw [length_cons]
    rcases Nat.lt_or_ge 4000 s.length with g|g
    ·exact ADI h1 g
    ·rw [drop_eq_nil_of_le g,X2 f];simp;omega
   ·intro x hx
    rcases mem_cons.1 hx with rfl|hx
    ·rw [length_take];omega
    ·exact h2 x hx
theorem J6 (base:Int) (snap:Bs) (h:snap.length≤65536):(BP base snap).length≤18:=by
 unfold BP JB
 have:=(MM snap.length snap (Nat.le_refl _)).1
 rw [length_cons];omega
theorem AEp {s:Ld} {N:Int} (h:Ho s N) {base:Int} {snap:Bs} {es:List Bs} {zs:List Int} (hb:0≤base∧base≤9223372036854775807) (hs:snap.length≤65536) (hr:Dh base es zs):YU s N (A2 s base snap es zs)∧
  ((A2 s base snap es zs).2=0→(A2 s base snap es zs).1.Λ=⟨s.Λ.acc,s.Λ.cur,base,snap,es,zs,s.Λ.doubt⟩∧(A2 s base snap es zs).1.ω.synced=(A2 s base snap es zs).1.ω.recs.length):=by
 unfold A2
 split
 ·exact ⟨.same h dQ,fun g=>absurd (show (83:Int)=0 from g) dQ⟩
 rename_i hl
 obtain ⟨w1,w2,w3⟩:=PJ h.well (BP base snap++es)
 obtain ⟨⟨δ1,ω1,e1⟩,hq⟩:∃r,BA s.δ s.ω (BP base snap++es)=r:=⟨_,rfl⟩
 rw [hq] at w1 w2 w3 ⊢
 dsimp only at w1 w2 w3
 rcases w3 with ⟨ar,c,g,hall⟩|⟨e,hee,g⟩
 ·cases g
  rw [if_pos (by show Dj 0=0;decide)]
  exact ⟨⟨⟨w1.more om,⟨by show es.length≤200;omega,fun x hx=>hall x (mem_append_right _ hx),hb,hs,hr,h.w.eps⟩,h.live,rfl,h.a,h.b⟩,w2,fun g=>absurd rfl g,by show (0:Int)≠2;decide⟩,fun _=>⟨rfl,rfl⟩⟩
 ·cases g
  obtain ⟨m1,m2⟩:=AFR (e:=e1) om
  rw [if_neg (show ¬(IL s.Λ (s.δ,s.ω,e1)).2=0 from m1)]
  have hm:s.Λ.met e1=s.Λ:=AEs om
  exact ⟨⟨⟨w1.more om,by show LgW (s.Λ.met e1);rw [hm];exact h.w,by show (s.Λ.met e1).doubt=false;rw [hm];exact h.live,by show s.ω.recs=BP (s.Λ.met e1).base (s.Λ.met e1).snap++(s.Λ.met e1).ents;rw [hm];exact h.recs,by show s.ω.a=(s.Λ.met e1).acc;rw [hm];exact h.a,by show s.ω.b=(s.Λ.met e1).cur;rw [hm];exact h.b⟩,w2,fun _=>hm,m2⟩,fun g=>absurd g m1⟩
theorem Tw (v:Value) (n:Nat) (xs:List Value) (p:HP) (hr:∀h:Hp,p h→CA 1 h v n xs) (hc:∀y∈xs,AB y=true) (hb:n≤4294967296):Fn prog 96 #[v] [p] fun u L=>(∃a c,u= .slice a n c)∧L=[At 3 1 u n xs,p]:=by
 refine Fn.intro func96 Y Y fun F W=>?_
 refine .rdAny (p:=p) hr O fun aa ca e hlen=>?_
 subst e
 refine Z ?_
 rcases aa with _|aa
 ·refine .q (.sleq Y Y underlying23) Y (Z ?_)
  refine .nilEmpty (p:=p) hr O fun e1 e2=>?_
  subst e1;subst e2
  refine .add (AU 3 1) ?_
  exact .dn Y Y ⟨⟨_,_,Y⟩,Y⟩
 refine .q (.sleq Y Y underlying23) Y (Z ?_)
 refine .oq (.buildSlice1 (vs:=[]) Bv FA Y Y Y Y Y dQ) ?_
 rintro v L' ⟨b0,rfl,rfl⟩
 refine Z ?_
 refine .slMake (n:=0) (c:=0) (xs:=[]) (b:=b0) O (Nat.le_refl _) (Nat.zero_le _) Y (.oq (.append (n:=0) (m:=n) (xs:=[]) (ys:=xs) (p:=p) Y Y Y Bv (.inl ⟨_,underlying23⟩) FA Y Y ?hc9 ?hr10 ?hb11 dQ) ?_)
 case hc9=>exact hc
 case hr10=>exact hr
 case hb11=>omega
 rintro v L' ⟨⟨a1,c1,rfl⟩,rfl⟩;rw [Nat.zero_add,nil_append]
 refine Z ?_
 exact .dn Y Y ⟨⟨_,_,Y⟩,Y⟩
theorem AAP (a:Int):Fn prog 151 #[AA a] [] fun v L=>v= .bool false∧L=[]:=by
 refine Fn.intro func151 Y Y fun F W=>?_
 refine .sr (.an Y (.sm Y (.m Y (.q (.as (v':= .bool false) (by simp) (.int Y Y Y)) Y (Z ?_)))))
 exact .vv
theorem AA8 (a:Int):Fn prog 211 #[AA a] [] fun v L=>v= .bool false∧L=[]:=by
 refine Fn.intro func211 Y Y fun F W=>?_
 refine .sr (.an Y (.sm Y (.m Y (.q (.as (v':= .bool false) (by simp) (.int Y Y Y)) Y (Z ?_)))))
 exact .vv
theorem ABS (a b:Int):Fn prog 150 #[AA a,AA b] [] fun v L=>v= .bool (decide (a<b))∧L=[]:=by
 refine Fn.intro func150 Y Y fun F W=>?_
 refine Z ?_
 refine .cv func211 [_] (AA8 a) ?_
 refine Z ?_
 exact .vv
theorem AHH {zs:List Int} {z:Int} {i:Nat} (hs:zs.Pairwise (· < ·)) (hi:i<zs.length) (h:zs.getD i 0=z):z∈zs∧i=zs.idxOf z:=by
 have e:zs[i]=z:=by simpa [getD_eq_getElem?_getD,hi] using h
 have hn:zs.Nodup:=hs.imp (fun h=>by omega)
 refine ⟨e▸getElem_mem hi,?_⟩
 have hl:=idxOf_lt_length_of_mem (e▸getElem_mem hi:z∈zs)
 have h1:zs[zs.idxOf z]=z:=getElem_idxOf hl
 exact (getElem_inj hn).1 (e.trans h1.symm)
theorem Sb {zs:List Int} {z:Int} {i:Nat} (hs:zs.Pairwise (· < ·)) (h1:∀k,k<i→zs.getD k 0<z) (h2:∀k,i≤k→k<zs.length→z≤zs.getD k 0) (h:¬(i<zs.length∧zs.getD i 0=z)):¬z∈zs:=by
 intro hm
 obtain ⟨k,hk,hz⟩:=mem_iff_getElem.1 hm
 have e:zs.getD k 0=z:=by simpa [getD_eq_getElem?_getD,hk] using hz
 rcases Nat.lt_or_ge k i with g|g
 ·have:=h1 k g;omega
 ·have hi:i<zs.length:=by omega
  have h3:=h2 i (Nat.le_refl _) hi
  rcases Nat.eq_or_lt_of_le g with g|g
  ·subst g;exact h ⟨hi,e⟩
  ·have:=pairwise_iff_getElem.1 hs i k hi hk g
   have e1:zs.getD i 0=zs[i]:=by simp [getD_eq_getElem?_getD,hi]
   exact h ⟨hi,by omega⟩
theorem AAs (a b:Nat) (h:a+b≤8589934592):Value.int .i64 (IntKind.i64.wrap ((IntKind.u64.wrap ((a:Int)+b)).fdiv (2^min (1:Int).toNat IntKind.u64.bits)))=AA (((a+b)/2:Nat):Int):=by
 have e1:IntKind.u64.wrap ((a:Int)+b)=((a+b:Nat):Int):=by
  simp [IntKind.wrap,IntKind.bits,IntKind.signed];omega
 rw [e1]
 have e2:((a+b:Nat):Int).fdiv (2^min (1:Int).toNat IntKind.u64.bits)=(((a+b)/2:Nat):Int):=by
  show ((a+b:Nat):Int).fdiv 2=_
  rw [Int.fdiv_eq_ediv_of_nonneg _ dQ];omega
 rw [e2]
 have e3:IntKind.i64.wrap (((a+b)/2:Nat):Int)=(((a+b)/2:Nat):Int):=by
  rw [HO];omega
 rw [e3]
theorem AHU {zs:List Int} (hs:zs.Pairwise (· < ·)) {a b:Nat} (h:a<b) (hb:b<zs.length):zs.getD a 0<zs.getD b 0:=by
 have:=pairwise_iff_getElem.1 hs a b om hb h
 simpa [getD_eq_getElem?_getD,hb,show a<zs.length by omega] using this
theorem AJX {zs:List Int} (hs:zs.Pairwise (· < ·)) {a b:Nat} {z:Int} (hb:b<zs.length) (h:a<b) (hz:zs.getD b 0<z):zs.getD a 0<z:=by
 have:=AHU hs h hb;omega
theorem AJl {zs:List Int} (hs:zs.Pairwise (· < ·)) {a b:Nat} {z:Int} (h:b≤a) (ha:a<zs.length) (hz:¬zs.getD b 0<z):z≤zs.getD a 0:=by
 rcases Nat.eq_or_lt_of_le h with g|g
 ·subst g;omega
 ·have:=AHU hs g ha;omega
theorem S4 (va:Value) (zs:List Int) (z:Int) (p:HP) (hr:∀h:Hp,p h→CA 1 h va zs.length (BZ zs)) (hs:zs.Pairwise (· < ·)) (hl:zs.length≤4294967296):Fn prog 93 #[va,AA z] [p] fun v L=>(∃i:Nat,v= .tuple #[AA i, .bool (decide (z∈zs))]∧(z∈zs→i=zs.idxOf z))∧L=[p]:=by
 refine Fn.intro func93 Y Y fun F W=>?_
 refine .rdAny (p:=p) hr O fun aa ca e0 _=>?_
 subst e0
 refine .sr (.a Y (.an Y (.sm Y (.q (.slen Y underlying23 Y) Y (.an Y (.sm Y (.a Y (.an Y (.seq (.block (.loopK (ι:=Nat×Nat) (fun q E=>(7,AA q.1)::(8,AA q.2)::E) (fun q=>[]) (fun q=>q.1≤q.2∧q.2≤zs.length∧(∀k,k<q.1→zs.getD k 0<z)∧∀k,q.2≤k→k<zs.length→z≤zs.getD k 0) (fun q=>q.2-q.1) (0,zs.length) (ts:=[0,1,4,5,6]) O (⟨Nat.zero_le _,Nat.le_refl _,fun k hk=>absurd hk (Nat.not_lt_zero k),fun k h1 h2=>absurd h2 (Nat.not_lt.2 h1)⟩) O O ?_)))))))))))
 rintro ⟨i,j⟩ ⟨hij,hj,hlo,hhi⟩
 dsimp only
 dsimp only at hij hj hlo hhi
 refine .seq (.sm Y (.m Y (.ui Y Y Y (.nt (.condD Y (fun h15=>?_) (fun h15=>?_))))))
 ·have hm:(i+j)/2<zs.length:=by omega
  refine .rdShape (p:=p) hr O om fun ba oa e=>?_
  subst e
  refine .sk (.block (.sm Y (.m Y (.q (.add Y Y om) Y (.q (.conv Y underlying3 underlying117) Y (.q (.shr Y Y (by first|decide|omega)) Y (.q (.as (v':=AA (((i+j)/2:Nat):Int)) (by exact AAs i j om) (.conv Y underlying117 underlying3)) Y (.an Y (.sm Y (.m Y (.q (.indexAddr Y Y Bv om) Y (.q (.loadEl (p:=p) (i:=((i+j)/2)*1) (v:=AA (zs.getD ((i+j)/2) 0)) Y CT O hr (by have hil:(i+j)/2<zs.length:=om;simp [BZ,getD_eq_getElem?_getD,hil])) Y ?_))))))))))))
  refine .m Y (.cv func150 [_,_] (ABS _ z) ?_)
  refine .nt (.condD Y (fun h27=>?_) (fun h27=>?_))
  ·refine .region (.m Y (.q (.add Y Y om) Y (.a Y (.nil (.blk_n (.then_n ?_))))))
   exact .rk (((i+j)/2+1,j)) (⟨by dsimp only;omega,hj,fun k hk=>by rcases Nat.lt_or_ge k ((i+j)/2) with g|g;exact AJX hs om g h27;obtain rfl:k=(i+j)/2:=(by dsimp only at hk;omega);exact h27,hhi⟩) (by dsimp only;omega) O
  refine .region (.m Y (.a Y (.nil (.blk_n (.then_n ?_)))))
  exact .rk ((i,(i+j)/2)) (⟨by dsimp only;omega,by dsimp only;omega,hlo,fun k h1 h2=>AJl hs h1 h2 h27⟩) (by dsimp only;omega) O
 refine .xe (.sm Y (.m Y (.m Y (.ui Y Y Y (.m Y (.dec (t:=35) Y (fun h8_35=>?_) (fun h8_35=>?_)))))))
 ·refine .rdShape (p:=p) hr O om fun ba oa e=>?_
  subst e
  refine .kDT (t:=34) Y h8_35 (.gr (.m Y (.gr (.m Y (.gr (.q (.indexAddr Y Y Bv om) Y (.gr (.q (.loadEl (p:=p) (i:=(i)*1) (v:=AA (zs.getD (i) 0)) Y CT O hr (by have hil:i<zs.length:=om;simp [BZ,getD_eq_getElem?_getD,hil])) Y ?_))))))))
  refine .gr (.m Y (.gr (.ui Y Y Y (.gr (.m Y (.dec (t:=42) Y (fun h8_42=>?_) (fun h8_42=>?_)))))))
  ·refine .kDT (t:=41) Y h8_42 (.gk (.gk (.gk (.gk (.gk (.gk (.gn (.gn (.gk (.gr (.pT Y Y (.pT Y Y (.a Y (.an Y (.ret ?_)))))))))))))))
   have hji:j=i:=by omega
   subst hji
   exact .dn Y Y ⟨⟨_,by rw [decide_eq_true (AHH hs om h8_42).1],fun _=>(AHH hs om h8_42).2⟩,rfl⟩
  refine .kDF (t:=41) Y h8_42 (.gr (.m Y (.gr (.m Y (.gr (.q (.indexAddr Y Y Bv om) Y (.gr (.q (.loadEl (p:=p) (i:=(i)*1) (v:=AA (zs.getD (i) 0)) Y CT O hr (by have hil:i<zs.length:=om;simp [BZ,getD_eq_getElem?_getD,hil])) Y ?_))))))))
  refine .gr (.cv func151 [_] (AAP _) ?_)
  refine .gr (.m Y (.gk (.gk (.gr (.pF Y Y (.gr (.pF Y Y (.pT Y Y (.a Y (.an Y (.ret ?_)))))))))))
  have hji:j=i:=by omega
  subst hji
  exact .dn Y Y ⟨⟨_,by rw [decide_eq_false (Sb hs hlo hhi (fun g=>h8_42 g.2))],fun h=>absurd h (Sb hs hlo hhi (fun g=>h8_42 g.2))⟩,rfl⟩
 refine .kDF (t:=34) Y h8_35 (.gk (.gk (.gk (.gk (.gk (.gk (.gk (.gn (.gn (.gn (.gn (.gn (.gn (.gn (.gn (.gn (.gk (.pF Y Y (.a Y (.an Y (.ret ?_)))))))))))))))))))))
 have hji:j=i:=by omega
 subst hji
 exact .dn Y Y ⟨⟨_,by rw [decide_eq_false (Sb hs hlo hhi (fun g=>by omega))],fun h=>absurd h (Sb hs hlo hhi (fun g=>by omega))⟩,rfl⟩
theorem YQ (g x:Nat) (Λ:Lg) (z:Int) (hΛ:RP Λ) (hs:Λ.zxs.Pairwise (· < ·)):Fn prog 42 #[AD g,AA z] [JL g x Λ] fun v L=>v= .tuple #[AA ((Fa Λ z).getD 0:Nat), .bool (Fa Λ z).isSome]∧L=[JL g x Λ]:=by
 refine Fn.intro func42 Y Y fun F W=>?_
 refine .lgOpen O fun ea ec za zc=>?_
 have h1:=hΛ.ents
 have h2:=hΛ.same
 refine Z ?_
 refine .oq (.call func93 Y Y (vs:=[_,_]) Y (S4 _ Λ.zxs z (EO (.slice za Λ.zxs.length zc) Λ.zxs) (fun h hp=>Ad hp) hs om)) ?_
 rintro v L' ⟨⟨i,rfl,hix⟩,rfl⟩
 refine Z ?_
 refine .condD Y (fun h17=>?_) (fun h17=>?_)
 ·have hil:=idxOf_lt_length_of_mem h17
  have hi:=hix h17
  refine Z ?_
  refine .lf (g:=g) (x:=x) (ea:=ea) (ec:=ec) (za:=za) (zc:=zc) (m:=Λ.ents.length) (k:=Λ.zxs.length) Λ ?_
  have hp:Fa Λ z=some (Λ.zxs.idxOf z+1):=by unfold Fa;rw [if_pos h17]
  rw [hp,hi]
  exact .dn Y Y ⟨by simp,rfl⟩
 refine Z ?_
 refine .draw [] [[0,1,2,3,4,5,6,7]] mixed kQ (.g0 (Z ?_))
 refine .lf (g:=g) (x:=x) (ea:=ea) (ec:=ec) (za:=za) (zc:=zc) (m:=Λ.ents.length) (k:=Λ.zxs.length) Λ ?_
 have hp:Fa Λ z=if z=Λ.base then some 0 else none:=by unfold Fa;rw [if_neg h17]
 rw [hp]
 exact .dn Y Y ⟨by by_cases hz:z=Λ.base<;>simp [hz],rfl⟩
theorem X4 (g x:Nat) (Λ:Lg) (e:Int) (ea:Option Addr) (ec:Nat) (za:Option Addr) (zc:Nat):Fn prog 37 #[AD g,AA e] [AW g [AA Λ.acc,AA Λ.cur,AD x,AA Λ.base,AF Λ.snap, .slice ea Λ.ents.length ec, .slice za Λ.zxs.length zc, .bool Λ.doubt] 96] fun v L=>v=AA (Dj e)∧L=[AW g [AA Λ.acc,AA Λ.cur,AD x,AA Λ.base,AF Λ.snap, .slice ea Λ.ents.length ec, .slice za Λ.zxs.length zc, .bool (Λ.met e).doubt] 96]:=by
 refine Fn.intro func37 Y Y fun F W=>?_
 refine Z ?_
 refine .condD Y (fun h6=>?_) (fun h6=>?_)
 ·refine Z ?_
  have hm:(Λ.met e).doubt=true:=by unfold Lg.met;rw [if_pos h6]
  have he:Dj e=e:=by unfold Dj;rw [if_neg om]
  rw [hm,he]
  exact .vv
 refine Z ?_
 refine .dec (t:=11) Y (fun h11=>?_) (fun h11=>?_)
 ·refine Z ?_
  have hm:(Λ.met e).doubt=Λ.doubt:=by unfold Lg.met;rw [if_neg h6]
  have he:Dj e=83:=by unfold Dj;rw [if_pos om]
  rw [hm,he]
  exact .vv
 refine Z ?_
 refine .dec (t:=11) Y (fun h11=>?_) (fun h11=>?_)
 ·refine Z ?_
  have hm:(Λ.met e).doubt=Λ.doubt:=by unfold Lg.met;rw [if_neg h6]
  have he:Dj e=83:=by unfold Dj;rw [if_pos om]
  rw [hm,he]
  exact .vv
 refine Z ?_
 have hm:(Λ.met e).doubt=Λ.doubt:=by unfold Lg.met;rw [if_neg h6]
 have he:Dj e=e:=by unfold Dj;rw [if_neg om]
 rw [hm,he]
 exact .vv
theorem Yd {Λ:Lg} {e:Int}:(Λ.met e).acc=Λ.acc:=by unfold Lg.met;split<;>rfl
theorem Yx {Λ:Lg} {e:Int}:(Λ.met e).cur=Λ.cur:=by unfold Lg.met;split<;>rfl
theorem U3 {Λ:Lg} {e:Int}:(Λ.met e).base=Λ.base:=by unfold Lg.met;split<;>rfl
theorem UB {Λ:Lg} {e:Int}:(Λ.met e).snap=Λ.snap:=by unfold Lg.met;split<;>rfl
theorem LO {Λ:Lg} {e:Int}:(Λ.met e).ents=Λ.ents:=by unfold Lg.met;split<;>rfl
theorem Nq {Λ:Lg} {e:Int}:(Λ.met e).zxs=Λ.zxs:=by unfold Lg.met;split<;>rfl
theorem AES {Λ:Lg} {e:Int} (h:Dj e=0):(Λ.met e).doubt=Λ.doubt:=by
 unfold Lg.met
 rw [if_neg]
 intro g;rw [g] at h;exact absurd h dQ
/- not in this seat -/
def AIC (a:Option Addr) (c i sz:Nat):Option Addr:=if c=i then a else a.map (·.add (i*sz))
def SL (a:Option Addr) (c i:Nat):Option Addr:=AIC a c i 1
theorem AE.slFromG {P:Program} {E:Bi} {L:List HP} {ty:TypeId} {t:TypeId} {x y:Operand} {a:Option Addr} {n c e sz by':Nat} {i:Int} (hx:ev E x=some (.slice a n c)) (ht:Au P t=some (e,sz,by')) (hy:ev E y=some (.int .i64 i)) (hb:0≤i∧i≤n∧n≤c):
  AE P ⟨none, .slice t x (some y) none none,ty, "",#[],none⟩ E L (.slice (AIC a c i.toNat sz) (n-i.toNat) (c-i.toNat)):=by
 intro ρ w ha _
 unfold Au at ht
 split at ht<;>(try cases ht)
 rename_i e' hu
 split at ht<;>(try cases ht)
 rename_i inf hin
 refine Bn ?_
 show (Instr.sliceAt t (ρ x) (some (ρ y)) none none).run P w=_
 rw [ha x _ hx,ha y _ hy]
 unfold Instr.sliceAt
 rw [run_bind (AN hu)]
 show (Instr.slice t (.slice a n c) (some (.int .i64 i)) none none).run P w=_
 unfold Instr.slice
 rw [run_bind (AN hu)]
 show (do let (l,h,m) ←Instr.sliceBounds true n c (some (.int .i64 i)) none none;let size ←sizeOf e;pure (.slice (if m=l then a else a.map (·.add (l*size))) (h-l) (m-l)):Sem Value).run P w=_
 rw [run_bind (DV (i:=i) (j:=n) (.inl rfl) (.inr ⟨rfl,rfl⟩) ⟨hb.1,by omega,by omega⟩)]
 show (do let size ←sizeOf e;pure (.slice (if c=i.toNat then a else a.map (·.add (i.toNat*size))) ((n:Int).toNat-i.toNat) (c-i.toNat)):Sem Value).run P w=_
 rw [run_bind (Be (k:=inf.size) (by simp [Ab,hin]))]
 rw [Int.toNat_natCast];rfl
theorem AE.slFromS {P:Program} {E:Bi} {L:List HP} {ty:TypeId} {t:TypeId} {x y:Operand} {a:Option Addr} {n c e by':Nat} {i:Int} (hx:ev E x=some (.slice a n c)) (ht:Au P t=some (e,1,by')) (hy:ev E y=some (.int .i64 i)) (hb:0≤i∧i≤n∧n≤c):
  AE P ⟨none, .slice t x (some y) none none,ty, "",#[],none⟩ E L (.slice (SL a c i.toNat) (n-i.toNat) (c-i.toNat)):=AE.slFromG hx ht hy hb
theorem U6 {T:TypeId} {m c n:Nat} {a:Option Addr} {xs:List Value} {h:Hp} (hn:n≤m) (hp:At T 1 (.slice a m c) m xs h):CA 1 h (.slice (SL a c n) (m-n) (c-n)) (m-n) (xs.drop n):=by
 have hl:=O2 hp
 rcases Nat.lt_or_ge n m with g|g
 ·rcases hp with ⟨-,h2,-⟩|⟨b,cap,rest,fr,hv,hb,h1,h2,h3,h4⟩
  ·omega
  ·simp only [Value.slice.injEq] at hv
   obtain ⟨rfl,-,rfl⟩:=hv
   have h9:At T 1 (.slice (some ⟨b,0,none⟩) m c) m xs h:= .inr ⟨b,c,rest,fr,rfl,hb,h1,h2,h3,h4⟩
   have:=Oc (k:=n) (Ad h9) g
   unfold SL AIC
   rw [if_neg om]
   simp only [Option.map_some,Addr.add_eq,Nat.mul_one] at this ⊢
   exact this
 ·obtain rfl:n=m:=by omega
  refine .inl ⟨by omega,drop_eq_nil_of_le om,_,_,by rw [Nat.sub_self]⟩
def AEH (b:Nat) (base:Int) (snap:Bs) (es:List Bs) (zs:List Int):HP:=fun h=> ∃y:(Option Addr×Nat)×(Option Addr×Nat),True∧CP [AW b [AA 0,AA 0, .pointer none,AA base,AF snap, .slice y.1.1 es.length y.1.2, .slice y.2.1 zs.length y.2.2, .bool false] 96,
 ET (.slice y.1.1 es.length y.1.2) es,EO (.slice y.2.1 zs.length y.2.2) zs] h
section
variable {W:World} {n:Nat} {ds:List Deferred} {E:Bi} {L R:List HP} {X:Act→World→Prop}
theorem G.lgNOpen {b:Nat} {base:Int} {snap:Bs} {es:List Bs} {zs:List Int} (hL:BJ (AEH b base snap es zs) L R) (h:∀ea ec za zc,G W n ds E (AW b [AA 0,AA 0, .pointer none,AA base,AF snap, .slice ea es.length ec, .slice za zs.length zc, .bool false] 96::ET (.slice ea es.length ec) es::EO (.slice za zs.length zc) zs::R) X):G W n ds E L X:=
 G.focus hL (G.open (q:=fun y:(Option Addr×Nat)×(Option Addr×Nat)=>[AW b [AA 0,AA 0, .pointer none,AA base,AF snap, .slice y.1.1 es.length y.1.2, .slice y.2.1 zs.length y.2.2, .bool false] 96,ET (.slice y.1.1 es.length y.1.2) es,EO (.slice y.2.1 zs.length y.2.2) zs]) (φ:=fun _=>True) (fun _ hp=>hp) fun y _=>h y.1.1 y.1.2 y.2.1 y.2.2)
theorem G.lgNFold {b:Nat} (base:Int) (snap:Bs) (es:List Bs) (zs:List Int) {l xs ys:List Value} {ea za:Option Addr} {ec zc m k:Nat} (hL:A4 [AW b l 96,At 9 1 (.slice ea m ec) m xs,At 3 1 (.slice za k zc) k ys] L R)
  (hl:l=[AA 0,AA 0, .pointer none,AA base,AF snap, .slice ea m ec, .slice za k zc, .bool false]) (hm:m=es.length) (hk:k=zs.length) (he:xs=A1 es) (hz:ys=BZ zs) (h:G W n ds E (AEH b base snap es zs::R) X):G W n ds E L X:=by
 subst hl;subst hm;subst hk;subst he;subst hz
 exact G.fold hL (fun _ hp=>⟨((ea,ec),(za,zc)),trivial,hp⟩) h
end
theorem Z0 (s:Bs):(Bo s).length=s.length+6:=by rw [E9]
theorem L3:∀{l:List Bs},(∀s∈l,s.length≤4000)→(AH l).length≤l.length*4006
 |[],_=>by simp [AH]
 |s::l,h=>by
  have h1:=L3 (l:=l) (fun x hx=>h x (mem_cons_of_mem _ hx))
  have h2:=h s (mem_cons_self ..)
  have e:AH (s::l)=Bo s++AH l:=by simp [AH]
  rw [e,length_append,Z0,length_cons]
  omega
theorem U4 {base:Int} {snap:Bs} {es:List Bs} (hs:snap.length≤65536) (he:es.length≤200) (h:((BP base snap++es).any fun s=>decide (s.length>4000))=false):(AH (BP base snap++es)).length≤3000000:=by
 have h1:=J6 base snap hs
 have h2:=L3 (l:=BP base snap++es) (fun s hs=>by
  have:=any_eq_false.1 h s hs
  simpa using this)
 rw [length_append] at h2
 omega
theorem RV {s:Ld} {base:Int} {snap:Bs} {es:List Bs} {zs:List Int} (h:(A2 s base snap es zs).2≠0):∃e,(A2 s base snap es zs).1.Λ=s.Λ.met e:=by
 unfold A2 at h ⊢
 split
 ·exact ⟨0,rfl⟩
 ·rename_i g
  rw [if_neg g] at h
  split
  ·rename_i g2;rw [if_pos g2] at h;exact absurd rfl h
  ·exact ⟨_,rfl⟩
theorem NB (g x d:Nat) (δ:Dk) (ω:Wl) (Λ:Lg) (base:Int) (snap:Bs) (ve vz:Value) (es:List Bs) (zs:List Int) (ea:Option Addr) (ec:Nat) (za:Option Addr) (zc:Nat) (p:HP) (hI:WlI δ ω) (hb:Aw base) (hsn:snap.length≤65536) (hre:∀h:Hp,p h→CA 1 h ve es.length (A1 es)) (hrz:∀h:Hp,p h→CA 1 h vz zs.length (BZ zs)) (hel:es.length≤4294967296) (hzl:zs.length=es.length):
    Fn prog 43 #[AD g, .agg [AA 0,AA 0, .pointer none,AA base,AF snap,ve,vz, .bool false].toArray] [AW g [AA Λ.acc,AA Λ.cur,AD x,AA Λ.base,AF Λ.snap, .slice ea Λ.ents.length ec, .slice za Λ.zxs.length zc, .bool Λ.doubt] 96,LW x d ω,DQ d δ,p] fun v L=>v=AA (A2 ⟨δ,ω,Λ⟩ base snap es zs).2∧(((A2 ⟨δ,ω,Λ⟩ base snap es zs).2=0∧L=[JL g x (A2 ⟨δ,ω,Λ⟩ base snap es zs).1.Λ,LW x d (A2 ⟨δ,ω,Λ⟩ base snap es zs).1.ω,DQ d (A2 ⟨δ,ω,Λ⟩ base snap es zs).1.δ,p])∨((A2 ⟨δ,ω,Λ⟩ base snap es zs).2≠0∧L=[AW g [AA Λ.acc,AA Λ.cur,AD x,AA Λ.base,AF Λ.snap, .slice ea Λ.ents.length ec, .slice za Λ.zxs.length zc, .bool (A2 ⟨δ,ω,Λ⟩ base snap es zs).1.Λ.doubt] 96,LW x d (A2 ⟨δ,ω,Λ⟩ base snap es zs).1.ω,DQ d (A2 ⟨δ,ω,Λ⟩ base snap es zs).1.δ,p])):=by
 refine Fn.intro func43 Y Y fun F W=>?_
 refine .rdAny (p:=p) hre O fun ae ce e _=>?_
 subst e
 refine .rdAny (p:=p) hrz O fun az cz e _=>?_
 subst e
 have h0:=J6 base snap hsn
 refine .sr (.oq (.box Y) ?_)
 rintro v L' ⟨b3,rfl,rfl⟩
 refine Z ?_
 refine .ptCast (b:=b3) (l':=[AA 0,AA 0, .pointer none,AA base,AF snap, .slice ae es.length ce, .slice az zs.length cz, .bool false]) O Y ?_
 refine Z ?_
 refine .condD Y (fun h9=>?_) (fun h9=>?_)
 ·refine Z ?_
  have hr:A2 ⟨δ,ω,Λ⟩ base snap es zs=(⟨δ,ω,Λ⟩,83):=by unfold A2;rw [if_pos om]
  rw [hr]
  exact .dn Y Y ⟨Y, .inr ⟨show (83:Int)≠0 by decide,rfl⟩⟩
 refine Z ?_
 refine .draw [9,12,13,14] [[0,1,2,3,4,5,6,7,8,10,11,9,12,13],[14],[15]] mixed kQ (.go [AW b3 _ _,AW g _ _] O (Z ?_))
 refine D.hh Y (.c func33 [_,_] (My base snap hb om)) ?_
 rintro v L' ⟨bh,ch,rfl,rfl⟩
 refine D.hh Y (.append (n:=(BP base snap).length) (m:=es.length) (xs:=A1 (BP base snap)) (ys:=A1 es) (p:=p) Y Y Y Br (.inl ⟨_,underlying63⟩) Gf Y Y ?hc22 hre ?hb23 dQ) ?_
 case hc22=>intro y hy;obtain ⟨z,-,rfl⟩:=mem_map.1 hy;rfl
 case hb23=>omega
 rintro v L' ⟨⟨a12,c12,rfl⟩,rfl⟩
 refine D.hh Y (.c func94 [_,_] (SU x d ω δ (.slice a12 ((BP base snap).length+es.length) c12) (BP base snap++es) (At 9 1 (.slice a12 ((BP base snap).length+es.length) c12) ((BP base snap).length+es.length) (A1 (BP base snap)++A1 es)) hI ?hr26 ?hln27 ?hlb28)) ?_
 case hr26=>exact fun h hp=>(by rw [length_append,show A1 (BP base snap++es)=A1 (BP base snap)++A1 es from map_append];exact Ad hp)
 case hln27=>rw [length_append];omega
 case hlb28=>exact U4 hsn om
 rintro v L' ⟨rfl,rfl⟩
 refine D.ph (.g0 (.hh Y (.c func37 [_,_] (X4 g x Λ _ ea ec za zc)) ?_))
 rintro v L' ⟨rfl,rfl⟩
 refine D.ph (.g0 (Z ?_))
 refine .condD Y (fun h26=>?_) (fun h26=>?_)
 ·refine .draw [10,13,16,19,22,25] [[0,1,2,3,4,5,6,7,8,9,11,12,10,13,14,15,16,17,18,19,20,21,22],[23,24,25]] mixed kQ (.go [AW b3 _ _] O (Z ?_))
  refine D.hh Y (.c func95 [_] (JE _ es.length (A1 es) p hre ?hc46 ?hb47)) ?_
  case hc46=>intro y hy;obtain ⟨z,-,rfl⟩:=mem_map.1 hy;rfl
  case hb47=>omega
  rintro v L' ⟨⟨a10,c10,rfl⟩,rfl⟩
  refine D.hh Y (.c func96 [_] (Tw _ zs.length (BZ zs) p hrz ?hc50 ?hb51)) ?_
  case hc50=>intro y hy;obtain ⟨z,-,rfl⟩:=mem_map.1 hy;rfl
  case hb51=>omega
  rintro v L' ⟨⟨a13,c13,rfl⟩,rfl⟩
  refine Z ?_
  refine D.hh Y (.store Y Y Y IV ?c56 (Bd _ _)) ?_
  case c56=>first|decide|(simp;omega)|simp
  rintro v L' rfl
  refine Z ?_
  refine D.hh Y (.store Y Y Y Xz ?c61 (Bd _ _)) ?_
  case c61=>first|decide|(simp;omega)|simp
  rintro v L' rfl
  refine Z ?_
  refine D.hh Y (.store Y Y Y AJM ?c66 (Bd _ _)) ?_
  case c66=>first|decide|(simp;omega)|simp
  rintro v L' rfl
  refine D.ph (.g0 (Z ?_))
  refine D.hh Y (.store Y Y Y AKG ?c71 (Bd _ _)) ?_
  case c71=>first|decide|(simp;omega)|simp
  rintro v L' rfl
  refine Z ?_
  have hr:A2 ⟨δ,ω,Λ⟩ base snap es zs=(⟨(BA δ ω (BP base snap++es)).1,(BA δ ω (BP base snap++es)).2.1,⟨Λ.acc,Λ.cur,base,snap,es,zs,Λ.doubt⟩⟩,0):=by unfold A2;dsimp only;rw [if_neg om,if_pos (show (IL Λ (BA δ ω (BP base snap++es))).2=0 from h26)]
  rw [hr,h26]
  dsimp only
  rw [AES h26]
  refine .lgFold (g:=g) (x:=x) (ea:=a10) (ec:=c10) (za:=a13) (zc:=c13) (m:=es.length) (k:=zs.length) (⟨Λ.acc,Λ.cur,base,snap,es,zs,Λ.doubt⟩:Lg) O Y Y Y Y Y ?_
  exact .dn Y Y ⟨Y, .inl ⟨Y,Y⟩⟩
 refine Z ?_
 have hr:A2 ⟨δ,ω,Λ⟩ base snap es zs=IL Λ (BA δ ω (BP base snap++es)):=by unfold A2;dsimp only;rw [if_neg om,if_neg (show ¬(IL Λ (BA δ ω (BP base snap++es))).2=0 from h26)]
 rw [hr]
 exact .dn Y Y ⟨Y, .inr ⟨h26,Y⟩⟩
theorem AB4 {p:HP} {h:Hp} (hp:CP [p] h):∀{sz n:Nat} {v:Value} {ys:List Value},(∀h,p h→CA sz h v n ys)→CA sz h v n ys:=by
 obtain ⟨g1,g2,-,le1,le2,q1,q2⟩:=hp
 intro sz n v ys hr
 exact Bj (hr _ q1) le1
theorem QD (g x d:Nat) (δ:Dk) (ω:Wl) (Λ:Lg) (z:Int) (snap:Bs) (hI:WlI δ ω) (hΛ:RP Λ) (hs:Λ.zxs.Pairwise (· < ·)) (hz:Aw z):Fn prog 13 #[AD g,AA z,AF snap] [JL g x Λ,LW x d ω,DQ d δ] fun v L=>v=AA (Bh ⟨δ,ω,Λ⟩ z snap).2∧L=[JL g x (Bh ⟨δ,ω,Λ⟩ z snap).1.Λ,LW x d (Bh ⟨δ,ω,Λ⟩ z snap).1.ω,DQ d (Bh ⟨δ,ω,Λ⟩ z snap).1.δ]:=by
 refine Fn.intro func13 Y Y fun F W=>?_
 refine .lgOpen O fun ea ec za zc=>?_
 have h1:=hΛ.ents
 have h2:=hΛ.same
 refine .sr (.an Y (.seq (.block (.sm Y (.nf Y ZS (.u (.ld Y Wr) (.an Y (.condB Y (fun h9=>?_) (fun h9=>?_)))))))))
 ·refine .sr (.an Y (.ret (.blk_r (.then_r ?_))))
  have hr:Bh ⟨δ,ω,Λ⟩ z snap=(⟨δ,ω,Λ⟩,2):=by unfold Bh;dsimp only;rw [if_pos h9]
  rw [hr]
  try dsimp only
  refine .lf (g:=g) (x:=x) Λ ?_
  exact .vv
 refine .sm Y (.q (.strlen Y underlying9 Y) Y (.ui Y Y Y (.an Y (.condD Y (fun h14=>?_) (fun h14=>?_)))))
 ·refine .sr (.an Y (.ret (.blk_r (.then_r ?_))))
  have hr:Bh ⟨δ,ω,Λ⟩ z snap=(⟨δ,ω,Λ⟩,1):=by unfold Bh;dsimp only;rw [if_neg (by rw [h9];decide),if_pos om]
  rw [hr]
  try dsimp only
  refine .lf (g:=g) (x:=x) Λ ?_
  exact .vv
 refine .skip (.blk_n (.then_n (.seq (.lf (g:=g) (x:=x) Λ ?_))))
 refine .region (.m Y (.m Y (.cv func42 [_,_] (YQ g x Λ z hΛ hs) ?_)))
 refine .m Y (.ex Y Y (.ex Y Y (.a Y (.an Y (.seq (.sr ?_))))))
 rcases hpl:Fa Λ z with _|n
 ·refine .m Y (.u (.not Y) (.nt (.condT Y (.sr (.an Y (.rt ?_))))))
  have hr:Bh ⟨δ,ω,Λ⟩ z snap=(⟨δ,ω,Λ⟩,81):=by unfold Bh;dsimp only;rw [if_neg (by rw [h9];decide),if_neg om,hpl]
  rw [hr]
  try dsimp only
  exact .vv
 simp only [Option.getD_some]
 have hpe:=(AE6 hpl).1
 refine .m Y (.u (.not Y) (.nt (.condF Y (.sk (.seq (.lgOpen O fun ea ec za zc=>(.slAddr (a:=ea) (c:=ec) O fun hcap1 _=>(.slAddr (a:=za) (c:=zc) O fun hcap2 _=>(.fold (p:=CP [ET (.slice ea Λ.ents.length ec) Λ.ents,EO (.slice za Λ.zxs.length zc) Λ.zxs]) (q:=[ET (.slice ea Λ.ents.length ec) Λ.ents,EO (.slice za Λ.zxs.length zc) Λ.zxs]) O (fun _ hp=>hp) (.draw [16] [[0,1,2,3,4,5,6,7,8,9,10,11,12,13,14,15,16],[17]] mixed kQ (.g0 (.mv Y Y (.mv Y Y (.mv Y Y (.mv Y Y (.nf Y Y Y AGK (.kv Y (.ld Y ACb) (.mv Y Y (.kv Y (.to (v':=(.slice (SL ea ec n) (Λ.ents.length-n) (ec-n))) (.slFromS (i:=(n:Int)) Y Br Y om) (by rw [Int.toNat_natCast])) ?_)))))))))))))))))))
 refine D.mv Y Y (.nf Y Y Y IE (.kv Y (.ld Y N5) (.mv Y Y (.kv Y (.to (v':=(.slice (SL za zc n) (Λ.zxs.length-n) (zc-n))) (.slFromS (i:=(n:Int)) Y Bv Y om) (by rw [Int.toNat_natCast])) (.kv Y (.buildN (pl:=[(0,2),(2,1),(3,1),(4,1),(5,1),(6,1),(7,1)]) (us:=[(2,_),(3,_),(4,_),(5,_)]) (cells:=[AA 0,AA 0, .pointer none,AA z,AF snap,(.slice (SL ea ec n) (Λ.ents.length-n) (ec-n)),(.slice (SL za zc n) (Λ.zxs.length-n) (zc-n)), .bool false]) underlying96 kQ Tg Y Y) (.hh Y (.c func43 [_,_] (NB g x d δ ω Λ z snap (.slice (SL ea ec n) (Λ.ents.length-n) (ec-n)) (.slice (SL za zc n) (Λ.zxs.length-n) (zc-n)) (Λ.ents.drop n) (Λ.zxs.drop n) ea ec za zc (CP [ET (.slice ea Λ.ents.length ec) Λ.ents,EO (.slice za Λ.zxs.length zc) Λ.zxs]) hI ?hb34 ?hsn35 ?hre36 ?hrz37 ?hel38 ?hzl39)) ?_))))))
 case hb34=>exact hz
 case hsn35=>omega
 case hre36=>intro h hp;obtain ⟨g1,g2,-,le1,le2,q1,q2⟩:=hp;rw [length_drop,show A1 (Λ.ents.drop n)=(A1 Λ.ents).drop n from map_drop];exact Bj (U6 om q1) le1
 case hrz37=>intro h hp;obtain ⟨g1,g2,-,le1,le2,q1,q2⟩:=hp;rw [length_drop,show BZ (Λ.zxs.drop n)=(BZ Λ.zxs).drop n from map_drop];exact Bj (AB4 q2 (fun _ q=>U6 om q)) le2
 case hel38=>rw [length_drop];omega
 case hzl39=>rw [length_drop,length_drop];omega
 rintro v L' ⟨rfl,⟨hf0,rfl⟩|⟨hf1,rfl⟩⟩
 ·refine D.ph (.g0 (.kv Y (.assign Y) (.pf (.ret ?_))))
  have hr:Bh ⟨δ,ω,Λ⟩ z snap=A2 ⟨δ,ω,Λ⟩ z snap (Λ.ents.drop n) (Λ.zxs.drop n):=by unfold Bh;dsimp only;rw [if_neg (by rw [h9];decide),if_neg om,hpl]
  rw [hr]
  exact .vv
 refine D.ph (.g0 (.kv Y (.assign Y) (.pf (.ret ?_))))
 have hr:Bh ⟨δ,ω,Λ⟩ z snap=A2 ⟨δ,ω,Λ⟩ z snap (Λ.ents.drop n) (Λ.zxs.drop n):=by unfold Bh;dsimp only;rw [if_neg (by rw [h9];decide),if_neg om,hpl]
 rw [hr]
 refine .focus (p:=CP [ET (.slice ea Λ.ents.length ec) Λ.ents,EO (.slice za Λ.zxs.length zc) Λ.zxs]) O (.unfold (q:=[ET (.slice ea Λ.ents.length ec) Λ.ents,EO (.slice za Λ.zxs.length zc) Λ.zxs]) (fun _ hp=>hp) ?_)
 simp only [cons_append,nil_append]
 obtain ⟨e9,he9⟩:=RV hf1
 rw [he9]
 dsimp only
 refine .lgFold (g:=g) (x:=x) (ea:=ea) (ec:=ec) (za:=za) (zc:=zc) (m:=Λ.ents.length) (k:=Λ.zxs.length) (Λ.met e9) O (by rw [Yd,Yx,U3,UB]) (by rw [LO]) (by rw [Nq]) (by rw [LO]) (by rw [Nq]) ?_
 exact .vv
theorem TK (b:Nat) (base:Int) (snap:Bs) (es:List Bs) (zs:List Int) (s:Bs) (z:Int) (hl:es.length≤4294967296) (hm:zs.length≤4294967296):Fn prog 38 #[AD b,AF s,AA z] [AEH b base snap es zs] fun v L=>v= .tuple #[]∧L=[AEH b base snap (es++[s]) (zs++[z])]:=by
 refine Fn.intro func38 Y Y fun F W=>?_
 refine .lgNOpen O fun ea ec za zc=>(Z ?_)
 refine .oq (.buildSlice1 (vs:=[_]) Br Gf Y Y Y Y Y dQ) ?_
 rintro v L' ⟨b0,rfl,rfl⟩
 refine .oq (.append1 Y Y Y Br Gf Y Y ?c9 ?c10 (Nat.le_refl _) ?c11 dQ) ?_
 case c9=>(first|(simp [AB];done)|(simp [AB,AQ,Value.cells];done))
 case c10=>rfl
 case c11=>omega
 rintro v L' ⟨⟨a0,c0,rfl⟩,rfl⟩
 refine Z ?_
 refine .oq (.buildSlice1 (vs:=[_]) Bv FA Y Y Y Y Y dQ) ?_
 rintro v L' ⟨b1,rfl,rfl⟩
 refine .oq (.append1 Y Y Y Bv FA Y Y ?c27 ?c28 (Nat.le_refl _) ?c29 dQ) ?_
 case c27=>(first|(simp [AB];done)|(simp [AB,AQ,Value.cells];done))
 case c28=>rfl
 case c29=>omega
 rintro v L' ⟨⟨a1,c1,rfl⟩,rfl⟩
 refine Z ?_
 refine .done_n (.lgNFold (b:=b) base snap (es++[s]) (zs++[z]) O Y (by simp) (by simp) (by simp [A1,Value.cells]) (by simp [BZ,Value.cells]) ?_)
 exact .vv
theorem Ux {zs:List Int} {i:Nat} (h:i<zs.length):(BZ zs)[i*1]?=some (AA (zs.getD i 0)):=by
 rw [Nat.mul_one];simp [BZ,getD_eq_getElem?_getD,h]
theorem Sx {l:List En} {j:Nat} (h:j<l.length) (hf:EK l[j]=false):l.all EK=false:=by
 rw [all_eq_false];exact ⟨l[j],getElem_mem h,by rw [hf];decide⟩
theorem ACW {l:List En} (h:∀j (hj:j<l.length),EK l[j]=true):l.all EK=true:=by
 rw [all_eq_true];intro e he
 obtain ⟨j,hj,rfl⟩:=mem_iff_getElem.1 he
 exact h j hj
theorem Ul {β:Type} {f:En→β} {l:List En} {j:Nat} (h:j<l.length):(l.take j).map f++[f l[j]]=(l.take (j+1)).map f:=by
 rw [take_succ_eq_append_getElem h,map_append];rfl
theorem Pu (g x d:Nat) (δ:Dk) (ω:Wl) (Λ:Lg) (z:Int) (snap:Bs) (va:Value) (l:List En) (p:HP) (hI:WlI δ ω) (hz:Aw z) (hcells:∀h:Hp,p h→CA 11 h va l.length (l.flatMap CB)) (hll:l.length≤1073741824) (hx:∀e∈l,EnX p e):Fn prog 16 #[AD g,AA z,AF snap,va] [JL g x Λ,LW x d ω,DQ d δ,p] fun v L=>v=AA (BD ⟨δ,ω,Λ⟩ z snap l).2∧L=[JL g x (BD ⟨δ,ω,Λ⟩ z snap l).1.Λ,LW x d (BD ⟨δ,ω,Λ⟩ z snap l).1.ω,DQ d (BD ⟨δ,ω,Λ⟩ z snap l).1.δ,p]:=by
 refine Fn.intro func16 Y Y fun F W=>?_
 refine .lgOpen O fun ea ec za zc=>(.rdAny (p:=p) hcells O fun a0 c0 e _=>?_)
 subst e
 refine .sr (.an Y (.seq (.block (.sm Y (.nf Y ZS (.u (.ld Y Wr) (.an Y (.condB Y (fun h16=>?_) (fun h16=>?_)))))))))
 ·refine .sr (.an Y (.ret (.blk_r (.then_r ?_))))
  have hr:BD ⟨δ,ω,Λ⟩ z snap l=(⟨δ,ω,Λ⟩,2):=by unfold BD;dsimp only;rw [if_pos h16]
  rw [hr]
  try dsimp only
  refine .lf (g:=g) (x:=x) Λ ?_
  exact .vv
 refine .sm Y (.ui Y Y Y (.m Y (.dec (t:=24) Y (fun h3_24=>?_) (fun h3_24=>?_))))
 ·refine .kDT (t:=23) Y h3_24 (.gk (.gk (.gk (.pT Y Y (.an Y (.condT Y (.sr (.an Y (.ret (.blk_r (.then_r ?_)))))))))))
  have hr:BD ⟨δ,ω,Λ⟩ z snap l=(⟨δ,ω,Λ⟩,1):=by unfold BD;dsimp only;rw [if_neg (by rw [h16];decide),if_pos (by first|exact .inl h3_24|exact .inr om)]
  rw [hr]
  try dsimp only
  refine .lf (g:=g) (x:=x) (ea:=ea) (ec:=ec) (za:=za) (zc:=zc) (m:=Λ.ents.length) (k:=Λ.zxs.length) Λ ?_
  exact .vv
 refine .kDF (t:=23) Y h3_24 (.gr (.m Y (.gr (.q (.strlen Y underlying9 Y) Y (.gr (.ui Y Y Y (.pF Y Y (.an Y (.condD Y (fun h21=>?_) (fun h21=>?_))))))))))
 ·refine .sr (.an Y (.ret (.blk_r (.then_r ?_))))
  have hr:BD ⟨δ,ω,Λ⟩ z snap l=(⟨δ,ω,Λ⟩,1):=by unfold BD;dsimp only;rw [if_neg (by rw [h16];decide),if_pos (by first|exact .inl h3_24|exact .inr om)]
  rw [hr]
  try dsimp only
  refine .lf (g:=g) (x:=x) (ea:=ea) (ec:=ec) (za:=za) (zc:=zc) (m:=Λ.ents.length) (k:=Λ.zxs.length) Λ ?_
  exact .vv
 refine .skip (.blk_n (.then_n (.sm Y (.m Y (.q (.buildN (pl:=[(0,2),(2,1),(3,1),(4,1),(5,1),(6,1),(7,1)]) (us:=[(2,_),(3,_)]) (cells:=[AA 0,AA 0, .pointer none,AA z,AF snap, .slice none 0 0, .slice none 0 0, .bool false]) underlying96 kQ Tg Y Y) Y (.oq (.allocA Tg) ?_))))))
 rintro v L' ⟨b9,rfl,rfl⟩
 refine .sa Y Y AJO (by simp [AB]) ?_
 refine .nil (.ptCast (b:=b9) (l':=[AA 0,AA 0, .pointer none,AA z,AF snap, .slice none 0 0, .slice none 0 0, .bool false]) O Y ?_)
 refine .add (AU 9 1) (.add (AU 3 1) (.lgNFold (b:=b9) (ea:=none) (ec:=0) (za:=none) (zc:=0) (m:=0) (k:=0) (xs:=[]) (ys:=[]) z snap ((l.take 0).map Cb) ((l.take 0).map (·.zx)) O Y Y Y Y Y (.then_n (.seq (.sm Y (.q (.slen Y underlying25 Y) Y (.m Y (.nt (.block (.loopK (ι:=Nat) (fun q E=>(34,AA q)::E) (fun q=>[AEH b9 z snap ((l.take q).map Cb) ((l.take q).map (·.zx))]) (fun q=>q≤l.length∧∀i (hi:i<q) (hl:i<l.length),EK l[i]=true) (fun q=>l.length-q) (0) (ts:=[0,1,9,32,33]) O (⟨Nat.zero_le _,fun i hi=>by omega⟩) O O ?_))))))))))
 rintro j ⟨hj,hft⟩
 refine .sr (.ui Y Y Y (.nt (.seq (.condD Y (fun h35=>?_) (fun h35=>?_)))))
 ·have hj2:j<l.length:=by omega
  refine .rdShape (p:=p) hcells O om fun ba oa e=>?_
  subst e
  have hX:=hx _ (getElem_mem hj2)
  refine .sk (.seq (.block (.sr (.q (.indexAddr Y Y Ft om) Y (.q (.loadRdA (sz:=11) (j:=j*11) (k:=11) (p:=p) (vs:=CB l[j]) Y Cz O hcells (by simp) om om (BH (f:=CB) (sz:=11) (fun _ _=>Y) hj2)) Y (.oq (.allocA Cq) ?_))))))
  rintro v L' ⟨b11,rfl,rfl⟩
  refine .sa Y Y GO (by exact hX.l.cells) ?_
  refine .nil (.pc b11 (CB l[j]) ?_)
  refine .then_n (.sr (.q (.loadAs (vs:=CB l[j]) Y Cz O (by simp [CB,A0]) Y) Y (.oq (.c func35 [_] (OG l[j] p hX)) ?_)))
  rintro v L' ⟨s1,hs1,rfl,rfl⟩
  refine .m Y (.ex Y Y (.ex Y Y (.a Y (.an Y (.seq (.sm Y (.u (.not Y) (.nt (.condB Y (fun h44=>?_) (fun h44=>?_))))))))))
  ·refine .sr (.an Y (.rt (.blk_r (.then_r (.then_r (.blk_r (.then_r ?_)))))))
   have hr:BD ⟨δ,ω,Λ⟩ z snap l=(⟨δ,ω,Λ⟩,1):=by unfold BD;dsimp only;rw [if_neg (by rw [h16];decide),if_neg (by rintro (g1|g1);exact h3_24 g1;omega),if_pos (Sx hj2 (by simpa using h44))]
   rw [hr]
   try dsimp only
   refine .lf (g:=g) (x:=x) (ea:=ea) (ec:=ec) (za:=za) (zc:=zc) (m:=Λ.ents.length) (k:=Λ.zxs.length) Λ ?_
   exact .vv
  have hfj:EK l[j]=true:=by simpa using h44
  have hse:=hs1 hfj
  subst hse
  refine .sk (.region (.m Y (.fa Y Y0 (.u (.ld Y CT) (.oq (.c func38 [_,_,_] (TK b9 z snap ((l.take j).map Cb) ((l.take j).map (·.zx)) (Cb l[j]) l[j].zx ?h147 ?h248)) ?_)))))
  case h147=>rw [length_map,length_take];omega
  case h248=>rw [length_map,length_take];omega
  rintro v L' ⟨rfl,rfl⟩;rw [Ul hj2,Ul hj2]
  refine .nil (.blk_n (.then_n (.region (.q (.add Y Y om) Y (.m Y (.nt ?_))))))
  exact .rk (j+1) (⟨by omega,fun i hi hl2=>by rcases Nat.lt_or_ge i j with g1|g1;exact hft i g1 hl2;obtain rfl:i=j:=om;exact hfj⟩) om O
 have hje:j=l.length:=by omega
 subst hje
 rw [take_length]
 have hall:=ACW (fun i hi=>hft i hi hi)
 refine .lgNOpen O fun na nc nz nd=>?_
 have hzl:(l.map (·.zx)).length=l.length:=length_map _
 refine .xe (.seq (.sr (.fa Y IE (.u (.ld Y N5) (.q (.slen Y underlying23 Y) Y (.m Y (.nt (.block (.loopK (ι:=Nat) (fun q E=>(53,AA q)::E) (fun q=>[]) (fun q=>q≤(l.map (·.zx)).length∧∀k,k<q→z<((l.map (·.zx))).getD k 0∧(0<k→((l.map (·.zx))).getD (k-1) 0<((l.map (·.zx))).getD k 0)) (fun q=>(l.map (·.zx)).length-q) (0) (ts:=[0,1,9,51,52]) O (⟨Nat.zero_le _,fun k hk=>by omega⟩) O O ?_)))))))))
 rintro i ⟨hi,hgood⟩
 refine .sr (.ui Y Y Y (.nt (.seq (.condD Y (fun h54=>?_) (fun h54=>?_)))))
 ·refine .slShape (v:= .slice nz _ nd) (xs:=BZ (l.map (·.zx))) O om fun bn cq e0 mq _=>?_
  simp only [Value.slice.injEq,true_and] at e0
  obtain ⟨rfl,rfl⟩:=e0
  refine .sk (.seq (.block (.sm Y (.q (.indexAddr Y Y Bv om) Y (.q (.loadEl (p:=EO (.slice (some ⟨bn,0,none⟩) (l.map (·.zx)).length nd) (l.map (·.zx))) (i:=(i)*1) (v:=AA (((l.map (·.zx))).getD (i) 0)) Y CT O (fun h hp=>Ad hp) (Ux om)) Y (.a Y (.an Y (.sm Y (.m Y (.ui Y Y Y (.m Y (.dec (t:=61) Y (fun h17_61=>?_) (fun h17_61=>?_)))))))))))))
  ·refine .kDT (t:=60) Y h17_61 (.gk (.gk (.gk (.gn (.gn (.gn (.gn (.gn (.gn (.gn (.gn (.gk (.pT Y Y (.nt (.condT Y (.sr (.an Y (.ret (.blk_r (.then_r (.then_r (.blk_r (.then_r ?_)))))))))))))))))))))))
   have hr:BD ⟨δ,ω,Λ⟩ z snap l=(⟨δ,ω,Λ⟩,81):=by unfold BD;dsimp only;rw [if_neg (by rw [h16];decide),if_neg (by rintro (g1|g1);exact h3_24 g1;omega),if_neg (by rw [hall];decide),if_pos (fun hR=>by have hRi:=hR i om;exact absurd hRi.1 om)]
   rw [hr]
   try dsimp only
   refine .lf (g:=g) (x:=x) (ea:=ea) (ec:=ec) (za:=za) (zc:=zc) (m:=Λ.ents.length) (k:=Λ.zxs.length) Λ ?_
   exact .vv
  refine .kDF (t:=60) Y h17_61 (.gr (.m Y (.gr (.ui Y Y Y (.gr (.m Y (.dec (t:=64) Y (fun h17_64=>?_) (fun h17_64=>?_))))))))
  ·refine .kDT (t:=63) Y h17_64 (.gr (.m Y (.gr (.fa Y IE (.gr (.u (.ld Y N5) (.gr (.m Y (.gr (.q (.as (v':=AA ((i-1:Nat):Int)) (by congr 1;omega) (.sub Y Y om)) Y (.gr (.q (.indexAddr Y Y Bv om) Y (.gr (.q (.loadEl (p:=EO (.slice (some ⟨bn,0,none⟩) (l.map (·.zx)).length nd) (l.map (·.zx))) (i:=(i-1)*1) (v:=AA (((l.map (·.zx))).getD (i-1) 0)) Y CT O (fun h hp=>Ad hp) (Ux om)) Y (.gr (.ui Y Y Y (.gr (.pT Y Y (.pF Y Y (.nt ?_))))))))))))))))))))
   refine .condD Y (fun h74=>?_) (fun h74=>?_)
   ·refine .sr (.an Y (.ret (.blk_r (.then_r (.then_r (.blk_r (.then_r ?_)))))))
    have hr:BD ⟨δ,ω,Λ⟩ z snap l=(⟨δ,ω,Λ⟩,81):=by unfold BD;dsimp only;rw [if_neg (by rw [h16];decide),if_neg (by rintro (g1|g1);exact h3_24 g1;omega),if_neg (by rw [hall];decide),if_pos (fun hR=>by have hRi:=hR i om;have:=hRi.2 om;omega)]
    rw [hr]
    try dsimp only
    refine .lf (g:=g) (x:=x) (ea:=ea) (ec:=ec) (za:=za) (zc:=zc) (m:=Λ.ents.length) (k:=Λ.zxs.length) Λ ?_
    exact .vv
   refine .skip (.blk_n (.then_n (.region (.q (.add Y Y om) Y (.m Y (.nt ?_))))))
   exact .rk (i+1) (⟨by omega,fun k hk=>by rcases Nat.lt_or_ge k i with g1|g1;exact hgood k g1;obtain rfl:k=i:=om;exact ⟨by omega,fun h0k=>by first|omega|exact absurd h0k om⟩⟩) om O
  refine .kDF (t:=63) Y h17_64 (.gk (.gk (.gk (.gk (.gk (.gk (.gk (.gk (.gr (.pF Y Y (.pF Y Y (.nt (.condF Y (.skip (.blk_n (.then_n (.region (.q (.add Y Y om) Y (.m Y (.nt ?_))))))))))))))))))))
  exact .rk (i+1) (⟨by omega,fun k hk=>by rcases Nat.lt_or_ge k i with g1|g1;exact hgood k g1;obtain rfl:k=i:=om;exact ⟨by omega,fun h0k=>by first|omega|exact absurd h0k om⟩⟩) om O
 have hR:VY z (l.map (·.zx)):=fun k hk=>hgood k om
 refine .fold (p:=CP [ET (.slice na (l.map Cb).length nc) (l.map Cb),EO (.slice nz (l.map (·.zx)).length nd) (l.map (·.zx))]) (q:=[ET (.slice na (l.map Cb).length nc) (l.map Cb),EO (.slice nz (l.map (·.zx)).length nd) (l.map (·.zx))]) O (fun _ hp=>hp) (.xe (.sm Y (.q (.loadAs (vs:=[AA 0,AA 0, .pointer none,AA z,AF snap, .slice na (l.map Cb).length nc, .slice nz (l.map (·.zx)).length nd, .bool false]) Y AJ3 O (by simp) Y) Y ?_)))
 have hsp:=NB g x d δ ω Λ z snap (.slice na (l.map Cb).length nc) (.slice nz (l.map (·.zx)).length nd) (l.map Cb) (l.map (·.zx)) ea ec za zc (CP [ET (.slice na (l.map Cb).length nc) (l.map Cb),EO (.slice nz (l.map (·.zx)).length nd) (l.map (·.zx))]) hI hz om (fun h hp=>(by obtain ⟨g1,g2,-,le1,le2,q1,q2⟩:=hp;exact Bj (Ad q1) le1)) (fun h hp=>(by obtain ⟨g1,g2,-,le1,le2,q1,q2⟩:=hp;exact Bj (AB4 q2 (fun _ q=>Ad q)) le2)) (by rw [length_map];omega) (by rw [length_map,length_map])
 refine .oq (.c func43 [_,_] (hsp)) ?_
 rintro v L' ⟨rfl,⟨hf0,rfl⟩|⟨hf1,rfl⟩⟩
 ·refine .an Y (.ret ?_)
  have hr:BD ⟨δ,ω,Λ⟩ z snap l=A2 ⟨δ,ω,Λ⟩ z snap (l.map Cb) (l.map (·.zx)):=by unfold BD;dsimp only;rw [if_neg (by rw [h16];decide),if_neg (by rintro (g1|g1);exact h3_24 g1;omega),if_neg (by rw [hall];decide),if_neg (fun g=>g hR)]
  rw [hr]
  exact .vv
 refine .an Y (.ret ?_)
 have hr:BD ⟨δ,ω,Λ⟩ z snap l=A2 ⟨δ,ω,Λ⟩ z snap (l.map Cb) (l.map (·.zx)):=by unfold BD;dsimp only;rw [if_neg (by rw [h16];decide),if_neg (by rintro (g1|g1);exact h3_24 g1;omega),if_neg (by rw [hall];decide),if_neg (fun g=>g hR)]
 rw [hr]
 obtain ⟨e9,he9⟩:=RV hf1
 rw [he9]
 dsimp only
 refine .lgFold (g:=g) (x:=x) (ea:=ea) (ec:=ec) (za:=za) (zc:=zc) (m:=Λ.ents.length) (k:=Λ.zxs.length) (Λ.met e9) O (by rw [Yd,Yx,U3,UB]) (by rw [LO]) (by rw [Nq]) (by rw [LO]) (by rw [Nq]) ?_
 exact .vv
/- not in this seat: rkC -/
/- not in this seat: rkR -/
section
variable {W:World} {n:Nat} {ds:List Deferred} {E:Bi} {L R:List HP} {X:Act→World→Prop}
/- not in this seat: G.rkOpen -/
/- not in this seat: G.rkFold -/
end
def JX (how:List Int) (k:Nat):Int:=let n:=if k<how.length then how.getD k 0 else 0;if n<0 then -(n+1) else n
theorem WR {l:List (List UInt8)} (h:∀s∈l,s.length=64) {i:Nat} (hi:i<l.length):(l.getD i []).length=64:=by
 have:l.getD i []=l[i]:=by simp [hi]
 rw [this];exact h _ (getElem_mem _)
theorem AKA (how:List Int) (hb:∀z∈how, -9223372036854775808≤z∧z≤9223372036854775807) (k:Nat):0≤JX how k∧JX how k≤9223372036854775807:=by
 have hz: -9223372036854775808≤(if k<how.length then how.getD k 0 else 0)∧(if k<how.length then how.getD k 0 else 0)≤9223372036854775807:=by
  split
  ·rename_i hk
   have e:how.getD k 0=how[k]:=by simp [hk]
   rw [e];exact hb _ (getElem_mem _)
  ·omega
 unfold JX
 dsimp only
 split<;>omega
/- not in this seat -/
/- not in this seat -/
/- not in this seat -/
/- not in this seat -/
/- not in this seat -/
/- not in this seat -/
/- not in this seat -/
/- not in this seat -/
/- not in this seat -/
open Go Go.RowKit
def Dk.pend (δ:Dk):List Int:=Ce (δ.old.map (·.1))
theorem Dk.pend_len (δ:Dk):δ.pend.length=δ.old.length:=by rw [Dk.pend,H4,length_map]
theorem WE:∀{n:Nat} {l:List Nat},l.Nodup→(∀x∈l,x<n)→l.length≤n:=by
 intro n
 induction n with
 |zero=>intro l _ h;cases l with|nil=>simp|cons a l=>exact absurd (h a (by simp)) om
 |succ n ih=>
  intro l hn h
  have h1:=ih (hn.erase n) (fun x hx=>by
   have:=(hn.mem_erase_iff).1 hx
   have:=h x this.2;omega)
  rw [length_erase] at h1
  split at h1<;>omega
theorem W3 {l:List Int} (hn:l.Nodup) {n:Nat} (h:∀x∈l,0≤x∧x<n):l.length≤n:=by
 have h1:(l.map Int.toNat).Nodup:=List.Pairwise.map _ (S:=fun a b:Nat=>a≠b) (R:=fun a b:Int=>(0≤a∧0≤b)∧a≠b) (fun a b hab=>by omega)
  (List.Pairwise.imp_of_mem (fun {a b} ha hb hab=>⟨⟨(h a ha).1,(h b hb).1⟩,hab⟩) hn)
 have h3:=WE (n:=n) h1 (fun x hx=>by
  obtain ⟨y,hy,rfl⟩:=mem_map.1 hx
  have:=h y hy
  omega)
 simpa using h3
theorem Dk.Ok.oldlen {δ:Dk} (h:δ.Ok):δ.old.length≤δ.now.length:=by
 have:=W3 h.nodup (n:=δ.now.length) (fun x hx=>by
  obtain ⟨y,hy,rfl⟩:=mem_map.1 hx
  exact (h.olds y hy).2)
 simpa using this
theorem AA9 {β:Type} {m:List (Int×β)} {k:Int} (h:k∈m.map (·.1)):∃b,AC m k=some b:=by
 rcases e:AC m k with _|b
 ·exact absurd h (Pe e)
 ·exact ⟨b,rfl⟩
theorem Dk.pend_at {δ:Dk} (h:δ.Ok) {k:Nat} (hk:k<δ.pend.length):0≤δ.pend.getD k 0∧(δ.pend.getD k 0).toNat<δ.now.length∧δ.pend.getD k 0<δ.now.length∧∃o,AC δ.old (δ.pend.getD k 0)=some o∧o.length=64:=by
 have e:δ.pend.getD k 0=δ.pend[k]:=by simp [hk]
 have hm:δ.pend[k]∈δ.old.map (·.1):=Z7.1 (getElem_mem hk)
 obtain ⟨o,ho⟩:=AA9 hm
 have:=h.olds _ (QY ho)
 rw [e]
 exact ⟨this.2.1,by omega,this.2.2,o,ho,this.1⟩
def Dk.crash1 (δ:Dk) (f:Int) (n:Int):Dk:=
 {δ with now:=if f%3=0 then δ.now.set n.toNat ((AC δ.old n).getD []) else if f%3=2 then δ.now.set n.toNat ((δ.now.getD n.toNat []).take ((f/3)%65).toNat++((AC δ.old n).getD []).drop ((f/3)%65).toNat) else δ.now}
def Dk.crashTo (δ:Dk) (how:List Int):Nat→Dk
 |0=>δ
 |k+1=>(δ.crashTo how k).crash1 (JX how k) (δ.pend.getD k 0)
def Dk.crash (δ:Dk) (how:List Int):Dk:={δ.crashTo how δ.pend.length with old:=[],dead:=false,left:=0}
theorem Dk.crash1_len (δ:Dk) (f n:Int):(δ.crash1 f n).now.length=δ.now.length:=by
 simp only [Dk.crash1]
 split
 ·simp
 ·split<;>simp
theorem Dk.Ok.crash1 {δ:Dk} (h:δ.Ok) (f:Int) {n:Int} {o:List UInt8} (ho:AC δ.old n=some o) (hl:o.length=64) (hn:n.toNat<δ.now.length):(δ.crash1 f n).Ok:=by
 have h1:=WR h.sec hn
 have hb:((f/3)%65).toNat≤64:=by omega
 refine ⟨fun s hs=>?_,fun x hx=>by rw [Dk.crash1_len];exact h.olds x hx,h.nodup,by rw [Dk.crash1_len];exact h.big,h.acts0,h.left0⟩
 simp only [Dk.crash1,ho,Option.getD_some] at hs
 split at hs
 ·rcases mem_or_eq_of_mem_set hs with hs|rfl
  ·exact h.sec s hs
  ·exact hl
 ·split at hs
  ·rcases mem_or_eq_of_mem_set hs with hs|rfl
   ·exact h.sec s hs
   ·rw [length_append,length_take,length_drop,h1,hl];omega
  ·exact h.sec s hs
theorem Dk.crashTo_same (δ:Dk) (how:List Int):∀k,(δ.crashTo how k).old=δ.old∧(δ.crashTo how k).acts=δ.acts∧(δ.crashTo how k).left=δ.left∧(δ.crashTo how k).dead=δ.dead∧(δ.crashTo how k).now.length=δ.now.length:=by
 intro k
 induction k with
 |zero=>exact ⟨rfl,rfl,rfl,rfl,rfl⟩
 |succ k ih=>
  obtain ⟨h1,h2,h3,h4,h5⟩:=ih
  exact ⟨h1,h2,h3,h4,by rw [Dk.crashTo,Dk.crash1_len,h5]⟩
theorem Dk.crashTo_ok {δ:Dk} (h:δ.Ok) (how:List Int):∀k,k≤δ.pend.length→(δ.crashTo how k).Ok:=by
 intro k
 induction k with
 |zero=>exact fun _=>h
 |succ k ih=>
  intro hk
  obtain ⟨e1,-,-,-,e2⟩:=δ.crashTo_same how k
  obtain ⟨q0,q1,q2,o,q3,q4⟩:=Dk.pend_at h (k:=k) om
  exact (ih om).crash1 _ (by rw [e1];exact q3) q4 (by rw [e2];exact q1)
theorem Dk.Ok.crashed {δ:Dk} (h:δ.Ok) (how:List Int):(δ.crash how).Ok:=by
 have:=Dk.crashTo_ok h how δ.pend.length (Nat.le_refl _)
 exact ⟨this.sec,by simp [Dk.crash],by simp [Dk.crash],this.big,this.acts0,by simp [Dk.crash]⟩
theorem Dk.new_ok {n:Int} (h:n.toNat≤32768):(Dk.new n).Ok:=
 ⟨by simp [Dk.new,AHu],by simp [Dk.new],by simp [Dk.new],by simpa [Dk.new] using h,by simp [Dk.new],by simp [Dk.new]⟩
theorem AIh:Jd zs=List.replicate 64 (Value.int .u8 0):=by rw [Jd,zs,map_replicate];rfl
theorem AAo (n:Nat):DK (List.replicate n zs)=List.replicate (n*64) (Value.int .u8 0):=by
 induction n with
 |zero=>rfl
 |succ n ih=>
  have:DK (List.replicate (n+1) zs)=Jd zs++DK (List.replicate n zs):=by simp [DK,replicate_succ]
  rw [this,ih,AIh,replicate_append_replicate]
  congr 1;omega
theorem Xh {l:List (List UInt8)} (h:∀s∈l,s.length=64) {n:Nat} (hn:n<l.length) {m off j:Nat} (ho:off=n*64) (hj:j=m) (hm:m≤64):((DK l).drop off).take j=Jd (l[n].take m):=by
 subst ho hj
 rw [show Jd (l[n].take j)=(Jd l[n]).take j from map_take,←PV h hn,take_take,Nat.min_eq_left hm]
section
variable {P:Program} {E:Bi} {L R:List HP} {ty kt et:TypeId} {K β:Type} [DecidableEq K] {kv:K→Value} {enc:β→Value}
theorem AE.lookupS (hl:Aa P kt kv) {t:TypeId} {x y:Operand} {m:List (K×β)} {r:Nat} {k:K} {b:β} {z:Value} {ents:List (Value×Value)} (hb:AC m k=some b) (hx:ev E x=some (.map (some r))) (hy:ev E y=some (kv k)) (ht:P.underlying t=some (.map kt et)) (hz:Ah P et=some z)
  (hL:BJ (mapR r ents) L R) (he:ents=m.map fun x=>(kv x.1,enc x.2)):AE P ⟨none, .lookup t x y false,ty, "",#[],none⟩ E L (enc b):=by
 have q:=AE.lookup (enc:=enc) (ty:=ty) hl hx hy ht hz hL he
 rw [hb] at q
 exact q
end
theorem W7 (mb:Option Nat):Fn prog 100 #[.map mb] [] fun v L=> ∃b,v= .func (.func 160) #[] #[AD b]∧L=[AW b [.map mb] 84]:=
 Yy Tryz.keysD mb
theorem SP {b r:Nat} {T:TypeId} (m:List (Int×List UInt8)) (hnd:(m.map (·.1)).Nodup) (hbd:∀x∈m, -9223372036854775808≤x.1∧x.1≤9223372036854775807) (hlen:m.length≤1099511627776):
  Fn prog 99 #[.func (.func 160) #[] #[AD b]] [AW b [.map (some r)] T,mapR r (M4 m)] fun v L=>(∃a c,v= .slice a m.length c)∧L=[EO v (Ce (m.map (·.1))),mapR r (M4 m)]:=by
 have q:=Qa Tryz.keysD Tryz.sortedA Tryz.sortA rfl (enters_of func159 rfl rfl) (enters_of func160 rfl rfl) underlying3 (enc:=AE5) (b:=b) (r:=r) (T:=T) m hnd hbd hlen
 intro F w hs
 refine (q F w hs).mono ?_
 rintro e w' ⟨v,L',⟨h1,rfl⟩,h2,h3⟩
 refine ⟨v,_,⟨h1,?_⟩,h2,h3⟩
 have:(Ce (m.map (·.1))).length=m.length:=by rw [H4,length_map]
 show _=[At _ 1 v (Ce (m.map (·.1))).length _,_]
 rw [this];rfl
def AId:HP:=fun _=>True
def awe (z:Int):En:=⟨z,0,0,pt0,[]⟩
def V7:Ld:=⟨(A6 (Dk.new 64)).1,(I7 (Dk.new 64)).2.1,lg0⟩
theorem Fq {δ:Dk} {ω:Wl} (h:(A6 δ).2=some ω):ω=(I7 δ).2.1:=by
 unfold A6 at h
 split at h
 ·cases h
 split at h
 ·cases h
 split at h
 ·cases h
 ·cases h;rfl
theorem RT {z:Int} (hz:Aw z):(Bl z).length≤10:=CN (OR hz)
theorem AHO {z:Int} (hz:Aw z):EnX AId (awe z):=by
 have hr:∀sz h,CA sz h AR 0 []:=fun sz h=> .inl ⟨rfl,rfl,_,_,rfl⟩
 have i0:Aw 0:=by decide
 have hi:EnI (awe z):=⟨hz,i0,i0,⟨i0,i0,i0,i0,(by decide:(0:Nat)<Ds),(by decide:(0:Nat)<Ds),(by decide:(0:Nat)<Ds),fun a ha=>by cases ha⟩,(by decide:(0:Nat)<Ds),fun y hy=>by cases hy⟩
 refine ⟨⟨⟨hi,fun h _=>hr 2 h,fun h _=>hr 8 h,fun y hy=>by cases hy⟩,?_,⟨Nat.zero_le _,Nat.zero_le _,fun y hy=>by cases hy⟩,⟨rfl,rfl⟩,fun y hy=>by cases hy⟩,fun y hy=>by cases hy⟩
 have h1:(Bl 0).length=1:=by kernel_rfl
 have h2:(HT pt0).length=7:=by kernel_rfl
 have h3:(If []).length=1:=by kernel_rfl
 have h4:=RT hz
 rw [R1]
 show ([z,0,0].flatMap Bl).length+(HT pt0).length+(If []).length≤_
 simp only [flatMap_cons,flatMap_nil,length_append,length_nil]
 omega
def i64 (x:Int):Prop:= -9223372036854775808≤x∧x≤9223372036854775807
theorem AAE (n:Int):((LC n).toNat:Int)=n%256:=by
 unfold LC
 rw [UInt8.toNat_ofNat']
 omega
theorem AG4:∀(k:Nat) (n:Int),0≤n→P0 (CU n k) 0=n%256^k:=by
 intro k
 induction k with
 |zero=>intro n _;simp [CU,P0]
 |succ k ih=>
  intro n hn
  have h1:=ih (n/256) om
  rw [CU,N9,h1]
  simp only [P0]
  rw [AAE,Int.pow_succ,Int.mul_comm (256^k) 256]
  have h2:n/256%256^k*256+n%256=n%(256*256^k):=by
   have hp:(0:Int)<256^k:=Int.pow_pos dQ
   generalize (256:Int)^k=p at *
   have e1:=Int.emod_add_mul_ediv n (256*p)
   have e2:=Int.emod_add_mul_ediv n 256
   have e3:=Int.emod_add_mul_ediv (n/256) p
   have e4:n/256/p=n/(256*p):=Int.ediv_ediv_of_nonneg om
   rw [e4] at e3
   generalize n/(256*p)=q at *
   have e5:256*p*q=256*(p*q):=Int.mul_assoc _ _ _
   generalize p*q=r at *
   omega
  exact h2
theorem DN {k:Nat} {n:Int} (h0:0≤n) (h1:n<256^k) (h2:n≤9223372036854775807):Ba (CU n k)=n:=by
 unfold Ba
 rw [AG4 k n h0,Int.emod_eq_of_lt h0 h1]
 exact JA om
structure MkR (m:Mk):Prop where
 count:0≤m.count∧m.count≤4294967295
 area:0≤m.area∧m.area≤1
 len:0≤m.len∧m.len≤4294967295
 num:0≤m.num∧m.num≤4294967295
 a:0≤m.a∧m.a≤9223372036854775807
 b:0≤m.b∧m.b≤9223372036854775807
theorem MkI.r {δ:Dk} {m:Mk} (h:MkI δ m) (hs:2≤δ.now.length∧δ.now.length≤32768):MkR m:=by
 have:=D3 hs
 obtain ⟨h1,h2,h3,h4,h5,h6⟩:=h
 exact ⟨by omega,h2,by omega,h4,h5,h6⟩
theorem HG (p q r:Bs) {i j:Nat} (hi:i=p.length) (hj:j=p.length+q.length):sub (p++q++r) i j=q:=by
 subst hi;subst hj
 unfold sub
 rw [take_append_of_le_length (by simp),←length_append,take_length,drop_left]
theorem AAL {m:Mk} (h:MkR m):I9 m.sec=m:=by
 obtain ⟨h1,h2,h3,h4,h5,h6⟩:=h
 have e:(256:Int)^4=4294967296∧(256:Int)^1=256∧(256:Int)^8=18446744073709551616:=⟨rfl,rfl,rfl⟩
 have a1:sub m.sec 2 6=CU m.count 4:=by
  rw [show m.sec=[87,77]++CU m.count 4++(CU m.area 1++CU m.len 4++CU m.num 4++CU m.a 8++CU m.b 8++List.replicate 29 0++CU m.count 4) by unfold Mk.sec;simp only [append_assoc]]
  exact HG _ _ _ (by simp) (by simp [Av])
 have a2:sub m.sec 6 7=CU m.area 1:=by
  rw [show m.sec=([87,77]++CU m.count 4)++CU m.area 1++(CU m.len 4++CU m.num 4++CU m.a 8++CU m.b 8++List.replicate 29 0++CU m.count 4) by unfold Mk.sec;simp only [append_assoc]]
  exact HG _ _ _ (by simp [Av]) (by simp [Av])
 have a3:sub m.sec 7 11=CU m.len 4:=by
  rw [show m.sec=([87,77]++CU m.count 4++CU m.area 1)++CU m.len 4++(CU m.num 4++CU m.a 8++CU m.b 8++List.replicate 29 0++CU m.count 4) by unfold Mk.sec;simp only [append_assoc]]
  exact HG _ _ _ (by simp [Av]) (by simp [Av])
 have a4:sub m.sec 11 15=CU m.num 4:=by
  rw [show m.sec=([87,77]++CU m.count 4++CU m.area 1++CU m.len 4)++CU m.num 4++(CU m.a 8++CU m.b 8++List.replicate 29 0++CU m.count 4) by unfold Mk.sec;simp only [append_assoc]]
  exact HG _ _ _ (by simp [Av]) (by simp [Av])
 have a5:sub m.sec 15 23=CU m.a 8:=by
  rw [show m.sec=([87,77]++CU m.count 4++CU m.area 1++CU m.len 4++CU m.num 4)++CU m.a 8++(CU m.b 8++List.replicate 29 0++CU m.count 4) by unfold Mk.sec;simp only [append_assoc]]
  exact HG _ _ _ (by simp [Av]) (by simp [Av])
 have a6:sub m.sec 23 31=CU m.b 8:=by
  rw [show m.sec=([87,77]++CU m.count 4++CU m.area 1++CU m.len 4++CU m.num 4++CU m.a 8)++CU m.b 8++(List.replicate 29 0++CU m.count 4) by unfold Mk.sec;simp only [append_assoc]]
  exact HG _ _ _ (by simp [Av]) (by simp [Av])
 unfold I9
 rw [a1,a2,a3,a4,a5,a6,DN om om om,DN om om om,DN om om om,DN om om om,DN om om om,DN om om om]
theorem Y3 {δ:Dk} (hd:δ.dead=false) {n:Int} (hn:0≤n∧n<δ.now.length):δ.read n=(δ.now.getD n.toNat [],0):=by
 have h2:δ.has n=true:=by simp [Dk.has,hn.1,hn.2]
 unfold Dk.read
 rw [hd,h2];rfl
theorem AAR {δ:Dk} (hd:δ.dead=false) (hs:2≤δ.now.length∧δ.now.length≤32768) {m:Mk} (hm:MkI δ m) {n:Int} (hn:m.count%2=n) (hr:δ.now.getD n.toNat []=m.sec):BI δ n=some m:=by
 have e:=Y3 hd (n:=n) ⟨by omega,by omega⟩
 have hp:=AAL (hm.r hs)
 obtain ⟨h1,h2,h3,h4,h5,h6⟩:=hm
 unfold BI
 rw [e,hr]
 dsimp only
 rw [if_neg dQ,hp,if_neg]
 unfold Hm
 rintro (h|h|h|h|h|h|h)
 ·omega
 ·exact h hn
 ·omega
 ·omega
 ·omega
 ·omega
 ·exact h rfl
theorem AAf:∀(l:List Bs) (f:Nat) (out:List Bs) (num:Int),(∀s∈l,s.length≤4000)→(AH l).length<f→num=out.length+l.length→KO f (AH l) out num=some (out++l):=by
 intro l
 induction l with
 |nil=>
  intro f out num _ hf hn
  obtain ⟨g,rfl⟩:∃g,f=g+1:=⟨f-1,by omega⟩
  simp only [KO]
  rw [if_pos (by simp [AH]),if_pos (by simpa using hn.symm)];simp
 |cons s l ih=>
  intro f out num hl hf hn
  obtain ⟨g,rfl⟩:∃g,f=g+1:=⟨f-1,by omega⟩
  have hs:=hl s mem_cons_self
  have e:AH (s::l)=Bo s++AH l:=by simp [AH]
  have hrl:=E9 s
  have hlen:(AH (s::l)).length=s.length+6+(AH l).length:=by rw [e,length_append,hrl]
  have hcl:(s::l).length=l.length+1:=rfl
  have e2:Bo s++AH l=CU s.length 2++s++(CU (Km (EM s)) 4++AH l):=by simp only [Bo,EM,append_assoc]
  have t2:(AH (s::l)).take 2=CU s.length 2:=by
   rw [e,e2,append_assoc,take_append_of_le_length (by simp [Av])]
   exact take_of_length_le (by simp [Av])
  have hp2:(256:Int)^2=65536:=rfl
  have hsm:Ba ((AH (s::l)).take 2)=s.length:=by rw [t2];exact DN om om om
  simp only [KO]
  rw [hsm]
  have hne:AH (s::l)≠[]:=fun h=>by rw [h] at hlen;simp at hlen;omega
  rw [if_neg hne,if_neg om,if_neg om]
  have hsub:sub (AH (s::l)) 2 ((s.length:Int).toNat+2)=s:=by
   rw [e,e2];exact HG _ _ _ (by simp [Av]) (by simp [Av];omega)
  have htk:(AH (s::l)).take ((s.length:Int).toNat+6)=Bo s:=by
   rw [e,show (s.length:Int).toNat+6=(Bo s).length by rw [hrl];omega,take_left]
  have hdr:(AH (s::l)).drop ((s.length:Int).toNat+6)=AH l:=by
   rw [e,show (s.length:Int).toNat+6=(Bo s).length by rw [hrl];omega,drop_left]
  rw [hsub,htk,if_neg (fun h=>h rfl),hdr,ih g (out++[s]) num (fun x hx=>hl x (mem_cons_of_mem _ hx)) om (by simp;omega)]
  simp
theorem ADh {l:List Bs} (h:∀s∈l,s.length≤4000):M0 (AH l) l.length=some l:=by
 have:=AAf l ((AH l).length+1) [] l.length h om (by simp)
 simpa [M0] using this
theorem VQ {δ:Dk} (h:2≤δ.now.length):0≤Af δ:=by unfold Af;omega
theorem ZH:∀(f:Nat) (δ:Dk) (area:Int) (all:Bs) (i0:Nat),Al δ→0≤area∧area≤1→2≤δ.now.length→(all.length:Int)≤64*Af δ→all.length<(f+i0)*64+64→
  (∀k,k<2→(Fc f δ area all i0).1.now.getD k []=δ.now.getD k [])∧
  (∀i:Nat,(i:Int)<Af δ→(Fc f δ area all i0).1.now.getD (2+area*Af δ+(i:Int)).toNat []=if i0≤i∧i*64<all.length∧i<f+i0 then Ck all i else δ.now.getD (2+area*Af δ+(i:Int)).toNat []):=by
 intro f
 induction f with
 |zero=>
  intro δ area all i0 _ _ _ _ hf
  refine ⟨fun k _=>rfl,fun i hi=>?_⟩
  rw [if_neg om];rfl
 |succ f ih=>
  intro δ area all i0 h ha hn hl hf
  simp only [Fc]
  split
  ·rename_i hi
   have hr:=AEX ha hn hl hi
   obtain ⟨w1,w2,w3⟩:=Iu h (n:=2+area*Af δ+i0) (s:=Ck all i0) ⟨by omega,hr.2⟩ (H1 _ _)
   rw [if_neg (by rw [w1];decide)]
   have hlen:(δ.write (2+area*Af δ+i0) (Ck all i0)).1.now.length=δ.now.length:=(C1 _ _ _).1
   have hhz:=Ge hlen
   obtain ⟨q1,q2⟩:=ih _ area all (i0+1) w2 ha (by rw [hlen];exact hn) (by rw [hhz];exact hl) om
   rw [hhz] at q2
   refine ⟨fun k hk=>?_,fun i hi2=>?_⟩
   ·rw [q1 k hk,w3]
    simp only [getD_eq_getElem?_getD]
    rw [List.getElem?_set_ne om]
   ·rw [q2 i hi2,w3]
    by_cases hc:i=i0
    ·subst hc
     rw [if_neg om,if_pos ⟨Nat.le_refl _,hi,by omega⟩]
     simp only [getD_eq_getElem?_getD]
     rw [List.getElem?_set_self om];rfl
    ·have hne:(2+area*Af δ+(i0:Int)).toNat≠(2+area*Af δ+(i:Int)).toNat:=by
      have:=VQ (δ:=δ) hn
      have hm:0≤area*Af δ:=Int.mul_nonneg ha.1 this
      omega
     have e:(δ.now.set (2+area*Af δ+(i0:Int)).toNat (Ck all i0)).getD (2+area*Af δ+(i:Int)).toNat []=δ.now.getD (2+area*Af δ+(i:Int)).toNat []:=by
      simp only [getD_eq_getElem?_getD]
      rw [List.getElem?_set_ne hne]
     rw [e]
     by_cases hd:i0+1≤i∧i*64<all.length∧i<f+(i0+1)
     ·rw [if_pos hd,if_pos om]
     ·rw [if_neg hd,if_neg om]
  ·rename_i hi
   refine ⟨fun k _=>rfl,fun i hi2=>?_⟩
   rw [if_neg om]
def Il (L:Bs) (i:Nat):Bs:=(L.drop (i*64)).take 64
def Ki (δ:Dk) (area:Int) (L:Bs):Prop:= ∀i:Nat,(i:Int)<Af δ→Il L i<+:δ.now.getD (2+area*Af δ+(i:Int)).toNat []
theorem AAb {L M:Bs} (h:L<+:M) (i:Nat):Il L i<+:Il M i:=by
 obtain ⟨r,rfl⟩:=h
 unfold Il
 rw [drop_append,take_append]
 exact prefix_append _ _
theorem Z6 (L:Bs) (i:Nat):Il L i<+:Ck L i:=prefix_append _ _
theorem MI {L:Bs} {i:Nat} (h:¬i*64<L.length):Il L i=[]:=by
 unfold Il;rw [drop_eq_nil_of_le om];rfl
theorem Zl {L r:Bs} {i:Nat} (h:i*64+64≤L.length):Il (L++r) i=Il L i:=by
 unfold Il
 rw [drop_append_of_le_length om,take_append_of_le_length (by rw [length_drop];omega)]
theorem Ki.less {δ:Dk} {area:Int} {L M:Bs} (h:Ki δ area M) (hp:L<+:M):Ki δ area L:=fun i hi=>(AAb hp i).trans (h i hi)
theorem NN {δ:Dk} {area:Int} {L r:Bs} (h:Al δ) (ha:0≤area∧area≤1) (hn:2≤δ.now.length) (hl:((L++r).length:Int)≤64*Af δ) (hA:Ki δ area L):Ki (DR δ area (L++r) L.length).1 area (L++r):=by
 have hlen:=(FY δ area (L++r) L.length).1
 have q:=(ZH ((L++r).length+1) δ area (L++r) (L.length/64) h ha hn hl om).2
 intro i hi
 rw [Ge hlen] at hi ⊢
 have:=q i hi
 show Il (L++r) i<+:(Fc _ _ _ _ _).1.now.getD _ []
 rw [this]
 split
 ·exact Z6 _ _
 ·rename_i hc
  by_cases h1:i*64<(L++r).length
  ·rw [Zl om];exact hA i hi
  ·rw [MI h1];exact nil_prefix
theorem Xw {δ:Dk} {area:Int} {L:Bs} (h:Al δ) (ha:0≤area∧area≤1) (hn:2≤δ.now.length) (hl:(L.length:Int)≤64*Af δ):Ki (DR δ area L 0).1 area L:=by
 have:=NN (L:=[]) (r:=L) h ha hn hl (fun i _=>by rw [MI (by simp)];exact nil_prefix)
 exact this
theorem Rd {δ:Dk} {area:Int} {all:Bs} (frm:Nat) (h:Al δ) (ha:0≤area∧area≤1) (hn:2≤δ.now.length) (hl:(all.length:Int)≤64*Af δ) (k:Nat) (hk:k<2):(DR δ area all frm).1.now.getD k []=δ.now.getD k []:=
 (ZH (all.length+1) δ area all (frm/64) h ha hn hl om).1 k hk
theorem ADw {δ:Dk} (hok:δ.Ok) (hn:2≤δ.now.length) {area:Int} (ha:0≤area∧area≤1) {L:Bs} (hA:Ki δ area L):∀n:Nat,(n:Int)≤Af δ→L.take (64*n)<+:E6 δ area n:=by
 intro n
 induction n with
 |zero=>intro _;simp
 |succ n ih=>
  intro hn2
  have h1:=ih om
  have hl:=MP hok hn ha n om
  rw [IB]
  by_cases hc:64*n≤L.length
  ·have e1:L.take (64*n)=E6 δ area n:=List.IsPrefix.eq_of_length h1 (by rw [length_take,hl];omega)
   have e2:L.take (64*(n+1))=L.take (64*n)++Il L n:=by
    rw [show 64*(n+1)=64*n+64 by omega,take_add,show 64*n=n*64 by omega];rfl
   rw [e2,e1]
   obtain ⟨t,ht⟩:=hA n om
   exact ⟨t,by rw [append_assoc,ht]⟩
  ·rw [take_of_length_le om] at h1 ⊢
   exact h1.trans (prefix_append _ _)
theorem Z5 {δ:Dk} (hok:δ.Ok) (hn:2≤δ.now.length) {area:Int} (ha:0≤area∧area≤1) {L:Bs} (hl:(L.length:Int)≤64*Af δ) (hA:Ki δ area L):(E6 δ area ((L.length+63)/64)).take L.length=L:=by
 have h1:=ADw hok hn ha hA ((L.length+63)/64) om
 rw [take_of_length_le om] at h1
 exact (prefix_iff_eq_take.1 h1).symm
def Wl.now (ω:Wl):Mk:=⟨ω.count,ω.area,(AH (ω.recs.take ω.synced.toNat)).length,ω.synced,ω.a,ω.b⟩
def NX (δ:Dk) (c:Int):Bs:=δ.now.getD (c%2).toNat []
def ABw (c:Int) (X:Bs):Prop:=X.length=64∧(X.drop 60=CU (c-1) 4∨(sub X 2 6=CU (c+1) 4∧X.drop 60≠CU (c+1) 4))
theorem AFr (m:Mk):sub m.sec 2 6=CU m.count 4:=by
 rw [show m.sec=[87,77]++CU m.count 4++(CU m.area 1++CU m.len 4++CU m.num 4++CU m.a 8++CU m.b 8++List.replicate 29 0++CU m.count 4) by unfold Mk.sec;simp only [append_assoc]]
 exact HG _ _ _ (by simp) (by simp [Av])
theorem Og (m:Mk):m.sec.drop 60=CU m.count 4:=by
 unfold Mk.sec
 rw [drop_left' (by simp [Av])]
theorem AFn {a b:Int} (ha:0≤a∧a≤4294967295) (hb:0≤b∧b≤4294967295) (h:CU a 4=CU b 4):a=b:=by
 have e:(256:Int)^4=4294967296:=rfl
 have h1:=DN (k:=4) ha.1 om om
 have h2:=DN (k:=4) hb.1 om om
 rw [←h1,←h2,h]
theorem WC {δ:Dk} {n c:Int} {X:Bs} (hok:δ.Ok) (hd:δ.dead=false) (hn:0≤n∧n<δ.now.length) (hX:δ.now.getD n.toNat []=X) (hc:1≤c∧c≤4294967295) (ht:ABw c X):BI δ n=none∨∃k,BI δ n=some k∧k.count<c:=by
 rcases h:BI δ n with _|k
 ·exact .inl rfl
 ·obtain ⟨h1,-,h3,-⟩:=Fv hok h
  have hk:=h1.count
  rw [Y3 hd hn] at h3
  have h4:X=k.sec:=hX.symm.trans h3
  subst h4
  rcases ht.2 with h5|⟨h5,h6⟩
  ·rw [Og] at h5
   have:=AFn ⟨by omega,by omega⟩ ⟨by omega,by omega⟩ h5
   exact .inr ⟨k,rfl,by omega⟩
  ·rw [AFr] at h5
   rw [Og] at h6
   exact absurd h5 h6
structure Kp (δ:Dk) (ω:Wl):Prop where
 cnt:1≤ω.count
 a:0≤ω.a∧ω.a≤9223372036854775807
 b:0≤ω.b∧ω.b≤9223372036854775807
 long:∀s∈ω.recs,s.length≤4000
 this:NX δ ω.count=ω.now.sec
 other:ABw ω.count (NX δ (ω.count+1))
 area:Ki δ ω.area (AH ω.recs)
theorem ADR (l:List Bs) (k:Nat):AH (l.take k)<+:AH l:=⟨AH (l.drop k),by rw [←Cy,take_append_drop]⟩
theorem Kp.mkI {δ:Dk} {ω:Wl} {N:Int} (h:Kp δ ω) (hW:EG δ ω N):MkI δ ω.now:=by
 have h1:=K5 ω.recs ω.synced.toNat
 have h2:=hW.fits
 have h3:=D0 ω.recs
 have h4:=D3 hW.size
 have h5:=hW.synced
 exact ⟨⟨h.cnt,hW.count.2⟩,hW.area,⟨by show (0:Int)≤((AH _).length:Nat);omega,by show ((AH _).length:Int)≤_;omega⟩,⟨h5.1,by show ω.synced≤_;omega⟩,h.a,h.b⟩
theorem AGS {δ:Dk} (m:Mk) (h1:BI δ (m.count%2)=some m) (h2:BI δ ((m.count+1)%2)=none∨∃k,BI δ ((m.count+1)%2)=some k∧k.count<m.count):Ht δ=some m:=by
 unfold Ht
 rcases (by omega:m.count%2=0∧(m.count+1)%2=1∨m.count%2=1∧(m.count+1)%2=0) with ⟨e1,e2⟩|⟨e1,e2⟩<;>rw [e1] at h1<;>rw [e2] at h2<;>rw [h1]<;>rcases h2 with h2|⟨k,h2,h3⟩<;>rw [h2]
 ·dsimp only;rw [if_neg om]
 ·dsimp only;rw [if_pos om]
theorem opened {δ:Dk} {ω:Wl} {N:Int} (h:Kp δ ω) (hW:EG δ ω N) (hok:δ.Ok):Hb δ=some ⟨ω.recs.take ω.synced.toNat,ω.synced,ω.area,ω.count,ω.a,ω.b,false⟩:=by
 have hm:=h.mkI hW
 have hs:=hW.synced
 have hsz:=hW.size
 have f1:BI δ (ω.now.count%2)=some ω.now:=AAR hW.al.dead hW.size hm rfl h.this
 have f2:BI δ ((ω.now.count+1)%2)=none∨∃k,BI δ ((ω.now.count+1)%2)=some k∧k.count<ω.now.count:=
  WC hok hW.al.dead ⟨by omega,by omega⟩ rfl ⟨h.cnt,hW.count.2⟩ h.other
 rw [KS (AGS _ f1 f2)]
 unfold Yn
 have hA:Ki δ ω.area (AH (ω.recs.take ω.synced.toNat)):=h.area.less (ADR _ _)
 have hlen:=K5 ω.recs ω.synced.toNat
 have hfit:=hW.fits
 have hb:Ff δ ω.now=AH (ω.recs.take ω.synced.toNat):=Z5 hok hW.size.1 hW.area om hA
 have hn:(ω.recs.take ω.synced.toNat).length=ω.synced.toNat:=by rw [length_take];omega
 have hz:ω.now.num=((ω.recs.take ω.synced.toNat).length:Int):=by rw [hn];show ω.synced=_;omega
 rw [hb,hz,ADh (fun s hs=>h.long s (mem_of_mem_take hs))]
 dsimp only
 rw [hn,show ((ω.synced.toNat:Nat):Int)=ω.synced by omega]
 rfl
theorem VJ {δ:Dk} {ω:Wl} {N:Int} (h:Kp δ ω) (hW:EG δ ω N) (hok:δ.Ok) (hs:ω.synced=ω.recs.length):Hb δ=some ω:=by
 rw [opened h hW hok]
 have hdb:=hW.doubt
 obtain ⟨r,sy,ar,ct,x,y,db⟩:=ω
 dsimp only at hs hdb ⊢
 subst hdb
 rw [hs,Int.toNat_natCast,take_length]
theorem Jx {l:List Bs} {i k:Nat} {s:Bs} (hi:i<l.length):(l.set i s).getD k []=if k=i then s else l.getD k []:=by
 simp only [getD_eq_getElem?_getD]
 split
 ·rename_i h;subst h;rw [List.getElem?_set_self hi];rfl
 ·rename_i h;rw [List.getElem?_set_ne (fun e=>h e.symm)]
theorem ACp {δ δ':Dk} {area:Int} {L:Bs} {c:Int} {s:Bs} (hn:2≤δ.now.length) (ha:0≤area) (h:δ'.now=δ.now.set (c%2).toNat s) (hA:Ki δ area L):Ki δ' area L:=by
 have hlen:δ'.now.length=δ.now.length:=by rw [h,length_set]
 intro i hi
 rw [Ge hlen] at hi ⊢
 have hp:=VQ hn
 have hm:0≤area*Af δ:=Int.mul_nonneg ha hp
 rw [h,Jx om,if_neg om]
 exact hA i hi
theorem AGZ {δ δ1 δ':Dk} {ω ω':Wl} {N:Int} (h:Kp δ ω) (hW:EG δ ω N) (hlen:δ1.now.length=δ.now.length) (hk:∀k,k<2→δ1.now.getD k []=δ.now.getD k [])
  (hc:ω'.count=ω.count+1) (ha:0≤ω'.a∧ω'.a≤9223372036854775807) (hb:0≤ω'.b∧ω'.b≤9223372036854775807) (hl:∀s∈ω'.recs,s.length≤4000) (hn:δ'.now=δ1.now.set ((ω.count+1)%2).toNat ω'.now.sec) (hA:Ki δ1 ω'.area (AH ω'.recs)) (har:0≤ω'.area):Kp δ' ω':=by
 have hsz:=hW.size
 have hcnt:=h.cnt
 have hl2:δ'.now.length=δ.now.length:=by rw [hn,length_set,hlen]
 refine ⟨by omega,ha,hb,hl,?_,?_,ACp om har hn hA⟩
 ·unfold NX
  rw [hn,Jx om,if_pos om]
 ·have e:NX δ' (ω'.count+1)=ω.now.sec:=by
   have:=h.this
   unfold NX at this ⊢
   rw [hn,Jx om,if_neg om,hk _ om,←this]
   congr 1;omega
  rw [e,hc]
  exact ⟨Pm _, .inl (by rw [Og];show CU ω.count 4=_;congr 1;omega)⟩
structure KpN (ω:Wl) (r:Dk×Wl×Int):Prop where
 kp:Kp r.1 r.2.1
 count:r.2.1.count≤ω.count+1
theorem Q0 {δ:Dk} {ω:Wl} {N:Int} (h:Kp δ ω) (hW:EG δ ω N) (s:Bs):KpN ω (Ao δ ω s):=by
 rcases (Fw hW s).2.2 with ⟨h1,h2,e⟩|⟨-,e⟩|⟨-,-,e⟩
 ·have hl:(AH ω.recs++Bo s).length=(AH ω.recs).length+s.length+6:=by rw [length_append,E9];omega
  have hlen:=(FY δ ω.area (AH ω.recs++Bo s) (AH ω.recs).length).1
  have hmk:=Rd (all:=AH ω.recs++Bo s) (AH ω.recs).length hW.al hW.area hW.size.1 om
  have hl0:=(MQ ((AH ω.recs++Bo s).length+1) δ ω.area (AH ω.recs++Bo s) ((AH ω.recs).length/64) hW.al hW.area hW.size.1 om).1
  have e:Ao δ ω s=((DR δ ω.area (AH ω.recs++Bo s) (AH ω.recs).length).1,{ω with recs:=ω.recs++[s]},0):=by
   unfold Ao;rw [if_neg (by rw [hW.doubt];decide),if_neg om,if_neg (fun g=>g h2),if_neg (by show ¬(Fc _ _ _ _ _).2≠0;rw [hl0];decide)]
  rw [e]
  have hs:=hW.synced
  have hnow:(ω.recs++[s]).take ω.synced.toNat=ω.recs.take ω.synced.toNat:=take_append_of_le_length om
  refine ⟨⟨h.cnt,h.a,h.b,?_,?_,?_,?_⟩,by dsimp only;omega⟩
  ·intro x hx
   rcases mem_append.1 hx with hx|hx
   ·exact h.long x hx
   ·rw [mem_singleton.1 hx];exact h1
  ·show NX (DR δ ω.area (AH ω.recs++Bo s) (AH ω.recs).length).1 ω.count=Mk.sec ⟨ω.count,ω.area,(AH ((ω.recs++[s]).take ω.synced.toNat)).length,ω.synced,ω.a,ω.b⟩
   rw [hnow]
   unfold NX;rw [hmk _ om]
   exact h.this
  ·show ABw ω.count (NX (DR δ ω.area (AH ω.recs++Bo s) (AH ω.recs).length).1 (ω.count+1))
   have e2:NX (DR δ ω.area (AH ω.recs++Bo s) (AH ω.recs).length).1 (ω.count+1)=NX δ (ω.count+1):=by unfold NX;exact hmk _ om
   rw [e2];exact h.other
  ·show Ki _ ω.area (AH (ω.recs++[s]))
   rw [Cy,show AH [s]=Bo s by simp [AH]]
   exact NN hW.al hW.area hW.size.1 om h.area
 ·rw [e];exact ⟨h,by dsimp only;omega⟩
 ·rw [e];exact ⟨h,by dsimp only;omega⟩
theorem YY {δ δ1:Dk} {ω:Wl} {N:Int} (h:Kp δ ω) (hW:EG δ ω N) (hc:ω.count≠4294967295) {area:Int} (ha:0≤area∧area≤1) {l:List Bs} (hl:((AH l).length:Int)≤64*Af δ) (h1:Al δ1) (h2:δ1.now.length=δ.now.length) (h3:δ1.acts≤N+1900000)
  (hk:∀k,k<2→δ1.now.getD k []=δ.now.getD k []) (hA:Ki δ1 area (AH l)) (hL:∀s∈l,s.length≤4000):KpN ω (Po (Cr δ1 ω area l)):=by
 obtain ⟨e,w,n⟩:=J2 hW hc ha hl h1 h2 h3
 refine ⟨?_,by rw [e];dsimp only;omega⟩
 rw [e]
 refine AGZ h hW h2 hk rfl h.a h.b hL ?_ hA ha.1
 rw [n]
 congr 1
 show Mk.sec ⟨ω.count+1,area,(AH l).length,l.length,ω.a,ω.b⟩=Mk.sec ⟨ω.count+1,area,(AH (l.take ((l.length:Int)).toNat)).length,l.length,ω.a,ω.b⟩
 rw [Int.toNat_natCast,take_length]
theorem AFe {δ:Dk} {ω:Wl} {N:Int} (h:Kp δ ω) (hW:EG δ ω N):KpN ω (Ej δ ω):=by
 unfold Ej
 rw [if_neg (by rw [hW.doubt];decide)]
 split
 ·exact ⟨h,by dsimp only;omega⟩
 ·split
  ·exact ⟨h,by dsimp only;omega⟩
  ·rename_i hc
   exact YY h hW hc hW.area hW.fits hW.al rfl (by have:=hW.acts;omega) (fun _ _=>rfl) h.area h.long
theorem ADv {δ:Dk} {ω:Wl} {N:Int} (h:Kp δ ω) (hW:EG δ ω N) (l:List Bs):KpN ω (BA δ ω l):=by
 unfold BA
 rw [if_neg (by rw [hW.doubt];decide)]
 split
 ·exact ⟨h,by dsimp only;omega⟩
 ·split
  ·exact ⟨h,by dsimp only;omega⟩
  ·split
   ·exact ⟨h,by dsimp only;omega⟩
   ·rename_i h1 h2 h3
    have hl:((AH l).length:Int)≤64*Af δ:=by omega
    have ha:0≤1-ω.area∧1-ω.area≤1:=by have:=hW.area;omega
    have hh:=D3 hW.size
    obtain ⟨a1,a2⟩:=MQ ((AH l).length+1) δ (1-ω.area) (AH l) (0/64) hW.al ha hW.size.1 hl
    have ak:=FY δ (1-ω.area) (AH l) 0
    rw [if_neg (by show ¬(Fc _ _ _ _ _).2≠0;rw [a1];decide)]
    refine YY h hW om ha hl a2 ak.1 (by have:=hW.acts;have:=ak.2;omega) (Rd 0 hW.al ha hW.size.1 hl) (Xw hW.al ha hW.size.1 hl) (fun s hs=>?_)
    have h1':l.any (fun s=>decide (s.length>4000))=false:=by simpa using h1
    have:=any_eq_false.1 h1' s hs
    simpa using this
theorem AHz {n:Int} (h:16≤n∧n≤32768):Kp (BN (Dk.new n)).1 newW:=by
 obtain ⟨-,hW,hn⟩:=M3 h
 have hl:(Dk.new n).now.length=n.toNat:=by simp [Dk.new]
 refine ⟨by decide,⟨by decide,by decide⟩,⟨by decide,by decide⟩,fun s hs=>absurd hs (not_mem_nil),?_,?_,fun i _=>?_⟩
 ·show (BN (Dk.new n)).1.now.getD 1 []=Er.sec
  rw [hn,Jx (by rw [length_set];omega),if_pos rfl]
 ·have e:NX (BN (Dk.new n)).1 (newW.count+1)=zs:=by
   show (BN (Dk.new n)).1.now.getD 0 []=zs
   rw [hn,Jx (by rw [length_set];omega),if_neg dQ,Jx om,if_pos rfl]
  rw [e];exact ⟨rfl, .inl dQ⟩
 ·rw [MI (by show ¬i*64<0;omega)];exact nil_prefix
theorem ABU {δ:Dk} (h:δ.sync.2=0):δ.sync.1.old=[]:=by
 unfold Dk.sync at h ⊢
 split at h
 ·exact absurd (show (2:Int)=0 from h) dQ
 ·rename_i hd
  rw [if_neg hd]
  split at h
  ·rename_i ha;rw [if_pos ha]
  ·rename_i ha;exact absurd h ha
theorem ABK {δ:Dk} {m:Mk} (h:(C3 δ m).2=0):(C3 δ m).1.old=[]:=by
 unfold C3 at h ⊢
 split at h
 ·exact absurd (show (2:Int)=0 from h) dQ
 ·rename_i h1
  rw [if_neg h1]
  split at h
  ·exact absurd (show (2:Int)=0 from h) dQ
  ·rename_i h2
   rw [if_neg h2]
   exact ABU (Classical.not_not.1 h2)
theorem Zm {δ:Dk} {ω:Wl} {ar:Int} {l:List Bs} (h:(Cr δ ω ar l).2.2=0):(Cr δ ω ar l).1.old=[]:=by
 unfold Cr at h ⊢
 split at h
 ·exact absurd (show (2:Int)=0 from h) dQ
 ·rename_i h1
  rw [if_neg h1]
  split at h
  ·exact absurd (show (2:Int)=0 from h) dQ
  ·rename_i h2
   rw [if_neg h2]
   exact ABK (Classical.not_not.1 h2)
theorem AEq {r:Dk×Wl×Int} (hr:r.2.2=0→r.1.old=[]) (h:(Po r).2.2=0):(Po r).1.old=[]:=by
 unfold Po at h ⊢
 split at h
 ·rename_i g;exact absurd (g.symm.trans (show r.2.2=0 from h)) dQ
 ·rename_i g;rw [if_neg g];exact hr h
theorem W4 {δ:Dk} {ω:Wl} {l:List Bs} (h:(BA δ ω l).2.2=0):(BA δ ω l).1.old=[]:=by
 unfold BA at h ⊢
 split at h
 ·exact absurd (show (34:Int)=0 from h) dQ
 rename_i h1;rw [if_neg h1]
 split at h
 ·exact absurd (show (33:Int)=0 from h) dQ
 rename_i h2;rw [if_neg h2]
 split at h
 ·exact absurd (show (30:Int)=0 from h) dQ
 rename_i h3;rw [if_neg h3]
 split at h
 ·exact absurd (show (30:Int)=0 from h) dQ
 rename_i h4;rw [if_neg h4]
 split at h
 ·rename_i h5
  exfalso
  unfold Po at h
  split at h
  ·rename_i g;exact absurd (g.symm.trans (show (DR δ (1-ω.area) (AH l) 0).2=0 from h)) dQ
  ·exact h5 h
 rename_i h5;rw [if_neg h5]
 exact AEq (fun g=>Zm g) h
theorem Wm {δ:Dk} (h:Al δ) (ho:δ.old=[]) (how:List Int):δ.crash how=δ:=by
 obtain ⟨h1,h2⟩:=h
 have hp:δ.pend=[]:=by unfold Dk.pend;rw [ho];simp [Ce]
 unfold Dk.crash
 rw [hp]
 show ({δ with old:=[],dead:=false,left:=0}:Dk)=δ
 rw [←h1,←h2,←ho]
theorem AAS (δ:Dk) (ω:Wl) (area:Int) (l:List Bs):(Po (Cr δ ω area l)).2.2=0∨(Po (Cr δ ω area l)).2.2=2:=by
 have h:(Cr δ ω area l).2.2=0∨(Cr δ ω area l).2.2=2:=by
  unfold Cr
  split
  ·exact .inr rfl
  split
  ·exact .inr rfl
  ·exact .inl rfl
 unfold Po
 split
 ·rename_i g;exact .inr g
 ·exact h
/-! ### A ledger on a great disk -/
structure V3 (s:Ld) (N c:Int):Prop where
 lw:Ho s N
 kp:Kp s.δ s.ω
 len:s.δ.now.length=16384
 count:s.ω.count≤c
theorem V3.half {s:Ld} {N c:Int} (h:V3 s N c):64*Af s.δ=524224:=by unfold Af;rw [h.len];decide
theorem V3.more {s:Ld} {N M c d:Int} (h:V3 s N c) (hN:N≤M) (hc:c≤d):V3 s M d:=⟨h.lw.more hN,h.kp,h.len,by have:=h.count;omega⟩
theorem SF {δ:Dk} {ω:Wl} (h:(A6 δ).2=some ω):(A6 δ).1=(I7 δ).1:=by
 unfold A6 at h ⊢
 split at h
 ·cases h
 rename_i h1;rw [if_neg h1]
 split at h
 ·cases h
 rename_i h2;rw [if_neg h2]
 split at h
 ·cases h
 rename_i h3;rw [if_neg h3]
theorem XK {n:Int} (hn:n=16384):∃ω,(A6 (Dk.new n)).2=some ω∧V3 ⟨(A6 (Dk.new n)).1,ω,lg0⟩ 4000003 3∧EG (BN (Dk.new n)).1 newW 3∧EG (GQ (Dk.new n)).1 (GQ (Dk.new n)).2.1 2000003:=by
 obtain ⟨ω,f1,f2,f3,f4,f5⟩:=Ib (n:=n) om
 have k1:=Q0 (AHz (n:=n) om) f4 (CV 0 0)
 have k2:=AFe (δ:=(GQ (Dk.new n)).1) (ω:=(GQ (Dk.new n)).2.1) k1.kp f5
 have e1:=Fq f1
 have e2:=SF f1
 refine ⟨ω,f1,⟨f2,?_,by rw [f3];omega,?_⟩,f4,f5⟩
 ·show Kp (A6 (Dk.new n)).1 ω
  rw [e2,e1];exact k2.kp
 ·have h1:=k1.count
  have h2:=k2.count
  have h3:newW.count=1:=rfl
  show ω.count≤3
  rw [e1]
  show (Ej _ _).2.1.count≤3
  have h4:(GQ (Dk.new n)).2.1.count=(Ao (BN (Dk.new n)).1 newW (CV 0 0)).2.1.count:=rfl
  omega
theorem AC1 {s:Ld} {N c:Int} (h:V3 s N c) (hs:s.Λ.snap=[]) {k:Nat} (hk:s.Λ.ents.length≤k):(AH s.ω.recs).length≤(k+1)*4006:=by
 have h1:=L3 h.kp.long
 have h2:s.ω.recs.length=1+s.Λ.ents.length:=by rw [h.lw.recs,hs,length_append];rfl
 exact Nat.le_trans h1 (Nat.mul_le_mul_right _ om)
theorem Wq {s:Ld} {N c:Int} (h:V3 s N c) {e:En} (he:EnI e) (hf:EK e=true) (hl:(Cb e).length≤4000) (hz:FX s.Λ<e.zx) (hs:s.Λ.snap=[]) (hn:s.Λ.ents.length<100):
  (Aj s e).2=0∧(Aj s e).1.Λ=s.Λ.keep (Cb e) e.zx∧V3 (Aj s e).1 (N+2000000) (c+1):=by
 have hr:=AC1 h hs (k:=99) om
 have hh:=h.half
 have hroom:¬((Cb e).length:Int)>Yh s.δ s.ω:=by unfold Yh;omega
 obtain ⟨w1,w2,w3⟩:=QV h.lw he
 have ka:=Q0 h.kp h.lw.well (Cb e)
 have hx:Aj s e=(⟨(Ao s.δ s.ω (Cb e)).1,(Ao s.δ s.ω (Cb e)).2.1,(IL s.Λ (Ao s.δ s.ω (Cb e))).1.Λ.keep (Cb e) e.zx⟩,0):=by
  unfold Aj
  rw [if_neg (by rw [h.lw.live];decide),if_neg (by rw [hf];decide),if_neg om,if_neg (by rintro (g|g);omega;exact hroom g)]
  rcases (Fw h.lw.well (Cb e)).2.2 with ⟨-,-,g⟩|⟨g,-⟩|⟨-,g,-⟩
  ·rw [if_pos (show (IL s.Λ (Ao s.δ s.ω (Cb e))).2=0 by show Dj (Ao s.δ s.ω (Cb e)).2.2=0;rw [g];exact (by decide:Dj 0=0))]
  ·omega
  ·omega
 have h0:(Aj s e).2=0:=by rw [hx]
 refine ⟨h0,?_,⟨w1,?_,by rw [w2];exact h.len,?_⟩⟩
 ·rcases w3 with ⟨-,g,-⟩|⟨g,-⟩
  ·exact g
  ·exact absurd h0 g
 ·rw [hx];exact ka.kp
 ·rw [hx];have:=ka.count;have:=h.count;dsimp only;omega
theorem AAt {base:Int} {snap:Bs} (hb:Aw base) (hs:snap.length≤65536):∀x∈BP base snap,x.length≤4000:=fun x hx=>by
 rcases mem_cons.1 hx with rfl|hx
 ·have h1:=RT hb
  have h2:=CN (u:=snap.length) (by unfold Ds;omega)
  unfold CV BW
  rw [length_append];omega
 ·exact (MM snap.length snap (Nat.le_refl _)).2 x hx
theorem RC {s:Ld} {N c:Int} (h:V3 s N c) {base:Int} {snap:Bs} {es:List Bs} {zs:List Int} (hb:0≤base∧base≤9223372036854775807) (hs:snap.length≤65536) (hr:Dh base es zs) (hn:es.length≤100) (he:∀x∈es,x.length≤4000) (hc:c<4294967295):
  (A2 s base snap es zs).2=0∧(A2 s base snap es zs).1.Λ=⟨s.Λ.acc,s.Λ.cur,base,snap,es,zs,s.Λ.doubt⟩∧V3 (A2 s base snap es zs).1 (N+4000000) (c+1)∧(A2 s base snap es zs).1.ω.synced=(A2 s base snap es zs).1.ω.recs.length∧(A2 s base snap es zs).1.δ.old=[]:=by
 have hall:∀x∈BP base snap++es,x.length≤4000:=fun x hx=>(mem_append.1 hx).elim (AAt ⟨by omega,hb.2⟩ hs x) (he x)
 have h1:=L3 hall
 have h2:=J6 base snap hs
 have h3:(BP base snap++es).length≤118:=by rw [length_append];omega
 have h4:(BP base snap++es).length*4006≤118*4006:=Nat.mul_le_mul_right _ h3
 have hh:=h.half
 have hcnt:=h.count
 have hk:=ADv h.kp h.lw.well (BP base snap++es)
 obtain ⟨l1,l2⟩:=AEp h.lw hb hs hr
 have hok:(BA s.δ s.ω (BP base snap++es)).2.2=0:=by
  rcases (PJ h.lw.well (BP base snap++es)).2.2 with ⟨_,_,g,-⟩|⟨e,he',g⟩
  ·rw [g]
  ·exfalso
   have hd:=h.lw.well.doubt
   have h5:BA s.δ s.ω (BP base snap++es)=Po (Cr (DR s.δ (1-s.ω.area) (AH (BP base snap++es)) 0).1 s.ω (1-s.ω.area) (BP base snap++es)):=by
    obtain ⟨a1,-⟩:=MQ ((AH (BP base snap++es)).length+1) s.δ (1-s.ω.area) (AH (BP base snap++es)) (0/64) h.lw.well.al (by have:=h.lw.well.area;omega) h.lw.well.size.1 om
    unfold BA
    rw [if_neg (by rw [hd];decide),if_neg (fun g=>by obtain ⟨x,hx,hx2⟩:=any_eq_true.1 g;have:=hall x hx;have:=of_decide_eq_true hx2;omega),if_neg (by rintro (g|g);exact g om;omega),if_neg om,if_neg (by show ¬(Fc _ _ _ _ _).2≠0;rw [a1];exact fun g=>g rfl)]
   have hs1:=AAS (DR s.δ (1-s.ω.area) (AH (BP base snap++es)) 0).1 s.ω (1-s.ω.area) (BP base snap++es)
   rw [←h5,g] at hs1
   have:e=0∨e=2:=hs1
   omega
 have hx:A2 s base snap es zs=(⟨(BA s.δ s.ω (BP base snap++es)).1,(BA s.δ s.ω (BP base snap++es)).2.1,⟨s.Λ.acc,s.Λ.cur,base,snap,es,zs,s.Λ.doubt⟩⟩,0):=by
  unfold A2
  rw [if_neg om,if_pos (show (IL s.Λ (BA s.δ s.ω (BP base snap++es))).2=0 by show Dj (BA s.δ s.ω (BP base snap++es)).2.2=0;rw [hok];exact (by decide:Dj 0=0))]
 have h0:(A2 s base snap es zs).2=0:=by rw [hx]
 obtain ⟨m1,m2⟩:=l2 h0
 refine ⟨h0,m1,⟨l1.well,by rw [hx];exact hk.kp,by rw [l1.len];exact h.len,?_⟩,m2,by rw [hx];exact W4 hok⟩
 rw [hx];have:=hk.count;dsimp only;omega
theorem ABf {s:Ld} {N c:Int} (h:V3 s N c) (hs:s.ω.synced=s.ω.recs.length) (hok:s.δ.Ok):Hb s.δ=some s.ω∧Hy s.ω=some s.Λ:=by
 have hw:=h.lw
 refine ⟨VJ h.kp hw.well hok hs,?_⟩
 unfold Hy
 have:=hw.w.eps
 rw [if_neg (by rw [hw.a,hw.b];omega),hw.a,hw.b,hw.recs]
 exact Tn hw.w hw.live
/-! ### Rows that are short, in a tree -/
def AcS (l:List Ac):Prop:=l.length≤4∧∀a∈l,(1≤a.1∧a.1≤31)∧a.2.length≤29
structure Sn (τ:Tr):Prop where
 nd:∀y∈τ.nodes,AcS y.2.acl
 ss:∀x∈τ.sess,x.2.2.length≤100
theorem Y8 {l:List PN} {p:Bs} {f:Nd→Nd} (h:∀y∈l,AcS y.2.acl) (hf:∀n,AcS n.acl→AcS (f n).acl):∀y∈amod l p f,AcS y.2.acl:=by
 intro y hy
 obtain ⟨x,hx,e1,e2|⟨e2,e3⟩⟩:=Lq hy
 ·rw [e2];exact h x hx
 ·rw [e3];exact hf _ (h x hx)
theorem Sn.part {τ:Tr} (h:Sn τ) {x:Pt} (hx:AcS x.acl) {zx:Int}:Sn (AI τ x zx).1:=by
 unfold AI
 split
 ·unfold A5
  split
  ·refine ⟨Y8 (fun y hy=>?_) fun n hn=>hn,h.ss⟩
   rcases F6 hy with rfl|hy
   ·exact hx
   ·exact h.nd y hy
  ·exact h
 split
 ·unfold BS
  split
  ·exact ⟨Y8 (fun y hy=>h.nd y (mem_filter.1 hy).1) fun n hn=>hn,h.ss⟩
  ·exact h
 split
 ·exact ⟨Y8 h.nd fun n hn=>hn,h.ss⟩
 split
 ·exact ⟨Y8 h.nd fun n hn=>hx,h.ss⟩
 ·exact h
theorem Sn.parts {τ:Tr} (h:Sn τ) {zx:Int} {l:List Pt} (hl:∀x∈l,AcS x.acl):Sn (AP τ zx l).1:=by
 have key:∀(l:List Pt) (r:Tr×List Ev),Sn r.1→(∀x∈l,AcS x.acl)→Sn (l.foldl (fun r x=>((AI r.1 x zx).1,r.2++(AI r.1 x zx).2)) r).1:=by
  intro l
  induction l with
  |nil=>intro r h _;exact h
  |cons x l ih=>
   intro r h hl
   rw [foldl_cons]
   exact ih _ (h.part (hl x (by simp))) (fun y hy=>hl y (by simp [hy]))
 exact key l _ h hl
theorem Sn.app {τ:Tr} (h:Sn τ) {z:Int} {x:Pt} {l:List Pt} (hx:PartB x) (hl:∀y∈l,PartB y):Sn (AM τ z x l).1:=by
 have h0:Sn (zxT τ z):=⟨h.nd,h.ss⟩
 unfold AM
 dsimp only
 split
 ·split
  ·refine ⟨h0.nd,fun y hy=>?_⟩
   rcases F6 hy with rfl|hy
   ·exact hx.data
   ·exact h0.ss y hy
  ·exact h0
 split
 ·have h1:=h0.parts (zx:=z) (l:=l.filter Bc) fun y hy=>(hl y (mem_filter.1 hy).1).acl
  exact ⟨h1.nd,fun y hy=>h1.ss y (mem_filter.1 hy).1⟩
 split
 ·exact h0.parts fun y hy=>(hl y hy).acl
 split
 ·exact h0
 ·exact h0.part hx.acl
theorem Sn.new:Sn BV:=by
 refine ⟨fun y hy=>?_,fun x hx=>by cases hx⟩
 simp only [BV,mem_singleton] at hy
 subst hy
 exact ⟨by decide,fun a ha=>by simp only [mem_singleton] at ha;subst ha;decide⟩
theorem AB6 {τ:Tr} (h:WI τ) (hw:Hx τ) (hs:Sn τ):Pi τ:=by
 have ho:=h.ok
 have hmem:∀y∈τ.nodes,AC τ.nodes y.1=some y.2:=fun y hy=>Bu (ho.sorted.nodup CS) hy
 refine ⟨AIR ho h.rootT,AHi ho,fun e=>?_,hw.zx,by have:=ho.few;omega,by have:=ho.sfew;omega,fun y hy=>?_,fun x hx=>?_⟩
 ·obtain ⟨n,hn,-⟩:=h.root;rw [e] at hn;cases hn
 ·have h1:=h.data _ _ (hmem y hy)
  have h3:=hw.nd y hy
  have h4:=F0 (ho.able y hy)
  obtain ⟨h5,h6⟩:=hs.nd y hy
  exact ⟨by omega,by omega,fun a ha=>⟨(h3.acl.each a ha).1.n,by have:=(h6 a ha).2;omega⟩,h3.st,h3.bare.1,h3.bare.2,by omega⟩
 ·obtain ⟨h1,h2,h3⟩:=hw.ss x hx
  exact ⟨h1,h2,by have:=hs.ss x hx;omega⟩
theorem RR {n:Nat} (h:n<128):(BW n).length=1:=by
 unfold BW;rw [DU,if_pos h];rfl
theorem ADL {y:PN} (hw:PnW y) (hd:y.2.data.length≤100) (ha:AcS y.2.acl):(QA y).length≤393:=by
 have h1:=FZ (s:=y.1) (by have:=hw.p;omega)
 have h2:=FZ (s:=y.2.data) om
 have h3:=QJ ha.1 ha.2
 have h4:=FF (f:=Bl) (c:=10) (l:=Df y.2.st) (fun n hn=>EQ (hw.st n hn))
 have h5:(Df y.2.st).length=7:=rfl
 have h6:=hw.p
 rw [h5] at h4
 unfold QA
 rw [length_append,length_append,length_append]
 omega
theorem N6 {τ:Tr} (h:WI τ) (hw:Hx τ) (hs:Sn τ):(EX τ).length≤65536:=by
 have ho:=h.ok
 have hmem:∀y∈τ.nodes,AC τ.nodes y.1=some y.2:=fun y hy=>Bu (ho.sorted.nodup CS) hy
 have h1:=FF (f:=QA) (c:=393) (l:=τ.nodes) (fun y hy=>ADL (hw.nd y hy) (h.data _ _ (hmem y hy)) (hs.nd y hy))
 have h2:=FF (f:=Pp) (c:=121) (l:=τ.sess) (fun x hx=>by
  have g1:=EQ (hw.ss x hx).i
  have g2:=EQ (hw.ss x hx).t
  have g3:=FZ (s:=x.2.2) (by have:=hs.ss x hx;omega)
  have g4:=hs.ss x hx
  unfold Pp;rw [length_append,length_append];omega)
 have h3:=ho.few
 have h4:=ho.sfew
 have h5:=RR (n:=τ.nodes.length) om
 have h6:=RR (n:=τ.sess.length) om
 have h7:=EQ hw.zx
 have h8:(Bx HI).length≤20:=by rw [FZ dQ];decide
 have h9:τ.nodes.length*393≤64*393:=Nat.mul_le_mul_right _ h3
 have h10:τ.sess.length*121≤64*121:=Nat.mul_le_mul_right _ h4
 unfold EX Zo Kq FS
 simp only [length_append]
 omega
/-! ### Steps -/
structure Ui where
 what:Int
 ses:Int
 num:Int
 r:Rq
 subs:List Rq
def QC (w:Ui):List Value:=[AA w.what,AA w.ses,AA w.num]++L8 w.r
structure AD1 (p:HP) (w:Ui):Prop where
 ses:Aw w.ses
 num:Aw w.num
 d:∀s,Aw s→WiD p ⟨s,[]⟩ AR w.r w.subs
structure ADG (p:HP) (v:Value) (l:List Ui):Prop where
 cells:∀h:Hp,p h→CA 13 h v l.length (l.flatMap QC)
 len:l.length≤1048576
 each:∀w∈l,AD1 p w
def DE (c:Int):Int:=1+KJ c 4
theorem PA (c:Int):1≤DE c∧DE c≤5:=by
 have:=JG c (n:=4) dQ
 unfold DE;omega
theorem PF (c:Int):Aw (DE c):=by
 have:=PA c
 exact ⟨by omega,by omega⟩
def KA (τ:Tr) (w:Ui):Pt×List Pt:=if PE τ (DE w.ses) then FO τ ⟨DE w.ses,[]⟩ w.r w.subs else (Gn (DE w.ses),[])
theorem AIW {τ:Tr} {N:Nat} (ho:τ.Ok N) {p:HP} {w:Ui} (h:AD1 p w):Gb N (KA τ w).1 (KA τ w).2:=by
 unfold KA
 split
 ·exact AG9 ho (h.d _ (PF _))
 ·exact AFI (PF _) N
structure AKm (τ:Tr) (z s i:Int) (x:Pt) (l:List Pt):Prop where
 s:Rl τ z s i x l
 x:PartB x
 l:∀y∈l,PartB y
theorem M7 {k o n e:Int} (hk:Aw k) (ho:Aw o) (hn:Aw n) (he:Aw e):PartB ⟨k,[],[],AR,[],o,n,e,AR⟩:=⟨hk,ho,hn,he,Nat.zero_le _,Nat.zero_le _,Nat.zero_le _,fun a ha=>by cases ha⟩
theorem AHl {τ:Tr} (h:WI τ) {p:HP} {w:Ui} (hw:AD1 p w) {z i:Int} (hz:Aw z) (hi:Aw i):AKm τ z (DE w.ses) i (KA τ w).1 (KA τ w).2:=by
 have hs:=PF w.ses
 have hr:=PA w.ses
 have hD:=hw.d _ hs
 have hm:Aw (-1):=⟨by decide,by decide⟩
 have I0:=Aw.zero
 have no:∀y∈([]:List Pt),PartB y:=fun _ g=>by cases g
 have i8:Aw 8:=⟨by decide,by decide⟩
 unfold KA
 split
 rotate_left
 ·exact ⟨AHe h hr hz hi,M7 ⟨by decide,by decide⟩ hs ⟨by decide,by decide⟩ I0,no⟩
 unfold FO
 split
 ·exact ⟨ZK h hz hs hi ⟨by decide,by decide⟩ hm,M7 i8 I0 hm ⟨by decide,by decide⟩,no⟩
 split
 ·refine (fun k:PartB (BL τ ⟨DE w.ses,[]⟩ w.subs).1∧∀y∈(BL τ ⟨DE w.ses,[]⟩ w.subs).2,PartB y=>⟨AGD h hr hz hs hi _,k.1,k.2⟩) ?_
  unfold BL
  split
  ·exact ⟨M7 i8 I0 hm ⟨by decide,by decide⟩,no⟩
  ·split
   ·rename_i k e he
    have hie:k<8∧0≤e∧e≤110:=by
     have:=E5 he
     omega
    exact ⟨M7 i8 I0 ⟨by omega,by omega⟩ ⟨by omega,by omega⟩,no⟩
   ·rename_i he
    exact ⟨M7 ⟨by decide,by decide⟩ I0 I0 I0,(Kb hr 0 rfl h he).2.2⟩
 split
 ·have noop:TQ τ F3∧PartB F3:=⟨⟨⟨Int.le_refl _,by decide⟩, .inl rfl,Nat.zero_le _,Nat.zero_le _,fun g=>absurd g dQ⟩,M7 I0 I0 I0 I0⟩
  exact ⟨ABx h hz hs hi noop.1 noop.2,noop.2,no⟩
 split
 ·refine ⟨AF0 h hr hz hi,M7 ⟨by decide,by decide⟩ hs I0 I0,fun y hy=>(PQ (fun q hq=>?_) y hy).1⟩
  have:=(h.owned (mem_reverse.1 hq)).1
  exact F0 (.inr this)
 split
 ·have:=Mb τ ⟨DE w.ses,[]⟩ w.r
  exact ⟨ZK h hz hs hi ⟨by omega,by omega⟩ hm,M7 i8 I0 hm ⟨by omega,by omega⟩,no⟩
 ·rename_i g
  have:=Y9 h (u:=⟨DE w.ses,[]⟩) hr (r:=w.r) om
  exact ⟨ABx h hz hs hi this.1 this.2,this.2,no⟩
def Jj (ct cl cn cm cr:Nat):Value:= .func (.func 87) #[] #[AD ct,AD cl,AD cn,AD cm,AD cr]
def Jp (cf cm cn cr:Nat):Value:= .func (.func 91) #[] #[AD cf,AD cm,AD cn,AD cr]
def LA (φ:Fz):Bs:=φ.nds.flatMap QA
def J8 (φ:Fz):Bs:=if φ.all then FS φ.ss else []
structure FzP where
 ct:Nat
 cf:Nat
 cn:Nat
 cr:Nat
 cm:Nat
 cl:Nat
 wn:Nat
 wr:Nat
def fzF (f:Nat) (y:FzP) (z:Int) (b:Bool):HP:=AW f [AA z,Jj y.ct y.cl y.cn y.cm y.cr,Jp y.cf y.cm y.cn y.cr, .bool b] 170
def fzC (f t:Nat) (y:FzP) (last:Bs) (many:Nat) (b1 b2:Bs):List HP:=[AW y.ct [AD t] 44,AW y.cf [AD f] 101,AW y.cn [AD y.wn] 162,AW y.cr [AD y.wr] 162,AW y.cm [AA many] 3,AW y.cl [AF last] 9,FM y.wn b1,FM y.wr b2]
def fzA (f t:Nat) (y:FzP) (φ:Fz):List HP:=fzC f t y (Cs φ.nds) φ.nds.length (LA φ) (J8 φ)
def Oh (f t:Nat) (φ:Fz):HP:=fun h=> ∃y:FzP,True∧CP (fzF f y φ.from' φ.all::fzA f t y φ) h
section
variable {W:World} {n:Nat} {ds:List Deferred} {E:Bi} {L R:List HP} {X:Act→World→Prop}
theorem G.fzOpen {f t:Nat} {φ:Fz} (hL:BJ (Oh f t φ) L R) (h:∀y:FzP,G W n ds E (AW f [AA φ.from',Jj y.ct y.cl y.cn y.cm y.cr,Jp y.cf y.cm y.cn y.cr, .bool φ.all] 170::AW y.ct [AD t] 44::AW y.cf [AD f] 101::AW y.cn [AD y.wn] 162::AW y.cr [AD y.wr] 162::AW y.cm [AA φ.nds.length] 3::AW y.cl [AF (Cs φ.nds)] 9::FM y.wn (LA φ)::FM y.wr (J8 φ)::R) X):G W n ds E L X:=
 G.focus hL (G.open (q:=fun y:FzP=>fzF f y φ.from' φ.all::fzA f t y φ) (φ:=fun _=>True) (fun _ hp=>hp) fun y _=>h y)
theorem G.fzFold {f t:Nat} (φ:Fz) (y:FzP) {l l1 l2:List Value} {b1 b2:Bs} (hL:A4 [AW f l 170,AW y.ct [AD t] 44,AW y.cf [AD f] 101,AW y.cn [AD y.wn] 162,AW y.cr [AD y.wr] 162,AW y.cm l2 3,AW y.cl l1 9,FM y.wn b1,FM y.wr b2] L R)
  (h0:l=[AA φ.from',Jj y.ct y.cl y.cn y.cm y.cr,Jp y.cf y.cm y.cn y.cr, .bool φ.all]) (h1:l1=[AF (Cs φ.nds)]) (h2:l2=[AA φ.nds.length]) (h3:b1=LA φ) (h4:b2=J8 φ) (h:G W n ds E (Oh f t φ::R) X):G W n ds E L X:=by
 subst h0;subst h1;subst h2;subst h3;subst h4
 exact G.fold hL (fun _ hp=>⟨y,trivial,hp⟩) h
theorem G.fzCast {f t:Nat} {φ φ':Fz} (hL:BJ (Oh f t φ) L R) (hw:φ'=φ) (h:G W n ds E (Oh f t φ'::R) X):G W n ds E L X:=by
 subst hw;exact G.focus hL h
end
/- not in this seat: rfzR -/
section
variable {W:World} {n:Nat} {ds:List Deferred} {E:Bi} {L R:List HP} {X:Act→World→Prop}
/- not in this seat: G.rfzOpen -/
/- not in this seat: G.rfzFold -/
end
section
variable {P:Program} {E:Bi} {L R:List HP} {ty:TypeId}
theorem AE.buildA {t e:TypeId} {n:Nat} {parts:Array (Nat×Operand)} {zl cells:List Value} {us:List (Nat×Value)} (ha:JJ P t=some (n,e,1)) (hz:Ah P t=some (.agg zl.toArray))
  (hu:parts.toList.map (fun p=>(p.1,ev E p.2))=us.map (fun p=>(p.1,some p.2))) (hfill:Instr.fill (fun i=>some (i*1,1)) zl.toArray us=some cells.toArray):AE P ⟨none, .build t parts,ty, "",#[],none⟩ E L (.agg cells.toArray):=by
 intro ρ w hag _
 unfold JJ at ha
 split at ha<;>(try cases ha)
 rename_i n' e' hu'
 split at ha<;>(try cases ha)
 rename_i inf hinf
 simp only [Option.some.injEq,Prod.mk.injEq] at ha
 obtain ⟨rfl,rfl,h1⟩:=ha
 have hs:Ab P e'=some 1:=by unfold Ab;rw [hinf,←h1];rfl
 refine Bn ?_
 show (Instr.build t (parts.map fun p=>(p.1,ρ p.2))).run P w=_
 unfold Instr.build
 rw [run_bind (FD hz)]
 dsimp only
 rw [run_bind (AN hu')]
 dsimp only
 rw [run_bind (Be hs)]
 have hparts:(parts.map fun p=>(p.1,ρ p.2)).toList=us:=by
  rw [Array.toList_map];exact G4 hag _ _ hu
 rw [hparts]
 rw [show Value.cells (.agg zl.toArray)=zl.toArray from rfl,hfill]
 rfl
theorem AE.arrIndex {t e:TypeId} {n:Nat} {x y:Operand} {cs:List Value} {k:IntKind} {i:Int} {v:Value} (hx:ev E x=some (.agg cs.toArray)) (hy:ev E y=some (.int k i)) (ha:JJ P t=some (n,e,1)) (hag:A9 P e=some none)
  (h0:0≤i∧i<n) (hc:cs[i.toNat*1]?=some v):AE P ⟨none, .index t x y,ty, "",#[],none⟩ E L v:=by
 intro ρ w hr _
 unfold JJ at ha
 split at ha<;>(try cases ha)
 rename_i n' e' hu'
 split at ha<;>(try cases ha)
 rename_i inf hinf
 simp only [Option.some.injEq,Prod.mk.injEq] at ha
 obtain ⟨rfl,rfl,h1⟩:=ha
 have hs:Ab P e'=some 1:=by unfold Ab;rw [hinf,←h1];rfl
 refine Bn ?_
 show (Instr.index t (ρ x) (ρ y)).run P w=_
 rw [hr x _ hx,hr y _ hy]
 unfold Instr.index
 rw [run_bind (show (asIntOf (.int k i)).run P w= .ok (k,i) w by rfl)]
 dsimp only
 rw [run_bind (AN hu')]
 dsimp only
 rw [if_pos h0,run_bind (Be hs)]
 exact Fp hag hc
end
theorem ADD {τ:Tr} {N:Nat} (ho:τ.Ok N) {y:PN} (hy:y∈τ.nodes):OF τ y.1=y.2.data∧A7 τ y.1={y.2.st with len:=y.2.data.length,kids:=(Dv τ y.1).length}∧KB τ y.1=y.2.acl:=by
 have h:AC τ.nodes y.1=some y.2:=Bu (ho.sorted.nodup CS) hy
 unfold OF A7 NP KB
 rw [h];exact ⟨rfl,rfl,rfl⟩
def AIZ (s:Ie):List Value:=BZ (Df s)
theorem AEi {l:List Int} {i:Nat} (h:i<l.length):(BZ l)[((i:Int)).toNat*1]?=some (AA l[i]):=by simp [BZ,h]
theorem YA (w t:Nat) (bs:Bs) (τ:Tr) (y:PN) (N:Nat) (ho:τ.Ok N) (hN:N≤1099511627776) (hy:y∈τ.nodes) (hw:PnW y) (hl:bs.length+(QA y).length≤70368744100000):Fn prog 89 #[AD w,AD t,AF y.1] [FM w bs,AV t τ] fun v L=>v= .tuple #[]∧L=[FM w (bs++QA y),AV t τ]:=by
 refine Fn.intro func89 Y Y fun F W=>?_
 obtain ⟨hda,hst,hac⟩:=ADD ho hy
 have hyl:=hw.p
 have hyd:=hw.d
 have hyf:=hw.acl.few
 have hlen:(QA y).length=(BW y.1.length).length+y.1.length+((BW y.2.data.length).length+y.2.data.length)+((BW y.2.acl.length).length+(y.2.acl.flatMap Hw).length)+((Df y.2.st).flatMap Bl).length:=by unfold QA Bx EA;simp only [length_append];omega
 refine Z ?_
 refine .oq (.c func147 [_,_] (XN t τ y.1 N ho hN)) ?_
 rintro v L' ⟨rfl,rfl⟩;rw [hda,hst]
 refine Z ?_
 refine .oq (.allocA FU) ?_
 rintro v L' ⟨b7,rfl,rfl⟩
 refine Z ?_
 refine .sa Y Y FW (by intro v hv;simp only [Ca,mem_cons,not_mem_nil,or_false] at hv;rcases hv with rfl|rfl|rfl|rfl|rfl|rfl|rfl|rfl|rfl<;>rfl) ?_
 refine Z ?_
 refine .ptCast (b:=b7) (l':=Ca ({y.2.st with len:=y.2.data.length,kids:=(Dv τ y.1).length}:Ie)) O Y ?_
 refine Z ?_
 refine .oq (.c func148 [_,_] (OI t τ y.1 N ho)) ?_
 rintro v L' ⟨ua,rfl,⟨aa,ca,rfl⟩,rfl⟩;rw [hac]
 refine Z ?_
 refine .oq (.c func92 [_,_] (Dn w bs y.1 ?hb23)) ?_
 case hb23=>omega
 rintro v L' ⟨rfl,rfl⟩
 refine Z ?_
 refine .oq (.c func92 [_,_] (Dn w _ y.2.data ?hb27)) ?_
 case hb27=>simp only [length_append,Bx];omega
 rintro v L' ⟨rfl,rfl⟩
 refine Z ?_
 refine .oq (.c func81 [_,_] (Dt w _ y.2.acl.length ?ha32 ?hb33)) ?_
 case ha32=>omega
 case hb33=>simp only [length_append,Bx];omega
 rintro v L' ⟨rfl,rfl⟩
 refine Z ?_
 refine .wrCast (w:=w) (bs':=bs++(Bx y.1++(Bx y.2.data++BW y.2.acl.length))++(y.2.acl.take 0).flatMap Hw) O (by simp) (.loopK (ι:=Nat) (fun q E=>(40,AA q)::E) (fun q=>[FM w (bs++(Bx y.1++(Bx y.2.data++BW y.2.acl.length))++(y.2.acl.take q).flatMap Hw)]) (fun q=>q≤y.2.acl.length) (fun q=>y.2.acl.length-q) (0) (ts:=[0,7,38,39]) O (Nat.zero_le _) O O ?_)
 rintro j hj
 refine Z ?_
 refine .condD Y (fun h41=>?_) (fun h41=>?_)
 ·have hj2:j<y.2.acl.length:=by omega
  have hft:=JY Hw hj2
  have hac2:=hw.acl.each _ (getElem_mem hj2)
  have hab:(Hw y.2.acl[j]).length=(Bl y.2.acl[j].1).length+((BW y.2.acl[j].2.length).length+y.2.acl[j].2.length):=by unfold Hw Bx;simp
  refine .slShape (T:=133) (sz:=2) (v:= .slice aa y.2.acl.length ca) (xs:=y.2.acl.flatMap CJ) O om fun ba ba' e0 mba _=>?_
  simp only [Value.slice.injEq,true_and] at e0
  obtain ⟨rfl,rfl⟩:=e0
  refine Z ?_
  refine .q (.indexAddr Y Y GN om) Y (.q (.loadRdA (sz:=2) (j:=j*2) (k:=2) (p:=At 133 2 _ y.2.acl.length (y.2.acl.flatMap CJ)) (vs:=CJ y.2.acl[j]) Y JP O (fun h hp=>Ad hp) (by simp) om om (BH (f:=CJ) (sz:=2) (fun _ _=>Y) om)) Y (.oq (.allocA EI) ?_))
  rintro v L' ⟨b12,rfl,rfl⟩
  refine .sa Y Y S1 (by simp [CJ,AB]) ?_
  refine .nil (.pc b12 (CJ y.2.acl[j]) ?_)
  refine Z ?_
  refine .oq (.c func80 [_,_] (D1 w _ y.2.acl[j].1 hac2.1.n ?hb51)) ?_
  case hb51=>simp only [length_append,Bx];omega
  rintro v L' ⟨rfl,rfl⟩
  refine Z ?_
  refine .oq (.c func92 [_,_] (Dn w _ y.2.acl[j].2 ?hb57)) ?_
  case hb57=>simp only [length_append,Bx];omega
  rintro v L' ⟨rfl,rfl⟩
  refine Z ?_
  refine .wrCast (w:=w) (bs':=bs++(Bx y.1++(Bx y.2.data++BW y.2.acl.length))++(y.2.acl.take (j+1)).flatMap Hw) O (by rw [H2 Hw hj2];unfold Hw;simp only [append_assoc]) ?_
  exact .rk (j+1) om om O
 have hjj:j=y.2.acl.length:=by omega
 rw [hjj,take_length]
 refine Z ?_
 refine .q (.to (v':= .agg (AIZ y.2.st).toArray) (.buildA (us:=[(0,AA y.2.st.cz),(1,AA y.2.st.mz),(2,AA y.2.st.pz),(3,AA y.2.st.ver),(4,AA y.2.st.cver),(5,AA y.2.st.av),(6,AA y.2.st.own)]) (cells:=AIZ y.2.st) AE3 AIM Y kQ) Y) Y (Z ?_)
 refine .wrCast (w:=w) (bs':=bs++(Bx y.1++(Bx y.2.data++EA y.2.acl))++((Df y.2.st).take 0).flatMap Bl) O (by unfold EA;simp) (.loopK (ι:=Nat) (fun q E=>(68,AA q)::E) (fun q=>[FM w (bs++(Bx y.1++(Bx y.2.data++EA y.2.acl))++((Df y.2.st).take q).flatMap Bl)]) (fun q=>q≤7) (fun q=>7-q) (0) (ts:=[0,67]) O (Nat.zero_le _) O O ?_)
 rintro j hj
 refine Z ?_
 refine .condD Y (fun h69=>?_) (fun h69=>?_)
 ·have hj2:j<7:=by omega
  have hn7:j<(Df y.2.st).length:=hj2
  have hft:=JY Bl hn7
  refine Z ?_
  refine .q (.arrIndex (cs:=AIZ y.2.st) (v:=AA (Df y.2.st)[j]) Y Y AE3 CT om (AEi hn7)) Y (Z ?_)
  refine .oq (.c func80 [_,_] (D1 w _ (Df y.2.st)[j] (hw.st _ (getElem_mem hn7)) ?hb80)) ?_
  case hb80=>simp only [length_append,Bx,EA];omega
  rintro v L' ⟨rfl,rfl⟩
  refine Z ?_
  refine .wrCast (w:=w) (bs':=bs++(Bx y.1++(Bx y.2.data++EA y.2.acl))++((Df y.2.st).take (j+1)).flatMap Bl) O (by rw [H2 Bl (show j<(Df y.2.st).length from hj2),append_assoc]) ?_
  exact .rk (j+1) om om O
 have hjj:j=7:=by omega
 rw [hjj]
 refine .wrCast (w:=w) (bs':=bs++QA y) O (by unfold QA;simp only [append_assoc];rfl) (Z ?_)
 refine .done_n ?_
 exact .vv
theorem Xm (w t:Nat) (bs:Bs) (τ:Tr) (N:Nat) (ho:τ.Ok N) (hN:N≤1048576) (hw:Hx τ) (hl:bs.length+(FS τ.sess).length≤70368744100000):Fn prog 90 #[AD w,AD t] [FM w bs,AV t τ] fun v L=>v= .tuple #[]∧L=[FM w (bs++FS τ.sess),AV t τ]:=by
 refine Fn.intro func90 Y Y fun F W=>?_
 have hsf:=ho.sfew
 have hiz:(NY τ).length=τ.sess.length:=length_map _
 have hlen:(FS τ.sess).length=(BW τ.sess.length).length+(τ.sess.flatMap Pp).length:=by unfold FS;rw [length_append]
 refine Z ?_
 refine .oq (.c func58 [_] (Io t τ N ho (fun y hy=>(hw.ss y hy).i.2) om)) ?_
 rintro v L' ⟨⟨ai,ci,rfl⟩,rfl⟩;rw [hiz]
 refine Z ?_
 refine .oq (.c func81 [_,_] (Dt w bs τ.sess.length ?ha6 ?hb7)) ?_
 case ha6=>omega
 case hb7=>omega
 rintro v L' ⟨rfl,rfl⟩
 refine Z ?_
 refine .wrCast (w:=w) (bs':=bs++BW τ.sess.length++(τ.sess.take 0).flatMap Pp) O (by simp) (.loopK (ι:=Nat) (fun q E=>(18,AA q)::E) (fun q=>[FM w (bs++BW τ.sess.length++(τ.sess.take q).flatMap Pp),AV t τ]) (fun q=>q≤τ.sess.length) (fun q=>τ.sess.length-q) (0) (ts:=[0,1,16,17]) O (Nat.zero_le _) O O ?_)
 rintro j hj
 refine Z ?_
 refine .condD Y (fun h19=>?_) (fun h19=>?_)
 ·have hj2:j<τ.sess.length:=by omega
  have hft:=JY Pp hj2
  have hsw:=hw.ss _ (getElem_mem hj2)
  have hsl:AC τ.sess τ.sess[j].1=some τ.sess[j].2:=Bu (ho.ssorted.nodup XL) (getElem_mem hj2)
  have hsd:Na τ τ.sess[j].1=τ.sess[j].2:=by unfold Na;rw [hsl];rfl
  have hs3:=hsw.s
  have hab:(Pp τ.sess[j]).length=(Bl τ.sess[j].1).length+((Bl τ.sess[j].2.1).length+((BW τ.sess[j].2.2.length).length+τ.sess[j].2.2.length)):=by unfold Pp Bx;simp only [length_append]
  refine .slShape (T:=3) (sz:=1) (v:= .slice ai τ.sess.length ci) (xs:=BZ (NY τ)) O om fun bi bi' e0 mbi _=>?_
  simp only [Value.slice.injEq,true_and] at e0
  obtain ⟨rfl,rfl⟩:=e0
  refine Z ?_
  refine .q (.indexAddr Y Y Bv om) Y (.q (.loadRd (sz:=1) (j:=j*1) (p:=At 3 1 _ τ.sess.length (BZ (NY τ))) (v:=AA τ.sess[j].1) Y CT O (fun h hp=>Ad hp) (by simp) (by simp [BZ,NY,hj2])) Y (Z ?_))
  refine .oq (.c func67 [_,_] (FG t τ τ.sess[j].1)) ?_
  rintro v L' ⟨rfl,rfl⟩;rw [hsd]
  refine Z ?_
  refine .oq (.c func80 [_,_] (D1 w _ τ.sess[j].1 hsw.i ?hb22)) ?_
  case hb22=>simp only [length_append];omega
  rintro v L' ⟨rfl,rfl⟩
  refine Z ?_
  refine .oq (.c func80 [_,_] (D1 w _ τ.sess[j].2.1 hsw.t ?hb26)) ?_
  case hb26=>simp only [length_append];omega
  rintro v L' ⟨rfl,rfl⟩
  refine Z ?_
  refine .oq (.c func92 [_,_] (Dn w _ τ.sess[j].2.2 ?hb30)) ?_
  case hb30=>simp only [length_append];omega
  rintro v L' ⟨rfl,rfl⟩
  refine Z ?_
  refine .wrCast (w:=w) (bs':=bs++BW τ.sess.length++(τ.sess.take (j+1)).flatMap Pp) O (by rw [H2 Pp hj2];unfold Pp;simp only [append_assoc]) ?_
  exact .rk (j+1) om om O
 have hjj:j=τ.sess.length:=by omega
 rw [hjj,take_length]
 refine .wrCast (w:=w) (bs':=bs++FS τ.sess) O (by unfold FS;rw [append_assoc]) (Z ?_)
 refine .done_n ?_
 exact .vv
theorem AJr:Ab prog 24=some 1:=by kernel_rfl
theorem AJY:Ab prog 50=some 1:=by kernel_rfl
theorem AJ1:A9 prog 24=some none:=by kernel_rfl
theorem AJW:A9 prog 50=some none:=by kernel_rfl
section
variable {P:Program} {E:Bi} {L:List HP} {ty:TypeId}
theorem AE.strgt {t t':TypeId} {x y:Operand} {a b:List UInt8} (hx:ev E x=some (AF a)) (hy:ev E y=some (AF b)):AE P ⟨none, .binOp .gtr t x y t',ty, "",#[],none⟩ E L (.bool (decide (b<a))):=by
 intro ρ w ha _
 have key:(!(Op.bytesLess a b||decide (a=b)))=decide (b<a):=by
  rw [bytesLess_eq]
  rcases CS.tri a b with h|h|h
  ·rw [decide_eq_true h,decide_eq_false (fun g=>CS.irr _ (CS.tr _ _ _ h g))];rfl
  ·subst h;rw [decide_eq_true (rfl:a=a),decide_eq_false (CS.irr a),Bool.or_true];rfl
  ·rw [decide_eq_false (fun g=>CS.irr _ (CS.tr _ _ _ h g)),decide_eq_false (fun e=>by subst e;exact CS.irr _ h),decide_eq_true h];rfl
 rw [←key]
 simp [execOp,ha x _ hx,ha y _ hy,eqGuard,binOp,Op.stringOp,Bind.bind,Sem.bind,Pure.pure,Sem.run]
 try (by_cases h:a=b<;>simp [h])
end
theorem R4.room {τ:Tr} {φ:Fz} {M:Nat} (h:R4 τ φ M) (hM:M≤1048576):(LA φ).length≤36909875200000∧(J8 φ).length≤1099600000000:=by
 have h1:=h.many
 have h2:=h.sm
 refine ⟨Wi h.nds om,?_⟩
 unfold J8
 split
 ·have h3:=RN h.ss om
  have h4:=CN (u:=φ.ss.length) (by have hu:Ds=18446744073709551616:=rfl;omega)
  unfold FS BW
  rw [length_append];omega
 ·simp
theorem XM {l:List PN} {a:Bs} {j:Nat} (hj:j<l.length) (h:a<l[j].1) (hno:∀i (hi:i<l.length),i<j→¬a<l[i].1):(l.find? fun y=>decide (a<y.1))=some l[j]:=by
 rw [List.find?_eq_some_iff_getElem]
 exact ⟨by simpa using h,j,hj,rfl,fun i hi=>by simpa using hno i om hi⟩
theorem ABa {l:List PN} {a:Bs} (hno:∀i (hi:i<l.length),¬a<l[i].1):(l.find? fun y=>decide (a<y.1))=none:=by
 rw [List.find?_eq_none]
 intro y hy
 obtain ⟨i,hi,rfl⟩:=mem_iff_getElem.1 hy
 simpa using hno i hi
theorem AD9 {τ:Tr} {φ:Fz} {y:PN} (h:UQ τ φ=some y):C5 τ φ=⟨φ.from',φ.nds++[y],φ.ss,false⟩:=by unfold C5;rw [h]
theorem AFi {τ:Tr} {φ:Fz} (h:UQ τ φ=none):C5 τ φ=⟨φ.from',φ.nds,φ.ss++τ.sess,true⟩:=by unfold C5;rw [h]
theorem AAU (τ:Tr) (φ:Fz):(C5 τ φ).from'=φ.from':=by unfold C5;split<;>rfl
theorem ACC {φ:Fz} (h:φ.all=true):Bx HI++Bl φ.from'++BW φ.nds.length++LA φ++J8 φ=Nw φ:=by
 unfold Nw Zo Kq LA J8
 rw [if_pos h,if_pos h]
 simp only [append_assoc]
theorem AGQ {φ:Fz} (h:φ.all=false):Nw φ=[]:=by unfold Nw;rw [h];rfl
theorem Ur (t:Nat) (τ:Tr):Fn prog 39 #[AD t] [AV t τ] fun v L=> ∃f,v=AD f∧L=[Oh f t (E1 τ),AV t τ]:=by
 refine Fn.intro func39 Y Y fun F W=>?_
 refine .sr (.oq (.box Y) ?_)
 rintro v L' ⟨ct,rfl,rfl⟩
 refine .an Y (.seq (.sr (.u (.ld Y Ih) (.q (.as (v':= .bool false) (by rfl) (.ptreq Y Y underlying44)) Y (.nt (.condF Y (.sk (.sr (.u (.ld Y Ih) (.cv func52 [_] (Dm t τ) ?_))))))))))
 refine .q (.to (v':= .agg ([AA τ.zx, .nilFunc, .nilFunc, .bool false]:List Value).toArray) (.build (us:=[(0,_)]) AIP AHc Y Y (by simp [AB])) Y) Y (.oq (.box Y) ?_)
 rintro v L' ⟨f,rfl,rfl⟩
 refine .oq (.alloc AHm) ?_
 rintro v L' ⟨cf,rfl,rfl⟩
 refine .st Y Y Y AH6 ?_
 refine .nil (.ptCast (b:=f) (l':=[AA τ.zx, .nilFunc, .nilFunc, .bool false]) O Y ?_)
 refine .then_n (.sr (.oq (.c func79 [] (HV)) ?_))
 rintro v L' ⟨wn,rfl,rfl⟩
 refine .oq (.c func79 [] (HV)) ?_
 rintro v L' ⟨wr,rfl,rfl⟩
 refine .oq (.alloc AC5) ?_
 rintro v L' ⟨cn,rfl,rfl⟩
 refine .oq (.alloc AC5) ?_
 rintro v L' ⟨cr,rfl,rfl⟩
 refine .st Y Y Y AEU ?_
 refine .st Y Y Y AEU ?_
 refine .nt (.sr (.oq (.alloc FA) ?_))
 rintro v L' ⟨cm,rfl,rfl⟩
 refine .oq (.alloc Gf) ?_
 rintro v L' ⟨cl,rfl,rfl⟩
 refine .st Y Y Y IV ?_
 refine .st Y Y Y Xz ?_
 refine .nt (.sr (.u (.ld Y XX) (.q (.func (us:=[]) (vs:=[_,_,_,_,_]) Y Y) Y (.nf Y T2 (.st Y Y Y AJr ?_)))))
 refine .nt (.sr (.u (.ld Y XX) (.q (.func (us:=[]) (vs:=[_,_,_,_]) Y Y) Y (.nf Y V1 (.st Y Y Y AJY ?_)))))
 refine .nt (.sr (.u (.ld Y XX) (.an Y (.ret (.fzFold (f:=f) (t:=t) (E1 τ) (⟨ct,cf,cn,cr,cm,cl,wn,wr⟩:FzP) O Y Y Y Y Y ?_)))))
 exact .dn Y Y ⟨f,Y,Y⟩
theorem XS (f t:Nat) (y:FzP) (τ:Tr) (φ:Fz) (N M:Nat) (ho:τ.Ok N) (hN:N≤1048576) (hw:Hx τ) (hz:R4 τ φ M) (hM:M≤1048576) (ha:φ.all=false):Fn prog 87 #[AD y.ct,AD y.cl,AD y.cn,AD y.cm,AD y.cr] [AW y.ct [AD t] 44,AW y.cf [AD f] 101,AW y.cn [AD y.wn] 162,AW y.cr [AD y.wr] 162,AW y.cm [AA (φ).nds.length] 3,AW y.cl [AF (Cs (φ).nds)] 9,FM y.wn (LA (φ)),FM y.wr (J8 (φ)),AV t τ] fun v L=>v= .bool (C5 τ φ).all∧L=[AW y.ct [AD t] 44,AW y.cf [AD f] 101,AW y.cn [AD y.wn] 162,AW y.cr [AD y.wr] 162,AW y.cm [AA (C5 τ φ).nds.length] 3,AW y.cl [AF (Cs (C5 τ φ).nds)] 9,FM y.wn (LA (C5 τ φ)),FM y.wr (J8 (C5 τ φ)),AV t τ]:=by
 refine Fn.intro func87 Y Y fun F W=>?_
 obtain ⟨hr1,hr2⟩:=hz.room hM
 have hmy:=hz.many
 have hfew:=ho.few
 have hpz:(AX τ).length=τ.nodes.length:=length_map _
 refine Z ?_
 refine .oq (.c func88 [_] (E0 t τ N ho om)) ?_
 rintro v L' ⟨⟨ap,cp,rfl⟩,rfl⟩;rw [hpz]
 refine Z ?_
 refine .loopK (ι:=Nat) (fun q E=>(11,AA q)::E) (fun q=>[]) (fun q=>q≤τ.nodes.length∧∀i (hi:i<τ.nodes.length),i<q→¬Cs φ.nds<τ.nodes[i].1) (fun q=>τ.nodes.length-q) (0) (ts:=[0,1,2,3,4,9,10]) O (⟨Nat.zero_le _,fun i _ h=>absurd h (Nat.not_lt_zero _)⟩) O O ?_
 rintro j ⟨hj,hno⟩
 refine Z ?_
 refine .condD Y (fun h12=>?_) (fun h12=>?_)
 ·have hj2:j<τ.nodes.length:=by omega
  have hmem:τ.nodes[j]∈τ.nodes:=getElem_mem hj2
  refine .slShape (T:=9) (sz:=1) (v:= .slice ap τ.nodes.length cp) (xs:=A1 (AX τ)) O om fun bp bp' e0 mbp _=>?_
  simp only [Value.slice.injEq,true_and] at e0
  obtain ⟨rfl,rfl⟩:=e0
  refine Z ?_
  refine .q (.indexAddr Y Y Br om) Y (.q (.loadRd (sz:=1) (j:=j*1) (p:=At 9 1 _ τ.nodes.length (A1 (AX τ))) (v:=AF τ.nodes[j].1) Y HL O (fun h hp=>Ad hp) (by simp) (by simp [A1,AX,hj2])) Y (Z ?_))
  refine .u (.strgt Y Y) (.nt (.condD Y (fun h17=>?_) (fun h17=>?_)))
  ·have hpl:=(hw.nd _ hmem).len
   have he:UQ τ φ=some τ.nodes[j]:=XM hj2 h17 hno
   rw [AD9 he]
   refine Z ?_
   refine .oq (.call func89 Y Y (vs:=[_,_,_]) Y (YA y.wn t (LA φ) τ τ.nodes[j] N ho om hmem (hw.nd _ hmem) om)) ?_
   rintro v L' ⟨rfl,rfl⟩
   refine Z ?_
   refine .ptCast (b:=y.cm) (l':=[AA ((φ.nds++[τ.nodes[j]]).length:Nat)]) O (by simp) ?_
   refine .ptCast (b:=y.cl) (l':=[AF (Cs (φ.nds++[τ.nodes[j]]))]) O (by rw [Dr];rfl) ?_
   refine .wrCast (w:=y.wn) (bs':=LA ⟨φ.from',φ.nds++[τ.nodes[j]],φ.ss,false⟩) O (by unfold LA;rw [flatMap_append];simp) (.wrCast (w:=y.wr) (bs':=J8 ⟨φ.from',φ.nds++[τ.nodes[j]],φ.ss,false⟩) O (by unfold J8;simp [ha]) ?_)
   exact .vv
  refine Z ?_
  exact .rk (j+1) (⟨by omega,fun i hi hij=>by by_cases e:i=j;(subst e;exact h17);exact hno i hi om⟩) om O
 have hjj:j=τ.nodes.length:=by omega
 have he:UQ τ φ=none:=ABa fun i hi=>hno i hi om
 rw [AFi he]
 refine .wrCast (w:=y.wr) (bs':=[]) O (by unfold J8;simp [ha]) ?_
 have hsl:=RN hw.ss (by have:=ho.sfew;omega)
 have hsc:=CN (u:=τ.sess.length) (by have hu:Ds=18446744073709551616:=rfl;have:=ho.sfew;omega)
 have hsb:(FS τ.sess).length≤1099600000000:=by unfold FS BW;rw [length_append];omega
 refine Z ?_
 refine .cv func90 [_,_] (Xm y.wr t [] τ N ho hN hw (by rw [length_nil];omega)) ?_
 refine Z ?_
 refine .wrCast (w:=y.wr) (bs':=J8 ⟨φ.from',φ.nds,φ.ss++τ.sess,true⟩) O (by unfold J8;rw [hz.none' ha];rfl) (.wrCast (w:=y.wn) (bs':=LA ⟨φ.from',φ.nds,φ.ss++τ.sess,true⟩) O (by rfl) ?_)
 exact .vv
theorem Vv (f t:Nat) (y:FzP) (τ:Tr) (φ:Fz) (N M:Nat) (ho:τ.Ok N) (hN:N≤1048576) (hw:Hx τ) (hz:R4 τ φ M) (hM:M≤1048576) (ha:φ.all=true):Fn prog 91 #[AD y.cf,AD y.cm,AD y.cn,AD y.cr] [AW f [AA (φ).from',Jj y.ct y.cl y.cn y.cm y.cr,Jp y.cf y.cm y.cn y.cr, .bool (φ).all] 170,AW y.ct [AD t] 44,AW y.cf [AD f] 101,AW y.cn [AD y.wn] 162,AW y.cr [AD y.wr] 162,AW y.cm [AA (φ).nds.length] 3,AW y.cl [AF (Cs (φ).nds)] 9,FM y.wn (LA (φ)),FM y.wr (J8 (φ))] fun v L=>v=AF (Nw φ)∧L=[AW f [AA (φ).from',Jj y.ct y.cl y.cn y.cm y.cr,Jp y.cf y.cm y.cn y.cr, .bool (φ).all] 170,AW y.ct [AD t] 44,AW y.cf [AD f] 101,AW y.cn [AD y.wn] 162,AW y.cr [AD y.wr] 162,AW y.cm [AA (φ).nds.length] 3,AW y.cl [AF (Cs (φ).nds)] 9,FM y.wn (LA (φ)),FM y.wr (J8 (φ))]:=by
 refine Fn.intro func91 Y Y fun F W=>?_
 obtain ⟨hr1,hr2⟩:=hz.room hM
 have hmy:=hz.many
 have hnl:=Fi hz.from'
 have hcl:=CN (u:=φ.nds.length) (by have hu:Ds=18446744073709551616:=rfl;omega)
 have htl:(Bx HI).length≤20:=by have:=Hj (s:=HI) dQ;have h2:=CN (u:=HI.length) dQ;unfold Bx BW;rw [length_append];have:HI.length=4:=rfl;omega
 refine Z ?_
 refine .oq (.c func79 [] (HV)) ?_
 rintro v L' ⟨w,rfl,rfl⟩
 refine Z ?_
 refine .cv func92 [_,_] (Dn w [] HI dQ) ?_
 refine Z ?_
 refine .oq (.c func80 [_,_] (D1 w _ φ.from' hz.from' ?hb10)) ?_
 case hb10=>rw [nil_append];omega
 rintro v L' ⟨rfl,rfl⟩
 refine Z ?_
 refine .oq (.call func81 Y Y (vs:=[_,_]) Y (Dt w _ φ.nds.length om ?hb14)) ?_
 case hb14=>rw [nil_append,length_append];omega
 rintro v L' ⟨rfl,rfl⟩
 refine Z ?_
 refine .draw [] [[0,1,2,3,4,5,6,7,8]] mixed kQ (.go [AW y.cn _ _,AW y.cr _ _,FM w _,FM y.wn _,FM y.wr _] O (Z ?_))
 refine D.m Y kQ (.c func82 [_] (Fx _ _)) O ?_
 refine Z ?_
 refine D.m Y kQ (.c func82 [_] (Fx _ _)) O ?_
 refine D.kv Y (.concat Y Y (by simp only [nil_append,length_append,BW];omega)) (Z ?_)
 refine D.m Y kQ (.c func82 [_] (Fx _ _)) O ?_
 refine D.kv Y (.concat Y Y (by simp only [nil_append,length_append,BW];omega)) (Z ?_)
 exact .dn Y Y ⟨by rw [←ACC ha];rfl,rfl⟩
theorem Xj (f t:Nat) (τ:Tr) (φ:Fz) (n:Int) (N M:Nat) (ho:τ.Ok N) (hN:N≤1048576) (hw:Hx τ) (hz:R4 τ φ M) (hM:M≤1048576) (hss:N≤M) (hn:n≤9223372036854775807):Fn prog 40 #[AD f,AA n] [Oh f t φ,AV t τ] fun v L=>v= .bool (BT τ n.toNat φ).all∧L=[Oh f t (BT τ n.toNat φ),AV t τ]:=by
 refine Fn.intro func40 Y Y fun F W=>?_
 refine .sr (.an Y (.seq (.sr (.an Y (.block (.loopK (ι:=Nat) (fun q E=>(5,AA q)::E) (fun q=>[Oh f t (BT τ q φ),AV t τ]) (fun q=>q≤n.toNat) (fun q=>n.toNat-q) (0) (ts:=[0,1,4]) O (Nat.zero_le _) O O ?_))))))
 rintro k hk
 have hzk:=R4.step hw ho (by have:=ho.sfew;omega) k hz
 refine .seq (.sm Y (.m Y (.ui Y Y Y (.m Y (.dec (t:=9) Y (fun h2_9=>?_) (fun h2_9=>?_))))))
 ·refine .kDT (t:=8) Y h2_9 (.fzOpen O fun y=>(.gr (.m Y (.gr (.u (.nilp Y) (.gr (.fa Y JN (.gr (.u (.ld Y Wr) (.gr (.u (.not Y) (.pT Y Y (.nt (.condB Y (fun h15=>?_) (fun h15=>?_)))))))))))))))
  ·have hal:(BT τ k φ).all=false:=by simpa using h15
   refine .sk (.seq (.block (.region (.m Y (.m Y (.nf Y T2 (.u (.ld Y AJ1) (.oq (.callV func87 Y Y (us:=[]) (vs:=[]) (ws:=[_,_,_,_,_]) Y Y (XS f t y τ (BT τ k φ) N M ho hN hw hzk hM hal)) ?_))))))))
   rintro v L' ⟨rfl,rfl⟩
   refine .nf Y JN (.st Y Y Y AK0 ?_)
   refine .nil (.blk_n (.then_n (.region (.m Y (.q (.add Y Y om) Y (.an Y (.ptCast (b:=f) (l':=[AA (C5 τ (BT τ k φ)).from',Jj y.ct y.cl y.cn y.cm y.cr,Jp y.cf y.cm y.cn y.cr, .bool (C5 τ (BT τ k φ)).all]) O (by rw [AAU];rfl) ?_)))))))
   refine .fzFold (f:=f) (t:=t) (C5 τ (BT τ k φ)) y O Y Y Y Y Y (.fzCast (φ':=BT τ (k+1) φ) O (by rw [Jw,if_neg (by rw [hal];decide)]) ?_)
   exact .rk (k+1) om om O
  refine .xe (.sm Y (.nf Y JN (.u (.ld Y Wr) (.an Y (.ret (.fzFold (f:=f) (t:=t) ((BT τ k φ)) y O Y Y Y Y Y ?_))))))
  have hal:(BT τ k φ).all=true:=by simpa using h15
  have hkn:BT τ n.toNat φ=(BT τ k φ):=by rw [show n.toNat=k+(n.toNat-k) by omega,K8,GZ _ _ hal]
  rw [hkn]
  exact .vv
 refine .kDF (t:=8) Y h2_9 (.gk (.gk (.gk (.gk (.gk (.pF Y Y (.nt (.condF Y (.xe (.seq (.fzOpen O fun y=>(.region (.m Y (.nf Y JN (.u (.ld Y Wr) (.an Y (.ret (.fzFold (f:=f) (t:=t) ((BT τ k φ)) y O Y Y Y Y Y ?_))))))))))))))))))
 have hkn:k=n.toNat:=by omega
 subst hkn
 exact .vv
theorem W5 (f t:Nat) (τ:Tr) (φ:Fz) (N M:Nat) (ho:τ.Ok N) (hN:N≤1048576) (hw:Hx τ) (hz:R4 τ φ M) (hM:M≤1048576):Fn prog 41 #[AD f] [Oh f t φ] fun v L=>v=AF (Nw φ)∧L=[Oh f t φ]:=by
 refine Fn.intro func41 Y Y fun F W=>?_
 refine .fzOpen O fun y=>(.sr (.an Y (.seq (.sm Y (.nf Y JN (.u (.ld Y Wr) (.u (.not Y) (.nt (.condB Y (fun h7=>?_) (fun h7=>?_))))))))))
 ·have ha:φ.all=false:=by simpa using h7
  refine .sr (.an Y (.rt ?_))
  rw [AGQ ha]
  refine .fzFold (f:=f) (t:=t) (φ) y O Y Y Y Y Y ?_
  exact .vv
 have ha:φ.all=true:=by simpa using h7
 refine .sk (.sm Y (.nf Y V1 (.u (.ld Y AJW) (.oq (.callV func91 Y Y (us:=[]) (vs:=[]) (ws:=[_,_,_,_]) Y Y (Vv f t y τ φ N M ho hN hw hz hM ha)) ?_))))
 rintro v L' ⟨rfl,rfl⟩
 refine .an Y (.ret (.fzFold (f:=f) (t:=t) (φ) y O Y Y Y Y Y ?_))
 exact .vv
/- not in this seat -/
theorem SG (t:Nat) (τ:Tr) (N:Nat) (ho:τ.Ok N) (hN:N≤1048576) (hw:Hx τ):Fn prog 11 #[AD t] [AV t τ] fun v L=>v=AF (EX τ)∧L=[AV t τ]:=by
 refine Fn.intro func11 Y Y fun F W=>?_
 have hne:=SM ho
 have hz0:R4 τ (E1 τ) N:= .begin hw ho.few
 have hfew:=ho.few
 refine Z ?_
 refine .oq (.c func39 [_] (Ur t τ)) ?_
 rintro v L' ⟨f,rfl,rfl⟩
 refine Z ?_
 refine .loopK (ι:=Nat) (fun q E=>E) (fun q=>[Oh f t (BT τ q (E1 τ)),AV t τ]) (fun q=>q≤τ.nodes.length) (fun q=>τ.nodes.length-q) (0) (ts:=[2,3]) O (Nat.zero_le _) O O ?_
 rintro k hk
 have hzk:=R4.step hw ho (by have:=ho.sfew;omega) k hz0
 refine Z ?_
 refine .oq (.call func40 Y Y (vs:=[_,_]) Y (Xj f t τ (BT τ k (E1 τ)) 1 N N ho hN hw hzk hN (Nat.le_refl _) dQ)) ?_
 rintro v L' ⟨rfl,rfl⟩;rw [show (1:Int).toNat=1 from rfl,←K8]
 refine Z ?_
 refine .condB Y (fun h10=>?_) (fun h10=>?_)
 ·have hal:(BT τ (k+1) (E1 τ)).all=false:=by simpa using h10
  have hk2:k+1≤τ.nodes.length:=by rcases Nat.lt_or_ge τ.nodes.length (k+1) with g|g;(rw [QW ho hne g] at hal;cases hal);exact g
  refine Z ?_
  exact .rk (k+1) om om O
 have hal:(BT τ (k+1) (E1 τ)).all=true:=by simpa using h10
 have hk2:τ.nodes.length<k+1:=by rcases Nat.lt_or_ge τ.nodes.length (k+1) with g|g;exact g;(rw [Ol ho hne _ g] at hal;cases hal)
 refine Z ?_
 refine .cv func41 [_] (W5 f t τ (BT τ (k+1) (E1 τ)) N N ho hN hw (R4.step hw ho (by have:=ho.sfew;omega) (k+1) hz0) hN) ?_
 refine Z ?_
 exact .dn Y Y ⟨by rw [XA ho hne hk2],rfl⟩
theorem Es (r:Nat) (st:Rs):Fn prog 112 #[AD r] [FK r st] fun v L=>v= .tuple #[]∧L=[FK r none]:=by
 intro F w hs
 obtain ⟨h1,h2,hd,a1,a2,⟨y,hy,hp⟩,hF⟩:=hs
 subst hy
 have hs':St ([L9 r y.1 y.2.1 y.2.2]++F) w:=Eu ⟨h1,h2,hd,a1,a2,hp,hF⟩
 refine (OL r y.1 y.2.1 y.2.2 F w hs').mono ?_
 rintro e w' ⟨u,L,⟨rfl,rfl⟩,he,hs2,hk⟩
 refine ⟨_,_,⟨rfl,rfl⟩,he,B0 (fun hh hq=>⟨(y.1,(y.2.1,if y.2.2=0 then 11 else y.2.2)),?_,hh,fun _=>none,fun _=> .inr rfl,fun _ _ e=>e,fun _ _ e=>(by cases e),hq,trivial⟩) hs2,hk⟩
 unfold FN
 dsimp only
 have hne:(if y.2.2=0 then 11 else y.2.2)≠0:=by split<;>omega
 rw [if_neg hne]
theorem G0 (r:Nat) (st:Rs):Fn prog 108 #[AD r] [FK r st] fun v L=>v=AA (AS st).1∧L=[FK r (AS st).2]:=RK r st
theorem IZ (r:Nat) (st:Rs):Fn prog 111 #[AD r,AA 4096] [FK r st] fun v L=>v=AF (Ag st).1∧L=[FK r (Ag st).2]:=Kr r 4096 dQ st
theorem Xa (r:Nat) (st:Rs):Fn prog 111 #[AD r,AA 4] [FK r st] fun v L=>v=AF (Jc st).1∧L=[FK r (Jc st).2]:=Kr r 4 dQ st
theorem Ky (r:Nat) (st:Rs):Fn prog 109 #[AD r,AA 256] [FK r st] fun v L=>v=AA ((BU st).1:Nat)∧L=[FK r (BU st).2]:=G6 r 256 dQ st
theorem AB1 (st:Rs):(Ag st).1.length≤4096:=by
 unfold Ag runP
 split
 ·exact Nat.zero_le _
 ·split
  ·rename_i x hx;exact (PP hx).2
  ·exact Nat.zero_le _
/-! ### A tree that is laid anew -/
def Ha (z:Int) (l:List PN):Tr:=if l=[] then zxT BV z else ⟨l,[],z⟩
theorem KX {l:List PN} (h:ZC l):BK l∧∀y∈l,¬Cs l<y.1:=by
 induction l using HA with
 |h0=>exact ⟨by unfold BK;simp,fun y hy=>by cases hy⟩
 |h1 l x ih=>
  obtain ⟨h1,h2⟩:=Om.1 h
  obtain ⟨i1,i2⟩:=ih h1
  have hb:∀y∈l,y.1<x.1:=fun y hy=>by
   rcases CS.tri y.1 (Cs l) with g|g|g
   ·exact CS.tr _ _ _ g h2.2.1
   ·rw [g];exact h2.2.1
   ·exact absurd g (i2 y hy)
  refine ⟨Us i1 hb,fun y hy=>?_⟩
  rw [Dr]
  rcases mem_append.1 hy with hy|hy
  ·exact fun g=>CS.irr _ (CS.tr _ _ _ g (hb y hy))
  ·rw [mem_singleton] at hy;rw [hy];exact CS.irr _
theorem Uq {l:List PN} (h:ZC l):∀y∈l,BQ y.1=0:=fun y hy=>by
 obtain ⟨i,hi,rfl⟩:=mem_iff_getElem.1 hy
 exact (h i hi).1
theorem ABQ {l:List PN} {k:Bs} {v:Nd} (h:∀y∈l,y.1<k):sset l k v=l++[(k,v)]:=by
 induction l with
 |nil=>rfl
 |cons y l ih=>
  have h1:=h y mem_cons_self
  unfold sset
  rw [if_neg (fun e=>CS.irr k (by rw [e] at h1;exact h1)),if_neg (fun g=>CS.irr _ (CS.tr _ _ _ g h1)),ih fun z hz=>h z (mem_cons_of_mem _ hz)]
  rfl
theorem AC4 {z:Int} {l:List PN} {y:PN} (h:ZC (l++[y])) (hb:y.2.st.len=0∧y.2.st.kids=0):NS (Ha z l) y.1 y.2.data y.2.acl y.2.st=Ha z (l++[y]):=by
 obtain ⟨h1,h2⟩:=Om.1 h
 have hn:GI y.2.data y.2.acl y.2.st=y.2:=by
  obtain ⟨p,d,a,s1,s2,s3,s4,s5,s6,s7,s8,s9⟩:=y
  obtain ⟨b1,b2⟩:=hb
  dsimp only at b1 b2
  subst b1;subst b2
  rfl
 unfold NS
 rw [if_pos h2.1,hn]
 have hlt:∀x∈l,x.1<y.1:=fun x hx=>by
  have:=(KX h).1
  unfold BK at this
  rw [map_append,pairwise_append] at this
  exact this.2.2 _ (mem_map_of_mem hx) _ (by simp)
 unfold Ha
 rw [if_neg (show ¬l++[y]=[] by simp)]
 by_cases e:l=[]
 ·subst e
  have hr:y.1=[47]:=h2.2.2.1 rfl
  rw [if_pos rfl]
  refine Tr.ext' ?_ rfl rfl
  show sset [([47],_)] y.1 y.2=[]++[y]
  unfold sset
  rw [if_pos hr.symm];rfl
 ·rw [if_neg e]
  refine Tr.ext' ?_ rfl rfl
  exact ABQ hlt
theorem AGH {z:Int} {l:List PN} (h:ZC l) (ha:∀y∈l,y.2.acl.length≤1048576):(Ha z l).Ok (l.length+1):=by
 unfold Ha
 split
 ·exact (Nn.more om).zx z
 ·exact ⟨(KX h).1,by unfold BK;simp,Nat.le_succ _,fun y hy=>Oj (Uq h y hy),fun x hx=>(by cases hx),ha,Nat.zero_le _⟩
theorem Hl {s:Bs} {j:Nat} (hj:j<snM s) (hbad:¬Ua (Cs (AJ DJ j (Da s)).1) (DJ (AJ DJ j (Da s)).2).1.1):sn4 s=none:=by
 unfold sn4
 refine if_neg fun h=>hbad ?_
 have hl:(TJ s).length=snM s:=KP _ _ _
 have h1:=h j om
 have e1:(TJ s).take j=(AJ DJ j (Da s)).1:=HU _ _ _ _ om
 have e2:(TJ s).take (j+1)=(AJ DJ (j+1) (Da s)).1:=HU _ _ _ _ om
 rw [take_succ_eq_append_getElem om,e1] at e2
 have e3:[(TJ s)[j]]=[(DJ (AJ DJ j (Da s)).2).1]:=append_cancel_left e2
 rw [e1,List.cons.inj e3|>.1] at h1
 exact h1
theorem Te {s:Bs} {j:Nat} (hj:j<snK s) (hbad:¬nextS (HE (AJ IG j (BU (sn4 s)).2).1) (IG (AJ IG j (BU (sn4 s)).2).2).1.1):sn6 s=none:=by
 unfold sn6
 refine if_neg fun h=>hbad ?_
 have hl:(snS s).length=snK s:=KP _ _ _
 have h1:=h j om
 have e1:(snS s).take j=(AJ IG j (BU (sn4 s)).2).1:=HU _ _ _ _ om
 have e2:(snS s).take (j+1)=(AJ IG (j+1) (BU (sn4 s)).2).1:=HU _ _ _ _ om
 rw [take_succ_eq_append_getElem om,e1] at e2
 have e3:[(snS s)[j]]=[(IG (AJ IG j (BU (sn4 s)).2).2).1]:=append_cancel_left e2
 rw [e1,List.cons.inj e3|>.1] at h1
 exact h1
theorem AFT {l:List Int} {i:Nat} (hi:i<7) (hl:l.length=i) (n:Int):(Ca (st7 l)).set i (AA n)=Ca (st7 (l++[n])):=by
 subst hl
 match l,hi with
 |[],_=>rfl
 |[a],_=>rfl
 |[a,b],_=>rfl
 |[a,b,c],_=>rfl
 |[a,b,c,d],_=>rfl
 |[a,b,c,d,e],_=>rfl
 |[a,b,c,d,e,f],_=>rfl
 |_::_::_::_::_::_::_::_,h=>exact absurd h (by simp only [length_cons];omega)
theorem PC {l:List SN} (h:okS l):BK l∧∀x∈l,¬HE l<x.1:=by
 induction l using HA with
 |h0=>exact ⟨by unfold BK;simp,fun y hy=>by cases hy⟩
 |h1 l x ih=>
  obtain ⟨h1,h2⟩:=LP.1 h
  obtain ⟨i1,i2⟩:=ih h1
  have h2:HE l<x.1:=h2
  have hb:∀y∈l,y.1<x.1:=fun y hy=>by have:=i2 y hy;omega
  refine ⟨?_,fun y hy=>?_⟩
  ·unfold BK at i1 ⊢
   rw [map_append,pairwise_append]
   refine ⟨i1,by simp,fun a ha b hb2=>?_⟩
   obtain ⟨y,hy,rfl⟩:=mem_map.1 ha
   simp at hb2;subst hb2
   exact hb y hy
  ·rw [IT]
   rcases mem_append.1 hy with hy|hy
   ·have:=hb y hy;omega
   ·rw [mem_singleton] at hy;rw [hy];omega
theorem YW {l:List SN} (h:okS l):0≤HE l∧∀x∈l,1≤x.1:=by
 induction l using HA with
 |h0=>exact ⟨Int.le_refl _,fun y hy=>by cases hy⟩
 |h1 l x ih=>
  obtain ⟨h1,h2⟩:=LP.1 h
  obtain ⟨i1,i2⟩:=ih h1
  have h2:HE l<x.1:=h2
  refine ⟨by rw [IT];omega,fun y hy=>?_⟩
  rcases mem_append.1 hy with hy|hy
  ·exact i2 y hy
  ·rw [mem_singleton] at hy;rw [hy];omega
theorem XY {l:List SN} {k:Int} {v:Int×Bs} (h:∀y∈l,y.1<k):sset l k v=l++[(k,v)]:=by
 induction l with
 |nil=>rfl
 |cons y l ih=>
  have h1:=h y mem_cons_self
  unfold sset
  rw [if_neg om,if_neg om,ih fun z hz=>h z (mem_cons_of_mem _ hz)]
  rfl
theorem J4 (z:Int) (l:List PN):(Ha z l).sess=[]:=by unfold Ha;split<;>rfl
def JZ (τ:Tr) (l:List SN):Tr:=⟨τ.nodes,l,τ.zx⟩
theorem AAl {τ:Tr} {l:List SN} {x:SN} (h:okS (l++[x])):XC (JZ τ l) x.1 x.2.1 x.2.2=JZ τ (l++[x]):=by
 have hp:=(YW h).2 x (by simp)
 obtain ⟨h1,h2⟩:=LP.1 h
 have h2:HE l<x.1:=h2
 unfold XC
 rw [if_pos om]
 refine Tr.ext' rfl ?_ rfl
 exact XY fun y hy=>by have:=(PC h1).2 y hy;omega
theorem ACA {b12 k:Nat} (h:k<7):([.pointer (some ⟨b12,0,none⟩), .pointer (some ⟨b12,1,none⟩), .pointer (some ⟨b12,2,none⟩), .pointer (some ⟨b12,3,none⟩), .pointer (some ⟨b12,4,none⟩), .pointer (some ⟨b12,5,none⟩), .pointer (some ⟨b12,6,none⟩)]:List Value)[((k:Nat):Int).toNat*1]?=some (.pointer (some ⟨b12,k,none⟩)):=by
 rw [show ((k:Nat):Int).toNat*1=k by omega]
 match k,h with
 |0,_=>rfl
 |1,_=>rfl
 |2,_=>rfl
 |3,_=>rfl
 |4,_=>rfl
 |5,_=>rfl
 |6,_=>rfl
theorem Qj:∀(j:Nat) (st:Rs),∀y∈(AJ DJ j st).1,y.2.acl.length≤1048576
 |0,_,y,hy=>by cases hy
 |j+1,st,y,hy=>by
  rcases mem_append.1 (show y∈(AJ DJ j st).1++[(DJ (AJ DJ j st).2).1] from hy) with hy|hy
  ·exact Qj j st y hy
  ·rw [mem_singleton] at hy
   rw [hy]
   have h:=J1 (Ag (Ag (AJ DJ j st).2).2).2
   show (AJ Et (BU (Ag (Ag (AJ DJ j st).2).2).2).1 _).1.length≤_
   rw [KP];omega
theorem AAa {s:Bs} {υ φ:Tr} (h6:sn6 s=some []) (hυ:sn4 s≠none→υ=Ha (AS (KF s)).1 (TJ s)) (hφ:φ=JZ υ (snS s)):φ=⟨TJ s,snS s,(AS (KF s)).1⟩:=by
 have hr:readZ s=some ⟨TJ s,snS s,(AS (KF s)).1⟩:=if_pos h6
 have hg:=Ml.1 hr
 have h4:sn4 s≠none:=fun g=>by
  unfold sn6 at h6
  rw [g] at h6
  split at h6
  ·rw [show (AJ IG (snK s) (BU none).2).2=none from AFH Mp _] at h6;cases h6
  ·cases h6
 rw [hφ,hυ h4]
 unfold Ha JZ
 rw [if_neg (show ¬TJ s=[] from hg.ne)]
set_option maxHeartbeats 1000000 in
theorem YC (s:Bs) (hs:s.length≤70368744177664):Fn prog 51 #[AF s] [] fun v L=>(readZ s=none∧v= .tuple #[.pointer none,AA 70]∧L=[])∨(∃τ t,readZ s=some τ∧v= .tuple #[AD t,AA 0]∧L=[AV t τ]):=by
 refine Fn.intro func51 Y Y fun F W=>?_
 obtain ⟨m,hm⟩:∃m,m=snM s:=⟨_,rfl⟩
 have hm256:m≤256:=by rw [hm];exact J1 _
 refine Z ?_
 refine .oq (.c func107 [_] (Kj s hs)) ?_
 rintro v L' ⟨r,rfl,rfl⟩
 refine Z ?_
 refine .oq (.c func28 [] (IF)) ?_
 rintro v L' ⟨t,rfl,rfl⟩
 refine .an Y (.seq (.joinK (ι:=Unit) (fun q E=>E) (fun q=>[FK r (KF s)]) (fun q=>True) (pre:=[FK r (some s)]) (ts:=[2,3,4,5]) O O ?_ ?_))
 ·refine Z ?_
  refine .cv func111 [_,_] (Xa r (some s)) ?_
  refine Z ?_
  refine .condN Y (fun h23=>?_) (fun h23=>?_)
  ·refine Z ?_
   refine .cv func112 [_] (Es r _) ?_
   refine .nt (.rdCast (st':=KF s) O (by unfold KF;rw [if_neg (show ¬(Jc (some s)).1=HI from h23)]) ?_)
   exact .mk (()) (trivial) O
  refine .sk (.rdCast (st':=KF s) O (by unfold KF;rw [if_pos (show (Jc (some s)).1=HI from h23)]) ?_)
  exact .mk (()) (trivial) O
 rintro _u _
 refine Z ?_
 refine .cv func108 [_] (G0 r (KF s)) ?_
 refine .cv func113 [_,_] (Su t BV (AS (KF s)).1) ?_
 refine Z ?_
 refine .oq (.c func109 [_,_] (Ky r (AS (KF s)).2)) ?_
 rintro v L' ⟨rfl,rfl⟩;rw [show (BU (AS (KF s)).2).1=m from hm.symm]
 refine .a Y (.an Y (.seq (.joinK (ι:=Unit) (fun q E=>E) (fun q=>[FK r (Da s)]) (fun q=>True) (pre:=[FK r (BU (AS (KF s)).2).2]) (ts:=[2,3,4,5,6,7]) O O ?_ ?_)))
 ·refine Z ?_
  refine .condD Y (fun h33=>?_) (fun h33=>?_)
  ·refine Z ?_
   refine .cv func112 [_] (Es r _) ?_
   refine .nt (.rdCast (st':=Da s) O (by unfold Da;rw [if_pos (by rw [←hm];omega)]) ?_)
   exact .mk (()) (trivial) O
  refine .sk (.rdCast (st':=Da s) O (by unfold Da;rw [if_neg (by rw [←hm];omega)]) ?_)
  exact .mk (()) (trivial) O
 rintro _u _
 refine .seq (.trCast (τ':=Ha (AS (KF s)).1 (AJ DJ 0 (Da s)).1) O Y (.joinK (ι:=Tr) (fun q E=>E) (fun q=>[FK r (sn4 s),AV t q]) (fun q=>(sn4 s≠none→q=Ha (AS (KF s)).1 (TJ s))∧q.sess=[]) (pre:=[FK r (Da s),AV t (Ha (AS (KF s)).1 (AJ DJ 0 (Da s)).1)]) (ts:=[2,3,4,5]) O O ?_ ?_))
 ·refine Z ?_
  refine .loopK (ι:=Nat) (fun q E=>(37,AA q)::(6,AF (Cs (AJ DJ q (Da s)).1))::E) (fun q=>[FK r (AJ DJ q (Da s)).2,AV t (Ha (AS (KF s)).1 (AJ DJ q (Da s)).1)]) (fun q=>q≤m∧ZC (AJ DJ q (Da s)).1) (fun q=>m-q) (0) (ts:=[2,3,4,5,36]) O (⟨Nat.zero_le _,AGn⟩) O O ?_
  rintro j ⟨hj,hok⟩
  have hlj:(AJ DJ j (Da s)).1.length=j:=KP _ _ _
  have hlo:(Ha (AS (KF s)).1 (AJ DJ j (Da s)).1).Ok (j+1):=by have h:=AGH (z:=(AS (KF s)).1) hok (Qj j (Da s));rw [hlj] at h;exact h
  refine Z ?_
  refine .condD Y (fun h38=>?_) (fun h38=>?_)
  ·have hj2m:j<m:=by omega
   have hj2:j<snM s:=by omega
   have hpl:=AB1 (AJ DJ j (Da s)).2
   refine Z ?_
   refine .cv func111 [_,_] (IZ r (AJ DJ j (Da s)).2) ?_
   refine Z ?_
   refine .cv func111 [_,_] (IZ r (Ag (AJ DJ j (Da s)).2).2) ?_
   refine Z ?_
   refine .cv func114 [_] (EU (Ag (AJ DJ j (Da s)).2).1 om) ?_
   refine Z ?_
   refine .ndec (t:=46) Y (fun h12_46=>?_) (fun h12_46=>?_)
   ·refine .kNT (t:=45) Y h12_46 (Z ?_)
    refine .cv func112 [_] (Es r _) ?_
    refine Z ?_
    refine .rdCast (st':=sn4 s) O (Hl hj2 (fun g=>h12_46 g.1)).symm ?_
    exact .mk (Ha (AS (KF s)).1 (AJ DJ j (Da s)).1) (⟨fun g=>absurd (Hl hj2 (fun g=>h12_46 g.1)) g,J4 _ _⟩) O
   refine .kNF (t:=45) Y h12_46 (Z ?_)
   refine .u (.strle Y Y) (Z ?_)
   refine .dec (t:=51) Y (fun h12_51=>?_) (fun h12_51=>?_)
   ·refine .kDT (t:=49) Y h12_51 (.kDT (t:=50) Y h12_51 (Z ?_))
    refine .cv func112 [_] (Es r _) ?_
    refine Z ?_
    refine .rdCast (st':=sn4 s) O (Hl hj2 (fun g=>h12_51 g.2.1)).symm ?_
    exact .mk (Ha (AS (KF s)).1 (AJ DJ j (Da s)).1) (⟨fun g=>absurd (Hl hj2 (fun g=>h12_51 g.2.1)) g,J4 _ _⟩) O
   refine .kDF (t:=49) Y h12_51 (.kDF (t:=50) Y h12_51 (Z ?_))
   refine .condB Y (fun h57=>?_) (fun h57=>?_)
   ·refine Z ?_
    refine .cv func112 [_] (Es r _) ?_
    refine Z ?_
    refine .rdCast (st':=sn4 s) O (Hl hj2 (fun g=>by have g3:(Cs (AJ DJ j (Da s)).1=[]↔(Ag (AJ DJ j (Da s)).2).1=[47]):=g.2.2;simp [g3] at h57)).symm ?_
    exact .mk (Ha (AS (KF s)).1 (AJ DJ j (Da s)).1) (⟨fun g=>absurd (Hl hj2 (fun g=>by have g3:(Cs (AJ DJ j (Da s)).1=[]↔(Ag (AJ DJ j (Da s)).2).1=[47]):=g.2.2;simp [g3] at h57)) g,J4 _ _⟩) O
   have hnx:Ua (Cs (AJ DJ j (Da s)).1) ((DJ (AJ DJ j (Da s)).2).1).1:=⟨h12_46,Decidable.not_not.1 h12_51,show (Cs (AJ DJ j (Da s)).1=[]↔(Ag (AJ DJ j (Da s)).2).1=[47]) from by simpa using h57⟩
   have hok2:ZC (AJ DJ (j+1) (Da s)).1:=Om.2 ⟨hok,hnx⟩
   obtain ⟨na,hna⟩:∃n,n=(BU (Ag (Ag (AJ DJ j (Da s)).2).2).2).1:=⟨_,rfl⟩
   have hna2:na≤256:=by rw [hna];exact J1 _
   refine .sk (.sm Y (.q (.as (v':=AF (Cs (AJ DJ (j+1) (Da s)).1)) (by exact congrArg AF (Dr (AJ DJ j (Da s)).1 (DJ (AJ DJ j (Da s)).2).1).symm) (.assign Y)) Y (Z ?_)))
   refine .add (AU 133 2) (Z ?_)
   refine .oq (.c func109 [_,_] (Ky r (Ag (Ag (AJ DJ j (Da s)).2).2).2)) ?_
   rintro v L' ⟨rfl,rfl⟩;rw [show (BU (Ag (Ag (AJ DJ j (Da s)).2).2).2).1=na from hna.symm]
   refine Z ?_
   refine .loopK (ι:=Nat×Value) (fun q E=>(63,AA q.1)::(10,q.2)::E) (fun q=>[FK r (AJ Et q.1 (BU (Ag (Ag (AJ DJ j (Da s)).2).2).2).2).2,At 133 2 q.2 q.1 ((AJ Et q.1 (BU (Ag (Ag (AJ DJ j (Da s)).2).2).2).2).1.flatMap CJ)]) (fun q=>q.1≤na∧∃a c,q.2= .slice a q.1 c) (fun q=>na-q.1) (0, .slice none 0 0) (ts:=[2,3,4,5,6,8,9,36,37,38,39,40,41,42,43,44,45,46,47,48,49,50,51,52,53,54,55,56,57,60,61,62]) O (⟨Nat.zero_le _,none,0,Y⟩) O O ?_
   rintro ⟨i,u⟩ ⟨hi,au,cu,hu⟩
   dsimp only
   dsimp only at hi hu
   subst hu
   refine Z ?_
   refine .condD Y (fun h64=>?_) (fun h64=>?_)
   ·have hi2:i<na:=by omega
    refine Z ?_
    refine .cv func108 [_] (G0 r _) ?_
    refine Z ?_
    refine .cv func111 [_,_] (IZ r _) ?_
    refine .q (.to (v':= .agg (CJ (Et (AJ Et i (BU (Ag (Ag (AJ DJ j (Da s)).2).2).2).2).2).1).toArray) (.build (us:=[(0,_),(1,_)]) SK EI Y Y (by simp [AB])) Y) Y (.oq (.buildSlice (vs:=[_]) GN EI Y Y Y Y cQ dQ) ?_)
    rintro v L' ⟨b19,rfl,rfl⟩
    refine .oq (.append1 Y Y Y GN EI Y Y ?c73 ?c74 (Nat.le_refl _) ?c75 dQ) ?_
    case c73=>simp only [map_cons,map_nil,flatten_cons,flatten_nil,append_nil];simp [Value.cells,CJ,AB]
    case c74=>rfl
    case c75=>omega
    rintro v L' ⟨⟨a5,c5,rfl⟩,rfl⟩
    refine Z ?_
    refine .slCast (T:=133) (sz:=2) (m':=i+1) (xs':=(AJ Et (i+1) (BU (Ag (Ag (AJ DJ j (Da s)).2).2).2).2).1.flatMap CJ) O (by exact rfl) (by show _=((AJ Et i (BU (Ag (Ag (AJ DJ j (Da s)).2).2).2).2).1++[_]).flatMap CJ;rw [flatMap_append];simp [Value.cells,CJ]) ?_
    exact .rk ((i+1, .slice a5 (i+1) c5)) (⟨by dsimp only;omega,_,_,rfl⟩) (by dsimp only;omega) O
   have hii:i=na:=by omega
   subst hii
   rw [hna]
   refine Z ?_
   refine .oq (.allocA FU) ?_
   rintro v L' ⟨b12,rfl,rfl⟩
   refine .nil (.ptCast (b:=b12) (l':=Ca (st7 (AJ AS 0 (AJ Et (BU (Ag (Ag (AJ DJ j (Da s)).2).2).2).1 (BU (Ag (Ag (AJ DJ j (Da s)).2).2).2).2).2).1)) O Y ?_)
   refine Z ?_
   refine .q (.buildA (us:=[(0, .pointer (some ⟨b12,0,none⟩)),(1, .pointer (some ⟨b12,1,none⟩)),(2, .pointer (some ⟨b12,2,none⟩)),(3, .pointer (some ⟨b12,3,none⟩)),(4, .pointer (some ⟨b12,4,none⟩)),(5, .pointer (some ⟨b12,5,none⟩)),(6, .pointer (some ⟨b12,6,none⟩))]) (cells:=([.pointer (some ⟨b12,0,none⟩), .pointer (some ⟨b12,1,none⟩), .pointer (some ⟨b12,2,none⟩), .pointer (some ⟨b12,3,none⟩), .pointer (some ⟨b12,4,none⟩), .pointer (some ⟨b12,5,none⟩), .pointer (some ⟨b12,6,none⟩)]:List Value)) ACr AIS Y kQ) Y (Z ?_)
   refine .loopK (ι:=Nat) (fun q E=>(83,AA q)::E) (fun q=>[FK r (AJ AS q (AJ Et (BU (Ag (Ag (AJ DJ j (Da s)).2).2).2).1 (BU (Ag (Ag (AJ DJ j (Da s)).2).2).2).2).2).2,AW b12 (Ca (st7 (AJ AS q (AJ Et (BU (Ag (Ag (AJ DJ j (Da s)).2).2).2).1 (BU (Ag (Ag (AJ DJ j (Da s)).2).2).2).2).2).1)) 62]) (fun q=>q≤7) (fun q=>7-q) (0) (ts:=[2,3,4,5,6,8,9,10,12,36,37,38,39,40,41,42,43,44,45,46,47,48,49,50,51,52,53,54,55,56,57,60,61,62,63,64,75,76,77,78,79,80,81,82]) O (Nat.zero_le _) O O ?_
   rintro k hk
   refine Z ?_
   refine .condD Y (fun h84=>?_) (fun h84=>?_)
   ·have hk2:k<7:=by omega
    refine Z ?_
    refine .q (.arrIndex (cs:=([.pointer (some ⟨b12,0,none⟩), .pointer (some ⟨b12,1,none⟩), .pointer (some ⟨b12,2,none⟩), .pointer (some ⟨b12,3,none⟩), .pointer (some ⟨b12,4,none⟩), .pointer (some ⟨b12,5,none⟩), .pointer (some ⟨b12,6,none⟩)]:List Value)) (v:= .pointer (some ⟨b12,k,none⟩)) Y Y ACr ADF om (ACA hk2)) Y (Z ?_)
    refine .cv func108 [_] (G0 r _) ?_
    refine Z ?_
    refine .oq (.store Y Y Y IV ?c96 (Bd _ _)) ?_
    case c96=>simp [Ca];omega
    rintro v L' rfl
    refine Z ?_
    refine .ptCast (b:=b12) (l':=Ca (st7 (AJ AS (k+1) (AJ Et (BU (Ag (Ag (AJ DJ j (Da s)).2).2).2).1 (BU (Ag (Ag (AJ DJ j (Da s)).2).2).2).2).2).1)) O (AFT hk2 (KP _ _ _) _) ?_
    exact .rk (k+1) om om O
   have hkk:k=7:=by omega
   subst hkk
   refine Z ?_
   refine .q (.loadAs (vs:=Ca (st7 (AJ AS 7 (AJ Et (BU (Ag (Ag (AJ DJ j (Da s)).2).2).2).1 (BU (Ag (Ag (AJ DJ j (Da s)).2).2).2).2).2).1)) Y GK O (by simp [Ca]) Y) Y (.oq (.call func115 Y Y (vs:=[_,_,_,_,_]) Y (YM t (Ha (AS (KF s)).1 (AJ DJ j (Da s)).1) (Ag (AJ DJ j (Da s)).2).1 (Ag (Ag (AJ DJ j (Da s)).2).2).1 _ (AJ Et (BU (Ag (Ag (AJ DJ j (Da s)).2).2).2).1 (BU (Ag (Ag (AJ DJ j (Da s)).2).2).2).2).1 (st7 (AJ AS 7 (AJ Et (BU (Ag (Ag (AJ DJ j (Da s)).2).2).2).1 (BU (Ag (Ag (AJ DJ j (Da s)).2).2).2).2).2).1) (At 133 2 _ (BU (Ag (Ag (AJ DJ j (Da s)).2).2).2).1 ((AJ Et (BU (Ag (Ag (AJ DJ j (Da s)).2).2).2).1 (BU (Ag (Ag (AJ DJ j (Da s)).2).2).2).2).1.flatMap CJ)) (fun h hp=>by rw [KP];exact Ad hp) (by rw [KP,←hna];omega) om)) ?_)
   rintro v L' ⟨rfl,rfl⟩
   refine Z ?_
   refine .trCast (τ':=Ha (AS (KF s)).1 (AJ DJ (j+1) (Da s)).1) O (AC4 (y:=(DJ (AJ DJ j (Da s)).2).1) hok2 ⟨Y,Y⟩).symm ?_
   exact .rk (j+1) (⟨by omega,hok2⟩) om O
  have hjj:j=snM s:=by omega
  refine Z ?_
  refine .rdCast (st':=sn4 s) O (by unfold sn4;rw [if_pos (show ZC (TJ s) from by unfold TJ;rw [←hjj];exact hok),←hjj]) ?_
  exact .mk (Ha (AS (KF s)).1 (AJ DJ j (Da s)).1) (⟨fun _=>by unfold TJ;rw [←hjj],J4 _ _⟩) O
 rintro υ ⟨hυ,hυs⟩
 refine .sr (.an Y (.seq (.joinK (ι:=Tr) (fun q E=>E) (fun q=>[FK r (sn6 s),AV t q]) (fun q=>sn6 s≠none→q=JZ υ (snS s)) (pre:=[FK r (sn4 s),AV t υ]) (ts:=[2,3,4,5]) O O ?_ ?_)))
 ·refine Z ?_
  refine .oq (.c func109 [_,_] (Ky r (sn4 s))) ?_
  rintro v L' ⟨rfl,rfl⟩;rw [show (BU (sn4 s)).1=snK s from rfl]
  refine Z ?_
  refine .trCast (τ':=JZ υ (AJ IG 0 (BU (sn4 s)).2).1) O (by rw [show JZ υ (AJ IG 0 (BU (sn4 s)).2).1=⟨υ.nodes,[],υ.zx⟩ from rfl];exact Tr.ext' rfl hυs.symm rfl) (.loopK (ι:=Nat) (fun q E=>(100,AA q)::(15,AA (HE (AJ IG q (BU (sn4 s)).2).1))::E) (fun q=>[FK r (AJ IG q (BU (sn4 s)).2).2,AV t (JZ υ (AJ IG q (BU (sn4 s)).2).1)]) (fun q=>q≤snK s∧okS (AJ IG q (BU (sn4 s)).2).1) (fun q=>snK s-q) (0) (ts:=[2,3,4,5,99]) O (⟨Nat.zero_le _,AFO⟩) O O ?_)
  rintro i ⟨hi,hoks⟩
  refine Z ?_
  refine .condD Y (fun h101=>?_) (fun h101=>?_)
  ·have hi2:i<snK s:=by omega
   have hk256:snK s≤256:=J1 _
   refine Z ?_
   refine .cv func108 [_] (G0 r _) ?_
   refine Z ?_
   refine .cv func108 [_] (G0 r _) ?_
   refine Z ?_
   refine .condD Y (fun h108=>?_) (fun h108=>?_)
   ·have h108b:¬nextS (HE (AJ IG i (BU (sn4 s)).2).1) (IG (AJ IG i (BU (sn4 s)).2).2).1.1:=by unfold nextS;have:=h108;show ¬_<(AS (AJ IG i (BU (sn4 s)).2).2).1;omega
    refine Z ?_
    refine .cv func112 [_] (Es r _) ?_
    refine Z ?_
    refine .rdCast (st':=sn6 s) O (Te hi2 (fun g=>h108b g)).symm ?_
    exact .mk (JZ υ (AJ IG i (BU (sn4 s)).2).1) (fun g=>absurd (Te hi2 (fun g=>h108b g)) g) O
   have hnx:nextS (HE (AJ IG i (BU (sn4 s)).2).1) (IG (AJ IG i (BU (sn4 s)).2).2).1.1:=by unfold nextS;have:=h108;show _<(AS (AJ IG i (BU (sn4 s)).2).2).1;omega
   have hok2:okS (AJ IG (i+1) (BU (sn4 s)).2).1:=LP.2 ⟨hoks,hnx⟩
   refine .sk (.sm Y (.q (.as (v':=AA (HE (AJ IG (i+1) (BU (sn4 s)).2).1)) (by exact congrArg AA (IT (AJ IG i (BU (sn4 s)).2).1 (IG (AJ IG i (BU (sn4 s)).2).2).1).symm) (.assign Y)) Y (Z ?_)))
   refine .cv func111 [_,_] (IZ r _) ?_
   refine .cv func116 [_,_,_,_] (P9 t _ _ _ _) ?_
   refine Z ?_
   refine .trCast (τ':=JZ υ (AJ IG (i+1) (BU (sn4 s)).2).1) O (AAl (x:=(IG (AJ IG i (BU (sn4 s)).2).2).1) hok2).symm ?_
   exact .rk (i+1) (⟨by omega,hok2⟩) om O
  have hii:i=snK s:=by omega
  refine Z ?_
  refine .rdCast (st':=sn6 s) O (by unfold sn6;rw [if_pos (show okS (snS s) from by unfold snS;rw [←hii];exact hoks),←hii]) ?_
  exact .mk (JZ υ (AJ IG i (BU (sn4 s)).2).1) (fun _=>by unfold snS;rw [←hii]) O
 rintro φ hφ
 refine Z ?_
 refine .oq (.c func110 [_] (MG r _)) ?_
 rintro v L' ⟨e1,he1,rfl,st',rfl⟩
 refine Z ?_
 refine .condN Y (fun h121=>?_) (fun h121=>?_)
 ·refine Z ?_
  exact .dn Y Y (.inl ⟨by unfold readZ;exact if_neg (fun g=>h121 (he1.2 g)),rfl,rfl⟩)
 have h6:sn6 s=some []:=he1.1 (by simpa using h121)
 have hφ2:φ=⟨TJ s,snS s,(AS (KF s)).1⟩:=AAa h6 hυ (hφ (by rw [h6];simp))
 subst hφ2
 refine Z ?_
 exact .dn Y Y (.inr ⟨_,t,by unfold readZ;exact if_pos h6,rfl,rfl⟩)
end Go.Proofs.YtbhkloaagkkioaaGreatDoor
