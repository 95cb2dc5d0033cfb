/- Own work, in part by program, for topShipped.proved. -/
import Derived.Test.YtbhkloaagkkioaaGreatDoorCTShipP1
import Derived.Test.YtbhkloaagkkioaaGreatDoorCTShipP0
import Derived.Lib.ItoaNum
import Derived.Shelf.Strconv.Itoa3
import Derived.Shelf.Strings.Repeat
import Derived.Shelf.Strings.BuilderX
import Derived.Shelf.LaysM
import Derived.Ground.NamesProg
import Derived.Test.YtbhkloaagkkioaaGreatDoorProg
import Derived.Lib.LaidTab
set_option maxRecDepth 100000
namespace Go.Proofs.YtbhkloaagkkioaaGreatDoor
open Go List Go.Proofs.Tryz
theorem NW (s:Bs):Fn prog 335 #[AF s, .int .u8 58] [] fun v L=>v=AA (Hq s)∧L=[]:=by
 refine Fn.intro func335 Y Y fun F W=>?_
 refine Z ?_
 refine .q (.extern (e:=Extern.BytealgIndexByte.indexByte) (vs:=[_, .int .u8 58]) func345 kQ kQ kQ kQ Y (fun w=>Ti s w)) Y (Z ?_)
 exact .vv
theorem Vg (s:Bs):Fn prog 316 #[AF s,AF [58]] [] fun v L=>v=AA (Hq s)∧L=[]:=by
 refine Fn.intro func316 Y Y fun F W=>?_
 refine Z ?_
 refine .condD Y (fun h16=>?_) (fun h16=>?_)
 ·refine Z ?_
  exact .dn Y Y ⟨by have e:s=[58]:=(by first|exact h16.symm|exact (by simpa using h16.symm));subst e;rfl,rfl⟩
 refine Z ?_
 refine .q (.strIndex (c:=58) Y Y underlying9 (by simp) (by simp)) Y (.cv func335 [_,_] (NW s) ?_)
 refine Z ?_
 exact .vv
theorem Ww (s:Bs) (hs:s.length≤1048576):Fn prog 340 #[AF s,AF [58]] [] fun v L=>v= .tuple #[AF (if (58:UInt8)∈s then HS s else s),AF (if (58:UInt8)∈s then GG s else []), .bool (decide ((58:UInt8)∈s))]∧L=[]:=by
 refine Fn.intro func340 Y Y fun F W=>?_
 refine Z ?_
 refine .cv func316 [_,_] (Vg s) ?_
 refine Z ?_
 refine .condD Y (fun h12=>?_) (fun h12=>?_)
 ·have hm:(58:UInt8)∈s:=by rcases Decidable.em ((58:UInt8)∈s) with g|g;exact g;rw [ACc g] at h12;omega
  obtain ⟨k,hk1,hk2,hk3,hk4⟩:=U1 hm
  rw [hk1]
  refine .seq (.draw [] [[0,1,2,3,4,5,6,7,8,9,10,11]] mixed kQ (.g0 (Z ?_)))
  refine D.kv Y (.to (v':=AF (HS s)) (.strTo Y Y underlying9 om) (by rw [hk3];congr 2)) (.mv Y Y (.mv Y Y (.mv Y Y (.kv Y (.as (v':=AA 1) (by rfl) (.strlen Y underlying9 Y)) (Z ?_)))))
  refine D.kv Y (.to (v':=AF (GG s)) (.strFrom (i:=(k:Int)+1) Y Y underlying9 om) (by rw [hk4];congr 2)) (Z ?_)
  rw [if_pos hm,if_pos hm,decide_eq_true hm]
  exact .vv
 refine Z ?_
 have hm:¬(58:UInt8)∈s:=fun g=>by obtain ⟨k,hk1,-⟩:=U1 g;rw [hk1] at h12;omega
 rw [if_neg hm,if_neg hm,decide_eq_false hm]
 exact .vv
theorem AAx (s:Bs) (hs:s.length≤1048576):Fn prog 318 #[AF s,AF [58]] [] fun v L=>v= .tuple #[AF (if (58:UInt8)∈s then HS s else s),AF (if (58:UInt8)∈s then GG s else []), .bool (decide ((58:UInt8)∈s))]∧L=[]:=by
 refine Fn.intro func318 Y Y fun F W=>?_
 refine Z ?_
 refine .cv func340 [_,_] (Ww s hs) ?_
 refine Z ?_
 exact .vv
theorem Q8 (r:Int):Fn prog 255 #[.int .i32 r] [] fun v L=>v= .bool (SS r)∧L=[]:=by
 refine Fn.intro func255 Y Y fun F W=>?_
 refine Z ?_
 refine .dec (t:=5) Y (fun h1_5=>?_) (fun h1_5=>?_)
 ·refine .kDT (t:=4) Y h1_5 (Z ?_)
  exact .dn Y Y ⟨by unfold SS;first|(simp_all;done)|(simp_all;omega)|(simp;omega),rfl⟩
 refine .kDF (t:=4) Y h1_5 (Z ?_)
 exact .dn Y Y ⟨by unfold SS;first|(simp_all;done)|(simp_all;omega)|(simp;omega),rfl⟩
theorem Ts (r:Int):Fn prog 254 #[.int .i32 r] [] fun v L=>v= .bool (KG r)∧L=[]:=by
 refine Fn.intro func254 Y Y fun F W=>?_
 refine .sr (.an Y (.sm Y (.cv func255 [_] (Q8 r) ?_)))
 refine .m Y (.bool (t:=5) Y (fun h1_5=>?_) (fun h1_5=>?_))
 ·refine .kB (t:=4) Y h1_5 (.gk (.gk (.gk (.gn (.gn (.gk (.pT Y Y (.an Y (.ret ?_)))))))))
  exact .dn Y Y ⟨by unfold KG;first|(simp_all;done)|(simp_all;omega)|(simp;omega),rfl⟩
 refine .kB (t:=4) Y h1_5 (.gr (.m Y (.gr (.ui Y Y Y (.gr (.m Y (.dec (t:=8) Y (fun h1_8=>?_) (fun h1_8=>?_))))))))
 ·refine .kDT (t:=7) Y h1_8 (.gr (.m Y (.gr (.ui Y Y Y (.gr (.pT Y Y (.pF Y Y (.an Y (.ret ?_)))))))))
  exact .dn Y Y ⟨by unfold KG;first|(simp_all;done)|(simp_all;omega)|(simp;omega),rfl⟩
 refine .kDF (t:=7) Y h1_8 (.gk (.gk (.gr (.pF Y Y (.pF Y Y (.an Y (.ret ?_)))))))
 exact .dn Y Y ⟨by unfold KG;first|(simp_all;done)|(simp_all;omega)|(simp;omega),rfl⟩
theorem AAm (r:Int):Fn prog 319 #[.int .i32 r] [] fun v L=>v= .bool (N8 r)∧L=[]:=by
 refine Fn.intro func319 Y Y fun F W=>?_
 refine .sr (.an Y (.sm Y (.cv func255 [_] (Q8 r) ?_)))
 refine .m Y (.bool (t:=5) Y (fun h1_5=>?_) (fun h1_5=>?_))
 ·refine .kB (t:=4) Y h1_5 (.gk (.gk (.gk (.gn (.gn (.gk (.pT Y Y (.an Y (.ret ?_)))))))))
  exact .dn Y Y ⟨by unfold N8;first|(simp_all;done)|(simp_all;omega)|(simp;omega),rfl⟩
 refine .kB (t:=4) Y h1_5 (.gr (.m Y (.gr (.ui Y Y Y (.gr (.m Y (.dec (t:=8) Y (fun h1_8=>?_) (fun h1_8=>?_))))))))
 ·refine .kDT (t:=7) Y h1_8 (.gr (.m Y (.gr (.ui Y Y Y (.gr (.pT Y Y (.pF Y Y (.an Y (.ret ?_)))))))))
  exact .dn Y Y ⟨by unfold N8;first|(simp_all;done)|(simp_all;omega)|(simp;omega),rfl⟩
 refine .kDF (t:=7) Y h1_8 (.gk (.gk (.gr (.pF Y Y (.pF Y Y (.an Y (.ret ?_)))))))
 exact .dn Y Y ⟨by unfold N8;first|(simp_all;done)|(simp_all;omega)|(simp;omega),rfl⟩
theorem Ru (fv:Value) (s:Bs) (U:Int→Bool) (Q:HP) (hT:∀r:Int,128≤r→U r=true) (hf:∀r:Int,CW prog fv [.int .i32 r] [Q] (fun v L=>v= .bool (U r)∧L=[Q])):Fn prog 321 #[AF s,fv, .bool true] [Q] fun v L=>(∃k:Int,v=AA k∧decide (k<0)=s.all (fun c:UInt8=> !U (c.toNat:Int)))∧L=[Q]:=by
 refine Fn.intro func321 Y Y fun F W=>?_
 refine Z ?_
 refine .oq (.rangeS Y underlying9) ?_
 rintro v L' ⟨it,rfl,rfl⟩
 refine Z ?_
 refine .loopK (ι:=Nat) (fun q E=>E) (fun q=>[M6 it s q]) (fun q=>q≤s.length∧(s.take q).all (fun c:UInt8=> !U (c.toNat:Int))=true) (fun q=>s.length-q) (0) (ts:=[1,2,10]) O (⟨Nat.zero_le _,Y⟩) O O ?_
 rintro pos ⟨hp,hall⟩
 refine .sr (.oq (.nextS Y) ?_)
 rintro v L' (⟨rfl,hpos,rfl⟩|⟨hpos,rfl,rfl⟩)
 ·refine Z ?_
  exact .dn Y Y ⟨⟨_,Y,by rw [decide_eq_true dQ];symm;rw [take_of_length_le om] at hall;exact hall⟩,rfl⟩
 refine Z ?_
 rcases Nat.lt_or_ge (s[pos]).toNat 128 with hlo|hhi
 ·rw [PU hpos hlo]
  dsimp only
  refine Z ?_
  refine .oq (.callD (vs:=[_]) Y Y (hf ((s[pos]).toNat:Int))) ?_
  rintro v L' ⟨rfl,rfl⟩
  refine Z ?_
  refine .condB Y (fun h19=>?_) (fun h19=>?_)
  ·refine Z ?_
   exact .dn Y Y ⟨⟨_,Y,by rw [decide_eq_false om];symm;exact YX (T:=fun c:UInt8=> !U (c.toNat:Int)) hpos (by simpa using h19)⟩,rfl⟩
  refine Z ?_
  exact .rk (pos+1) (⟨by omega,AEg (T:=fun c:UInt8=> !U (c.toNat:Int)) hpos hall (by simpa using h19)⟩) om O
 obtain ⟨hd1,hd2⟩:=NF hpos om
 generalize Utf8.decode (bs s) pos=dc at *
 refine Z ?_
 refine .oq (.callD (vs:=[_]) Y Y (hf (dc.1:Int))) ?_
 rintro v L' ⟨rfl,rfl⟩
 refine Z ?_
 refine .condB Y (fun h19=>?_) (fun h19=>?_)
 ·refine Z ?_
  exact .dn Y Y ⟨⟨_,Y,by rw [decide_eq_false om];symm;exact YX (T:=fun c:UInt8=> !U (c.toNat:Int)) hpos (by rw [hT _ om];rfl)⟩,rfl⟩
 exfalso;rw [hT _ om] at h19;exact absurd h19 dQ
theorem Sc (fv:Value) (s:Bs) (U:Int→Bool) (Q:HP) (hT:∀r:Int,128≤r→U r=true) (hf:∀r:Int,CW prog fv [.int .i32 r] [Q] (fun v L=>v= .bool (U r)∧L=[Q])):Fn prog 288 #[AF s,fv] [Q] fun v L=>(∃k:Int,v=AA k∧decide (k<0)=s.all (fun c:UInt8=> !U (c.toNat:Int)))∧L=[Q]:=by
 refine Fn.intro func288 Y Y fun F W=>?_
 refine Z ?_
 refine .oq (.c func321 [_,_,_] (Ru fv s U Q hT hf)) ?_
 rintro v L' ⟨⟨k,rfl,hk⟩,rfl⟩
 refine Z ?_
 exact .dn Y Y ⟨⟨k,Y,hk⟩,Y⟩
theorem AJF:A9 prog 326=some none:=by kernel_rfl
theorem UR (b:Nat) (fv:Value) (T:Int→Bool) (hf:∀r:Int,CW prog fv [.int .i32 r] [] (fun v L=>v= .bool (T r)∧L=[])) (r:Int):Fn prog 289 #[.int .i32 r,AD b] [AW b [fv] 326] fun v L=>v= .bool (!T r)∧L=[AW b [fv] 326]:=by
 refine Fn.intro func289 Y Y fun F W=>?_
 refine .sr (.an Y (.sr (.q (.load Y AJF O Y) Y (Z ?_))))
 refine .oq (.callD (vs:=[_]) Y Y (hf r)) ?_
 rintro v L' ⟨rfl,rfl⟩
 refine Z ?_
 exact .dn Y Y ⟨Y,Y⟩
theorem OE (fv:Value) (s:Bs) (T:Int→Bool) (hT:AIN T) (hf:∀r:Int,CW prog fv [.int .i32 r] [] (fun v L=>v= .bool (T r)∧L=[])):Fn prog 253 #[AF s,fv] [] fun v L=>v= .bool (s.all fun c:UInt8=>T (c.toNat:Int))∧L=[]:=by
 refine Fn.intro func253 Y Y fun F W=>?_
 refine .sr (.oq (.box Y) ?_)
 rintro v L' ⟨b3,rfl,rfl⟩
 refine Z ?_
 refine .ptCast (b:=b3) (l':=[fv]) O (XJ (hf 0)) ?_
 refine Z ?_
 refine .q (.func (us:=[]) (vs:=[_]) Y Y) Y (.oq (.c func288 [_,_] (Sc _ s (fun r=> !T r) (AW b3 [fv] 326) (fun r hr=>by rw [hT.high r hr];rfl) (fun r=>CW.of (us:=[]) (ws:=[AD b3]) func289 rfl rfl (UR b3 fv T hf r)))) ?_)
 rintro v L' ⟨⟨k,rfl,hk⟩,rfl⟩
 refine Z ?_
 exact .dn Y Y ⟨by rw [hk];congr 2;funext c;rw [Bool.not_not],rfl⟩
theorem We (s:Bs):Fn prog 188 #[AF s] [] fun v L=>v= .bool (QO s)∧L=[]:=by
 refine Fn.intro func188 Y Y fun F W=>?_
 refine Z ?_
 refine .ndec (t:=5) Y (fun h1_5=>?_) (fun h1_5=>?_)
 ·refine .kNT (t:=4) Y h1_5 (Z ?_)
  refine .dec (t:=10) Y (fun h1_10=>?_) (fun h1_10=>?_)
  ·refine .kDT (t:=8) Y h1_10 (.kDT (t:=9) Y h1_10 (Z ?_))
   refine .cv func253 [_,_] (OE _ s KG AAh (fun r=>CW.of (us:=[]) (ws:=[]) func254 Y Y (Ts r))) ?_
   refine Z ?_
   exact .dn Y Y ⟨by rw [Nz];first|(simp_all;done)|(simp_all;(try intro _);omega),rfl⟩
  refine .kDF (t:=8) Y h1_10 (.kDF (t:=9) Y h1_10 (Z ?_))
  exact .dn Y Y ⟨by rw [Nz];first|(simp_all;done)|(simp_all;(try intro _);omega),rfl⟩
 refine .kNF (t:=4) Y h1_5 (Z ?_)
 exact .dn Y Y ⟨by rw [Nz];first|(simp_all;done)|(simp_all;(try intro _);omega),rfl⟩
theorem Wx (s:Bs) (hs:s.length≤1048576):Fn prog 286 #[AF s] [] fun v L=>v= .bool (RL s)∧L=[]:=by
 refine Fn.intro func286 Y Y fun F W=>?_
 refine .sr (.an Y (.sm Y (.cv func318 [_,_] (AAx s hs) ?_)))
 refine .m Y (.ex Y Y (.ex Y Y (.ex Y Y (.a Y (.a Y (.an Y (.sm Y (.u (.streq Y Y) (.m Y (.dec (t:=14) Y (fun h2_14=>?_) (fun h2_14=>?_)))))))))))
 ·refine .kDT (t:=13) Y h2_14 (.gk (.gk (.gn (.gn (.gk (.gk (.gn (.gn (.gn (.gk (.gk (.gn (.gn (.gk (.pT Y Y (.an Y (.ret ?_)))))))))))))))))
  exact .dn Y Y ⟨by rw [Le];first|(simp_all [EC];done)|(simp_all [EC];(try intro _);omega),rfl⟩
 refine .kDF (t:=13) Y h2_14 (.gr (.m Y (.gr (.m Y (.bool (t:=16) Y (fun h2_16=>?_) (fun h2_16=>?_))))))
 ·refine .kB (t:=11) Y h2_16 (.kB (t:=5) Y h2_16 (.kB (t:=15) Y h2_16 (.gr (.m Y (.gr (.cv func188 [_] (We _) ?_))))))
  refine .gr (.pT Y Y (.gr (.m Y (.bool (t:=20) Y (fun h2_20=>?_) (fun h2_20=>?_)))))
  ·refine .kB (t:=18) Y h2_20 (.kB (t:=19) Y h2_20 (.gr (.m Y (.gr (.q (.strlen Y underlying9 Y) Y (.gr (.ui Y Y Y (.gr (.pT Y Y (.gr (.m Y (.dec (t:=25) Y (fun h2_25=>?_) (fun h2_25=>?_)))))))))))))
   ·refine .kDT (t:=23) Y h2_25 (.kDT (t:=24) Y h2_25 (.gr (.m Y (.gr (.cv func253 [_,_] (OE _ _ N8 ACl (fun r=>CW.of (us:=[]) (ws:=[]) func319 Y Y (AAm r))) ?_)))))
    refine .gr (.pT Y Y (.pF Y Y (.an Y (.ret ?_))))
    exact .dn Y Y ⟨by rw [Le];first|(simp_all [EC];done)|(simp_all [EC];(try intro _);omega),rfl⟩
   refine .kDF (t:=23) Y h2_25 (.kDF (t:=24) Y h2_25 (.gk (.gk (.gr (.pF Y Y (.pF Y Y (.an Y (.ret ?_))))))))
   exact .dn Y Y ⟨by rw [Le];first|(simp_all [EC];done)|(simp_all [EC];(try intro _);omega),rfl⟩
  refine .kB (t:=18) Y h2_20 (.kB (t:=19) Y h2_20 (.gk (.gk (.gk (.gr (.pF Y Y (.gr (.m Y (.gk (.gk (.gr (.pF Y Y (.pF Y Y (.an Y (.ret ?_)))))))))))))))
  exact .dn Y Y ⟨by rw [Le];first|(simp_all [EC];done)|(simp_all [EC];(try intro _);omega),rfl⟩
 refine .kB (t:=11) Y h2_16 (.kB (t:=5) Y h2_16 (.kB (t:=15) Y h2_16 (.gk (.gk (.gr (.pF Y Y (.gr (.m Y (.gk (.gk (.gk (.gr (.pF Y Y (.gr (.m Y (.gk (.gk (.gr (.pF Y Y (.pF Y Y (.an Y (.ret ?_))))))))))))))))))))))
 exact .dn Y Y ⟨by rw [Le];first|(simp_all [EC];done)|(simp_all [EC];(try intro _);omega),rfl⟩
theorem Zu (a:Ac) (hs:a.2.length≤1048576):Fn prog 285 #[.agg (CJ a).toArray] [] fun v L=>v= .bool (L6 a)∧L=[]:=by
 refine Fn.intro func285 Y Y fun F W=>?_
 refine .sr (.oq (.box Y) ?_)
 rintro v L' ⟨b1,rfl,rfl⟩
 refine Z ?_
 refine .pc b1 (CJ a) ?_
 refine Z ?_
 refine .dec (t:=6) Y (fun h1_6=>?_) (fun h1_6=>?_)
 ·refine .kDT (t:=5) Y h1_6 (Z ?_)
  exact .dn Y Y ⟨by unfold L6;first|(simp_all;done)|(simp_all;omega),rfl⟩
 refine .kDF (t:=5) Y h1_6 (Z ?_)
 refine .dec (t:=11) Y (fun h1_11=>?_) (fun h1_11=>?_)
 ·refine .kDT (t:=9) Y h1_11 (.kDT (t:=10) Y h1_11 (Z ?_))
  exact .dn Y Y ⟨by unfold L6;first|(simp_all;done)|(simp_all;omega),rfl⟩
 refine .kDF (t:=9) Y h1_11 (.kDF (t:=10) Y h1_11 (Z ?_))
 refine .cv func286 [_] (Wx a.2 hs) ?_
 refine Z ?_
 exact .dn Y Y ⟨by unfold L6;first|(simp_all;done)|(simp_all;omega),rfl⟩
theorem AAV (v:Value) (l:List Ac) (p:HP) (hr:∀h:Hp,p h→CA 2 h v l.length (l.flatMap CJ)) (hl:l.length≤4294967296) (hs:∀a∈l,a.2.length≤1048576):Fn prog 320 #[v, .func (.func 285) #[] #[]] [p] fun u L=>(∃r:Int,u=AA r∧(decide (r≥0)=l.any L6))∧L=[p]:=by
 refine Fn.intro func320 Y Y fun F W=>?_
 refine .rdAny (p:=p) hr O fun aa ca e _=>?_
 subst e
 refine Z ?_
 refine .loopK (ι:=Nat) (fun q E=>(8,AA q)::E) (fun q=>[]) (fun q=>q≤l.length∧∀j (hj:j<q) (hl:j<l.length),L6 l[j]=false) (fun q=>l.length-q) (0) (ts:=[0,1,7]) O (⟨Nat.zero_le _,fun j hj=>by omega⟩) O O ?_
 rintro i ⟨hi,hb⟩
 refine Z ?_
 refine .condD Y (fun h9=>?_) (fun h9=>?_)
 ·have hi2:i<l.length:=by omega
  refine .rdShape (p:=p) hr O om fun ba oa e=>?_
  subst e
  refine Z ?_
  refine .q (.indexAddr Y Y GN om) Y (.q (.loadRdA (sz:=2) (j:=i*2) (k:=2) (p:=p) (vs:=CJ l[i]) Y JP O hr (by simp) om om (BH (f:=CJ) (sz:=2) (fun _ _=>Y) om)) Y (.oq (.callV func285 Y Y (us:=[]) (vs:=[_]) (ws:=[]) Y Y (Zu l[i] (hs _ (getElem_mem hi2)))) ?_))
  rintro v L' ⟨rfl,rfl⟩
  refine .nt (.condB Y (fun h16=>?_) (fun h16=>?_))
  ·refine Z ?_
   exact .dn Y Y ⟨⟨_,Y,by rw [decide_eq_true om];exact (any_eq_true.2 ⟨l[i],getElem_mem hi2,h16⟩).symm⟩,rfl⟩
  refine Z ?_
  exact .rk (i+1) (⟨by omega,fun j hj hl=>by rcases Nat.lt_or_ge j i with h|h;exact hb j h hl;obtain rfl:j=i:=om;exact h16⟩) om O
 refine Z ?_
 exact .dn Y Y ⟨⟨_,Y,by rw [decide_eq_false dQ];symm;rw [any_eq_false];intro s hs;obtain ⟨j,hj,rfl⟩:=mem_iff_getElem.1 hs;rw [hb j om hj];decide⟩,rfl⟩
theorem Wy (v:Value) (l:List Ac) (p:HP) (hr:∀h:Hp,p h→CA 2 h v l.length (l.flatMap CJ)) (hl:l.length≤4294967296) (hs:∀a∈l,a.2.length≤1048576):Fn prog 287 #[v, .func (.func 285) #[] #[]] [p] fun u L=>u= .bool (l.any L6)∧L=[p]:=by
 refine Fn.intro func287 Y Y fun F W=>?_
 refine Z ?_
 refine .oq (.c func320 [_,_] (AAV v l p hr hl hs)) ?_
 rintro v' L' ⟨⟨r,rfl,hrl⟩,rfl⟩
 refine Z ?_
 exact .dn Y Y ⟨congrArg Value.bool hrl,Y⟩
theorem M2 (v:Value) (l:List Ac) (p:HP) (hr:∀h:Hp,p h→CA 2 h v l.length (l.flatMap CJ)) (hl:l.length≤4294967296) (hs:∀a∈l,a.2.length≤1048576):Fn prog 230 #[v] [p] fun u L=>u= .bool (GE l)∧L=[p]:=by
 refine Fn.intro func230 Y Y fun F W=>?_
 refine .rdAny (p:=p) hr O fun aa ca e _=>?_
 subst e
 refine Z ?_
 refine .dec (t:=7) Y (fun h2_7=>?_) (fun h2_7=>?_)
 ·refine .kDT (t:=6) Y h2_7 (Z ?_)
  refine .dec (t:=12) Y (fun h2_12=>?_) (fun h2_12=>?_)
  ·refine .kDT (t:=10) Y h2_12 (.kDT (t:=11) Y h2_12 (Z ?_))
   refine .cv func287 [_,_] (Wy _ l p hr hl hs) ?_
   refine Z ?_
   exact .dn Y Y ⟨by unfold GE;first|(simp_all;done)|(simp_all;omega),rfl⟩
  refine .kDF (t:=10) Y h2_12 (.kDF (t:=11) Y h2_12 (Z ?_))
  exact .dn Y Y ⟨by unfold GE;first|(simp_all;done)|(simp_all;omega),rfl⟩
 refine .kDF (t:=6) Y h2_7 (Z ?_)
 exact .dn Y Y ⟨by unfold GE;first|(simp_all;done)|(simp_all;omega),rfl⟩
theorem Xl (va:Value) (ids:List Bs) (q:HP) (hq:∀h:Hp,q h→CA 1 h va ids.length (A1 ids)) (hn:ids.length≤4294967296) (s:Bs):Fn prog 191 #[va,AF s] [q] fun u L=>(∃r:Int,u=AA r∧(decide (r≥0)=decide (s∈ids)))∧L=[q]:=by
 refine Fn.intro func191 Y Y fun F W=>?_
 refine .rdAny (p:=q) hq O fun aa ca e _=>?_
 subst e
 refine Z ?_
 refine .loopK (ι:=Nat) (fun q E=>(8,AA q)::E) (fun q=>[]) (fun q=>q≤ids.length∧s∉ids.take q) (fun q=>ids.length-q) (0) (ts:=[0,1,7]) O (⟨Nat.zero_le _,by simp⟩) O O ?_
 rintro i ⟨hi,hb⟩
 refine Z ?_
 refine .condD Y (fun h9=>?_) (fun h9=>?_)
 ·have hi2:i<ids.length:=by omega
  refine .rdShape (p:=q) hq O om fun ba oa e=>?_
  subst e
  refine Z ?_
  refine .q (.indexAddr Y Y Br om) Y (.q (.loadEl (p:=q) (i:=i*1) (v:=AF ids[i]) Y HL O hq (by simp [A1,hi2])) Y (Z ?_))
  refine .condD Y (fun h16=>?_) (fun h16=>?_)
  ·refine Z ?_
   exact .dn Y Y ⟨⟨_,Y,by rw [decide_eq_true om,decide_eq_true (by rw [h16];exact getElem_mem hi2)]⟩,rfl⟩
  refine Z ?_
  exact .rk (i+1) (⟨by omega,by rw [take_succ_eq_append_getElem hi2,mem_append,mem_singleton];rintro (g|g);exact hb g;exact h16 g⟩) om O
 refine Z ?_
 exact .dn Y Y ⟨⟨_,Y,by rw [decide_eq_false dQ,decide_eq_false (by rw [take_of_length_le om] at hb;exact hb)]⟩,rfl⟩
theorem Uz (va:Value) (ids:List Bs) (q:HP) (hq:∀h:Hp,q h→CA 1 h va ids.length (A1 ids)) (hn:ids.length≤4294967296) (s:Bs):Fn prog 127 #[va,AF s] [q] fun u L=>u= .bool (decide (s∈ids))∧L=[q]:=by
 refine Fn.intro func127 Y Y fun F W=>?_
 refine Z ?_
 refine .oq (.c func191 [_,_] (Xl va ids q hq hn s)) ?_
 rintro v' L' ⟨⟨r,rfl,hrl⟩,rfl⟩
 refine Z ?_
 exact .dn Y Y ⟨congrArg Value.bool hrl,Y⟩
theorem Kz (ids:List Bs) {l:List Ac} {i:Nat} (h:i<l.length):ED ids (l.take (i+1))=if VL ids l[i]=true then orI (ED ids (l.take i)) l[i].1 else ED ids (l.take i):=by
 unfold ED
 rw [take_succ_eq_append_getElem h,foldl_append];rfl
theorem ABH (v:Value) (l:List Ac) (p:HP) (hr:∀h:Hp,p h→CA 2 h v l.length (l.flatMap CJ)) (hl:l.length≤4294967296) (perm:Int) (va:Value) (ids:List Bs) (q:HP) (hq:∀h:Hp,q h→CA 1 h va ids.length (A1 ids)) (hn:ids.length≤4294967296):Fn prog 252 #[v,AA perm,va] [p,q] fun u L=>u= .bool (ACy l perm ids)∧L=[p,q]:=by
 refine Fn.intro func252 Y Y fun F W=>?_
 refine .rdAny (p:=p) hr O fun aa ca e _=>?_
 subst e
 refine Z ?_
 refine .loopK (ι:=Nat) (fun q E=>(12,AA q)::(7,AA (ED ids (l.take q)))::E) (fun q=>[]) (fun q=>q≤l.length) (fun q=>l.length-q) (0) (ts:=[1,2,6,10,11]) O (Nat.zero_le _) O O ?_
 rintro i hi
 refine Z ?_
 refine .condD Y (fun h13=>?_) (fun h13=>?_)
 ·have hi2:i<l.length:=by omega
  refine .rdShape (p:=p) hr O om fun ba oa e=>?_
  subst e
  refine Z ?_
  refine .q (.indexAddr Y Y GN om) Y (.q (.loadRdA (sz:=2) (j:=i*2) (k:=2) (p:=p) (vs:=CJ l[i]) Y JP O hr (by simp) om om (BH (f:=CJ) (sz:=2) (fun _ _=>Y) om)) Y (.oq (.allocA EI) ?_))
  rintro v L' ⟨b9,rfl,rfl⟩
  refine .sa Y Y S1 (by simp [CJ,AB]) ?_
  refine .nil (.pc b9 (CJ l[i]) ?_)
  refine Z ?_
  refine .dec (t:=19) Y (fun h5_19=>?_) (fun h5_19=>?_)
  ·refine .kDT (t:=18) Y h5_19 (Z ?_)
   refine .u (.or Y Y) (Z ?_)
   have hg:ED ids (l.take (i+1))=orI (ED ids (l.take i)) l[i].1:=by rw [Kz ids hi2,if_pos (by unfold VL EC;first|(simp_all;done))]
   rw [show IntKind.i64.wrap (BitVec.ofInt IntKind.i64.bits (ED ids (l.take i)) ||| BitVec.ofInt IntKind.i64.bits l[i].1).toNat=ED ids (l.take (i+1)) from hg.symm]
   exact .rk (i+1) om om O
  refine .kDF (t:=18) Y h5_19 (Z ?_)
  refine .cv func127 [_,_] (Uz va ids q hq hn l[i].2) ?_
  refine Z ?_
  refine .condB Y (fun h24=>?_) (fun h24=>?_)
  ·refine Z ?_
   refine .u (.or Y Y) (Z ?_)
   have hg:ED ids (l.take (i+1))=orI (ED ids (l.take i)) l[i].1:=by rw [Kz ids hi2,if_pos (by unfold VL EC;first|(simp_all;done))]
   rw [show IntKind.i64.wrap (BitVec.ofInt IntKind.i64.bits (ED ids (l.take i)) ||| BitVec.ofInt IntKind.i64.bits l[i].1).toNat=ED ids (l.take (i+1)) from hg.symm]
   exact .rk (i+1) om om O
  refine Z ?_
  have hg:ED ids (l.take (i+1))=ED ids (l.take i):=by rw [Kz ids hi2,if_neg (by unfold VL EC;first|(simp_all;done))]
  rw [←hg]
  exact .rk (i+1) om om O
 have hie:i=l.length:=by omega
 rw [hie,take_length]
 refine Z ?_
 refine .dec (t:=32) Y (fun h8_32=>?_) (fun h8_32=>?_)
 ·refine .kDT (t:=31) Y h8_32 (Z ?_)
  refine .dec (t:=36) Y (fun h8_36=>?_) (fun h8_36=>?_)
  ·refine .kDT (t:=34) Y h8_36 (.kDT (t:=35) Y h8_36 (Z ?_))
   refine .u (.andNot Y Y) (Z ?_)
   exact .dn Y Y ⟨by unfold ACy YT;first|(simp_all;done)|(simp_all;rfl)|(simp_all;intros;omega),rfl⟩
  refine .kDF (t:=34) Y h8_36 (.kDF (t:=35) Y h8_36 (Z ?_))
  exact .dn Y Y ⟨by unfold ACy YT;first|(simp_all;done)|(simp_all;rfl)|(simp_all;intros;omega),rfl⟩
 refine .kDF (t:=31) Y h8_32 (Z ?_)
 exact .dn Y Y ⟨by unfold ACy YT;first|(simp_all;done)|(simp_all;rfl)|(simp_all;intros;omega),rfl⟩
def Bf (s:Bs):List Value:=s.map Co
abbrev Ex (v:Value) (s:Bs):HP:=At 5 1 v s.length (Bf s)
theorem C4 (s t:Bs):Bf (s++t)=Bf s++Bf t:=by simp [Bf]
theorem CK (s:Bs):(Bf s).length=s.length:=by simp [Bf]
theorem Fe (s:Bs):∀y∈Bf s,AB y=true:=by
 intro y hy;obtain ⟨c,-,rfl⟩:=mem_map.1 hy;rfl
def DU (u:Nat):Bs:=if u<128 then [UInt8.ofNat u] else UInt8.ofNat (u%128+128)::DU (u/128)
 termination_by u
 decreasing_by omega
def OP (n:Int):Nat:=if 0≤n then (2*n).toNat else (2*(-(n+1))+1).toNat
def NZ (u:Nat):Int:=if u%2=0 then (u/2:Nat) else -((u/2:Nat):Int)-1
def Bl (n:Int):Bs:=DU (OP n)
def BW (n:Nat):Bs:=DU n
def Bx (s:Bs):Bs:=BW s.length++s
abbrev Ds:Nat:=18446744073709551616
theorem AFz {n:Int}:NZ (OP n)=n:=by
 unfold NZ OP
 by_cases h:0≤n
 ·rw [if_pos h,if_pos om];omega
 ·rw [if_neg h,if_neg om];omega
theorem AGy (u:Nat):OP (NZ u)=u:=by
 unfold NZ OP
 by_cases h:u%2=0
 ·rw [if_pos h,if_pos om];omega
 ·rw [if_neg h,if_neg om];omega
theorem OR {n:Int} (h: -9223372036854775808≤n∧n≤9223372036854775807):OP n<Ds:=by
 unfold OP Ds;split<;>omega
theorem AAe {u:Nat} (h:u<Ds): -9223372036854775808≤NZ u∧NZ u≤9223372036854775807:=by
 unfold NZ;unfold Ds at h;split<;>omega
theorem AGw (u:Nat):0<(DU u).length:=by unfold DU;split<;>simp
theorem Xf:∀(k u:Nat),u<128^k→0<k→(DU u).length≤k:=by
 intro k
 induction k with
 |zero=>intro u _ h;omega
 |succ k ih=>
  intro u h _
  unfold DU
  split
  ·simp
  ·rename_i h1
   have h2:u/128<128^k:=by rw [Nat.pow_succ] at h;omega
   have h3:0<k:=by
    rcases Nat.eq_zero_or_pos k with rfl|h3
    ·simp at h;omega
    ·exact h3
   have:=ih _ h2 h3
   rw [length_cons];omega
theorem CN {u:Nat} (h:u<Ds):(DU u).length≤10:=Xf 10 u (Nat.lt_of_lt_of_le h dQ) dQ
def GH:Nat→Nat→Bs→Option (Nat×Bs)
 |_,_,[]=>none
 |k,u,c::s=>if (k=9∧1<c.toNat)∨(c.toNat=0∧0<k) then none else if c.toNat<128 then some (u+c.toNat%128*128^k,s) else GH (k+1) (u+c.toNat%128*128^k) s
abbrev Pa (α:Type):=Bs→Option (α×Bs)
def Mj:Pa Int:=fun s=>(GH 0 0 s).map fun x=>(NZ x.1,x.2)
def EN (most:Nat):Pa Nat:=fun s=>match GH 0 0 s with
 |some x=>if most<x.1 then none else some x
 |none=>none
def HX (most:Nat):Pa Bs:=fun s=>match EN most s with
 |some x=>if x.2.length<x.1 then none else some (x.2.take x.1,x.2.drop x.1)
 |none=>none
def ALG {α β:Type} (p:Pa α) (f:α→Pa β):Pa β:=fun s=>match p s with
 |some x=>f x.1 x.2
 |none=>none
theorem AIG (k:Nat):0<128^k:=Nat.pow_pos dQ
theorem Lo {u:Nat} (h:u<256):(UInt8.ofNat u).toNat=u:=by
 rw [UInt8.toNat_ofNat'];exact Nat.mod_eq_of_lt h
theorem Vm:∀(k u v:Nat) (r:Bs),v+u*128^k<Ds→k≤9→(0<k→0<u)→GH k v (DU u++r)=some (v+u*128^k,r)
 |k,u,v,r,h,hk,h0=>by
  unfold DU
  have hp:=AIG k
  split
  ·rename_i hu
   rw [singleton_append]
   unfold GH
   rw [Lo om,if_neg,if_pos hu,Nat.mod_eq_of_lt hu]
   rintro (⟨rfl,h1⟩|⟨h1,h2⟩)
   ·have:u*128^9<Ds:=by omega
    unfold Ds at this;omega
   ·have:=h0 h2;omega
  ·rename_i hu
   rw [cons_append]
   unfold GH
   rw [Lo om,if_neg,if_neg om]
   ·have hk9:k+1≤9:=by
     rcases Nat.lt_or_ge k 9 with h2|h2
     ·omega
     ·have:k=9:=by omega
      subst this
      have:u*128^9<Ds:=by omega
      unfold Ds at this;omega
    have e:v+(u%128+128)%128*128^k+u/128*128^(k+1)=v+u*128^k:=by
     rw [Nat.add_mod_right,Nat.mod_mod,Nat.pow_succ,Nat.add_assoc,Nat.mul_comm (128^k) 128,←Nat.mul_assoc,←Nat.add_mul]
     congr 2;omega
    rw [Vm (k+1) (u/128) _ r (by rw [e];exact h) hk9 (fun _=>by omega),e]
   ·rintro (⟨rfl,-⟩|⟨h1,-⟩)
    ·have:u*128^9<Ds:=by omega
     unfold Ds at this;omega
    ·omega
 termination_by _ u=>u
 decreasing_by omega
theorem MS {u:Nat} (h:u<Ds) (r:Bs):GH 0 0 (DU u++r)=some (u,r):=by
 have:=Vm 0 u 0 r om om (fun h=>absurd h dQ)
 simpa using this
theorem Tz:∀(k u:Nat) (s:Bs) (v:Nat) (r:Bs),GH k u s=some (v,r)→k≤9→u<128^k→∃x,v=u+x*128^k∧s=DU x++r∧(k+(DU x).length≤10)∧(k=9→x≤1)∧(0<k→0<x)
 |k,u,[],v,r,h,_,_=>by unfold GH at h;cases h
 |k,u,c::s,v,r,h,hk,hu=>by
  unfold GH at h
  split at h
  ·cases h
  ·rename_i h1
   have h9:k=9→c.toNat≤1:=fun e=>by
    rcases Nat.lt_or_ge 1 c.toNat with g|g
    ·exact absurd (.inl ⟨e,g⟩) h1
    ·exact g
   have h0:0<k→0<c.toNat:=fun e=>by
    rcases Nat.eq_zero_or_pos c.toNat with g|g
    ·exact absurd (.inr ⟨g,e⟩) h1
    ·exact g
   split at h
   ·rename_i h2
    simp only [Option.some.injEq,Prod.mk.injEq] at h
    obtain ⟨rfl,rfl⟩:=h
    have e:DU c.toNat=[c]:=by unfold DU;rw [if_pos h2];congr 1;exact UInt8.ofNat_toNat
    refine ⟨c.toNat,by rw [Nat.mod_eq_of_lt h2],by rw [e];rfl,by rw [e];simp;omega,h9,h0⟩
   ·rename_i h2
    have hk9:k+1≤9:=by
     rcases Nat.lt_or_ge k 9 with g|g
     ·omega
     ·have:=h9 om;omega
    have hc:=c.toNat_lt
    have hu':u+c.toNat%128*128^k<128^(k+1):=by
     have h3:c.toNat%128*128^k≤127*128^k:=Nat.mul_le_mul_right _ om
     rw [Nat.pow_succ];omega
    obtain ⟨x,e1,e2,e3,e4,e5⟩:=Tz (k+1) _ s v r h hk9 hu'
    have hx:=e5 om
    have e:DU (c.toNat%128+x*128)=c::DU x:=by
     rw [DU,if_neg om,show (c.toNat%128+x*128)/128=x by omega,show (c.toNat%128+x*128)%128+128=c.toNat by omega]
     congr 1;exact UInt8.ofNat_toNat
    refine ⟨c.toNat%128+x*128,?_,by rw [e,e2];rfl,by rw [e,length_cons];omega,fun g=>by omega,fun _=>by omega⟩
    rw [e1,Nat.pow_succ,Nat.add_mul,Nat.mul_comm (128^k) 128,←Nat.mul_assoc,Nat.add_assoc]
theorem Sh:∀(k u:Nat) (s:Bs) (v:Nat) (r:Bs),GH k u s=some (v,r)→k≤9→u<128^k→v<Ds
 |k,u,[],v,r,h,_,_=>by unfold GH at h;cases h
 |k,u,c::s,v,r,h,hk,hu=>by
  unfold GH at h
  split at h
  ·cases h
  ·rename_i h1
   have h9:k=9→c.toNat≤1:=fun e=>by
    rcases Nat.lt_or_ge 1 c.toNat with g|g
    ·exact absurd (.inl ⟨e,g⟩) h1
    ·exact g
   have h3:c.toNat%128*128^k≤127*128^k:=Nat.mul_le_mul_right _ om
   split at h
   ·simp only [Option.some.injEq,Prod.mk.injEq] at h
    obtain ⟨rfl,rfl⟩:=h
    rcases Nat.lt_or_ge k 9 with g|g
    ·have h4:128^k≤128^8:=Nat.pow_le_pow_right dQ om
     have e8:(128:Nat)^8=72057594037927936:=by decide
     unfold Ds;omega
    ·have:k=9:=by omega
     subst this
     have h5:=h9 rfl
     have h6:c.toNat%128*128^9≤1*128^9:=Nat.mul_le_mul_right _ om
     have e9:(128:Nat)^9=9223372036854775808:=by decide
     unfold Ds;omega
   ·have hk9:k+1≤9:=by
     rcases Nat.lt_or_ge k 9 with g|g
     ·omega
     ·have:=h9 om;omega
    exact Sh (k+1) _ s v r h hk9 (by rw [Nat.pow_succ];omega)
theorem QH {s:Bs} {v:Nat} {r:Bs} (h:GH 0 0 s=some (v,r)):s=DU v++r∧v<Ds:=by
 obtain ⟨x,e1,e2,e3,-,-⟩:=Tz 0 0 s v r h dQ dQ
 have e1:v=x:=by simpa using e1
 subst e1
 refine ⟨e2,?_⟩
 exact Sh 0 0 _ _ _ h dQ dQ
theorem K4 {n:Int} (h: -9223372036854775808≤n∧n≤9223372036854775807) (r:Bs):Mj (Bl n++r)=some (n,r):=by
 unfold Mj Bl
 rw [MS (OR h)]
 simp [AFz]
theorem Tm {s r:Bs} {n:Int} (h:Mj s=some (n,r)):s=Bl n++r∧ -9223372036854775808≤n∧n≤9223372036854775807:=by
 unfold Mj at h
 cases e:GH 0 0 s with
 |none=>rw [e] at h;cases h
 |some x=>
  obtain ⟨u,q⟩:=x
  rw [e] at h
  simp only [Option.map_some,Option.some.injEq,Prod.mk.injEq] at h
  obtain ⟨rfl,rfl⟩:=h
  obtain ⟨h1,h2⟩:=QH e
  unfold Bl
  rw [AGy]
  exact ⟨h1,AAe h2⟩
theorem Iw {n most:Nat} (h:n≤most) (hm:most<Ds) (r:Bs):EN most (BW n++r)=some (n,r):=by
 unfold EN BW
 rw [MS om]
 dsimp only
 rw [if_neg om]
theorem To {n most:Nat} (h:most<n) (hm:n<Ds) (r:Bs):EN most (BW n++r)=none:=by
 unfold EN BW
 rw [MS om]
 dsimp only
 rw [if_pos h]
theorem K7 {s r:Bs} {n most:Nat} (h:EN most s=some (n,r)):s=BW n++r∧n≤most:=by
 unfold EN at h
 cases e:GH 0 0 s with
 |none=>rw [e] at h;cases h
 |some x=>
  obtain ⟨u,q⟩:=x
  rw [e] at h
  dsimp only at h
  split at h
  ·cases h
  ·rename_i h1
   simp only [Option.some.injEq,Prod.mk.injEq] at h
   obtain ⟨rfl,rfl⟩:=h
   exact ⟨(QH e).1,by omega⟩
theorem LB {s:Bs} {most:Nat} (h:s.length≤most) (hm:most<Ds) (r:Bs):HX most (Bx s++r)=some (s,r):=by
 unfold HX Bx
 rw [append_assoc,Iw h hm]
 dsimp only
 rw [if_neg (by simp)]
 simp
theorem AEk {s:Bs} {most:Nat} (h:most<s.length) (hm:s.length<Ds) (r:Bs):HX most (Bx s++r)=none:=by
 unfold HX Bx
 rw [append_assoc,To h hm]
theorem PP {s r x:Bs} {most:Nat} (h:HX most s=some (x,r)):s=Bx x++r∧x.length≤most:=by
 unfold HX at h
 cases e:EN most s with
 |none=>rw [e] at h;cases h
 |some y=>
  obtain ⟨n,q⟩:=y
  rw [e] at h
  dsimp only at h
  split at h
  ·cases h
  ·rename_i h1
   simp only [Option.some.injEq,Prod.mk.injEq] at h
   obtain ⟨rfl,rfl⟩:=h
   obtain ⟨e1,e2⟩:=K7 e
   have hl:(q.take n).length=n:=by rw [length_take];omega
   refine ⟨?_,by omega⟩
   unfold Bx
   rw [hl,append_assoc,take_append_drop]
   exact e1
/-! ### A reader's state: what is still to be read, or that something was wrong -/
abbrev Rs:=Option Bs
def runP {α:Type} (d:α) (p:Pa α):Rs→α×Rs
  |none=>(d,none)
  |some s=>match p s with
    |some x=>(x.1,some x.2)
    |none=>(d,none)
abbrev Aw (n:Int):Prop:= -9223372036854775808≤n∧n≤9223372036854775807
abbrev AR:Value:= .slice none 0 0
def Hw (a:Ac):Bs:=Bl a.1++Bx a.2
def EA (l:List Ac):Bs:=BW l.length++l.flatMap Hw
def HT (y:Pt):Bs:=Bl y.kind++Bx y.path++Bx y.data++EA y.acl++[y.own,y.num,y.err].flatMap Bl
def If (l:List Pt):Bs:=BW l.length++l.flatMap HT
def Cb (e:En):Bs:=[e.zx,e.ses,e.xid].flatMap Bl++HT e.x++If e.subs
def Pt.pl (y:Pt):Pt:=⟨y.kind,y.path,y.data,AR,y.acl,y.own,y.num,y.err,AR⟩
def En.pl (e:En):En:=⟨e.zx,e.ses,e.xid,e.x.pl,e.subs.map Pt.pl⟩
theorem Ny (l:List Pt):If (l.map Pt.pl)=If l:=by
 unfold If
 rw [length_map,flatMap_map];rfl
theorem Rr (e:En):Cb e.pl=Cb e:=by
 unfold Cb
 rw [show e.pl.subs=e.subs.map Pt.pl from rfl,Ny];rfl
/-! ### Readings, whatever the state -/
abbrev Rn (α:Type):=Rs→α×Rs
def Ir {α:Type} (x:α):Rn α:=fun st=>(x,st)
def B1 {α β:Type} (f:Rn α) (g:α→Rn β):Rn β:=fun st=>g (f st).1 (f st).2
def AJ {α:Type} (f:Rn α):Nat→Rn (List α)
 |0,st=>([],st)
 |n+1,st=>((AJ f n st).1++[(f (AJ f n st).2).1],(f (AJ f n st).2).2)
def AS:Rn Int:=runP 0 Mj
def Ag:Rn Bs:=runP [] (HX 4096)
def BU:Rn Nat:=runP 0 (EN 256)
def CD {α:Type} (f:Rn α):Rn (List α):=B1 BU (AJ f)
def Et:Rn Ac:=B1 AS fun n=>B1 Ag fun s=>Ir (n,s)
def NM:Rn Pt:=B1 AS fun k=>B1 Ag fun p=>B1 Ag fun d=>B1 (CD Et) fun l=>B1 AS fun o=>B1 AS fun n=>B1 AS fun x=>Ir ⟨k,p,d,AR,l,o,n,x,AR⟩
def enR:Rn En:=B1 AS fun z=>B1 AS fun s=>B1 AS fun x=>B1 NM fun y=>B1 (CD NM) fun l=>Ir ⟨z,s,x,y,l⟩
def ADg (x:En×Rs):Option En:=match x with
 |(q,some [])=>some q
 |_=>none
def Fg (s:Bs):Option En:=ADg (enR (some s))
def Bq {α:Type} (f:Rn α):Prop:=(f none).2=none
theorem Bq.ret {α:Type} (x:α):Bq (Ir x):=rfl
theorem Bq.run {α:Type} (d:α) (p:Pa α):Bq (runP d p):=rfl
theorem Bq.bind {α β:Type} {f:Rn α} {g:α→Rn β} (hf:Bq f) (hg:∀x,Bq (g x)):Bq (B1 f g):=by
 unfold Bq B1
 rw [hf];exact hg _
theorem Bq.many {α:Type} {f:Rn α} (hf:Bq f):∀n,Bq (AJ f n)
 |0=>rfl
 |n+1=>by
  have h:=Bq.many hf n
  unfold Bq at h ⊢
  show (f (AJ f n none).2).2=none
  rw [h];exact hf
theorem Bq.rows {α:Type} {f:Rn α} (hf:Bq f):Bq (CD f):= .bind (.run _ _) (.many hf)
theorem D6:Bq Et:= .bind (.run _ _) fun _=> .bind (.run _ _) fun _=> .ret _
theorem El:Bq NM:= .bind (.run _ _) fun _=> .bind (.run _ _) fun _=> .bind (.run _ _) fun _=> .bind (.rows D6) fun _=> .bind (.run _ _) fun _=> .bind (.run _ _) fun _=> .bind (.run _ _) fun _=> .ret _
def Cf {α:Type} (f:Rn α) (b:Bs) (x:α):Prop:= ∀r,f (some (b++r))=(x,some r)∨(f (some (b++r))).2=none
theorem Cf.bind {α β:Type} {f:Rn α} {g:α→Rn β} {b c:Bs} {x:α} {y:β} (hf:Cf f b x) (hs:∀x,Bq (g x)) (hg:Cf (g x) c y):Cf (B1 f g) (b++c) y:=by
 intro r
 rw [append_assoc]
 rcases hf (c++r) with h|h
 ·unfold B1;rw [h];exact hg r
 ·right;unfold B1;rw [h];exact hs _
theorem Cf.end_ {α β:Type} {f:Rn α} {g:α→β} {b:Bs} {x:α} (hf:Cf f b x):Cf (B1 f fun x=>Ir (g x)) b (g x):=by
 intro r
 rcases hf r with h|h
 ·left;unfold B1 Ir;rw [h]
 ·right;unfold B1 Ir;exact h
theorem F5 {n:Int} (h:Aw n):Cf AS (Bl n) n:=fun r=> .inl (by unfold AS runP;dsimp only;rw [K4 h])
theorem OU {s:Bs} (h:s.length<Ds):Cf Ag (Bx s) s:=fun r=>by
 unfold Ag runP
 dsimp only
 rcases Nat.lt_or_ge 4096 s.length with g|g
 ·right;rw [AEk g h]
 ·left;rw [LB g dQ]
theorem ACj {n:Nat} (h:n<Ds):Cf BU (BW n) n:=fun r=>by
 unfold BU runP
 dsimp only
 rcases Nat.lt_or_ge 256 n with g|g
 ·right;rw [To g h]
 ·left;rw [Iw g dQ]
theorem RA {α:Type} {f:Rn α} {E:α→Bs} (hs:Bq f) {l:List α} (h:∀x∈l,Cf f (E x) x):∀i,i≤l.length→Cf (AJ f i) ((l.take i).flatMap E) (l.take i)
 |0,_=>by rw [take_zero];exact fun r=> .inl rfl
 |i+1,hi=>by
  have ih:=RA hs h i om
  rw [take_succ_eq_append_getElem om,flatMap_append]
  intro r
  rw [append_assoc]
  have hx:=h l[i] (getElem_mem om)
  rcases ih ([l[i]].flatMap E++r) with g|g
  ·have e:[l[i]].flatMap E=E l[i]:=by simp
   rcases hx r with k|k
   ·left
    show ((AJ f i _).1++[(f (AJ f i _).2).1],(f (AJ f i _).2).2)=_
    rw [g,e,k]
   ·right
    show (f (AJ f i _).2).2=none
    rw [g,e,k]
  ·right
   show (f (AJ f i _).2).2=none
   rw [g];exact hs
theorem Qx {α:Type} {f:Rn α} {E:α→Bs} (hs:Bq f) {l:List α} (hl:l.length<Ds) (h:∀x∈l,Cf f (E x) x):Cf (CD f) (BW l.length++l.flatMap E) l:=by
 have:=RA hs h l.length (Nat.le_refl _)
 rw [take_length] at this
 exact Cf.bind (ACj hl) (fun n=> .many hs n) this
/-! ### What may be laid -/
structure AcI (a:Ac):Prop where
 n:Aw a.1
 s:a.2.length<Ds
structure PtI (y:Pt):Prop where
 kind:Aw y.kind
 own:Aw y.own
 num:Aw y.num
 err:Aw y.err
 path:y.path.length<Ds
 data:y.data.length<Ds
 many:y.acl.length<Ds
 acl:∀a∈y.acl,AcI a
structure EnI (e:En):Prop where
 zx:Aw e.zx
 ses:Aw e.ses
 xid:Aw e.xid
 x:PtI e.x
 many:e.subs.length<Ds
 subs:∀y∈e.subs,PtI y
theorem AGT {a:Ac} (h:AcI a):Cf Et (Hw a) a:=
 Cf.bind (F5 h.n) (fun _=> .bind (.run _ _) fun _=> .ret _) (Cf.end_ (g:=fun s=>(a.1,s)) (OU h.s))
theorem Za {y:Pt} (h:PtI y):Cf NM (HT y) y.pl:=by
 have e:HT y=Bl y.kind++(Bx y.path++(Bx y.data++(EA y.acl++(Bl y.own++(Bl y.num++Bl y.err))))):=by
  unfold HT;simp [append_assoc]
 rw [e]
 refine Cf.bind (F5 h.kind) (fun _=> .bind (.run _ _) fun _=> .bind (.run _ _) fun _=> .bind (.rows D6) fun _=> .bind (.run _ _) fun _=> .bind (.run _ _) fun _=> .bind (.run _ _) fun _=> .ret _) (Cf.bind (OU h.path) (fun _=> .bind (.run _ _) fun _=> .bind (.rows D6) fun _=> .bind (.run _ _) fun _=> .bind (.run _ _) fun _=> .bind (.run _ _) fun _=> .ret _) (Cf.bind (OU h.data) (fun _=> .bind (.rows D6) fun _=> .bind (.run _ _) fun _=> .bind (.run _ _) fun _=> .bind (.run _ _) fun _=> .ret _) (Cf.bind (Qx D6 h.many fun a ha=>AGT (h.acl a ha)) (fun _=> .bind (.run _ _) fun _=> .bind (.run _ _) fun _=> .bind (.run _ _) fun _=> .ret _) (Cf.bind (F5 h.own) (fun _=> .bind (.run _ _) fun _=> .bind (.run _ _) fun _=> .ret _) (Cf.bind (F5 h.num) (fun _=> .bind (.run _ _) fun _=> .ret _) ?_)))))
 exact Cf.end_ (g:=fun x=>(⟨y.kind,y.path,y.data,AR,y.acl,y.own,y.num,x,AR⟩:Pt)) (F5 h.err)
theorem PtI.pl {y:Pt} (h:PtI y):PtI y.pl:=⟨h.kind,h.own,h.num,h.err,h.path,h.data,h.many,h.acl⟩
theorem AG7 {e:En} (h:EnI e):Cf enR (Cb e) e.pl:=by
 have e1:Cb e=Bl e.zx++(Bl e.ses++(Bl e.xid++(HT e.x++(BW (e.subs.map Pt.pl).length++(e.subs.map Pt.pl).flatMap HT)))):=by
  have:BW (e.subs.map Pt.pl).length++(e.subs.map Pt.pl).flatMap HT=If e.subs:=Ny e.subs
  rw [this]
  unfold Cb;simp [append_assoc]
 rw [e1]
 refine Cf.bind (F5 h.zx) (fun _=> .bind (.run _ _) fun _=> .bind (.run _ _) fun _=> .bind El fun _=> .bind (.rows El) fun _=> .ret _) (Cf.bind (F5 h.ses) (fun _=> .bind (.run _ _) fun _=> .bind El fun _=> .bind (.rows El) fun _=> .ret _) (Cf.bind (F5 h.xid) (fun _=> .bind El fun _=> .bind (.rows El) fun _=> .ret _) (Cf.bind (Za h.x) (fun _=> .bind (.rows El) fun _=> .ret _) (Cf.end_ (g:=fun l=>(⟨e.zx,e.ses,e.xid,e.x.pl,l⟩:En)) (Qx El (by rw [length_map];exact h.many) fun y hy=>?_)))))
 obtain ⟨z,hz,rfl⟩:=mem_map.1 hy
 exact Za (h.subs z hz).pl
theorem ACn {e q:En} (h:EnI e) (hg:Fg (Cb e)=some q):q=e.pl:=by
 have hb:=AG7 h []
 rw [append_nil] at hb
 unfold Fg at hg
 rcases hb with hb|hb
 ·rw [hb] at hg;exact (Option.some.inj hg).symm
 ·unfold ADg at hg
  split at hg
  ·rename_i q' heq
   rw [heq] at hb;cases hb
  ·cases hg
/-! ### What is read was laid so -/
theorem bind_some {α β:Type} {f:Rn α} {g:α→Rn β} (hs:∀x,Bq (g x)) {st:Rs} {z:β} {r:Bs} (h:B1 f g st=(z,some r)):∃y s',f st=(y,some s')∧g y (some s')=(z,some r):=by
 unfold B1 at h
 cases e:(f st).2 with
 |none=>
  rw [e] at h
  have:=hs (f st).1
  unfold Bq at this
  rw [h] at this;cases this
 |some s'=>
  rw [e] at h
  exact ⟨(f st).1,s',by rw [←e],h⟩
theorem I1 {s r:Bs} {n:Int} (h:AS (some s)=(n,some r)):s=Bl n++r∧Aw n:=by
 unfold AS runP at h
 dsimp only at h
 split at h
 ·rename_i x hx
  simp only [Prod.mk.injEq,Option.some.injEq] at h
  obtain ⟨rfl,rfl⟩:=h
  exact Tm hx
 ·cases h
theorem L4 {s r x:Bs} (h:Ag (some s)=(x,some r)):s=Bx x++r∧x.length≤4096:=by
 unfold Ag runP at h
 dsimp only at h
 split at h
 ·rename_i y hy
  simp only [Prod.mk.injEq,Option.some.injEq] at h
  obtain ⟨rfl,rfl⟩:=h
  exact PP hy
 ·cases h
theorem O8 {s r:Bs} {n:Nat} (h:BU (some s)=(n,some r)):s=BW n++r∧n≤256:=by
 unfold BU runP at h
 dsimp only at h
 split at h
 ·rename_i y hy
  simp only [Prod.mk.injEq,Option.some.injEq] at h
  obtain ⟨rfl,rfl⟩:=h
  exact K7 hy
 ·cases h
theorem Hn {α:Type} {f:Rn α} {E:α→Bs} {Q:α→Prop} (hs:Bq f) (hf:∀s x r,f (some s)=(x,some r)→s=E x++r∧Q x):∀n s l r,AJ f n (some s)=(l,some r)→s=l.flatMap E++r∧l.length=n∧∀x∈l,Q x
 |0,s,l,r,h=>by
  simp only [AJ,Prod.mk.injEq,Option.some.injEq] at h
  obtain ⟨rfl,rfl⟩:=h
  exact ⟨rfl,rfl,fun x hx=>by cases hx⟩
 |n+1,s,l,r,h=>by
  simp only [AJ,Prod.mk.injEq] at h
  obtain ⟨rfl,h2⟩:=h
  cases e:(AJ f n (some s)).2 with
  |none=>rw [e] at h2;unfold Bq at hs;rw [hs] at h2;cases h2
  |some s'=>
   rw [e] at h2
   obtain ⟨h3,h4,h5⟩:=Hn hs hf n s (AJ f n (some s)).1 s' (by rw [←e])
   obtain ⟨h6,h7⟩:=hf s' (f (some s')).1 r (by rw [←h2])
   refine ⟨?_,by simp [h4],fun x hx=>?_⟩
   ·rw [flatMap_append,append_assoc]
    simp only [flatMap_cons,flatMap_nil,append_nil]
    rw [←h6,←h3]
   ·rcases mem_append.1 hx with hx|hx
    ·exact h5 x hx
    ·rw [mem_singleton] at hx;subst hx;exact h7
theorem AAH {α:Type} {f:Rn α} {E:α→Bs} {Q:α→Prop} (hs:Bq f) (hf:∀s x r,f (some s)=(x,some r)→s=E x++r∧Q x) {s:Bs} {l:List α} {r:Bs} (h:CD f (some s)=(l,some r)):s=BW l.length++l.flatMap E++r∧l.length≤256∧∀x∈l,Q x:=by
 obtain ⟨n,s',h1,h2⟩:=bind_some (fun n=> .many hs n) h
 obtain ⟨h3,h4⟩:=O8 h1
 obtain ⟨h5,h6,h7⟩:=Hn hs hf n s' l r h2
 subst h6
 exact ⟨by rw [h3,h5,append_assoc],h4,h7⟩
def FM (w:Nat) (bs:Bs):HP:=fun h=> ∃y:Option Addr×Nat,True∧CP [AW w [.slice y.1 bs.length y.2,AA 0] 235,Ex (.slice y.1 bs.length y.2) bs] h
def L9 (r:Nat) (s:Bs) (at':Nat) (e:Int):HP:=fun h=> ∃y:Nat×Nat,(at'≤s.length∧s.length≤70368744177664)∧CP [AW r [.slice (some ⟨y.1,0,none⟩) s.length y.2,AA at',AA e] 259,Ex (.slice (some ⟨y.1,0,none⟩) s.length y.2) s] h
def FN (s:Bs) (at':Nat) (e:Int):Rs:=if e=0 then some (s.drop at') else none
def FK (r:Nat) (st:Rs):HP:=fun h=> ∃y:Bs×(Nat×Int),FN y.1 y.2.1 y.2.2=st∧CP [L9 r y.1 y.2.1 y.2.2] h
section
variable {P:Program} {W:World} {n:Nat} {ds:List Deferred} {E:Bi} {L R:List HP} {X:Act→World→Prop}
theorem G.wrOpen {w:Nat} {bs:Bs} (hL:BJ (FM w bs) L R) (h:∀a c,G W n ds E (AW w [.slice a bs.length c,AA 0] 235::Ex (.slice a bs.length c) bs::R) X):G W n ds E L X:=
 G.focus hL (G.open (q:=fun y:Option Addr×Nat=>[AW w [.slice y.1 bs.length y.2,AA 0] 235,Ex (.slice y.1 bs.length y.2) bs]) (φ:=fun _=>True) (fun _ hp=>hp) fun y _=>h y.1 y.2)
theorem G.wrFold {w:Nat} (bs:Bs) {l xs:List Value} {a:Option Addr} {c m:Nat} (hL:A4 [AW w l 235,At 5 1 (.slice a m c) m xs] L R) (hl:l=[.slice a m c,AA 0]) (hm:m=bs.length) (hx:xs=Bf bs) (h:G W n ds E (FM w bs::R) X):G W n ds E L X:=by
 subst hl;subst hm;subst hx
 exact G.fold hL (fun _ hp=>⟨(a,c),trivial,hp⟩) h
theorem G.rdOpen {r:Nat} {s:Bs} {k:Nat} {e:Int} (hL:BJ (L9 r s k e) L R) (h:∀a c,k≤s.length→s.length≤70368744177664→G W n ds E (AW r [.slice (some ⟨a,0,none⟩) s.length c,AA k,AA e] 259::Ex (.slice (some ⟨a,0,none⟩) s.length c) s::R) X):G W n ds E L X:=
 G.focus hL (G.open (q:=fun y:Nat×Nat=>[AW r [.slice (some ⟨y.1,0,none⟩) s.length y.2,AA k,AA e] 259,Ex (.slice (some ⟨y.1,0,none⟩) s.length y.2) s]) (φ:=fun _=>k≤s.length∧s.length≤70368744177664) (fun _ hp=>hp) fun y hy=>h y.1 y.2 hy.1 hy.2)
theorem G.rdFold {r:Nat} (s:Bs) (k:Nat) (e:Int) {l:List Value} {a c:Nat} (hL:A4 [AW r l 259,Ex (.slice (some ⟨a,0,none⟩) s.length c) s] L R) (hl:l=[.slice (some ⟨a,0,none⟩) s.length c,AA k,AA e]) (hk:k≤s.length) (hs:s.length≤70368744177664) (h:G W n ds E (L9 r s k e::R) X):G W n ds E L X:=by
 subst hl
 exact G.fold hL (fun _ hp=>⟨(a,c),⟨hk,hs⟩,hp⟩) h
theorem Fn.rdUp {f:FuncId} {args:Array Value} {r:Nat} {α:Type} {d:α} {p:Pa α} {v:α→Value} (h:∀s k e,Fn P f args [L9 r s k e] fun u L=> ∃k' e',FN s k' e'=(runP d p (FN s k e)).2∧u=v (runP d p (FN s k e)).1∧L=[L9 r s k' e']) (st:Rs):
  Fn P f args [FK r st] fun u L=>u=v (runP d p st).1∧L=[FK r (runP d p st).2]:=by
 intro F w hs
 obtain ⟨h1,h2,hd,a1,a2,⟨y,hy,hp⟩,hF⟩:=hs
 subst hy
 have hs':St ([L9 r y.1 y.2.1 y.2.2]++F) w:=Eu ⟨h1,h2,hd,a1,a2,hp,hF⟩
 refine (h _ _ _ F w hs').mono ?_
 rintro e w' ⟨u,L,⟨k',e',h3,rfl,rfl⟩,he,hs2,hk⟩
 refine ⟨_,_,⟨rfl,rfl⟩,he,B0 (fun hh hq=>⟨(y.1,(k',e')),h3,hh,fun _=>none,fun _=> .inr rfl,fun _ _ e=>e,fun _ _ e=>(by cases e),hq,trivial⟩) hs2,hk⟩
theorem Fn.rdEnd {f:FuncId} {args:Array Value} {r:Nat} (h:∀s k e,Fn P f args [L9 r s k e] fun u L=> ∃e1,(e1=0↔FN s k e=some [])∧u=AA e1∧L=[L9 r s k e1]) (st:Rs):
  Fn P f args [FK r st] fun u L=> ∃e1,(e1=0↔st=some [])∧u=AA e1∧∃st',L=[FK r st']:=by
 intro F w hs
 obtain ⟨h1,h2,hd,a1,a2,⟨y,hy,hp⟩,hF⟩:=hs
 subst hy
 have hs':St ([L9 r y.1 y.2.1 y.2.2]++F) w:=Eu ⟨h1,h2,hd,a1,a2,hp,hF⟩
 refine (h _ _ _ F w hs').mono ?_
 rintro e w' ⟨u,L,⟨e1,h3,rfl,rfl⟩,he,hs2,hk⟩
 refine ⟨_,_,⟨e1,h3,rfl,_,rfl⟩,he,B0 (fun hh hq=>⟨(y.1,(y.2.1,e1)),rfl,hh,fun _=>none,fun _=> .inr rfl,fun _ _ e=>e,fun _ _ e=>(by cases e),hq,trivial⟩) hs2,hk⟩
theorem AI0 {r:Nat} {s:Bs} {k:Nat} {e:Int} {h:Hp} (hp:CP [L9 r s k e] h):FK r (FN s k e) h:=⟨(s,(k,e)),rfl,hp⟩
theorem G.rdUpF {r:Nat} {s:Bs} {k:Nat} {e:Int} {st:Rs} (hL:BJ (L9 r s k e) L R) (hs:FN s k e=st) (h:G W n ds E (FK r st::R) X):G W n ds E L X:=by
 subst hs;exact G.fold (.cons hL .nil) (fun _ hp=>AI0 hp) h
end
theorem AF2 {b i j c:Nat} {s:Bs} {h:Hp} (hi:i≤j) (hj:j≤s.length) (hp:Ex (.slice (some ⟨b,0,none⟩) s.length c) s h):CA 1 h (.slice (some (if c=i then ⟨b,0,none⟩ else ⟨b,0+i*1,none⟩)) (j-i) (c-i)) ((s.take j).drop i).length (((s.take j).drop i).map Co):=by
 obtain ⟨⟨rest,fr⟩,h1,h2,h3,h4,h5⟩:=No hp
 have hl:((s.take j).drop i).length=j-i:=by rw [length_drop,length_take];omega
 rcases Nat.lt_or_ge i j with g|g
 ·refine .inr ⟨b,i,c-i,Bf s++rest,5,fr,?_,h1,?_,?_,by omega⟩
  ·rw [if_neg om,hl];simp
  ·rw [hl,Nat.mul_one,drop_append_of_le_length (by simp [Bf];omega),take_append_of_le_length (by simp [Bf];omega)]
   unfold Bf
   rw [←map_drop,←map_take,drop_take]
  ·rw [hl];simp [Bf];omega
 ·refine .inl ⟨by omega,?_,?_⟩
  ·rw [drop_eq_nil_of_le (by rw [length_take];omega)];rfl
  ·rw [show j-i=0 by omega];exact ⟨_,_,rfl⟩
/-! ### Bits -/
theorem ES (x:Int):IntKind.u64.wrap x=x%18446744073709551616:=rfl
theorem SW (x:Int):IntKind.u8.wrap x=x%256:=rfl
theorem AIc:∀b:BitVec 8,(b ||| 128#8).toNat=b.toNat%128+128:=by decide+kernel
theorem AGO (u:Nat):Value.int .u8 (IntKind.u8.wrap (BitVec.ofInt IntKind.u8.bits (IntKind.u8.wrap (u:Int)) ||| BitVec.ofInt IntKind.u8.bits 128).toNat)=Co (UInt8.ofNat (u%128+128)):=by
 show Value.int .u8 _=Value.int .u8 _
 congr 1
 have h:(BitVec.ofInt 8 (IntKind.u8.wrap (u:Int)) ||| BitVec.ofInt 8 128).toNat=u%128+128:=by
  rw [show BitVec.ofInt 8 128=128#8 from rfl,AIc,BitVec.toNat_ofInt,SW]
  omega
 show IntKind.u8.wrap ((BitVec.ofInt 8 (IntKind.u8.wrap (u:Int)) ||| BitVec.ofInt 8 128).toNat:Int)=_
 rw [h,SW,Lo om]
 omega
theorem AEM {u:Nat} (h:u<128):Value.int .u8 (IntKind.u8.wrap (u:Int))=Co (UInt8.ofNat u):=by
 show Value.int .u8 _=Value.int .u8 _
 rw [SW,Lo om]
 congr 1;omega
theorem ADt {n:Int} (h: -9223372036854775808≤n∧n≤9223372036854775807):IntKind.u64.wrap (BitVec.ofInt IntKind.u64.bits (IntKind.u64.wrap (IntKind.u64.wrap n*2^min (1:Int).toNat IntKind.u64.bits))^^^BitVec.ofInt IntKind.u64.bits (IntKind.u64.wrap (n.fdiv (2^min (63:Int).toNat IntKind.i64.bits)))).toNat=(OP n:Int):=by
 have e1:(2:Int)^min (1:Int).toNat IntKind.u64.bits=2:=rfl
 have e2:(2:Int)^min (63:Int).toNat IntKind.i64.bits=9223372036854775808:=rfl
 rw [e1,e2,Int.fdiv_eq_ediv_of_nonneg _ dQ]
 show IntKind.u64.wrap ((BitVec.ofInt 64 (IntKind.u64.wrap (IntKind.u64.wrap n*2))^^^BitVec.ofInt 64 (IntKind.u64.wrap (n/9223372036854775808))).toNat:Int)=_
 unfold OP
 by_cases h0:0≤n
 ·rw [if_pos h0,show n/9223372036854775808=0 by omega,show BitVec.ofInt 64 (IntKind.u64.wrap 0)=0#64 from rfl,BitVec.xor_zero,BitVec.toNat_ofInt,ES,ES,ES]
  omega
 ·rw [if_neg h0,show n/9223372036854775808= -1 by omega,show BitVec.ofInt 64 (IntKind.u64.wrap (-1))=BitVec.allOnes 64 from rfl,BitVec.xor_allOnes,BitVec.toNat_not,BitVec.toNat_ofInt,ES,ES,ES]
  omega
theorem ADb (u:Nat):IntKind.u64.wrap (BitVec.ofInt IntKind.u64.bits (u:Int) &&& BitVec.ofInt IntKind.u64.bits 1).toNat=((u%2:Nat):Int):=by
 show IntKind.u64.wrap ((BitVec.ofInt 64 (u:Int) &&& BitVec.ofInt 64 1).toNat:Int)=_
 have h:(BitVec.ofInt 64 (u:Int) &&& BitVec.ofInt 64 1).toNat=u%2:=by
  rw [BitVec.toNat_and,show (BitVec.ofInt 64 1).toNat=1 from rfl,Nat.and_one_is_mod,BitVec.toNat_ofInt]
  have e:((2^64:Nat):Int)=18446744073709551616:=rfl
  rw [e];omega
 rw [h,ES];omega
theorem ADW {u:Nat} (h:u<Ds):IntKind.i64.wrap (BitVec.ofInt IntKind.i64.bits (IntKind.i64.wrap ((u:Int).fdiv (2^min (1:Int).toNat IntKind.u64.bits)))^^^BitVec.ofInt IntKind.i64.bits (-((u%2:Nat):Int))).toNat=NZ u:=by
 have e1:(2:Int)^min (1:Int).toNat IntKind.u64.bits=2:=rfl
 have e64:((2^64:Nat):Int)=18446744073709551616:=rfl
 unfold Ds at h
 rw [e1,Int.fdiv_eq_ediv_of_nonneg _ dQ]
 show IntKind.i64.wrap ((BitVec.ofInt 64 (IntKind.i64.wrap ((u:Int)/2))^^^BitVec.ofInt 64 (-((u%2:Nat):Int))).toNat:Int)=_
 have e3:IntKind.i64.wrap ((u:Int)/2)=(u:Int)/2:=JA om
 rw [e3]
 unfold NZ
 by_cases h0:u%2=0
 ·rw [if_pos h0,h0,show BitVec.ofInt 64 (-((0:Nat):Int))=0#64 from rfl,BitVec.xor_zero,BitVec.toNat_ofInt,HO,e64]
  omega
 ·rw [if_neg h0,show u%2=1 by omega,show BitVec.ofInt 64 (-((1:Nat):Int))=BitVec.allOnes 64 from rfl,BitVec.xor_allOnes,BitVec.toNat_not,BitVec.toNat_ofInt,HO,e64]
  omega
theorem AFK:∀b:BitVec 8,(b &&& 127#8).toNat=b.toNat%128:=by decide+kernel
theorem ADs (c:UInt8):IntKind.u64.wrap (IntKind.u8.wrap (BitVec.ofInt IntKind.u8.bits (c.toNat:Int) &&& BitVec.ofInt IntKind.u8.bits 127).toNat)=((c.toNat%128:Nat):Int):=by
 have hc:=c.toNat_lt
 have h:(BitVec.ofInt 8 (c.toNat:Int) &&& BitVec.ofInt 8 127).toNat=c.toNat%128:=by
  rw [show BitVec.ofInt 8 127=127#8 from rfl,AFK,BitVec.toNat_ofInt]
  have e:((2^8:Nat):Int)=256:=rfl
  rw [e];omega
 show IntKind.u64.wrap (IntKind.u8.wrap ((BitVec.ofInt 8 (c.toNat:Int) &&& BitVec.ofInt 8 127).toNat:Int))=_
 rw [h,SW,ES];omega
theorem AHq (k:Nat):(2:Nat)^(7*k)=128^k:=by rw [Nat.pow_mul]
theorem AC7 {k u x:Nat} (hk:k≤9) (hu:u<128^k) (hx:x<128) (h9:k=9→x≤1):
  IntKind.u64.wrap (BitVec.ofInt IntKind.u64.bits (u:Int) ||| BitVec.ofInt IntKind.u64.bits (IntKind.u64.wrap ((x:Int)*2^min (7*(k:Int)).toNat IntKind.u64.bits))).toNat=((u+x*128^k:Nat):Int):=by
 have em:min (7*(k:Int)).toNat IntKind.u64.bits=7*k:=by
  have:IntKind.u64.bits=64:=rfl
  omega
 have hb:x*128^k<18446744073709551616:=by
  rcases Nat.lt_or_ge k 9 with g|g
  ·have h4:128^k≤128^8:=Nat.pow_le_pow_right dQ om
   have e8:(128:Nat)^8=72057594037927936:=by decide
   have:x*128^k≤127*128^8:=Nat.mul_le_mul om h4
   omega
  ·have:k=9:=by omega
   subst this
   have:=h9 rfl
   have e9:(128:Nat)^9=9223372036854775808:=by decide
   have:x*128^9≤1*128^9:=Nat.mul_le_mul_right _ om
   omega
 have hu64:u<18446744073709551616:=by
  have h4:128^k≤128^9:=Nat.pow_le_pow_right dQ hk
  have e9:(128:Nat)^9=9223372036854775808:=by decide
  omega
 have hs:u+x*128^k<18446744073709551616:=by
  rcases Nat.lt_or_ge k 9 with g|g
  ·have h4:128^(k+1)≤128^9:=Nat.pow_le_pow_right dQ om
   have e9:(128:Nat)^9=9223372036854775808:=by decide
   have:x*128^k≤127*128^k:=Nat.mul_le_mul_right _ om
   rw [Nat.pow_succ] at h4
   omega
  ·have:k=9:=by omega
   subst this
   have:=h9 rfl
   have e9:(128:Nat)^9=9223372036854775808:=by decide
   have:x*128^9≤1*128^9:=Nat.mul_le_mul_right _ om
   omega
 rw [em]
 have e2:(x:Int)*2^(7*k)=((x*128^k:Nat):Int):=by
  rw [←AHq];simp
 have e4:IntKind.u64.wrap ((x*128^k:Nat):Int)=((x*128^k:Nat):Int):=by rw [ES];exact Int.emod_eq_of_lt om om
 rw [e2,e4]
 show IntKind.u64.wrap ((BitVec.ofInt 64 (u:Int) ||| BitVec.ofInt 64 ((x*128^k:Nat):Int)).toNat:Int)=_
 have e3:(BitVec.ofInt 64 (u:Int) ||| BitVec.ofInt 64 ((x*128^k:Nat):Int)).toNat=u+x*128^k:=by
  have e64:((2^64:Nat):Int)=18446744073709551616:=rfl
  have f1:(BitVec.ofInt 64 (u:Int)).toNat=u:=by rw [BitVec.toNat_ofInt,e64];omega
  have f2:(BitVec.ofInt 64 ((x*128^k:Nat):Int)).toNat=x*128^k:=by rw [BitVec.toNat_ofInt,e64];omega
  rw [BitVec.toNat_or,f1,f2,Nat.or_comm,←AHq,←Nat.shiftLeft_eq,←Nat.shiftLeft_add_eq_or_of_lt (by rw [AHq];exact hu),Nat.add_comm]
 rw [e3,ES]
 omega
theorem HV:Fn prog 79 #[] [] fun v L=> ∃w,v=AD w∧L=[FM w []]:=by
 refine Fn.intro func79 Y Y fun F W=>?_
 refine Z ?_
 refine .q (.to (v':= .agg [.slice none 0 0,AA 0].toArray) (.buildN (pl:=[(0,2)]) (us:=[]) (cells:=[.slice none 0 0,AA 0]) underlying235 kQ AIY Y Y) Y) Y (.oq (.box Y) ?_)
 rintro v L' ⟨w,rfl,rfl⟩
 refine Z ?_
 refine .add (AU 5 1) (.wrFold (w:=w) [] (a:=none) (c:=0) (m:=0) O Y Y Y ?_)
 exact .dn Y Y ⟨w,Y,Y⟩
theorem ML (w:Nat) (bs cs:Bs) (va:Value) (p:HP) (hp:∀h:Hp,p h→CA 1 h va cs.length (Bf cs)) (hl:bs.length+cs.length≤70368744177664):Fn prog 149 #[AD w,va] [FM w bs,p] fun v L=>v= .tuple #[]∧L=[FM w (bs++cs),p]:=by
 refine Fn.intro func149 Y Y fun F W=>?_
 refine .wrOpen O fun wa wc=>(Z ?_)
 refine .oq (.append (n:=bs.length) (m:=cs.length) (ys:=Bf cs) (p:=p) Y Y Y Bw (.inl ⟨_,underlying111⟩) K2 Y Y ?hc7 hp ?hb8 dQ) ?_
 case hc7=>exact Fe _
 case hb8=>omega
 rintro v L' ⟨⟨a6,c6,rfl⟩,rfl⟩
 refine Z ?_
 refine .done_n (.wrFold (w:=w) (bs++cs) (a:=a6) (c:=c6) O (by rfl) (by simp) (by rw [C4]) ?_)
 exact .vv
theorem ABy {u:Nat} (h:127<u) (bs:Bs):bs++[UInt8.ofNat (u%128+128)]++DU (u/128)=bs++DU u:=by
 rw [DU.eq_1 u,if_neg om,append_assoc];rfl
theorem AEf {u:Nat} (h:¬127<u) (bs:Bs):bs++[UInt8.ofNat u]=bs++DU u:=by
 rw [DU.eq_1 u,if_pos om]
theorem AK6 (u:Nat):Value.int .u64 ((u:Int).fdiv (2^min (7:Int).toNat IntKind.u64.bits))= .int .u64 ((u/128:Nat):Int):=by
 have e1:(2:Int)^min (7:Int).toNat IntKind.u64.bits=128:=rfl
 rw [e1,Int.fdiv_eq_ediv_of_nonneg _ dQ];rfl
theorem Lb (w:Nat) (bs0:Bs) (u0:Nat) (hu:u0<Ds) (hl:bs0.length≤70368744177568):Fn prog 141 #[AD w, .int .u64 u0] [FM w bs0] fun v L=>v= .tuple #[]∧L=[FM w (bs0++DU u0)]:=by
 refine Fn.intro func141 Y Y fun F W=>?_
 have hs10:=CN hu
 refine .seq (.block (.loopK (ι:=Nat×Bs) (fun q E=>(1, .int .u64 q.1)::E) (fun q=>[FM w q.2]) (fun q=>q.1≤u0∧q.2++DU q.1=bs0++DU u0) (fun q=>q.1) (u0,bs0) (ts:=[0]) O (⟨Nat.le_refl _,Y⟩) O O ?_))
 rintro ⟨u,bs⟩ ⟨hu0,heq⟩
 dsimp only
 dsimp only at hu0 heq
 have hbl:=congrArg List.length heq
 simp only [length_append] at hbl
 have hsl:=AGw u
 refine Z ?_
 refine .condD Y (fun h5=>?_) (fun h5=>?_)
 ·have h127:127<u:=by omega
  refine Z ?_
  refine .q (.conv Y underlying237 underlying5) Y (.q (.as (v':=Co (UInt8.ofNat (u%128+128))) (by exact AGO u) (.or Y Y)) Y (.oq (.buildSlice1 (vs:=[_]) Bw K2 Y Y Y Y Y dQ) ?_))
  rintro v L' ⟨b2,rfl,rfl⟩
  refine .slMake (b:=b2) (n:=1) (c:=1) (xs:=[Co (UInt8.ofNat (u%128+128))]) O dQ (by simp) Y (.oq (.call func149 Y Y (vs:=[_,_]) Y (ML w bs [(UInt8.ofNat (u%128+128))] _ (At 5 1 (.slice (some ⟨b2,0,none⟩) 1 1) 1 [Co (UInt8.ofNat (u%128+128))]) (fun h hp=>Ad hp) (by simp;omega))) ?_)
  rintro v L' ⟨rfl,rfl⟩
  refine Z ?_
  refine .q (.as (v':= .int .u64 ((u/128:Nat):Int)) (by exact AK6 u) (.shr Y Y (by first|decide|omega))) Y (Z ?_)
  exact .rk ((u/128,bs++[(UInt8.ofNat (u%128+128))])) (⟨by dsimp only;omega,by dsimp only;rw [ABy om];exact heq⟩) (by dsimp only;omega) O
 have h127:¬127<u:=by omega
 refine Z ?_
 refine .q (.as (v':=Co (UInt8.ofNat u)) (by exact AEM om) (.conv Y underlying237 underlying5)) Y (.oq (.buildSlice1 (vs:=[_]) Bw K2 Y Y Y Y Y dQ) ?_)
 rintro v L' ⟨b3,rfl,rfl⟩
 refine .slMake (b:=b3) (n:=1) (c:=1) (xs:=[Co (UInt8.ofNat u)]) O dQ (by simp) Y (.oq (.call func149 Y Y (vs:=[_,_]) Y (ML w bs [(UInt8.ofNat u)] _ (At 5 1 (.slice (some ⟨b3,0,none⟩) 1 1) 1 [Co (UInt8.ofNat u)]) (fun h hp=>Ad hp) (by simp;omega))) ?_)
 rintro v L' ⟨rfl,rfl⟩
 refine .nil (.done_n ?_)
 rw [AEf h127,heq]
 exact .vv
theorem D1 (w:Nat) (bs:Bs) (n:Int) (hn: -9223372036854775808≤n∧n≤9223372036854775807) (hl:bs.length≤70368744177568):Fn prog 80 #[AD w,AA n] [FM w bs] fun v L=>v= .tuple #[]∧L=[FM w (bs++Bl n)]:=by
 refine Fn.intro func80 Y Y fun F W=>?_
 have hz:=OR hn
 refine Z ?_
 refine .q (.conv Y underlying3 underlying237) Y (.q (.shl Y Y (by first|decide|omega)) Y (Z ?_))
 refine .q (.shr Y Y (by first|decide|omega)) Y (.q (.conv Y underlying3 underlying237) Y (.q (.as (v':= .int .u64 (OP n:Nat)) (by exact congrArg (Value.int .u64) (ADt hn)) (.xor Y Y)) Y (.oq (.c func141 [_,_] (Lb _ _ _ ?hu9 ?hl10)) ?_)))
 case hu9=>assumption
 case hl10=>omega
 rintro v L' ⟨rfl,rfl⟩
 refine .nil (.done_n ?_)
 exact .vv
theorem Dt (w:Nat) (bs:Bs) (n:Nat) (hn:n≤70368744177664) (hl:bs.length≤70368744177568):Fn prog 81 #[AD w,AA n] [FM w bs] fun v L=>v= .tuple #[]∧L=[FM w (bs++BW n)]:=by
 refine Fn.intro func81 Y Y fun F W=>?_
 have hz:n<Ds:=by unfold Ds;omega
 refine Z ?_
 refine .u (.max2 Y Y) (.q (.as (v':= .int .u64 (n:Nat)) (by exact congrArg (Value.int .u64) (by rw [ES];omega)) (.conv Y underlying3 underlying237)) Y (.oq (.c func141 [_,_] (Lb _ _ _ ?hu5 ?hl6)) ?_))
 case hu5=>assumption
 case hl6=>omega
 rintro v L' ⟨rfl,rfl⟩
 refine .nil (.done_n ?_)
 exact .vv
theorem Dn (w:Nat) (bs s:Bs) (hl:bs.length+s.length≤70368744177368):Fn prog 92 #[AD w,AF s] [FM w bs] fun v L=>v= .tuple #[]∧L=[FM w (bs++Bx s)]:=by
 refine Fn.intro func92 Y Y fun F W=>?_
 have hc:(BW s.length).length≤10:=CN (by unfold Ds;omega)
 refine Z ?_
 refine .oq (.c func81 [_,_] (Dt _ _ _ ?hn4 ?hb5)) ?_
 case hn4=>first|assumption|omega
 case hb5=>omega
 rintro v L' ⟨rfl,rfl⟩
 refine Z ?_
 refine .oq (.strBytes Y underlying9 underlying111 underlying5) ?_
 rintro v L' ⟨rfl,b8,c8,rfl⟩
 refine .oq (.call func149 Y Y (vs:=[_,_]) Y (ML w (bs++BW s.length) s _ (At 5 1 (.slice (some ⟨b8,0,none⟩) s.length c8) s.length (s.map Co)) (fun h hp=>Ad hp) (by simp;omega))) ?_
 rintro v L' ⟨rfl,rfl⟩
 refine .nil (.done_n ?_)
 rw [append_assoc]
 exact .vv
theorem Fx (w:Nat) (bs:Bs):Fn prog 82 #[AD w] [FM w bs] fun v L=>v=AF bs∧L=[FM w bs]:=by
 refine Fn.intro func82 Y Y fun F W=>?_
 refine .wrOpen O fun wa wc=>(Z ?_)
 refine .q (.bytesBy (cs:=bs) (n:=bs.length) (p:=Ex (.slice wa bs.length wc) bs) Y underlying111 underlying5 underlying9 (fun h hp=>Ad hp) O) Y (Z ?_)
 refine .wrFold (w:=w) bs O Y Y Y ?_
 exact .vv
theorem Kt (r:Nat) (s:Bs) (k:Nat) (e:Int):Fn prog 164 #[AD r] [L9 r s k e] fun v L=>v=AA ((s.length:Int)-k)∧L=[L9 r s k e]:=by
 refine Fn.intro func164 Y Y fun F W=>?_
 refine .rdOpen O fun ra rc hkl hsz=>(Z ?_)
 refine .draw [] [[0,1,2,3,4,5,6,7,8,9,10]] mixed kQ (.g0 (Z ?_))
 refine .rdFold (r:=r) s (k) (e) O (by first|rfl|(simp only [List.set];congr;omega)) om hsz ?_
 exact .vv
theorem F9 (r:Nat) (s:Bs) (k:Nat) (e e':Int):Fn prog 163 #[AD r,AA e'] [L9 r s k e] fun v L=>v= .tuple #[]∧L=[L9 r s k (if e=0 then e' else e)]:=by
 refine Fn.intro func163 Y Y fun F W=>?_
 refine .rdOpen O fun ra rc hkl hsz=>(Z ?_)
 refine .condD Y (fun h8=>?_) (fun h8=>?_)
 ·refine Z ?_
  refine .done_n (.rdFold (r:=r) s (k) (if e=0 then e' else e) O (by rw [if_pos h8];rfl) om hsz ?_)
  exact .vv
 refine .skip (.done_n (.rdFold (r:=r) s (k) (if e=0 then e' else e) O (by rw [if_neg h8]) om hsz ?_))
 exact .vv
theorem OL (r:Nat) (s:Bs) (k:Nat) (e:Int):Fn prog 112 #[AD r] [L9 r s k e] fun v L=>v= .tuple #[]∧L=[L9 r s k (if e=0 then 11 else e)]:=by
 refine Fn.intro func112 Y Y fun F W=>?_
 refine Z ?_
 refine .cv func163 [_,_] (F9 _ _ _ _ _) ?_
 refine .nil (.done_n ?_)
 exact .vv
def Od (s:Bs) (k:Nat) (e:Int) (u m:Nat) (e':Int):Prop:=
 ((e≠0∨GH 0 0 (s.drop k)=none)∧u=0∧m=0∧e'≠0)∨(e=0∧e'=0∧k+m≤s.length∧GH 0 0 (s.drop k)=some (u,s.drop (k+m)))
def AHn (k:Nat) (c:UInt8):Prop:=(k=9∧1<c.toNat)∨(c.toNat=0∧0<k)
instance (k:Nat) (c:UInt8):Decidable (AHn k c):=inferInstanceAs (Decidable (_∨_))
theorem R8 {s:Bs} {k j u:Nat} (h:k+j<s.length):GH j u (s.drop (k+j))=if AHn j s[k+j] then none else if s[k+j].toNat<128 then some (u+s[k+j].toNat%128*128^j,s.drop (k+j+1)) else GH (j+1) (u+s[k+j].toNat%128*128^j) (s.drop (k+j+1)):=by
 rw [drop_eq_getElem_cons h]
 conv=>lhs;unfold GH
 rfl
theorem AEQ {s:Bs} {k j u:Nat} (h:s.length≤k+j):GH j u (s.drop (k+j))=none:=by
 rw [drop_eq_nil_of_le h];unfold GH;rfl
theorem Ll (r:Nat) (s:Bs) (k:Nat) (e:Int):Fn prog 162 #[AD r] [L9 r s k e] fun v L=> ∃u m e',Od s k e u m e'∧v= .tuple #[.int .u64 (u:Nat),AA (m:Nat)]∧L=[L9 r s k e']:=by
 refine Fn.intro func162 Y Y fun F W=>?_
 refine .rdOpen O fun ra rc hkl hsz=>(.sr (.a Y (.an Y (.seq (.sr ?_)))))
 rcases Decidable.em (e=0) with he0|he0
 ·subst he0
  refine .m Y (.nf Y T3 (.u (.ld Y EP) (.q (.as (v':= .bool false) (by rfl) (.int Y Y Y)) Y (.nt (.condF Y (.sk (.sr (.an Y (.seq (.sm Y (.nf Y Jb (.rdFold (r:=r) s (k) (0) O (by first|rfl|(simp only [List.set];congr;omega)) om hsz (.cv func164 [_] (Kt r s k 0) ?_)))))))))))))
  refine .m Y (.nil (.rdOpen O fun ra1 rc1 _ _=>(.then_n (.block (.loopK (ι:=Nat×Nat) (fun q E=>(16,AA q.1)::(4, .int .u64 q.2)::E) (fun q=>[]) (fun q=>k+q.1≤s.length∧q.1≤9∧q.2<128^q.1∧GH q.1 q.2 (s.drop (k+q.1))=GH 0 0 (s.drop k)) (fun q=>s.length-q.1) (0,0) (ts:=[0,15]) O (⟨by dsimp only;omega,by dsimp only;omega,by dsimp only;decide,rfl⟩) O O ?_)))))
  rintro ⟨j,u⟩ ⟨hj,hj9,huj,hsv⟩
  dsimp only
  dsimp only at hj hj9 huj hsv
  refine .sr (.ui Y Y Y (.nt (.seq (.condD Y (fun h17=>?_) (fun h17=>?_)))))
  ·have hlt:k+j<s.length:=by omega
   have hxl:=s[k+j].toNat_lt
   refine .sk (.seq (.block (.sm Y (.an Y (.seq (.draw [] [[0,1,2,3,4,5,6,7,8,9,10,11,12,13,14]] mixed kQ (.g0 (.mv Y Y (.nf Y Y Y Jb (.kv Y (.fieldAddr Y VG) (.kv Y (.ld Y AEz) (.mv Y Y (.nf Y Y Y Jb (.kv Y (.fieldAddr Y Uo) (.kv Y (.ld Y CT) (.mv Y Y (.kv Y (.add Y Y om) (.kv Y (.indexAddr Y Y Bw om) (.kv Y (.loadRd (sz:=1) (j:=k+j) (p:=Ex (.slice _ s.length _) s) (v:=Co s[k+j]) Y AKe O (fun h hp=>Ad hp) om (by simp [Bf,List.getElem?_eq_getElem hlt])) ?_)))))))))))))))))))
   refine D.kv Y (.assign Y) (.pf (.seq (.seq (.joinK (ι:=Bool) (fun q E=>(46, .bool q)::E) (fun q=>[]) (fun q=>q=decide (AHn j s[k+j])) (pre:=[]) (ts:=[0,4,5,6,15,16,17,18,19,20,21,22,23,24,25,26,27,28,29,30,31,32]) O O ?_ ?_))))
   ·refine .region (.m Y (.ui Y Y Y (.m Y (.dec (t:=35) Y (fun h8_35=>?_) (fun h8_35=>?_)))))
    ·refine .kDT (t:=34) Y h8_35 (.gr (.m Y (.gr (.ui Y Y Y (.pT Y Y (.m Y (.dec (t:=39) Y (fun h8_39=>?_) (fun h8_39=>?_))))))))
     ·refine .kDT (t:=37) Y h8_39 (.kDT (t:=38) Y h8_39 (.gk (.gk (.gk (.gn (.gn (.gk (.pT Y Y (.nt ?_)))))))))
      exact .mk (true) ((by rw [decide_eq_true];exact .inl ⟨by omega,by omega⟩)) O
     refine .kDF (t:=37) Y h8_39 (.kDF (t:=38) Y h8_39 (.gr (.m Y (.gr (.ui Y Y Y (.gr (.m Y (.dec (t:=42) Y (fun h8_42=>?_) (fun h8_42=>?_)))))))))
     ·refine .kDT (t:=41) Y h8_42 (.gr (.m Y (.gr (.ui Y Y Y (.gr (.pT Y Y (.pF Y Y (.nt ?_))))))))
      exact .mk ((decide ((j:Int)>0))) ((by exact decide_eq_decide.2 ⟨fun g=> .inr ⟨by omega,by omega⟩,fun g=>by rcases g with ⟨g1,g2⟩|⟨g1,g2⟩<;>omega⟩)) O
     refine .kDF (t:=41) Y h8_42 (.gk (.gk (.gr (.pF Y Y (.pF Y Y (.nt ?_))))))
     exact .mk (false) ((by exact (decide_eq_false (by rintro (⟨g1,g2⟩|⟨g1,g2⟩)<;>omega)).symm)) O
    refine .kDF (t:=34) Y h8_35 (.gk (.gk (.pF Y Y (.m Y (.gr (.m Y (.gr (.ui Y Y Y (.gr (.m Y (.dec (t:=42) Y (fun h8_42=>?_) (fun h8_42=>?_))))))))))))
    ·refine .kDT (t:=41) Y h8_42 (.gr (.m Y (.gr (.ui Y Y Y (.gr (.pT Y Y (.pF Y Y (.nt ?_))))))))
     exact .mk ((decide ((j:Int)>0))) ((by exact decide_eq_decide.2 ⟨fun g=> .inr ⟨by omega,by omega⟩,fun g=>by rcases g with ⟨g1,g2⟩|⟨g1,g2⟩<;>omega⟩)) O
    refine .kDF (t:=41) Y h8_42 (.gk (.gk (.gr (.pF Y Y (.pF Y Y (.nt ?_))))))
    exact .mk (false) ((by exact (decide_eq_false (by rintro (⟨g1,g2⟩|⟨g1,g2⟩)<;>omega)).symm)) O
   rintro b hb
   subst hb
   refine .condD Y (fun h46=>?_) (fun h46=>?_)
   ·refine .seq (.rdFold (r:=r) s (k) (0) O (by first|rfl|(simp only [List.set];congr;omega)) om hsz (.region (.m Y (.oq (.c func163 [_,_] (F9 r s k 0 11)) ?_))))
    rintro v L' ⟨rfl,rfl⟩;rw [if_pos rfl]
    refine .nt (.sr (.a Y (.an Y (.rt (.blk_r (.then_r (.then_r (.blk_r (.then_r ?_)))))))))
    exact .dn Y Y ⟨0,0,11, .inl ⟨.inr (by rw [←hsv,R8 hlt,if_pos h46]),Y,Y,by decide⟩,rfl,rfl⟩
   have h9:j=9→s[k+j].toNat≤1:=fun g=>by rcases Nat.lt_or_ge 1 s[k+j].toNat with g2|g2;exact absurd (.inl ⟨g,g2⟩) h46;exact g2
   refine .sk (.sm Y (.m Y (.u (.and Y Y) (.q (.as (v':= .int .u64 ((s[k+j].toNat%128:Nat):Int)) (by exact congrArg (Value.int .u64) (ADs _)) (.conv Y underlying5 underlying237)) Y (.m Y (.q (.mul Y Y om) Y (.q (.shl Y Y (by first|decide|omega)) Y (.q (.as (v':= .int .u64 ((u+s[k+j].toNat%128*128^j:Nat):Int)) (by exact congrArg (Value.int .u64) (AC7 hj9 huj om (fun g=>by have:=h9 g;omega))) (.or Y Y)) Y (.an Y (.sm Y (.ui Y Y Y (.nt (.condD Y (fun h58=>?_) (fun h58=>?_))))))))))))))
   ·refine .sm Y (.m Y (.q (.add Y Y om) Y (.a Y (.an Y (.ret (.blk_r (.then_r (.then_r (.blk_r (.then_r (.rdFold (r:=r) s (k) (0) O (by first|rfl|(simp only [List.set];congr;omega)) om hsz ?_)))))))))))
    exact .dn Y Y ⟨_,j+1,0, .inr ⟨Y,Y,by omega,by rw [←hsv,R8 hlt,if_neg h46,if_pos om];rfl⟩,rfl,rfl⟩
   refine .skip (.blk_n (.then_n (.region (.q (.add Y Y om) Y (.m Y (.nt ?_))))))
   exact .rk ((j+1,u+s[k+j].toNat%128*128^j)) (⟨by dsimp only;omega,by dsimp only;rcases Nat.lt_or_ge j 9 with g|g;(omega);exact absurd (h9 om) om,by dsimp only;rw [Nat.pow_succ];have:=Nat.mul_le_mul_right (128^j) (show s[k+j].toNat%128≤127 by omega);omega,by dsimp only;rw [←hsv,R8 hlt,if_neg h46,if_neg om];rfl⟩) (by dsimp only;omega) O
  refine .xe (.seq (.rdFold (r:=r) s (k) (0) O (by first|rfl|(simp only [List.set];congr;omega)) om hsz (.region (.m Y (.oq (.c func163 [_,_] (F9 r s k 0 10)) ?_)))))
  rintro v L' ⟨rfl,rfl⟩;rw [if_pos rfl]
  refine .nt (.sr (.a Y (.an Y (.ret ?_))))
  exact .dn Y Y ⟨0,0,10, .inl ⟨.inr (by rw [←hsv];exact AEQ om),Y,Y,by decide⟩,rfl,rfl⟩
 refine .m Y (.nf Y T3 (.u (.ld Y EP) (.q (.as (v':= .bool true) (by simp [he0]) (.int Y Y Y)) Y (.nt (.condT Y (.sr (.a Y (.an Y (.rt (.rdFold (r:=r) s (k) (e) O (by first|rfl|(simp only [List.set];congr;omega)) om hsz ?_))))))))))
 exact .dn Y Y ⟨0,0,e, .inl ⟨.inl he0,Y,Y,he0⟩,Y,Y⟩
theorem Od.lt {s:Bs} {k:Nat} {e:Int} {u m:Nat} {e':Int} (h:Od s k e u m e'):u<Ds:=by
 rcases h with ⟨-,rfl,-⟩|⟨-,-,-,h⟩
 ·decide
 ·exact Sh 0 0 _ _ _ h dQ dQ
theorem Od.le {s:Bs} {k:Nat} {e:Int} {u m:Nat} {e':Int} (h:Od s k e u m e') (hk:k≤s.length):k+m≤s.length:=by
 rcases h with ⟨-,-,rfl,-⟩|⟨-,-,h,-⟩
 ·exact hk
 ·exact h
theorem Od.num {s:Bs} {k:Nat} {e:Int} {u m:Nat} {e':Int} (h:Od s k e u m e'):FN s (k+m) e'=(runP 0 Mj (FN s k e)).2∧NZ u=(runP 0 Mj (FN s k e)).1:=by
 rcases h with ⟨h1,rfl,rfl,h2⟩|⟨rfl,rfl,-,h⟩
 ·have e2:FN s (k+0) e'=none:=if_neg h2
  rw [e2]
  rcases h1 with h1|h1
  ·have e1:FN s k e=none:=if_neg h1
   rw [e1];exact ⟨rfl,rfl⟩
  ·unfold FN
   split
   ·unfold runP Mj;dsimp only;rw [h1];exact ⟨rfl,rfl⟩
   ·exact ⟨rfl,rfl⟩
 ·have e1:FN s k 0=some (s.drop k):=if_pos rfl
  have e2:FN s (k+m) 0=some (s.drop (k+m)):=if_pos rfl
  rw [e1,e2]
  unfold runP Mj;dsimp only;rw [h];exact ⟨rfl,rfl⟩
theorem Od.cntT {s:Bs} {k:Nat} {e:Int} {u m:Nat} {e':Int} {most:Nat} (h:Od s k e u m e') (hm:most<u):runP 0 (EN most) (FN s k e)=(0,none):=by
 rcases h with ⟨h1,rfl,rfl,h2⟩|⟨rfl,rfl,-,h⟩
 ·omega
 ·have e1:FN s k 0=some (s.drop k):=if_pos rfl
  rw [e1]
  unfold runP EN;dsimp only;rw [h];dsimp only;rw [if_pos hm]
theorem Od.cntF {s:Bs} {k:Nat} {e:Int} {u m:Nat} {e':Int} {most:Nat} (h:Od s k e u m e') (hm:¬most<u):FN s (k+m) e'=(runP 0 (EN most) (FN s k e)).2∧u=(runP 0 (EN most) (FN s k e)).1:=by
 rcases h with ⟨h1,rfl,rfl,h2⟩|⟨rfl,rfl,-,h⟩
 ·have e2:FN s (k+0) e'=none:=if_neg h2
  rw [e2]
  rcases h1 with h1|h1
  ·have e1:FN s k e=none:=if_neg h1
   rw [e1];exact ⟨rfl,rfl⟩
  ·unfold FN
   split
   ·unfold runP EN;dsimp only;rw [h1];exact ⟨rfl,rfl⟩
   ·exact ⟨rfl,rfl⟩
 ·have e1:FN s k 0=some (s.drop k):=if_pos rfl
  have e2:FN s (k+m) 0=some (s.drop (k+m)):=if_pos rfl
  rw [e1,e2]
  unfold runP EN;dsimp only;rw [h];dsimp only;rw [if_neg hm];exact ⟨rfl,rfl⟩
theorem Yb {s:Bs} {k:Nat} {e x:Int} (hx:x≠0):FN s k (if e=0 then x else e)=none:=by
 refine if_neg ?_
 split
 ·exact hx
 ·assumption
theorem AGj {s:Bs} {k:Nat} {e:Int} {most n k1:Nat} {e1:Int} (h1:FN s k1 e1=(runP 0 (EN most) (FN s k e)).2) (hn:n=(runP 0 (EN most) (FN s k e)).1) (hk:k1≤s.length):
  ((s.length:Int)-k1<n→runP [] (HX most) (FN s k e)=([],none))∧(¬(s.length:Int)-k1<n→FN s (k1+n) e1=(runP [] (HX most) (FN s k e)).2∧(s.take (k1+n)).drop k1=(runP [] (HX most) (FN s k e)).1):=by
 cases hst:FN s k e with
 |none=>
  rw [hst] at h1 hn
  have h1:FN s k1 e1=none:=h1
  have hn:n=0:=hn
  subst hn
  refine ⟨fun h=>by omega,fun _=>⟨?_,?_⟩⟩
  ·unfold FN at h1 ⊢
   split at h1
   ·cases h1
   ·rename_i g;rw [if_neg g];rfl
  ·rw [Nat.add_zero,drop_eq_nil_of_le (by rw [length_take];omega)];rfl
 |some q=>
  rw [hst] at h1 hn
  cases hc:EN most q with
  |none=>
   have f:runP 0 (EN most) (some q)=(0,none):=by unfold runP;dsimp only;rw [hc]
   have f2:runP [] (HX most) (some q)=([],none):=by unfold runP HX;dsimp only;rw [hc]
   rw [f] at h1 hn
   rw [f2]
   have h1:FN s k1 e1=none:=h1
   have hn:n=0:=hn
   subst hn
   refine ⟨fun h=>by omega,fun _=>⟨?_,?_⟩⟩
   ·unfold FN at h1 ⊢
    split at h1
    ·cases h1
    ·rename_i g;rw [if_neg g]
   ·rw [Nat.add_zero,drop_eq_nil_of_le (by rw [length_take];omega)]
  |some x=>
   obtain ⟨m,z⟩:=x
   have f:runP 0 (EN most) (some q)=(m,some z):=by unfold runP;dsimp only;rw [hc]
   rw [f] at h1 hn
   have h1:FN s k1 e1=some z:=h1
   have hn:n=m:=hn
   subst hn
   unfold FN at h1
   split at h1
   ·rename_i g
    subst g
    have h1:s.drop k1=z:=Option.some.inj h1
    subst h1
    have hl:(s.drop k1).length=s.length-k1:=length_drop
    refine ⟨fun h=>?_,fun h=>?_⟩
    ·unfold runP HX;dsimp only;rw [hc];dsimp only;rw [if_pos om]
    ·have e2:FN s (k1+n) 0=some (s.drop (k1+n)):=if_pos rfl
     have f2:runP [] (HX most) (some q)=((s.drop k1).take n,some ((s.drop k1).drop n)):=by unfold runP HX;dsimp only;rw [hc];dsimp only;rw [if_neg om]
     rw [e2,f2,drop_drop,drop_take]
     exact ⟨rfl,by rw [show k1+n-k1=n by omega]⟩
   ·cases h1
theorem Xs (r:Nat) (s:Bs) (k:Nat) (e:Int):Fn prog 108 #[AD r] [L9 r s k e] fun v L=> ∃k' e',FN s k' e'=(runP 0 Mj (FN s k e)).2∧v=AA (runP 0 Mj (FN s k e)).1∧L=[L9 r s k' e']:=by
 refine Fn.intro func108 Y Y fun F W=>?_
 refine Z ?_
 refine .oq (.c func162 [_] (Ll r s k e)) ?_
 rintro v L' ⟨u,m,e',hA,rfl,rfl⟩;have hu:=hA.lt
 refine Z ?_
 refine .rdOpen O fun ra rc hkl hsz=>?_
 have hkm:=hA.le hkl
 refine Z ?_
 refine .q (.shr Y Y (by first|decide|omega)) Y (.q (.conv Y underlying237 underlying3) Y (Z ?_))
 refine .q (.as (v':= .int .u64 ((u%2:Nat):Int)) (by exact congrArg (Value.int .u64) (ADb u)) (.and Y Y)) Y (.q (.as (v':=AA ((u%2:Nat):Int)) (by rw [JA om]) (.conv Y underlying237 underlying3)) Y (.q (.neg Y om) Y (.q (.as (v':=AA (NZ u)) (by exact congrArg (Value.int .i64) (ADW hu)) (.xor Y Y)) Y (Z ?_))))
 refine .rdFold (r:=r) s (k+m) (e') O (by first|rfl|(simp only [List.set];congr;omega)) om hsz ?_
 rw [hA.num.2]
 exact .dn Y Y ⟨k+m,e',hA.num.1,Y,Y⟩
theorem LH (r most:Nat) (hm:most≤70368744177664) (s:Bs) (k:Nat) (e:Int):Fn prog 109 #[AD r,AA most] [L9 r s k e] fun v L=> ∃k' e',FN s k' e'=(runP 0 (EN most) (FN s k e)).2∧v=AA ((runP 0 (EN most) (FN s k e)).1:Nat)∧L=[L9 r s k' e']:=by
 refine Fn.intro func109 Y Y fun F W=>?_
 refine Z ?_
 refine .oq (.c func162 [_] (Ll r s k e)) ?_
 rintro v L' ⟨u,m,e',hA,rfl,rfl⟩;have hu:=hA.lt
 refine Z ?_
 refine .u (.max2 Y Y) (.q (.as (v':= .int .u64 (most:Nat)) (by exact congrArg (Value.int .u64) (by rw [ES];omega)) (.conv Y underlying3 underlying237)) Y (Z ?_))
 refine .condD Y (fun h16=>?_) (fun h16=>?_)
 ·refine Z ?_
  refine .cv func163 [_,_] (F9 r s k e' 12) ?_
  refine Z ?_
  rw [hA.cntT (most:=most) om]
  exact .dn Y Y ⟨k,_,Yb (x:=12) dQ,Y,Y⟩
 refine Z ?_
 refine .rdOpen O fun ra rc hkl hsz=>?_
 have hkm:=hA.le hkl
 refine Z ?_
 refine .q (.as (v':=AA (u:Nat)) (by rw [JA om]) (.conv Y underlying237 underlying3)) Y (Z ?_)
 refine .rdFold (r:=r) s (k+m) (e') O (by first|rfl|(simp only [List.set];congr;omega)) om hsz ?_
 obtain ⟨hc1,hc2⟩:=hA.cntF (most:=most) om
 rw [hc2]
 exact .dn Y Y ⟨k+m,e',hc1,Y,Y⟩
theorem Uh (r most:Nat) (hm:most≤70368744177664) (s:Bs) (k:Nat) (e:Int):Fn prog 111 #[AD r,AA most] [L9 r s k e] fun v L=> ∃k' e',FN s k' e'=(runP [] (HX most) (FN s k e)).2∧v=AF (runP [] (HX most) (FN s k e)).1∧L=[L9 r s k' e']:=by
 refine Fn.intro func111 Y Y fun F W=>?_
 refine .rdOpen O fun ra rc hkl hsz=>(Z ?_)
 refine .rdFold (r:=r) s (k) (e) O (by first|rfl|(simp only [List.set];congr;omega)) om hsz (Z ?_)
 refine .oq (.c func109 [_,_] (LH r most hm s k e)) ?_
 rintro v L' ⟨k1,e1,hs1,rfl,rfl⟩
 obtain ⟨n,hn⟩:∃n,n=(runP 0 (EN most) (FN s k e)).1:=⟨_,rfl⟩
 rw [←hn]
 refine Z ?_
 refine .rdOpen O fun ra2 rc2 hk1 _=>?_
 have hrun:=AGj hs1 hn hk1
 refine .rdFold (r:=r) s k1 e1 O Y hk1 hsz (Z ?_)
 refine .cv func164 [_] (Kt r s k1 e1) ?_
 refine Z ?_
 refine .condD Y (fun h20=>?_) (fun h20=>?_)
 ·refine .seq (.rdOpen O fun ra3 rc3 _ _=>(Z ?_))
  refine .rdFold (r:=r) s (k) (e1) O (by first|rfl|(simp only [List.set];congr;omega)) om hsz (Z ?_)
  refine .cv func163 [_,_] (F9 r s k e1 10) ?_
  refine Z ?_
  rw [hrun.1 h20]
  exact .dn Y Y ⟨k,_,Yb (x:=10) dQ,Y,Y⟩
 refine Z ?_
 refine .rdOpen O fun ra3 rc3 _ _=>?_
 obtain ⟨hr1,hr2⟩:=hrun.2 h20
 refine Z ?_
 refine .ptCast (b:=r) (l':=[.slice (some ⟨ra3,0,none⟩) s.length rc3,AA ((k1+n:Nat):Int),AA e1]) O Y ?_
 refine .slAddr O fun hcap _=>(Z ?_)
 refine .draw [] [[0,1,2,3,4,5,6,7,8,9,10,11,12,13,14,15,16,17,18,19]] mixed kQ (.g0 (.mv Y Y (.nf Y Y Y Jb (.kv Y (.fieldAddr Y VG) (.kv Y (.ld Y AEz) (.mv Y Y (.nf Y Y Y Jb (.kv Y (.fieldAddr Y Uo) (.kv Y (.ld Y CT) (.mv Y Y (.kv Y (.as (v':=AA (k1:Nat)) (by congr 1;omega) (.sub Y Y om)) (Z ?_))))))))))))
 refine D.kv Y (.to (v':= .slice (some (if rc3=k1 then ⟨ra3,0,none⟩ else ⟨ra3,0+k1*1,none⟩)) (k1+n-k1) (rc3-k1)) (.slSlice (i:=(k1:Int)) (j:=((k1+n:Nat):Int)) Y Bw (by exact rfl) (by exact rfl) om) (by simp only [Int.toNat_natCast])) (.kv Y (.bytesBy (cs:=(s.take (k1+n)).drop k1) (n:=((s.take (k1+n)).drop k1).length) (p:=Ex (.slice (some ⟨ra3,0,none⟩) s.length rc3) s) Y underlying111 underlying5 underlying9 (fun h hp=>AF2 om om hp) O) (Z ?_))
 refine .rdFold (r:=r) s (k1+n) (e1) O (by first|rfl|(simp only [List.set];congr;omega)) om hsz ?_
 rw [hr2]
 exact .dn Y Y ⟨k1+n,e1,hr1,Y,Y⟩
theorem AJZ {s:Bs} {k:Nat} {e:Int} (h:k<s.length):(if e=0 then (11:Int) else e)=0↔FN s k e=some []:=by
 have hl:(s.drop k).length=s.length-k:=length_drop
 unfold FN
 split
 ·refine ⟨fun g=>absurd g dQ,fun g=>?_⟩
  rw [Option.some.inj g] at hl;simp at hl;omega
 ·rename_i g;exact ⟨fun q=>absurd q g,fun q=>by cases q⟩
theorem AJd {s:Bs} {k:Nat} {e:Int} (h:s.length≤k):e=0↔FN s k e=some []:=by
 unfold FN
 split
 ·rename_i g;exact ⟨fun _=>by rw [drop_eq_nil_of_le h],fun _=>g⟩
 ·rename_i g;exact ⟨fun q=>absurd q g,fun q=>by cases q⟩
theorem WV (r:Nat) (s:Bs) (k:Nat) (e:Int):Fn prog 110 #[AD r] [L9 r s k e] fun v L=> ∃e1,(e1=0↔FN s k e=some [])∧v=AA e1∧L=[L9 r s k e1]:=by
 refine Fn.intro func110 Y Y fun F W=>?_
 refine .rdOpen O fun ra rc hkl hsz=>(.rdFold (r:=r) s (k) (e) O (by first|rfl|(simp only [List.set];congr;omega)) om hsz (Z ?_))
 refine .cv func164 [_] (Kt r s k e) ?_
 refine Z ?_
 refine .condD Y (fun h7=>?_) (fun h7=>?_)
 ·refine Z ?_
  refine .cv func112 [_] (OL r s k e) ?_
  refine Z ?_
  refine .rdOpen O fun ra3 rc3 _ _=>(Z ?_)
  refine .rdFold (r:=r) s (k) (if e=0 then 11 else e) O (by first|rfl|(simp only [List.set];congr;omega)) om hsz ?_
  exact .dn Y Y ⟨_,AJZ om,Y,Y⟩
 refine Z ?_
 refine .rdOpen O fun ra3 rc3 _ _=>(Z ?_)
 refine .rdFold (r:=r) s (k) (e) O (by first|rfl|(simp only [List.set];congr;omega)) om hsz ?_
 exact .dn Y Y ⟨_,AJd om,Y,Y⟩
theorem Kj (s:Bs) (hs:s.length≤70368744177664):Fn prog 107 #[AF s] [] fun v L=> ∃r,v=AD r∧L=[FK r (some s)]:=by
 refine Fn.intro func107 Y Y fun F W=>?_
 refine Z ?_
 refine .oq (.strBytes Y underlying9 underlying111 underlying5) ?_
 rintro v L' ⟨rfl,b8,c8,rfl⟩
 refine .q (.to (v':= .agg [.slice (some ⟨b8,0,none⟩) s.length c8,AA 0].toArray) (.build (us:=[(0,_)]) AIv AIL Y Y (by simp [AB])) Y) Y (.q (.to (v':= .agg [.slice (some ⟨b8,0,none⟩) s.length c8,AA 0,AA 0].toArray) (.buildN (pl:=[(0,2),(2,1)]) (us:=[(0,_)]) (cells:=[.slice (some ⟨b8,0,none⟩) s.length c8,AA 0,AA 0]) underlying259 kQ AIn Y Y) Y) Y (.oq (.box Y) ?_))
 rintro v L' ⟨r,rfl,rfl⟩
 refine Z ?_
 refine .rdFold (r:=r) s 0 0 O Y (Nat.zero_le _) hs (.rdUpF (r:=r) (st:=some s) O Y ?_)
 exact .dn Y Y ⟨r,Y,Y⟩
theorem RK (r:Nat) (st:Rs):Fn prog 108 #[AD r] [FK r st] fun v L=>v=AA (runP 0 Mj st).1∧L=[FK r (runP 0 Mj st).2]:=Fn.rdUp (v:=AA) (fun s k e=>Xs r s k e) st
theorem G6 (r most:Nat) (hm:most≤70368744177664) (st:Rs):Fn prog 109 #[AD r,AA most] [FK r st] fun v L=>v=AA ((runP 0 (EN most) st).1:Nat)∧L=[FK r (runP 0 (EN most) st).2]:=Fn.rdUp (v:=fun n:Nat=>AA n) (fun s k e=>LH r most hm s k e) st
theorem Kr (r most:Nat) (hm:most≤70368744177664) (st:Rs):Fn prog 111 #[AD r,AA most] [FK r st] fun v L=>v=AF (runP [] (HX most) st).1∧L=[FK r (runP [] (HX most) st).2]:=Fn.rdUp (v:=AF) (fun s k e=>Uh r most hm s k e) st
theorem MG (r:Nat) (st:Rs):Fn prog 110 #[AD r] [FK r st] fun v L=> ∃e1,(e1=0↔st=some [])∧v=AA e1∧∃st',L=[FK r st']:=Fn.rdEnd (fun s k e=>WV r s k e) st
def Pt.wa (y:Pt) (v:Value):Pt:=⟨y.kind,y.path,y.data,v,y.acl,y.own,y.num,y.err,y.subsV⟩
def Pt.ws (y:Pt) (v:Value):Pt:=⟨y.kind,y.path,y.data,y.aclV,y.acl,y.own,y.num,y.err,v⟩
def aclR (y:Pt):HP:=At 133 2 y.aclV y.acl.length (y.acl.flatMap CJ)
def AHT (e:En):HP:=At 38 8 e.x.subsV e.subs.length (e.subs.flatMap A0)
def entR (e:En):HP:=CP [aclR e.x,AHT e,Am aclR e.subs]
structure PtW (p:HP) (y:Pt):Prop where
 i:PtI y
 acl:∀h:Hp,p h→CA 2 h y.aclV y.acl.length (y.acl.flatMap CJ)
structure EnW (p:HP) (e:En):Prop where
 i:EnI e
 acl:∀h:Hp,p h→CA 2 h e.x.aclV e.x.acl.length (e.x.acl.flatMap CJ)
 subs:∀h:Hp,p h→CA 8 h e.x.subsV e.subs.length (e.subs.flatMap A0)
 each:∀y∈e.subs,∀h:Hp,p h→CA 2 h y.aclV y.acl.length (y.acl.flatMap CJ)
theorem EnW.x {p:HP} {e:En} (h:EnW p e):PtW p e.x:=⟨h.i.x,h.acl⟩
theorem EnW.sub {p:HP} {e:En} (h:EnW p e) {y:Pt} (hy:y∈e.subs):PtW p y:=⟨h.i.subs y hy,h.each y hy⟩
theorem ZZ {α:Type} (f:α→Bs) (l:List α) (j:Nat):((l.take j).flatMap f).length≤(l.flatMap f).length:=by
 conv=>rhs;rw [←take_append_drop j l]
 rw [flatMap_append,length_append];omega
theorem H2 {α:Type} (f:α→Bs) {l:List α} {j:Nat} (hj:j<l.length):(l.take (j+1)).flatMap f=(l.take j).flatMap f++f l[j]:=by
 rw [take_succ_eq_append_getElem hj,flatMap_append];simp
theorem JY {α:Type} (f:α→Bs) {l:List α} {j:Nat} (hj:j<l.length):((l.take j).flatMap f).length+(f l[j]).length≤(l.flatMap f).length:=by
 have:=ZZ f l (j+1)
 rw [H2 f hj,length_append] at this
 exact this
theorem PI {α:Type} (f:Rn α) (st:Rs):∀n,(AJ f n st).1.length=n
 |0=>rfl
 |n+1=>by show ((AJ f n st).1++[_]).length=n+1;rw [length_append,PI f st n];rfl
theorem J1 (st:Rs):(BU st).1≤256:=by
 unfold BU runP
 split
 ·exact Nat.zero_le _
 ·split
  ·rename_i x hx;exact (K7 hx).2
  ·exact Nat.zero_le _
theorem AFd {p:HP} {h:Hp} (hp:p h):CP [p] h:=⟨h,fun _=>none,fun _=> .inr rfl,fun _ _ e=>e,fun _ _ e=>(by cases e),hp,trivial⟩
theorem AGe {b:Nat} {l:List Value} {T:TypeId} {h:Hp} (hp:CP [AW b l T] h):AW b l T h:=Gx hp
theorem AGJ {α:Type} {f:α→HP} {l:List α} {y:α} {h:Hp} (hs:CP [f y,Am f l] h):Am f (l++[y]) h:=
 OB (perm_append_comm (l₁:=[y])) (JD hs)
section
variable {P:Program} {W:World} {n:Nat} {ds:List Deferred} {E:Bi} {L R:List HP} {X:Act→World→Prop} {ty:TypeId}
theorem G.bigAdd {α:Type} {f:α→HP} {l:List α} (y:α) {p:HP} (hp:p=f y) (hL:A4 [p,Am f l] L R) (h:G W n ds E (Am f (l++[y])::R) X):G W n ds E L X:=by
 subst hp
 exact G.fold hL (fun w hw=>AGJ hw) h
theorem G.wrCast {w:Nat} {bs bs':Bs} (hL:BJ (FM w bs) L R) (hb:bs=bs') (h:G W n ds E (FM w bs'::R) X):G W n ds E L X:=by
 subst hb;exact G.perm hL.perm h
theorem G.rdCast {r:Nat} {st st':Rs} (hL:BJ (FK r st) L R) (hb:st=st') (h:G W n ds E (FK r st'::R) X):G W n ds E L X:=by
 subst hb;exact G.perm hL.perm h
theorem AO.inL {o:Oper} {p p' q:HP} (h:AO P o E [p] fun _ L'=>L'=[p']):AO P o E [CP [p,q]] fun _ L'=>L'=[CP [p',q]]:=by
 intro ρ w F ha hs
 have hs':St ([p]++([q]++F)) w:=Eu (L1:=[p,q]) hs
 refine (h ρ w _ ha hs').mono ?_
 rintro v w' ⟨L',rfl,hs2,hk⟩
 exact ⟨_,rfl,Gq (L1:=[p',q]) hs2,hk⟩
theorem AO.inR {o:Oper} {p q q':HP} (h:AO P o E [q] fun _ L'=>L'=[q']):AO P o E [CP [p,q]] fun _ L'=>L'=[CP [p,q']]:=by
 intro ρ w F ha hs
 have hs1:St (p::q::F) w:=Eu (L1:=[p,q]) hs
 have hs':St ([q]++([p]++F)) w:=EJ hs1
 refine (h ρ w _ ha hs').mono ?_
 rintro v w' ⟨L',rfl,hs2,hk⟩
 exact ⟨_,rfl,Gq (L1:=[p,q']) (EJ hs2),hk⟩
end
def LD (a:Nat×Nat):Value:= .pointer (some ⟨a.1,a.2,none⟩)
/-! ### Wishes -/
structure Rq where
 kind:Int
 xid:Int
 path:Bs
 data:Bs
 aclV:Value
 acl:List Ac
 flags:Int
 ver:Int
 watch:Bool
 subsV:Value
 armV:Value
def L8 (r:Rq):List Value:=[AA r.kind,AA r.xid,AF r.path,AF r.data,r.aclV,AA r.flags,AA r.ver, .bool r.watch,r.subsV,r.armV]
structure RqA (p:HP) (r:Rq):Prop where
 kind:Aw r.kind
 xid:Aw r.xid
 flags:Aw r.flags
 ver:Aw r.ver
 path:r.path.length≤1048566
 data:r.data.length≤1048576
 acl:∀h:Hp,p h→CA 2 h r.aclV r.acl.length (r.acl.flatMap CJ)
 many:r.acl.length≤1048576
 ids:∀a∈r.acl,Aw a.1∧a.2.length≤1048576
 sub:∃a n c,r.subsV= .slice a n c
 arm:∃a n c,r.armV= .slice a n c
def F3:Pt:=⟨0,[],[],AR,[],0,0,0,AR⟩
structure C9 where
 ses:Int
 ids:List Bs
def Gg (p:Bs) (n:Int):Bs:=p++((List.replicate 10 (48:UInt8)++Lib.itoa (max n 0)).drop (Lib.itoa (max n 0)).length)
abbrev Ay (b:Prop) [Decidable b] (e:Int):Int:=if b then e else 0
def Ks (τ:Tr) (ids:List Bs) (p:Bs) (perm:Int):Prop:=AL τ p∧ACy (KB τ p) perm ids=true
instance (τ:Tr) (ids:List Bs) (p:Bs) (perm:Int):Decidable (Ks τ ids p perm):=inferInstanceAs (Decidable (_∧_))
def Kv (τ:Tr) (r:Rq):Ie:=A7 τ (AK r.path)
def CE (τ:Tr) (r:Rq):Bs:=if andI r.flags 2≠0 then Gg r.path (Kv τ r).cver else r.path
def Aq (τ:Tr) (u:C9) (r:Rq):Pt:=⟨1,CE τ r,r.data,AR,r.acl,if andI r.flags 1≠0 then u.ses else 0,DB ((Kv τ r).cver+1),0,AR⟩
def D8 (τ:Tr) (u:C9) (r:Rq):List Int:=
  [BQ r.path,Ay (r.data.length>100∨r.flags<0∨r.flags>3) 1,Ay (¬GE r.acl=true) 50,Ay (¬AL τ (AK r.path)) 60,Ay ((Kv τ r).own≠0) 63,
   Ay (¬Ks τ u.ids (AK r.path) 4) 65,Ay (BQ (CE τ r)≠0) 41,Ay (AL τ (CE τ r)) 61,Ay ((AX τ).length≥64) 64,Ay (andI r.flags 1≠0∧(AG τ u.ses).length≥32) 64]
def Ed (τ:Tr) (r:Rq):Pt:=⟨2,r.path,[],AR,[],0,DB ((Kv τ r).cver+1),0,AR⟩
def HM (τ:Tr) (u:C9) (r:Rq):List Int:=
 [BQ r.path,Ay (r.path=[47]) 1,Ay (¬AL τ r.path) 60,Ay (¬Ks τ u.ids (AK r.path) 8) 65,Ay (r.ver≠ -1∧r.ver≠(A7 τ r.path).ver) 66,Ay ((A7 τ r.path).kids>0) 62]
def Ew (r:Rq):Int:=if r.kind=3 then Ay (r.data.length>100) 1 else if r.kind=4 then Ay (¬GE r.acl=true) 50 else 0
def Qt (k:Int):Int:=if k=3 then 2 else if k=4 then 16 else 1
def DI (k:Int) (s:Ie):Int:=if k=4 then s.av else s.ver
def Lw (τ:Tr) (u:C9) (r:Rq):List Int:=
 [BQ r.path,Ew r,Ay (¬AL τ r.path) 60,Ay (¬Ks τ u.ids r.path (Qt r.kind)) 65,Ay (r.ver≠ -1∧r.ver≠DI r.kind (A7 τ r.path)) 66]
def GM (τ:Tr) (r:Rq):Pt:=
 if r.kind=3 then ⟨3,r.path,r.data,AR,[],0,DB (DI 3 (A7 τ r.path)+1),0,AR⟩
 else if r.kind=4 then ⟨4,r.path,[],AR,r.acl,0,DB (DI 4 (A7 τ r.path)+1),0,AR⟩ else F3
def AY (τ:Tr) (u:C9) (r:Rq):Pt×Int:=
 if r.kind=1 then (Aq τ u r,CM (D8 τ u r)) else if r.kind=2 then (Ed τ r,CM (HM τ u r))
 else if r.kind=3∨r.kind=4∨r.kind=5 then (GM τ r,CM (Lw τ u r)) else (F3,110)
def Az (e n:Int):Pt:=⟨8,[],[],AR,[],0,n,e,AR⟩
def B3 (u:C9):List Rq→Tr→Tr×List Pt×Option (Nat×Int)
  |[],τ=>(τ,[],none)
  |r::l,τ=>if (AY τ u r).2≠0 then (τ,[],some (0,(AY τ u r).2))
    else ((B3 u l (AM τ τ.zx (AY τ u r).1 []).1).1,(AY τ u r).1::(B3 u l (AM τ τ.zx (AY τ u r).1 []).1).2.1,(B3 u l (AM τ τ.zx (AY τ u r).1 []).1).2.2.map fun x=>(x.1+1,x.2))
def BL (τ:Tr) (u:C9) (l:List Rq):Pt×List Pt:=
 if l.length=0∨l.length>8 then (Az 1 (-1),[]) else match (B3 u l τ).2.2 with
  |some (i,e)=>(Az e i,[])
  |none=>(⟨7,[],[],AR,[],0,0,0,AR⟩,(B3 u l τ).2.1)
def Cu (τ:Tr) (p:Bs):Pt:=⟨2,p,[],AR,[],0,DB ((A7 τ (AK p)).cver+1),0,AR⟩
def A8:List Bs→Tr→List Pt
 |[],_=>[]
 |p::l,τ=>Cu τ p::A8 l (AM τ τ.zx (Cu τ p) []).1
def DY (τ:Tr) (s:Int):Pt×List Pt:=(⟨6,[],[],AR,[],s,0,0,AR⟩,A8 (AG τ s).reverse τ)
def C0 (k:Int):Bool:=decide (1≤k)&&decide (k≤8)&& !decide (k=5)
def FO (τ:Tr) (u:C9) (r:Rq) (subs:List Rq):Pt×List Pt:=
 if ¬C0 r.kind=true then (Az 110 (-1),[]) else if ¬PE τ u.ses then (Az 67 (-1),[])
 else if r.kind=6 then BL τ u subs else if r.kind=7 then (F3,[]) else if r.kind=8 then DY τ u.ses
 else if (AY τ u r).2≠0 then (Az (AY τ u r).2 (-1),[]) else ((AY τ u r).1,[])
end Go.Proofs.YtbhkloaagkkioaaGreatDoor
/-
 DERIVED:THE SHELF's CONTRACTS AT THIS DUMP,IN PLAIN WORDS (tools/lay-plain.mjs out of 'YtbhkloaagkkioaaGreatDoorLayP.lean',which tools/lay-shelf.mjs wrote):THE SAME DECLARATIONS UNDER THE SAME NAMES:'import','namespace','open','def','theorem' AND NOTHING ELSE:no command of the shelf's:FOR A HAND-IN. Each laying:the table of numbers ('.._ren') and one theorem,a field a fact of the dump's own or the kernel's comparison;each Gt:ONE APPLICATION.
-/
namespace Go.Proofs
open Go List Go.Proofs.Tryz Go.Shelf
def Tryz.itoaA_ren:Go.Shelf.Ren:=⟨fun|171=>284|243=>317|246=>339|283=>290|284=>291|285=>292|286=>293|129=>277|317=>322|318=>323|319=>324|320=>325|337=>341|338=>342|n=>n,fun|3=>3|9=>9|2=>2|4=>4|171=>355|0=>0|53=>237|37=>111|5=>5|173=>357|212=>377|51=>230|20=>20|213=>378|46=>117|232=>393|233=>109|n=>n,fun|17=>1|18=>4|19=>5|n=>n⟩
theorem Tryz.itoaA:Go.Proofs.LaysM.n171 prog Tryz.itoaA_ren:={
 mixed:=by kernel_rfl
 f129:=func277.trans (congrArg some (by kernel_rfl))
 f171:=func284.trans (congrArg some (by kernel_rfl))
 f243:=func317.trans (congrArg some (by kernel_rfl))
 f246:=func339.trans (congrArg some (by kernel_rfl))
 f283:=func290.trans (congrArg some (by kernel_rfl))
 f284:=func291.trans (congrArg some (by kernel_rfl))
 f285:=func292.trans (congrArg some (by kernel_rfl))
 f286:=func293.trans (congrArg some (by kernel_rfl))
 f317:=func322.trans (congrArg some (by kernel_rfl))
 f318:=func323.trans (congrArg some (by kernel_rfl))
 f319:=func324.trans (congrArg some (by kernel_rfl))
 f320:=func325.trans (congrArg some (by kernel_rfl))
 f337:=func341.trans (congrArg some (by kernel_rfl))
 f338:=func342.trans (congrArg some (by kernel_rfl))
 t0:=underlying0
 a0:=Tryz.isAgg0
 z0:=Tryz.sizeOf0
 v0:=Tryz.zeroValue0
 t2:=underlying2
 a2:=Tryz.isAgg2
 z2:=Tryz.sizeOf2
 v2:=Tryz.zeroValue2
 t3:=underlying3
 a3:=Tryz.isAgg3
 z3:=Tryz.sizeOf3
 v3:=Tryz.zeroValue3
 t4:=underlying4
 a4:=Tryz.isAgg4
 z4:=Tryz.sizeOf4
 v4:=Tryz.zeroValue4
 t5:=underlying5
 a5:=Tryz.isAgg5
 z5:=Tryz.sizeOf5
 v5:=Tryz.zeroValue5
 t9:=underlying9
 a9:=Tryz.isAgg9
 z9:=Tryz.sizeOf9
 v9:=Tryz.zeroValue9
 t20:=underlying20
 a20:=Tryz.isAgg20
 z20:=Tryz.sizeOf20
 v20:=Tryz.zeroValue20
 t37:=underlying111
 a37:=Tryz.isAgg111
 z37:=Tryz.sizeOf111
 v37:=Tryz.zeroValue111
 t46:=underlying117
 a46:=Tryz.isAgg117
 z46:=Tryz.sizeOf117
 v46:=Tryz.zeroValue117
 t51:=underlying230
 a51:=Tryz.isAgg230
 z51:=Tryz.sizeOf230
 v51:=Tryz.zeroValue230
 t53:=underlying237
 a53:=Tryz.isAgg237
 z53:=Tryz.sizeOf237
 v53:=Tryz.zeroValue237
 t171:=underlying355
 a171:=Tryz.isAgg355
 z171:=Tryz.sizeOf355
 v171:=Tryz.zeroValue355
 t173:=underlying357
 a173:=Tryz.isAgg357
 z173:=Tryz.sizeOf357
 v173:=Tryz.zeroValue357
 t212:=underlying377
 a212:=Tryz.isAgg377
 z212:=Tryz.sizeOf377
 v212:=Tryz.zeroValue377
 t213:=underlying378
 a213:=Tryz.isAgg378
 z213:=Tryz.sizeOf378
 t232:=underlying393
 a232:=Tryz.isAgg393
 z232:=Tryz.sizeOf393
 v232:=Tryz.zeroValue393
 t233:=underlying109
 a233:=Tryz.isAgg109
 z233:=Tryz.sizeOf109
 v233:=Tryz.zeroValue109
 g17:=by kernel_rfl
 g18:=by kernel_rfl
 g19:=by kernel_rfl
 i0:=by kernel_rfl
 i2:=by kernel_rfl
 i3:=by kernel_rfl
 i4:=by kernel_rfl
 i5:=by kernel_rfl
 i9:=by kernel_rfl
 i20:=by kernel_rfl
 i37:=by kernel_rfl
 i46:=by kernel_rfl
 i51:=by kernel_rfl
 i53:=by kernel_rfl
 i171:=by kernel_rfl
 i173:=by kernel_rfl
 i212:=by kernel_rfl
 i232:=by kernel_rfl
 i233:=by kernel_rfl
 m17:=by kernel_rfl
 m18:=by kernel_rfl
 m19:=by kernel_rfl}
def Tryz.repeatA_ren:Go.Shelf.Ren:=⟨fun|105=>190|212=>172|99=>257|165=>258|166=>259|170=>260|169=>261|263=>221|264=>222|206=>294|240=>295|241=>296|276=>326|277=>327|n=>n,fun|9=>9|3=>3|4=>4|20=>20|0=>0|46=>117|109=>271|5=>5|72=>329|76=>332|51=>230|146=>315|53=>237|148=>317|70=>327|37=>111|75=>331|127=>359|164=>379|80=>50|n=>n,fun|n=>n⟩
theorem Tryz.repeatA:Go.Proofs.Lays.n105 prog Tryz.repeatA_ren:={
 mixed:=by kernel_rfl
 f99:=func257.trans (congrArg some (by kernel_rfl))
 f105:=func190.trans (congrArg some (by kernel_rfl))
 f165:=func258.trans (congrArg some (by kernel_rfl))
 f166:=func259.trans (congrArg some (by kernel_rfl))
 f169:=func261.trans (congrArg some (by kernel_rfl))
 f170:=func260.trans (congrArg some (by kernel_rfl))
 f206:=func294.trans (congrArg some (by kernel_rfl))
 f212:=func172.trans (congrArg some (by kernel_rfl))
 f240:=func295.trans (congrArg some (by kernel_rfl))
 f241:=func296.trans (congrArg some (by kernel_rfl))
 f263:=func221.trans (congrArg some (by kernel_rfl))
 f264:=func222.trans (congrArg some (by kernel_rfl))
 f276:=func326.trans (congrArg some (by kernel_rfl))
 f277:=func327.trans (congrArg some (by kernel_rfl))
 t0:=underlying0
 a0:=Tryz.isAgg0
 z0:=Tryz.sizeOf0
 v0:=Tryz.zeroValue0
 t3:=underlying3
 a3:=Tryz.isAgg3
 z3:=Tryz.sizeOf3
 v3:=Tryz.zeroValue3
 t4:=underlying4
 a4:=Tryz.isAgg4
 z4:=Tryz.sizeOf4
 v4:=Tryz.zeroValue4
 t5:=underlying5
 a5:=Tryz.isAgg5
 z5:=Tryz.sizeOf5
 v5:=Tryz.zeroValue5
 t9:=underlying9
 a9:=Tryz.isAgg9
 z9:=Tryz.sizeOf9
 v9:=Tryz.zeroValue9
 t20:=underlying20
 a20:=Tryz.isAgg20
 z20:=Tryz.sizeOf20
 v20:=Tryz.zeroValue20
 t37:=underlying111
 a37:=Tryz.isAgg111
 z37:=Tryz.sizeOf111
 v37:=Tryz.zeroValue111
 t46:=underlying117
 a46:=Tryz.isAgg117
 z46:=Tryz.sizeOf117
 v46:=Tryz.zeroValue117
 t51:=underlying230
 a51:=Tryz.isAgg230
 z51:=Tryz.sizeOf230
 v51:=Tryz.zeroValue230
 t53:=underlying237
 a53:=Tryz.isAgg237
 z53:=Tryz.sizeOf237
 v53:=Tryz.zeroValue237
 t70:=underlying327
 a70:=Tryz.isAgg327
 z70:=Tryz.sizeOf327
 v70:=Tryz.zeroValue327
 t72:=underlying329
 a72:=Tryz.isAgg329
 z72:=Tryz.sizeOf329
 v72:=Tryz.zeroValue329
 t75:=underlying331
 a75:=Tryz.isAgg331
 z75:=Tryz.sizeOf331
 v75:=Tryz.zeroValue331
 t76:=underlying332
 a76:=Tryz.isAgg332
 z76:=Tryz.sizeOf332
 v76:=Tryz.zeroValue332
 t109:=underlying271
 a109:=Tryz.isAgg271
 z109:=Tryz.sizeOf271
 v109:=Tryz.zeroValue271
 t127:=underlying359
 a127:=Tryz.isAgg359
 z127:=Tryz.sizeOf359
 v127:=Tryz.zeroValue359
 t146:=underlying315
 a146:=Tryz.isAgg315
 z146:=Tryz.sizeOf315
 v146:=Tryz.zeroValue315
 t148:=underlying317
 a148:=Tryz.isAgg317
 z148:=Tryz.sizeOf317
 v148:=Tryz.zeroValue317
 t164:=underlying379
 a164:=Tryz.isAgg379
 z164:=Tryz.sizeOf379
 v164:=Tryz.zeroValue379}
end Go.Proofs
namespace Go.Proofs.YtbhkloaagkkioaaGreatDoor
open Go List Go.Proofs.Tryz Go.RowKit Go.Sort Go.Shelf
def J9 (p:HP):Prop:= ∀(h:Hp) (w:World),p h→(∀b o,h b=some o→w.heap[b]?=some o)→Lib.TabIs prog w "internal/strconv.uint64pow10" .u64 Lib.pow10Tab
theorem AAW (p:HP) (hT:J9 p) (n:Int) (hn:Aw n):Fn prog 284 #[AA n] [p] fun v L=>v=AF (Lib.itoa n)∧L=[p]:=by
 intro F w hs
 obtain ⟨h1,hle,hp⟩:=Ae (show CP (p::F) _ from hs)
 refine (Any.strconv_Itoa Tryz.itoaA n hn.1 hn.2 w (hT h1 w hp hle)).mono ?_
 rintro e w' ⟨rfl,k,os,rfl⟩
 have hb:Below w.heap.size w (Sort.grow (w.drewN k) os):=⟨rfl,rfl,rfl,by simp [Sort.grow,World.drewN],fun b hb=>by
  show (w.heap++os)[b]?=_
  rw [Array.getElem?_append_left hb]⟩
 exact ⟨_,_,⟨rfl,rfl⟩,rfl,hs.below hb,As.below hb⟩
theorem AE2 (n:Int) (hn:0≤n∧n≤9223372036854775807):(Lib.itoa n).length≤20:=by
 unfold Lib.itoa
 rw [if_neg om]
 have key:∀(k u:Nat),u<10^(k+1)→(Lib.decDigits u).length≤k+1:=by
  intro k
  induction k with
  |zero=>intro u h;rw [Lib.decDigits,dif_pos om];simp
  |succ k ih=>
   intro u h
   rw [Lib.decDigits]
   split
   ·simp
   ·rw [length_append,length_singleton]
    have:=ih (u/10) (by rw [Nat.div_lt_iff_lt_mul dQ];rw [Nat.pow_succ] at h;exact h)
    omega
 exact key 19 _ om
theorem AGG:Builder.Extra prog Tryz.repeatA_ren where
 sizeBuilder:=by kernel_rfl
 liesBuilder:=by kernel_rfl
 t5:=underlying5
 a5:=Tryz.isAgg5
 z5:=Tryz.sizeOf5
 v5:=Tryz.zeroValue5
 infoByte:=by kernel_rfl
 cellsByte:=by kernel_rfl
 sizeByte:=by kernel_rfl
 neB5:=by decide
theorem VU:Fn prog 190 #[AF [48],AA 10] [] fun v L=>v=AF (List.replicate 10 48)∧L=[]:=by
 intro F w hs
 refine (Any.strings_Repeat Tryz.repeatA AGG (bs [48]) 10 w dQ dQ).mono ?_
 rintro e w' ⟨rfl,hb⟩
 exact ⟨_,_,⟨by kernel_rfl,rfl⟩,rfl,hs.below hb,As.below hb⟩
theorem CW.share {P:Program} {f:FuncId} {fn:Func} {c:Code} {us vs ws:List Value} {pre Q R:List HP} {φ:Value→Prop} (hf:P.funcs[f]?=some fn) (hb:fn.body=some c) (hn:(fn.name== "runtime.NumGoroutine")=false)
  (hp:A4 pre Q R) (h:Fn P f (us++vs++ws).toArray pre fun v L=>φ v∧L=pre):CW P (.func (.func f) us.toArray ws.toArray) vs [CP Q] (fun v L=>φ v∧L=[CP Q]):=by
 refine CW.of hf hb hn ?_
 intro F w hs
 obtain ⟨h1,h2,hd,a1,a2,hq,hF⟩:=hs
 have hs':St (Q++F) w:=ON hd a1 a2 hq hF
 have hs2:St (pre++(R++F)) w:=by have:=DG (hp.perm.append_right F) hs';rwa [append_assoc] at this
 refine (h (R++F) w hs2).mono ?_
 rintro e w' ⟨v,L,⟨hv,hL⟩,he,hs3,hk⟩
 rw [hL] at hs3
 have hs4:St ((pre++R)++F) w':=by rw [append_assoc];exact hs3
 exact ⟨v,_,⟨hv,rfl⟩,he,Gq (DG (hp.perm.append_right F).symm hs4),hk⟩
theorem Fn.unpack {P:Program} {f:FuncId} {args:Array Value} {p:HP} {q:List HP} {φ:Value→Prop} (h:Fn P f args [p,CP q] fun v L=>φ v∧L=[p,CP q]):Fn P f args (p::q) fun v L=>φ v∧L=p::q:=by
 intro F w hs
 obtain ⟨h1,h2,hd,a1,a2,hp,hF⟩:=hs
 have hs':St ([p,CP q]++F) w:=⟨h1,h2,hd,a1,a2,hp,Gq hF⟩
 refine (h F w hs').mono ?_
 rintro e w' ⟨v,L,⟨hv,rfl⟩,he,hs2,hk⟩
 obtain ⟨g1,g2,gd,c1,c2,gp,gF⟩:=hs2
 exact ⟨v,_,⟨hv,rfl⟩,he,⟨g1,g2,gd,c1,c2,gp,Eu gF⟩,hk⟩
theorem AE.andI {P:Program} {E:Bi} {L:List HP} {ty:TypeId} {t t':TypeId} {x y:Operand} {a b:Int} (hx:ev E x=some (.int .i64 a)) (hy:ev E y=some (.int .i64 b)):
  AE P ⟨none, .binOp .and t x y t',ty, "",#[],none⟩ E L (AA (andI a b)):=AE.and hx hy
theorem AE.addW {P:Program} {E:Bi} {L:List HP} {ty:TypeId} {t t':TypeId} {x y:Operand} {a b:Int} (hx:ev E x=some (.int .i64 a)) (hy:ev E y=some (.int .i64 b)):
  AE P ⟨none, .binOp .add t x y t',ty, "",#[],none⟩ E L (AA (DB (a+b))):=AE.int hx hy rfl
theorem SX (p:Bs) (n:Int):(Gg p n).length≤p.length+10:=by
 unfold Gg
 rw [length_append,length_drop,length_append,length_replicate];omega
def CQ (x:Pt) (w:Value):Pt:=⟨x.kind,x.path,x.data,w,x.acl,x.own,x.num,x.err,x.subsV⟩
def Cp (t:Nat) (u:C9) (iv:Value) (r:Rq):List Value:=AD t::AA u.ses::iv::L8 r
structure E3 (p:HP) (u:C9) (iv:Value) (r:Rq):Prop where
 rq:RqA p r
 ses:Aw u.ses
 ids:∀h:Hp,p h→CA 1 h iv u.ids.length (A1 u.ids)
 few:u.ids.length≤1048576
 shape:∃a n c,iv= .slice a n c
 ashape:∃a n c,r.aclV= .slice a n c
 tab:J9 p
theorem E3.cells {p:HP} {u:C9} {iv:Value} {r:Rq} (h:E3 p u iv r) (t:Nat):(Cp t u iv r).all AB=true:=by
 obtain ⟨a,n,c,e1⟩:=h.shape
 obtain ⟨a2,n2,c2,e2⟩:=h.ashape
 obtain ⟨a3,n3,c3,e3⟩:=h.rq.sub
 obtain ⟨a4,n4,c4,e4⟩:=h.rq.arm
 simp [Cp,L8,e1,e2,e3,e4,AB]
theorem RH {p:HP} {u:C9} {iv:Value} {r:Rq} (h:E3 p u iv r) (τ:Tr):(CE τ r).length≤1048576:=by
 have:=h.rq.path
 unfold CE
 split
 ·have:=SX r.path (Kv τ r).cver;omega
 ·omega
theorem ADZ {τ:Tr} {N:Nat} (ho:τ.Ok N) (q:Bs):(KB τ q).length≤1048576:=by
 unfold KB
 rcases hl:AC τ.nodes q with _|x
 ·simp
 ·exact ho.acls _ (De hl)
theorem UV {τ:Tr} {q:Bs} (h:(if AL τ q then (0:Int) else 60)=0):AL τ q:=by
 rcases Decidable.em (AL τ q) with g|g
 ·exact g
 ·rw [if_neg g] at h;omega
theorem QR {τ:Tr} {q:Bs} (h:¬(if AL τ q then (0:Int) else 60)=0):¬AL τ q:=fun g=>h (if_pos g)
theorem P1 (p:HP) (hT:J9 p) (s:Bs) (n:Int) (hs:s.length≤1099511627776) (hn:Aw n):Fn prog 226 #[AF s,AA n] [p] fun v L=>v=AF (Gg s n)∧L=[p]:=by
 refine Fn.intro func226 Y Y fun F W=>?_
 have hcd:((List.replicate 10 (48:UInt8)++Lib.itoa (max n 0)).drop (Lib.itoa (max n 0)).length).length≤10:=by rw [length_drop,length_append,length_replicate];omega
 have hlen:=AE2 (max n 0) (by unfold Aw at hn;omega)
 have hcl:(List.replicate 10 (48:UInt8)++Lib.itoa (max n 0)).length=(Lib.itoa (max n 0)).length+10:=by rw [length_append,length_replicate];omega
 have hcr:(List.replicate 10 (48:UInt8)).length=10:=length_replicate
 refine Z ?_
 refine .cv func190 [_,_] (VU) ?_
 refine Z ?_
 refine .u (.max2 Y Y) (.cv func284 [_] (AAW p hT (max n 0) (by unfold Aw at *;omega)) ?_)
 refine .q (.concat Y Y om) Y (.an Y (.sm Y (.m Y (.m Y (.q (.to (v':=AA ((Lib.itoa (max n 0)).length+10)) (.strlen (a:=List.replicate 10 (48:UInt8)++Lib.itoa (max n 0)) Y underlying9 Y) (by rw [hcl];rfl)) Y (.q (.to (v':=AA ((Lib.itoa (max n 0)).length)) (.sub Y Y om) (by congr 1;omega)) Y (.q (.to (v':=AF ((List.replicate 10 (48:UInt8)++Lib.itoa (max n 0)).drop (Lib.itoa (max n 0)).length)) (.strFrom (i:=((Lib.itoa (max n 0)).length:Int)) Y Y underlying9 (by rw [hcl];omega)) (by rw [Int.toNat_natCast])) Y (.q (.concat Y Y om) Y (Z ?_)))))))))
 exact .vv
theorem C2 (t:Nat) (τ:Tr) (zx ses xid:Int) (x:Pt) (subs:List Pt) (p:HP) (hx:TxA p x subs) (N:Nat) (ho:τ.Ok N) (hN:N+subs.length≤1099511627776):Fn prog 30 #[AD t, .agg ([AA zx,AA ses,AA xid]++A0 x).toArray] [AV t τ,p] fun v L=> ∃u e,v= .tuple #[u,AA e]∧e=(AM τ zx x subs).2.2∧(∃a c,u= .slice a (AM τ zx x subs).2.1.length c)∧L=[AV t (AM τ zx x subs).1,p,At 208 3 u (AM τ zx x subs).2.1.length ((AM τ zx x subs).2.1.flatMap FP)]:=by
 refine Fn.intro func30 Y Y fun F W=>?_
 refine .rdAny (p:=p) hx.rd O fun asb csb esub _=>?_
 have hrd:=hx.rd
 rw [esub] at hrd
 have hfs:=hx.few
 refine .sr (.oq (.box Y) ?_)
 rintro v L' ⟨be,rfl,rfl⟩
 refine Z ?_
 refine .ptCast (b:=be) (l':=([AA zx,AA ses,AA xid]++A0 x)) O Y ?_
 refine Z ?_
 refine .q (.loadAs (vs:=A0 x) Y A3 O (by simp [A0]) Y) Y (.oq (.allocA BM) ?_)
 rintro v L' ⟨bx,rfl,rfl⟩
 refine .sa Y Y BO (by exact hx.own.all) ?_
 refine .nil (.ptCast (b:=bx) (l':=A0 x) O Y ?_)
 refine .then_n (.seq (.trOpen (τ:=τ) O fun rn rs m s hI=>(Z ?_)))
 refine .trFold (τ:=(zxT τ zx)) (hI.zx zx) O Y Y Y (Z ?_)
 refine .condD Y (fun h26=>?_) (fun h26=>?_)
 ·refine Z ?_
  refine .condD Y (fun h30=>?_) (fun h30=>?_)
  ·refine .trOpen (τ:=(zxT τ zx)) O fun rn rs m s hI=>(.draw [11] [[0,1,2,3,4,5,6,7,8,9,10,11]] mixed kQ (.g0 (Z ?_)))
   refine D.kv Y (.build (us:=[(0,_),(1,_)]) ABt Gl Y Y (by simp [AB])) (.hh Y (.mapSet (m:=s) (enc:=ZJ) (v:=(x.num,x.data)) (k:=x.own) (Aa.int underlying3) Y Y Y underlying121 ?he40) ?_)
   case he40=>rfl
   rintro v L' rfl
   refine D.ph (.fin (.trFold (τ:=(openS (zxT τ zx) x.own x.num x.data)) (hI.open x.own x.num x.data) O Y Y Y (Z ?_)))
   refine .add (AU 208 3) ?_
   have hc:AM τ zx x subs=(openS (zxT τ zx) x.own x.num x.data,([],0)):=by unfold AM;dsimp only;rw [if_pos h26,if_pos om]
   refine .trCast (τ':=(AM τ zx x subs).1) O (by rw [hc]) (.slCast (T:=208) (sz:=3) (m':=(AM τ zx x subs).2.1.length) (xs':=(AM τ zx x subs).2.1.flatMap FP) O (by (rw [hc];try rfl)) (by (rw [hc];try rfl)) ?_)
   exact .dn Y Y ⟨_,_,Y,by rw [hc],⟨_,_,by (rw [hc];try rfl)⟩,rfl⟩
  refine Z ?_
  refine .add (AU 208 3) ?_
  have hc:AM τ zx x subs=((zxT τ zx),([],0)):=by unfold AM;dsimp only;rw [if_pos h26,if_neg om]
  refine .trCast (τ':=(AM τ zx x subs).1) O (by rw [hc]) (.slCast (T:=208) (sz:=3) (m':=(AM τ zx x subs).2.1.length) (xs':=(AM τ zx x subs).2.1.flatMap FP) O (by (rw [hc];try rfl)) (by (rw [hc];try rfl)) ?_)
  exact .dn Y Y ⟨_,_,Y,by rw [hc],⟨_,_,by (rw [hc];try rfl)⟩,rfl⟩
 refine Z ?_
 refine .condD Y (fun h42=>?_) (fun h42=>?_)
 ·refine .seq (.sr (.fa Y Fs (.q (.as (v':= .slice asb subs.length csb) (by exact esub) (.ld Y O6)) Y (Z ?_))))
  refine .add (AU 208 3) (.trCast (τ':=(AP (zxT τ zx) zx ((subs.take 0).filter Bc)).1) O (by rw [take_zero];rfl) (.slCast (T:=208) (sz:=3) (m':=(AP (zxT τ zx) zx ((subs.take 0).filter Bc)).2.length) (xs':=(AP (zxT τ zx) zx ((subs.take 0).filter Bc)).2.flatMap FP) O (by rw [take_zero];rfl) (by rw [take_zero];rfl) (.loopK (ι:=Nat×Value) (fun q E=>(47,AA q.1)::(6,q.2)::E) (fun q=>[AV t (AP (zxT τ zx) zx ((subs.take q.1).filter Bc)).1,At 208 3 q.2 (AP (zxT τ zx) zx ((subs.take q.1).filter Bc)).2.length ((AP (zxT τ zx) zx ((subs.take q.1).filter Bc)).2.flatMap FP)]) (fun q=>q.1≤subs.length∧∃a c,q.2= .slice a (AP (zxT τ zx) zx ((subs.take q.1).filter Bc)).2.length c) (fun q=>subs.length-q.1) (0, .slice none 0 0) (ts:=[0,3,4,5,7,45,46]) O (⟨Nat.zero_le _,none,0,by rw [take_zero];rfl⟩) O O ?_)))
  rintro ⟨i,u⟩ ⟨hi,au,cu,hu⟩
  dsimp only
  dsimp only at hi hu
  subst hu
  have hev:=LU (zxT τ zx) zx ((subs.take i).filter Bc)
  have hfl:=length_filter_le Bc (subs.take i)
  rw [length_take] at hfl
  have hok:(AP (zxT τ zx) zx ((subs.take i).filter Bc)).1.Ok (N+subs.length):=((ho.zx zx).parts zx _ (fun y hy=>(hx.each y (mem_of_mem_take (mem_filter.1 hy).1)).few)).more om
  refine Z ?_
  refine .condD Y (fun h48=>?_) (fun h48=>?_)
  ·have hi2:i<subs.length:=by omega
   refine .rdShape (p:=p) hrd O om fun bs os e1=>?_
   subst e1
   have hys:=hx.each _ (getElem_mem hi2)
   refine Z ?_
   refine .q (.indexAddr Y Y FQ om) Y (.q (.loadRdA (sz:=8) (j:=i*8) (k:=8) (p:=p) (vs:=A0 subs[i]) Y A3 O hrd (by simp) om om (BH (f:=A0) (sz:=8) (fun _ _=>Y) om)) Y (.oq (.allocA BM) ?_))
   rintro v L' ⟨by1,rfl,rfl⟩
   refine .sa Y Y BO (by exact hys.all) ?_
   refine .nil (.ptCast (b:=by1) (l':=A0 subs[i]) O Y ?_)
   refine Z ?_
   refine .condD Y (fun h53=>?_) (fun h53=>?_)
   ·refine Z ?_
    refine .q (.loadAs (vs:=A0 subs[i]) Y A3 O (by simp [A0]) Y) Y (Z ?_)
    refine .oq (.c func68 [_,_,_] (JW t (AP (zxT τ zx) zx ((subs.take i).filter Bc)).1 subs[i] zx p hys (N+subs.length) hok om)) ?_
    rintro v L' ⟨a14,c14,rfl,rfl⟩
    refine .oq (.append (n:=(AP (zxT τ zx) zx ((subs.take i).filter Bc)).2.length) (m:=(AI (AP (zxT τ zx) zx ((subs.take i).filter Bc)).1 subs[i] zx).2.length) (ys:=(AI (AP (zxT τ zx) zx ((subs.take i).filter Bc)).1 subs[i] zx).2.flatMap FP) (p:=At 208 3 (.slice a14 (AI (AP (zxT τ zx) zx ((subs.take i).filter Bc)).1 subs[i] zx).2.length c14) (AI (AP (zxT τ zx) zx ((subs.take i).filter Bc)).1 subs[i] zx).2.length ((AI (AP (zxT τ zx) zx ((subs.take i).filter Bc)).1 subs[i] zx).2.flatMap FP)) Y Y Y JI (.inl ⟨_,underlying80⟩) Dc Y Y ?hc69 ?hr70 ?hb71 dQ) ?_
    case hc69=>exact QL _
    case hr70=>exact fun h hp=>Ad hp
    case hb71=>have:=Nl (AP (zxT τ zx) zx ((subs.take i).filter Bc)).1 subs[i] zx;omega
    rintro v L' ⟨⟨a14_6,c14_6,rfl⟩,rfl⟩
    refine Z ?_
    have hst:=NT (f:=Bc) hi2 (by unfold Bc;rw [decide_eq_true h53])
    refine .trCast (τ':=(AP (zxT τ zx) zx ((subs.take (i+1)).filter Bc)).1) O (by rw [hst,B2]) (.slCast (T:=208) (sz:=3) (m':=(AP (zxT τ zx) zx ((subs.take (i+1)).filter Bc)).2.length) (xs':=(AP (zxT τ zx) zx ((subs.take (i+1)).filter Bc)).2.flatMap FP) O (by rw [hst,B2];simp) (by rw [hst,B2];simp) ?_)
    exact .rk ((i+1, .slice a14_6 ((AP (zxT τ zx) zx ((subs.take i).filter Bc)).2.length+(AI (AP (zxT τ zx) zx ((subs.take i).filter Bc)).1 subs[i] zx).2.length) c14_6)) (⟨by dsimp only;omega,_,_,by rw [hst,B2,length_append]⟩) (by dsimp only;omega) O
   refine Z ?_
   have hst:=Ot (f:=Bc) hi2 (by unfold Bc;rw [decide_eq_false h53])
   refine .trCast (τ':=(AP (zxT τ zx) zx ((subs.take (i+1)).filter Bc)).1) O (by rw [hst]) (.slCast (T:=208) (sz:=3) (m':=(AP (zxT τ zx) zx ((subs.take (i+1)).filter Bc)).2.length) (xs':=(AP (zxT τ zx) zx ((subs.take (i+1)).filter Bc)).2.flatMap FP) O (by rw [hst]) (by rw [hst]) ?_)
   exact .rk ((i+1, .slice au (AP (zxT τ zx) zx ((subs.take i).filter Bc)).2.length cu)) (⟨by dsimp only;omega,_,_,by rw [hst]⟩) (by dsimp only;omega) O
  have hii:i=subs.length:=by omega
  rw [hii,take_length]
  refine Z ?_
  refine .trOpen (τ:=(AP (zxT τ zx) zx (subs.filter Bc)).1) O fun rn rs m s hI=>(.draw [6] [[0,1,2,3,4,5,6]] mixed kQ (.g0 (Z ?_)))
  refine D.hh Y (.mapDel (m:=s) (enc:=ZJ) (k:=x.own) (Aa.int underlying3) Y Y Y underlying121 ?he82) ?_
  case he82=>rfl
  rintro v L' rfl
  refine D.ph (.fin (.trFold (τ:=(dropS (AP (zxT τ zx) zx (subs.filter Bc)).1 x.own)) (hI.drop x.own) O Y Y Y (Z ?_)))
  have hc:AM τ zx x subs=(dropS (AP (zxT τ zx) zx (subs.filter Bc)).1 x.own,((AP (zxT τ zx) zx (subs.filter Bc)).2,0)):=by unfold AM;dsimp only;rw [if_neg h26,if_pos h42]
  refine .trCast (τ':=(AM τ zx x subs).1) O (by rw [hc]) (.slCast (T:=208) (sz:=3) (m':=(AM τ zx x subs).2.1.length) (xs':=(AM τ zx x subs).2.1.flatMap FP) O (by (rw [hc];try rfl)) (by (rw [hc];try rfl)) ?_)
  exact .dn Y Y ⟨_,_,Y,by rw [hc],⟨_,_,by (rw [hc];try rfl)⟩,rfl⟩
 refine Z ?_
 refine .condD Y (fun h68=>?_) (fun h68=>?_)
 ·refine .sr (.fa Y Fs (.q (.as (v':= .slice asb subs.length csb) (by exact esub) (.ld Y O6)) Y (Z ?_)))
  refine .add (AU 208 3) (.trCast (τ':=(AP (zxT τ zx) zx (subs.take 0)).1) O (by rw [take_zero];rfl) (.slCast (T:=208) (sz:=3) (m':=(AP (zxT τ zx) zx (subs.take 0)).2.length) (xs':=(AP (zxT τ zx) zx (subs.take 0)).2.flatMap FP) O (by rw [take_zero];rfl) (by rw [take_zero];rfl) (.loopK (ι:=Nat×Value) (fun q E=>(73,AA q.1)::(6,q.2)::E) (fun q=>[AV t (AP (zxT τ zx) zx (subs.take q.1)).1,At 208 3 q.2 (AP (zxT τ zx) zx (subs.take q.1)).2.length ((AP (zxT τ zx) zx (subs.take q.1)).2.flatMap FP)]) (fun q=>q.1≤subs.length∧∃a c,q.2= .slice a (AP (zxT τ zx) zx (subs.take q.1)).2.length c) (fun q=>subs.length-q.1) (0, .slice none 0 0) (ts:=[0,3,4,5,71,72]) O (⟨Nat.zero_le _,none,0,by rw [take_zero];rfl⟩) O O ?_)))
  rintro ⟨i,u⟩ ⟨hi,au,cu,hu⟩
  dsimp only
  dsimp only at hi hu
  subst hu
  have hev:=LU (zxT τ zx) zx (subs.take i)
  have hfl:=length_take_le i subs
  have hok:(AP (zxT τ zx) zx (subs.take i)).1.Ok (N+subs.length):=((ho.zx zx).parts zx _ (fun y hy=>(hx.each y (mem_of_mem_take hy)).few)).more (by rw [length_take];omega)
  refine Z ?_
  refine .condD Y (fun h74=>?_) (fun h74=>?_)
  ·have hi2:i<subs.length:=by omega
   refine .rdShape (p:=p) hrd O om fun bs os e1=>?_
   subst e1
   have hys:=hx.each _ (getElem_mem hi2)
   refine Z ?_
   refine .q (.indexAddr Y Y FQ om) Y (.q (.loadRdA (sz:=8) (j:=i*8) (k:=8) (p:=p) (vs:=A0 subs[i]) Y A3 O hrd (by simp) om om (BH (f:=A0) (sz:=8) (fun _ _=>Y) om)) Y (.oq (.allocA BM) ?_))
   rintro v L' ⟨by1,rfl,rfl⟩
   refine .sa Y Y BO (by exact hys.all) ?_
   refine .nil (.ptCast (b:=by1) (l':=A0 subs[i]) O Y ?_)
   refine Z ?_
   refine .q (.loadAs (vs:=A0 subs[i]) Y A3 O (by simp [A0]) Y) Y (Z ?_)
   refine .oq (.c func68 [_,_,_] (JW t (AP (zxT τ zx) zx (subs.take i)).1 subs[i] zx p hys (N+subs.length) hok om)) ?_
   rintro v L' ⟨a21,c21,rfl,rfl⟩
   refine .oq (.append (n:=(AP (zxT τ zx) zx (subs.take i)).2.length) (m:=(AI (AP (zxT τ zx) zx (subs.take i)).1 subs[i] zx).2.length) (ys:=(AI (AP (zxT τ zx) zx (subs.take i)).1 subs[i] zx).2.flatMap FP) (p:=At 208 3 (.slice a21 (AI (AP (zxT τ zx) zx (subs.take i)).1 subs[i] zx).2.length c21) (AI (AP (zxT τ zx) zx (subs.take i)).1 subs[i] zx).2.length ((AI (AP (zxT τ zx) zx (subs.take i)).1 subs[i] zx).2.flatMap FP)) Y Y Y JI (.inl ⟨_,underlying80⟩) Dc Y Y ?hc108 ?hr109 ?hb110 dQ) ?_
   case hc108=>exact QL _
   case hr109=>exact fun h hp=>Ad hp
   case hb110=>have:=Nl (AP (zxT τ zx) zx (subs.take i)).1 subs[i] zx;omega
   rintro v L' ⟨⟨a21_6,c21_6,rfl⟩,rfl⟩
   refine Z ?_
   have hst:=take_succ_eq_append_getElem hi2
   refine .trCast (τ':=(AP (zxT τ zx) zx (subs.take (i+1))).1) O (by rw [hst,B2]) (.slCast (T:=208) (sz:=3) (m':=(AP (zxT τ zx) zx (subs.take (i+1))).2.length) (xs':=(AP (zxT τ zx) zx (subs.take (i+1))).2.flatMap FP) O (by rw [hst,B2];simp) (by rw [hst,B2];simp) ?_)
   exact .rk ((i+1, .slice a21_6 ((AP (zxT τ zx) zx (subs.take i)).2.length+(AI (AP (zxT τ zx) zx (subs.take i)).1 subs[i] zx).2.length) c21_6)) (⟨by dsimp only;omega,_,_,by rw [hst,B2,length_append]⟩) (by dsimp only;omega) O
  have hii:i=subs.length:=by omega
  rw [hii,take_length]
  refine Z ?_
  have hc:AM τ zx x subs=((AP (zxT τ zx) zx subs).1,((AP (zxT τ zx) zx subs).2,0)):=by unfold AM;dsimp only;rw [if_neg h26,if_neg h42,if_pos h68]
  refine .trCast (τ':=(AM τ zx x subs).1) O (by rw [hc]) (.slCast (T:=208) (sz:=3) (m':=(AM τ zx x subs).2.1.length) (xs':=(AM τ zx x subs).2.1.flatMap FP) O (by (rw [hc];try rfl)) (by (rw [hc];try rfl)) ?_)
  exact .dn Y Y ⟨_,_,Y,by rw [hc],⟨_,_,by (rw [hc];try rfl)⟩,rfl⟩
 refine Z ?_
 refine .condD Y (fun h85=>?_) (fun h85=>?_)
 ·refine .seq (.draw [] [[0,1,2,3]] mixed kQ (.g0 (Z ?_)))
  refine .add (AU 208 3) ?_
  have hc:AM τ zx x subs=((zxT τ zx),([],x.err)):=by unfold AM;dsimp only;rw [if_neg h26,if_neg h42,if_neg h68,if_pos h85]
  refine .trCast (τ':=(AM τ zx x subs).1) O (by rw [hc]) (.slCast (T:=208) (sz:=3) (m':=(AM τ zx x subs).2.1.length) (xs':=(AM τ zx x subs).2.1.flatMap FP) O (by (rw [hc];try rfl)) (by (rw [hc];try rfl)) ?_)
  exact .dn Y Y ⟨_,_,Y,by rw [hc],⟨_,_,by (rw [hc];try rfl)⟩,rfl⟩
 refine Z ?_
 refine .q (.loadAs (vs:=A0 x) Y A3 O (by simp [A0]) Y) Y (Z ?_)
 refine .oq (.c func68 [_,_,_] (JW t (zxT τ zx) x zx p hx.own N (ho.zx zx) om)) ?_
 rintro v L' ⟨a5,c5,rfl,rfl⟩
 refine Z ?_
 have hc:AM τ zx x subs=((AI (zxT τ zx) x zx).1,((AI (zxT τ zx) x zx).2,0)):=by unfold AM;dsimp only;rw [if_neg h26,if_neg h42,if_neg h68,if_neg h85]
 refine .trCast (τ':=(AM τ zx x subs).1) O (by rw [hc]) (.slCast (T:=208) (sz:=3) (m':=(AM τ zx x subs).2.1.length) (xs':=(AM τ zx x subs).2.1.flatMap FP) O (by (rw [hc];try rfl)) (by (rw [hc];try rfl)) ?_)
 exact .dn Y Y ⟨_,_,Y,by rw [hc],⟨_,_,by (rw [hc];try rfl)⟩,rfl⟩
theorem CG (t:Nat) (τ:Tr) (p:Bs) (N:Nat) (ho:τ.Ok N) (hN:N≤1099511627776):Fn prog 171 #[AD t,AF p] [AV t τ] fun v L=>v= .tuple #[.agg (Ca (A7 τ p)).toArray, .bool (decide (AL τ p))]∧L=[AV t τ]:=by
 refine Fn.intro func171 Y Y fun F W=>?_
 refine .trOpen (τ:=τ) O fun rn rs m s hI=>?_
 have hlen:=hI.len ho
 have hfew:=ho.few
 refine .sr (.oq (.allocA FU) ?_)
 rintro v L' ⟨b4,rfl,rfl⟩
 refine Z ?_
 rcases hal:AC m p with _|px
 ·refine Z ?_
  refine .q (.lookupN (m:=m) (enc:=G1) (Aa.str underlying9) (hal) Y Y underlying120 DF O Y) Y (Z ?_)
  refine .q (.build (us:=[]) ZW FU Y Y (by simp [AB])) Y (.sa Y Y FW (by (first|(simp [AB];done)|(simp [AB,AQ,Value.cells];done))) ?_)
  refine Z ?_
  refine .ptCast (b:=b4) (l':=Ca (A7 τ p)) O (by rw [hI.stat0 hal];rfl) ?_
  refine .trFold (τ:=τ) hI O Y Y Y ?_
  exact .d2 Y (.cellA Y GK O (by simp [Ca]) Y) (.tmp Y) ⟨by rw [decide_eq_false (hI.none_iff.1 hal)];rfl,rfl⟩
 refine Z ?_
 refine .q (.lookupY (m:=m) (enc:=G1) (Aa.str underlying9) (hal) Y Y underlying120 DF O Y) Y (Z ?_)
 refine .bigTake hal O (.ndOpen (x:=(p,px)) O (Z ?_))
 refine .q (.loadAs (vs:=Ca px.2.2.st) Y GK O (by simp [Sz]) Y) Y (.oq (.allocA FU) ?_)
 rintro v L' ⟨b7,rfl,rfl⟩
 refine .sa Y Y FW (by intro v hv;simp only [Ca,mem_cons,not_mem_nil,or_false] at hv;rcases hv with rfl|rfl|rfl|rfl|rfl|rfl|rfl|rfl|rfl<;>rfl) ?_
 refine .nil (.ptCast (b:=b7) (l':=Ca px.2.2.st) O Y ?_)
 refine .then_n (.seq (.draw [7,10,12] [[0,1,2,3,4,5,6,9,7,8,10],[11,12]] mixed kQ (.go [AW px.1 _ _] O (Z ?_))))
 refine D.hh Y (.c func220 [_,_] (Rk t rn (.map (some rs)) (AA τ.zx) m p (hI.plen ho) om)) ?_
 rintro v L' ⟨⟨a5,c5,rfl⟩,rfl⟩
 refine Z ?_
 refine D.hh Y (.store Y Y Y IV ?c45 (Bd _ _)) ?_
 case c45=>simp [Ca]
 rintro v L' rfl
 refine D.ph (.g0 (Z ?_))
 refine D.hh Y (.store Y Y Y IV ?c49 (Bd _ _)) ?_
 case c49=>simp [Ca]
 rintro v L' rfl
 refine D.ph (.fin (.ptCast (b:=b7) (l':=Ca (A7 τ p)) O (by rw [hI.stat hal,←hI.kids ho p,R3];rfl) ?_))
 refine Z ?_
 refine .q (.loadAs (vs:=Ca (A7 τ p)) Y GK O (by simp [Ca]) Y) Y (.sa Y Y FW (by intro v hv;simp only [Ca,mem_cons,not_mem_nil,or_false] at hv;rcases hv with rfl|rfl|rfl|rfl|rfl|rfl|rfl|rfl|rfl<;>rfl) ?_)
 refine Z ?_
 refine .ptCast (b:=b4) (l':=Ca (A7 τ p)) O Y ?_
 refine .ndFold (x:=(p,px)) O Y Y Y Y (.bigPut (f:=HB) (m:=m) p px Y O ?_)
 rw [Cj hal]
 refine .trFold (τ:=τ) hI O Y Y Y ?_
 exact .d2 Y (.cellA Y GK O (by simp [Ca]) Y) (.tmp Y) ⟨by rw [decide_eq_true (hI.some_iff hal)];rfl,rfl⟩
theorem XN (t:Nat) (τ:Tr) (p:Bs) (N:Nat) (ho:τ.Ok N) (hN:N≤1099511627776):Fn prog 147 #[AD t,AF p] [AV t τ] fun v L=>v= .tuple #[AF (OF τ p), .agg (Ca (A7 τ p)).toArray,AA (if AL τ p then 0 else 60)]∧L=[AV t τ]:=by
 refine Fn.intro func147 Y Y fun F W=>?_
 refine Z ?_
 refine .oq (.allocA FU) ?_
 rintro v L' ⟨b5,rfl,rfl⟩
 refine Z ?_
 refine .cv func171 [_,_] (CG t τ p N ho hN) ?_
 refine Z ?_
 refine .oq (.allocA FU) ?_
 rintro v L' ⟨b7,rfl,rfl⟩
 refine .sa Y Y FW (by intro v hv;simp only [Ca,mem_cons,not_mem_nil,or_false] at hv;rcases hv with rfl|rfl|rfl|rfl|rfl|rfl|rfl|rfl|rfl<;>rfl) ?_
 refine Z ?_
 refine .ptCast (b:=b7) (l':=Ca (A7 τ p)) O Y ?_
 refine Z ?_
 refine .condN Y (fun h16=>?_) (fun h16=>?_)
 ·refine .sr (.q (.build (us:=[]) ZW FU Y Y (by simp [AB])) Y (Z ?_))
  refine .sa Y Y FW (by (first|(simp [AB];done)|(simp [AB,AQ,Value.cells];done))) ?_
  refine Z ?_
  refine .ptCast (b:=b5) (l':=Ca (A7 τ p)) O (by rw [show A7 τ p=st0 by unfold A7 NP;unfold AL at h16;cases e:AC τ.nodes p with|none=>rfl|some y=>rw [e] at h16;exact absurd rfl h16];rfl) ?_
  exact .done3 Y (.tmp Y) (.cellA Y GK O (by simp [Ca]) Y) (.tmp Y) ⟨by rw [if_neg h16,show OF τ p=[] by unfold OF;unfold AL at h16;cases e:AC τ.nodes p with|none=>rfl|some y=>rw [e] at h16;exact absurd rfl h16];rfl,rfl⟩ O O
 refine Z ?_
 refine .trOpen (τ:=τ) O fun rn rs m s hI=>?_
 obtain ⟨px,hal⟩:∃px,AC m p=some px:=by rcases h:AC m p with _|y;exact absurd h16 (hI.none_iff.1 h);exact ⟨y,rfl⟩
 refine .bigTake hal O (.ndOpen (x:=(p,px)) O (.draw [11] [[0,1,2,3,4,5,6,7,8,9,10,11],[12]] mixed kQ (.g0 (Z ?_))))
 refine D.kv Y (.lookupY (m:=m) (enc:=G1) (Aa.str underlying9) (hal) Y Y underlying120 DF O Y) (Z ?_)
 refine D.kv Y (.loadAs (vs:=Ca (A7 τ p)) Y GK O (by simp [Ca]) Y) (Z ?_)
 refine D.sa Y Y Y FW (by intro v hv;simp only [Ca,mem_cons,not_mem_nil,or_false] at hv;rcases hv with rfl|rfl|rfl|rfl|rfl|rfl|rfl|rfl|rfl<;>rfl) ?_
 refine D.ph (.g0 (Z ?_))
 refine .ptCast (b:=b5) (l':=Ca (A7 τ p)) O Y ?_
 refine .ndFold (x:=(p,px)) O Y Y Y Y (.bigPut (f:=HB) (m:=m) p px Y O ?_)
 rw [Cj hal]
 refine .trFold (τ:=τ) hI O Y Y Y ?_
 exact .done3 Y (.tmp Y) (.cellA Y GK O (by simp [Ca]) Y) (.tmp Y) ⟨by rw [if_pos h16,show OF τ p=px.2.2.data by unfold OF;rw [hI.at hal];rfl];rfl,rfl⟩ O O
theorem P7 (va vb:Value) (xs ys:List Ac) (hn:xs.length≤1048576):Fn prog 56 #[va,vb] [TZ 2 va xs.length (xs.flatMap CJ),TZ 2 vb ys.length (ys.flatMap CJ)] fun v L=>v= .bool (decide (xs=ys))∧L=[TZ 2 va xs.length (xs.flatMap CJ),TZ 2 vb ys.length (ys.flatMap CJ)]:=by
 refine Fn.intro func56 Y Y fun F W=>?_
 refine .rdAny (p:=TZ 2 va xs.length (xs.flatMap CJ)) (fun h hp=>hp) O fun aa ca e0 _=>?_
 subst e0
 refine .rdAny (p:=TZ 2 vb ys.length (ys.flatMap CJ)) (fun h hp=>hp) O fun ab cb e0 _=>?_
 subst e0
 refine Z ?_
 refine .condN Y (fun h10=>?_) (fun h10=>?_)
 ·refine Z ?_
  exact .dn Y Y ⟨by rw [decide_eq_false (fun e=>h10 (by rw [e]))],rfl⟩
 have hlen:xs.length=ys.length:=by omega
 refine Z ?_
 refine .loopK (ι:=Nat) (fun q E=>(13,AA q)::E) (fun q=>[]) (fun q=>q≤xs.length∧xs.take q=ys.take q) (fun q=>xs.length-q) (0) (ts:=[0,1,12]) O (⟨Nat.zero_le _,Y⟩) O O ?_
 rintro i ⟨hi,hpre⟩
 refine Z ?_
 refine .condD Y (fun h14=>?_) (fun h14=>?_)
 ·have hi2:i<xs.length:=by omega
  have hi3:i<ys.length:=by omega
  refine .rdShape (p:=TZ 2 _ xs.length (xs.flatMap CJ)) (fun h hp=>hp) O om fun ba oa e0=>?_
  subst e0
  refine .rdShape (p:=TZ 2 (.slice ab ys.length cb) ys.length (ys.flatMap CJ)) (fun h hp=>hp) O om fun bb ob e0=>?_
  subst e0
  refine Z ?_
  refine .draw [] [[0,1,2,3,4,5,6,7,8]] mixed kQ (.g0 (Z ?_))
  refine D.kv Y (.indexAddr Y Y GN om) (.kv Y (.loadRdA (sz:=2) (j:=i*2) (k:=2) (p:=TZ 2 _ xs.length (xs.flatMap CJ)) (vs:=CJ xs[i]) Y JP O (fun h hp=>hp) (by simp) om om (BH (f:=CJ) (sz:=2) (fun _ _=>Y) om)) (Z ?_))
  refine D.kv Y (.indexAddr Y Y GN om) (.kv Y (.loadRdA (sz:=2) (j:=i*2) (k:=2) (p:=TZ 2 _ ys.length (ys.flatMap CJ)) (vs:=CJ ys[i]) Y JP O (fun h hp=>hp) (by simp) om om (BH (f:=CJ) (sz:=2) (fun _ _=>Y) om)) (.kv Y (.structNe (r:=decide (xs[i]=ys[i])) Y Y kQ (AJj 9998 _ _)) (Z ?_)))
  refine .condN Y (fun h24=>?_) (fun h24=>?_)
  ·refine Z ?_
   exact .dn Y Y ⟨by rw [decide_eq_false (fun e=>h24 (by simp only [e]))],rfl⟩
  refine Z ?_
  exact .rk (i+1) (⟨by omega,by rw [take_succ_eq_append_getElem hi2,take_succ_eq_append_getElem hi3,hpre,h24]⟩) om O
 refine Z ?_
 exact .dn Y Y ⟨by rw [decide_eq_true (by have hii:i=xs.length:=om;rw [hii,take_length] at hpre;rw [hlen,take_length] at hpre;exact hpre)],rfl⟩
theorem AIH {a b:Nd} (h1:a.data=b.data) (h2:a.acl=b.acl) (h3:a.st=b.st):a=b:=by cases a;cases b;cases h1;cases h2;cases h3;rfl
theorem S5 (a b:Bs) (px py:Nm) (hn:px.2.2.acl.length≤1048576):Fn prog 55 #[AD px.1,AD py.1] [HB (a,px),HB (b,py)] fun v L=>v= .bool (decide (px.2.2=py.2.2))∧L=[HB (a,px),HB (b,py)]:=by
 refine Fn.intro func55 Y Y fun F W=>?_
 refine .ndOpen (x:=(a,px)) O (.ndOpen (x:=(b,py)) O (Z ?_))
 refine .draw [] [[0,1,2,3,4,5,6,7,8,9,10,11,12,13,14,15,16,17,18,19,20,21,22,23,24,25,26,27,28,29,30,31]] mixed kQ (.go [AW px.1 _ _,AW py.1 _ _,TZ 2 px.2.1 _ _,TZ 2 py.2.1 _ _] O (Z ?_))
 refine D.dec (t:=14) Y (fun h1_14=>?_) (fun h1_14=>?_)
 ·refine D.kDT (t:=13) Y h1_14 (Z ?_)
  refine D.gv Y (.loadAs (vs:=Ca px.2.2.st) Y GK O (by simp [Sz]) Y) (Z ?_)
  refine D.gv Y (.loadAs (vs:=Ca py.2.2.st) Y GK O (by simp [Sz]) Y) (.gv Y (.structEq (r:=decide (px.2.2.st=py.2.2.st)) Y Y kQ (AJp 9998 _ _)) (Z ?_))
  refine D.dec (t:=25) Y (fun h1_25=>?_) (fun h1_25=>?_)
  ·refine D.kDT (t:=23) Y h1_25 (.kDT (t:=24) Y h1_25 (Z ?_))
   refine D.gm (t:=25) Y Y Y kQ (.c func56 [_,_] (P7 px.2.1 py.2.1 px.2.2.acl py.2.2.acl hn)) O ?_
   refine Z ?_
   refine .ndFold (x:=(a,px)) O Y Y Y Y (.ndFold (x:=(b,py)) O Y Y Y Y ?_)
   exact .dn Y Y ⟨by congr 1;exact decide_eq_decide.2 ⟨fun e=>AIH h1_14 e h1_25,fun e=>by rw [e]⟩,rfl⟩
  refine D.kDF (t:=23) Y h1_25 (.kDF (t:=24) Y h1_25 (Z ?_))
  refine .ndFold (x:=(a,px)) O Y Y Y Y (.ndFold (x:=(b,py)) O Y Y Y Y ?_)
  exact .dn Y Y ⟨by rw [decide_eq_false (fun e=>h1_25 (by rw [e]))],rfl⟩
 refine D.kDF (t:=13) Y h1_14 (Z ?_)
 refine .ndFold (x:=(a,px)) O Y Y Y Y (.ndFold (x:=(b,py)) O Y Y Y Y ?_)
 exact .dn Y Y ⟨by rw [decide_eq_false (fun e=>h1_14 (by rw [e]))],rfl⟩
theorem AJf (d:Nat) (a b:Int×Bs):GA prog (d+2) 126 (ZJ a) (ZJ b) (decide (a=b)):=by
 have h:=GA.struct (d:=d+1) (xs:=[AA a.1,AF a.2]) (ys:=[AA b.1,AF b.2]) underlying126 kQ
  (.cons (TH.cell dQ CT rfl rfl (GA.int underlying3 a.1 b.1)) (.cons (TH.cell dQ HL rfl rfl (GA.str underlying9 a.2 b.2)) .nil))
 have e:([decide (a.1=b.1),decide (a.2=b.2)].all id)=decide (a=b):=by
  obtain ⟨a1,a2⟩:=a;obtain ⟨b1,b2⟩:=b
  simp [Bool.decide_and]
 rw [←e];exact h
theorem ABR {K β:Type} [DecidableEq K] {a b:List (K×β)} (ha:(a.map (·.1)).Nodup) (hb:(b.map (·.1)).Nodup) (h:∀i,AC a i=AC b i):a.length=b.length:=(M1 ha hb h).length_eq
theorem AAv {K β:Type} [DecidableEq K] {a b:List (K×β)} (ha:(a.map (·.1)).Nodup) (hl:a.length=b.length) (h:∀x∈a,AC b x.1=some x.2):∀i,AC a i=AC b i:=fun i=>by
 rcases e:AC a i with _|y
 ·exact (QT ha hl (fun x hx=>by rw [h x hx];rfl) e).symm
 ·exact (h (i,y) (De e)).symm
theorem TU (r1 r2:Nat) (s1 s2:KR) (hn1:(s1.map (·.1)).Nodup) (hn2:(s2.map (·.1)).Nodup):Fn prog 53 #[.map (some r1), .map (some r2)] [mapR r1 (Y4 s1),mapR r2 (Y4 s2)] fun v L=> ∃b,v= .bool b∧(b=true↔ ∀i,AC s1 i=AC s2 i)∧L=[mapR r1 (Y4 s1),mapR r2 (Y4 s2)]:=by
 refine Fn.intro func53 Y Y fun F W=>?_
 refine Z ?_
 refine .q (.to (.maplen Y underlying121 Y O) (show _=AA s1.length by simp [Y4])) rfl (Z ?_)
 refine .q (.to (.maplen Y underlying121 Y O) (show _=AA s2.length by simp [Y4])) rfl (Z ?_)
 refine .condN Y (fun h13=>?_) (fun h13=>?_)
 ·refine Z ?_
  exact .dn Y Y ⟨false,Y,⟨fun e=>(by cases e),fun e=>absurd (ABR hn1 hn2 e) om⟩,Y⟩
 refine Z ?_
 refine .oq (.range (f:=fun x:Int×(Int×Bs)=>(AA x.1,ZJ x.2)) (m:=s1) Y underlying121 ?he9) ?_
 case he9=>rfl
 rintro v L' ⟨it,rfl,rfl⟩
 refine Z ?_
 refine .loopK (ι:=KR) (fun q E=>E) (fun q=>[EE (fun x:Int×(Int×Bs)=>(AA x.1,ZJ x.2)) it r1 s1 q]) (fun q=>(∀x∈q,AC s2 x.1=some x.2)∧∃rest,s1.Perm (q++rest)) (fun q=>s1.length-q.length) ([]) (ts:=[1,15]) O (⟨by simp,s1, .refl _⟩) O O ?_
 rintro ss ⟨hall,rest,hm⟩
 have hml:=hm.length_eq
 rw [length_append] at hml
 refine .sr (.oq (.next Y) ?_)
 rintro v L' (⟨rfl,hp4,rfl⟩|⟨x,rest4,rfl,hp4,rfl⟩)
 ·refine .rangeDone O (Z ?_)
  exact .dn Y Y ⟨true,Y,⟨fun _=>AAv hn1 om (fun x hx=>hall x (hp4.mem_iff.1 hx)),fun _=>Y⟩,Y⟩
 refine Z ?_
 refine .q (.entryE (v:= .tuple #[AA x.1,ZJ x.2]) Y O Y) Y (Z ?_)
 refine .oq (.allocA Gl) ?_
 rintro v L' ⟨b6,rfl,rfl⟩
 refine Z ?_
 refine .oq (.storeA (vs:=[AA x.2.1,AF x.2.2]) Y Y ?c123 O7 Y ?c224 (Bd _ _)) ?_
 case c123=>(first|(simp [AB];done)|(simp [AB,AQ,Value.cells];done))
 case c224=>(first|(simp;done)|(simp [AQ,CX,Value.cells];done))
 rintro v L' rfl
 refine .nil (.ptCast (b:=b6) (l':=[AA x.2.1,AF x.2.2]) O Y ?_)
 have hxm:x∈s1:=hp4.mem_iff.2 (by simp)
 have hx1:=Bu (k:=x.1) (b:=x.2) hn1 hxm
 refine Z ?_
 rcases hy2:AC s2 x.1 with _|y
 ·refine Z ?_
  refine .q (.lookupOkN (m:=s2) (enc:=ZJ) (Aa.int underlying3) hy2 Y Y underlying121 Gl O Y) Y (Z ?_)
  refine .oq (.allocA Gl) ?_
  rintro v L' ⟨b7,rfl,rfl⟩
  refine .oq (.storeA (vs:=[.int .i64 0, .string (bs [])]) Y Y ?c133 O7 Y ?c234 (Bd _ _)) ?_
  case c133=>(first|(simp [AB];done)|(simp [AB,AQ,Value.cells];done))
  case c234=>(first|(simp;done)|(simp [AQ,CX,Value.cells];done))
  rintro v L' rfl
  refine Z ?_
  refine .rangeDone O ?_
  exact .dn Y Y ⟨false,Y,⟨fun e=>(by cases e),fun e=>absurd (e x.1) (by rw [hx1,hy2];simp)⟩,Y⟩
 refine Z ?_
 refine .q (.lookupOkY (m:=s2) (enc:=ZJ) (Aa.int underlying3) hy2 Y Y underlying121 Gl O Y) Y (Z ?_)
 refine .oq (.allocA Gl) ?_
 rintro v L' ⟨b7,rfl,rfl⟩
 refine .oq (.storeA (vs:=[AA y.1,AF y.2]) Y Y ?c146 O7 Y ?c247 (Bd _ _)) ?_
 case c146=>(first|(simp [AB];done)|(simp [AB,AQ,Value.cells];done))
 case c247=>(first|(simp;done)|(simp [AQ,CX,Value.cells];done))
 rintro v L' rfl
 refine Z ?_
 refine .ptCast (b:=b7) (l':=[AA y.1,AF y.2]) O Y ?_
 refine Z ?_
 refine .q (.loadAs (vs:=[AA x.2.1,AF x.2.2]) Y AD2 O (by simp) Y) Y (Z ?_)
 refine .q (.loadAs (vs:=[AA y.1,AF y.2]) Y AD2 O (by simp) Y) Y (Z ?_)
 refine .q (.structNe (r:=decide (x.2=y)) Y Y kQ (AJf 9998 x.2 y)) Y (Z ?_)
 refine .condN Y (fun h33=>?_) (fun h33=>?_)
 ·refine Z ?_
  refine .rangeDone O ?_
  exact .dn Y Y ⟨false,Y,⟨fun e=>(by cases e),fun e=>absurd (e x.1) (by rw [hx1,hy2];intro g;exact h33 (Option.some.inj g))⟩,Y⟩
 have h7_x:=h33.symm
 refine Z ?_
 have hl:=hp4.length_eq
 simp at hl
 exact .rk ((ss++[x])) (⟨fun z hz=>by rcases mem_append.1 hz with hz|hz;exact hall z hz;(have hz:z=x:=by simpa using hz);subst hz;rw [hy2,h7_x],⟨_,by simpa using hp4⟩⟩) (by simp;omega) O
theorem AI4 {a b:G2} (ha:(a.map (·.1)).Nodup) (hl:a.length=b.length) (h:∀x∈a,∃y,AC b x.1=some y∧y.2.2=x.2.2.2):∀p,(AC a p).map (fun x:Nm=>x.2.2)=(AC b p).map (fun x:Nm=>x.2.2):=fun p=>by
 rcases e:AC a p with _|y
 ·rw [QT ha hl (fun x hx=>by obtain ⟨y,hy,-⟩:=h x hx;rw [hy];rfl) e]
 ·obtain ⟨z,hz,hq⟩:=h (p,y) (De e)
  dsimp only at hz hq
  rw [hz];simp [hq]
theorem AIO {a b:G2} (ha:(a.map (·.1)).Nodup) (hb:(b.map (·.1)).Nodup) (h:∀p,(AC a p).map (fun x:Nm=>x.2.2)=(AC b p).map (fun x:Nm=>x.2.2)):a.length=b.length:=by
 have:=((perm_ext_iff_of_nodup ha hb).2 fun p=>by
  rw [←Cw,←Cw]
  have:=congrArg Option.isSome (h p)
  rw [Option.isSome_map,Option.isSome_map] at this
  rw [this]).length_eq
 simpa using this
theorem UU (r1 r2:Nat) (m1 m2:G2) (hn1:(m1.map (·.1)).Nodup) (hn2:(m2.map (·.1)).Nodup) (hacl:∀x∈m1,x.2.2.2.acl.length≤1048576):Fn prog 54 #[.map (some r1), .map (some r2), .func (.func 55) #[] #[]] [mapR r1 (TG m1),mapR r2 (TG m2),Am HB m1,Am HB m2] fun v L=> ∃b,v= .bool b∧(b=true↔ ∀p,(AC m1 p).map (fun x:Nm=>x.2.2)=(AC m2 p).map (fun x:Nm=>x.2.2))∧L=[mapR r1 (TG m1),mapR r2 (TG m2),Am HB m1,Am HB m2]:=by
 refine Fn.intro func54 Y Y fun F W=>?_
 refine Z ?_
 refine .q (.to (.maplen Y underlying120 Y O) (show _=AA m1.length by simp [TG])) rfl (Z ?_)
 refine .q (.to (.maplen Y underlying120 Y O) (show _=AA m2.length by simp [TG])) rfl (Z ?_)
 refine .condN Y (fun h15=>?_) (fun h15=>?_)
 ·refine Z ?_
  exact .dn Y Y ⟨false,Y,⟨fun e=>(by cases e),fun e=>absurd (AIO hn1 hn2 e) om⟩,Y⟩
 refine Z ?_
 refine .oq (.range (f:=fun x:Bs×Nm=>(AF x.1,G1 x.2)) (m:=m1) Y underlying120 ?he9) ?_
 case he9=>rfl
 rintro v L' ⟨it,rfl,rfl⟩
 refine Z ?_
 refine .loopK (ι:=G2) (fun q E=>E) (fun q=>[EE (fun x:Bs×Nm=>(AF x.1,G1 x.2)) it r1 m1 q]) (fun q=>(∀x∈q,∃y,AC m2 x.1=some y∧y.2.2=x.2.2.2)∧∃rest,m1.Perm (q++rest)) (fun q=>m1.length-q.length) ([]) (ts:=[1,2,17]) O (⟨by simp,m1, .refl _⟩) O O ?_
 rintro ss ⟨hall,rest,hm⟩
 have hml:=hm.length_eq
 rw [length_append] at hml
 refine .sr (.oq (.next Y) ?_)
 rintro v L' (⟨rfl,hp4,rfl⟩|⟨x,rest4,rfl,hp4,rfl⟩)
 ·refine .rangeDone O (Z ?_)
  exact .dn Y Y ⟨true,Y,⟨fun _=>AI4 hn1 om (fun x hx=>hall x (hp4.mem_iff.1 hx)),fun _=>Y⟩,Y⟩
 refine Z ?_
 refine .q (.entryE (v:= .tuple #[AF x.1,G1 x.2]) Y O Y) Y (Z ?_)
 have hxm:x∈m1:=hp4.mem_iff.2 (by simp)
 have hx1:=Bu (k:=x.1) (b:=x.2) hn1 hxm
 refine Z ?_
 rcases hy2:AC m2 x.1 with _|y
 ·refine Z ?_
  refine .q (.lookupOkN (m:=m2) (enc:=G1) (Aa.str underlying9) hy2 Y Y underlying120 DF O Y) Y (Z ?_)
  refine .rangeDone O ?_
  exact .dn Y Y ⟨false,Y,⟨fun e=>(by cases e),fun e=>absurd (e x.1) (by rw [hx1,hy2];simp)⟩,Y⟩
 refine Z ?_
 refine .q (.lookupOkY (m:=m2) (enc:=G1) (Aa.str underlying9) hy2 Y Y underlying120 DF O Y) Y (Z ?_)
 refine .bigTake hx1 O (.bigTake hy2 O (Z ?_))
 refine .oq (.callV func55 Y Y (us:=[]) (vs:=[_,_]) (ws:=[]) Y Y (S5 x.1 x.1 x.2 y (hacl _ hxm))) ?_
 rintro v L' ⟨rfl,rfl⟩
 refine .bigPut (f:=HB) (m:=m1) x.1 x.2 Y O (.bigPut (f:=HB) (m:=m2) x.1 y Y O ?_)
 rw [Cj hx1,Cj hy2]
 refine Z ?_
 refine .condN Y (fun h37=>?_) (fun h37=>?_)
 ·refine Z ?_
  refine .rangeDone O ?_
  exact .dn Y Y ⟨false,Y,⟨fun e=>(by cases e),fun e=>absurd (e x.1) (by rw [hx1,hy2];intro g;exact h37 (Option.some.inj g))⟩,Y⟩
 have h35:=h37
 refine Z ?_
 have hl:=hp4.length_eq
 simp at hl
 exact .rk ((ss++[x])) (⟨fun z hz=>by rcases mem_append.1 hz with hz|hz;exact hall z hz;(have hz:z=x:=by simpa using hz);subst hz;exact ⟨y,hy2,h35.symm⟩,⟨_,by simpa using hp4⟩⟩) (by simp;omega) O
theorem Vb (t u:Nat) (τ υ:Tr) (N M:Nat) (ho:τ.Ok N) (hυ:υ.Ok M):Fn prog 22 #[AD t,AD u] [AV t τ,AV u υ] fun v L=>v= .bool (decide (τ=υ))∧L=[AV t τ,AV u υ]:=by
 refine Fn.intro func22 Y Y fun F W=>?_
 refine .trOpen (τ:=τ) O fun rn rs m s hI=>(.trOpen (t:=u) (τ:=υ) O fun rn2 rs2 m2 s2 hI2=>?_)
 have hts:=AGm ho hυ hI hI2
 refine Z ?_
 refine .draw [22,33] [[0,1,2,3,4,5,6,7,8,9,10,11,12,13,14,15,16,17,18,19,20,21,22],[23,24,25,26,27,28,29,30,31,32,33],[34,35]] mixed kQ (.g0 (Z ?_))
 refine D.dec (t:=18) Y (fun h1_18=>?_) (fun h1_18=>?_)
 ·refine D.kDT (t:=16) Y h1_18 (.kDT (t:=17) Y h1_18 (Z ?_))
  refine D.gh (t:=18) Y Y Y kQ (.c func53 [_,_] (TU rs rs2 s s2 hI.skeys hI2.skeys)) O ?_
  rintro v L' ⟨b1,rfl,hb1,rfl⟩
  refine D.ph (.g0 (Z ?_))
  refine D.bool (t:=29) Y (fun h1_29=>?_) (fun h1_29=>?_)
  ·refine D.kB (t:=27) Y h1_29 (.kB (t:=28) Y h1_29 (Z ?_))
   refine D.gh (t:=29) Y Y Y kQ (.c func54 [_,_,_] (UU rn rn2 m m2 hI.keys hI2.keys (fun x hx=>hI.acl ho (Bu (k:=x.1) (b:=x.2) hI.keys hx)))) O ?_
   rintro v L' ⟨b2,rfl,hb2,rfl⟩
   refine D.ph (.g0 (Z ?_))
   refine .trFold (τ:=τ) hI O Y Y Y (.trFold (t:=u) (τ:=υ) hI2 O Y Y Y ?_)
   exact .dn Y Y ⟨by congr 1;exact Bool.eq_iff_iff.2 (by rw [decide_eq_true_iff,hts];exact ⟨fun e=>⟨h1_18,hb1.1 h1_29,hb2.1 e⟩,fun e=>hb2.2 e.2.2⟩),rfl⟩
  refine D.kB (t:=27) Y h1_29 (.kB (t:=28) Y h1_29 (Z ?_))
  refine CC.g0 (Z ?_)
  refine .trFold (τ:=τ) hI O Y Y Y (.trFold (t:=u) (τ:=υ) hI2 O Y Y Y ?_)
  exact .dn Y Y ⟨by rw [decide_eq_false (fun e=>by have:=hb1.2 (hts.1 e).2.1;rw [h1_29] at this;cases this)],rfl⟩
 refine D.kDF (t:=16) Y h1_18 (.kDF (t:=17) Y h1_18 (Z ?_))
 refine CC.g0 (Z ?_)
 refine CC.g0 (Z ?_)
 refine .trFold (τ:=τ) hI O Y Y Y (.trFold (t:=u) (τ:=υ) hI2 O Y Y Y ?_)
 exact .dn Y Y ⟨by rw [decide_eq_false (fun e=>h1_18 (hts.1 e).1)],rfl⟩
theorem BB (b:Bool) (e:Int):Fn prog 184 #[.bool b,AA e] [] fun v L=>v=AA (if b=true then e else 0)∧L=[]:=by
 refine Fn.intro func184 Y Y fun F W=>?_
 refine Z ?_
 refine .condB Y (fun h5=>?_) (fun h5=>?_)
 ·refine Z ?_
  exact .dn Y Y ⟨by first|rw [if_pos (by first|assumption|simpa using h5)]|rw [if_neg (by first|assumption|simpa using h5)],rfl⟩
 refine Z ?_
 exact .dn Y Y ⟨by first|rw [if_pos (by first|assumption|simpa using h5)]|rw [if_neg (by first|assumption|simpa using h5)],rfl⟩
theorem AJy:A9 prog 92=some none:=by kernel_rfl
theorem AHL:A9 prog 279=some none:=by kernel_rfl
theorem AJ5:A9 prog 280=some none:=by kernel_rfl
theorem Ys:Ah prog 92=some .nilFunc:=by kernel_rfl
theorem JK (fs:List Value) (es:List Int) (va:Value) (p Q:HP) (hl:fs.length=es.length) (hn:fs.length≤4294967296) (hr:∀h:Hp,p h→CA 1 h va fs.length fs)
    (hf:∀i (hi:i<es.length),(∀j (hj:j<i),es[j]'om=0)→CW prog (fs[i]'om) [] [Q] (fun v L=>v=AA es[i]∧L=[Q])):Fn prog 180 #[va] [p,Q] fun v L=>v=AA (CM es)∧L=[p,Q]:=by
 refine Fn.intro func180 Y Y fun F W=>?_
 refine .rdAny (p:=p) hr O fun aa ca e _=>?_
 subst e
 refine Z ?_
 refine .loopK (ι:=Nat) (fun q E=>(8,AA q)::E) (fun q=>[]) (fun q=>q≤es.length∧∀j (hj:j<q) (hl:j<es.length),es[j]=0) (fun q=>es.length-q) (0) (ts:=[6,7]) O (⟨Nat.zero_le _,fun j hj=>by omega⟩) O O ?_
 rintro i ⟨hi,hb⟩
 refine Z ?_
 refine .condD Y (fun h9=>?_) (fun h9=>?_)
 ·have hi2:i<es.length:=by omega
  have hi3:i<fs.length:=by omega
  refine .rdShape (p:=p) hr O om fun ba oa e=>?_
  subst e
  refine Z ?_
  refine .q (.indexAddr Y Y IC om) Y (.q (.loadEl (p:=p) (i:=i*1) (v:=fs[i]) Y AJy O hr (by simp [hi3])) Y (Z ?_))
  refine .oq (.callD (vs:=[]) Y Y (hf i hi2 (fun j hj=>hb j hj om))) ?_
  rintro v L' ⟨rfl,rfl⟩
  refine Z ?_
  refine .condN Y (fun h15=>?_) (fun h15=>?_)
  ·refine Z ?_
   exact .dn Y Y ⟨by rw [Vj hi2 (fun j hj=>hb j hj om) om],rfl⟩
  refine Z ?_
  exact .rk (i+1) (⟨by omega,fun j hj hl=>by rcases Nat.lt_or_ge j i with h|h;exact hb j h hl;obtain rfl:j=i:=om;omega⟩) om O
 refine Z ?_
 exact .dn Y Y ⟨by rw [Pg (fun j hj=>hb j om hj)],rfl⟩
theorem Vq (t:Nat) (τ:Tr) (u:C9) (iv:Value) (r:Rq) (p:HP) (hA:E3 p u iv r) (N:Nat) (ho:τ.Ok N) (hN:N≤1099511627776) (q:Bs):Fn prog 198 #[.agg (Cp t u iv r).toArray,AF q] [AV t τ,p] fun v L=>v= .bool (decide (AL τ q))∧L=[AV t τ,p]:=by
 refine Fn.intro func198 Y Y fun F W=>?_
 refine .sr (.oq (.box Y) ?_)
 rintro v L' ⟨b3,rfl,rfl⟩
 refine Z ?_
 refine .pc b3 (Cp t u iv r) ?_
 refine Z ?_
 refine .cv func171 [_,_] (CG t τ q N ho hN) ?_
 refine Z ?_
 refine .oq (.allocA FU) ?_
 rintro v L' ⟨b5,rfl,rfl⟩
 refine .sa Y Y FW (by simp [Ca,AB]) ?_
 refine Z ?_
 exact .vv
theorem Me (t:Nat) (τ:Tr) (u:C9) (iv:Value) (r:Rq) (p:HP) (hA:E3 p u iv r) (N:Nat) (ho:τ.Ok N) (hN:N≤1099511627776) (q:Bs) (perm:Int):Fn prog 186 #[.agg (Cp t u iv r).toArray,AF q,AA perm] [AV t τ,p] fun v L=>v= .bool (decide (Ks τ u.ids q perm))∧L=[AV t τ,p]:=by
 refine Fn.intro func186 Y Y fun F W=>?_
 refine .sr (.oq (.box Y) ?_)
 rintro v L' ⟨b3,rfl,rfl⟩
 refine Z ?_
 refine .pc b3 (Cp t u iv r) ?_
 refine Z ?_
 refine .oq (.c func148 [_,_] (OI t τ q N ho)) ?_
 rintro v L' ⟨va,rfl,⟨aa,ca,rfl⟩,rfl⟩
 refine Z ?_
 refine .dec (t:=18) Y (fun h2_18=>?_) (fun h2_18=>?_)
 ·refine .kDT (t:=17) Y h2_18 (Z ?_)
  refine .oq (.call func252 Y Y (vs:=[_,_,_]) Y (ABH _ (KB τ q) _ (fun _=>Ad) (by have:=ADZ ho q;omega) perm iv u.ids p hA.ids (by have:=hA.few;omega))) ?_
  rintro v L' ⟨rfl,rfl⟩
  refine Z ?_
  exact .dn Y Y ⟨by first|(have g:=UV h2_18;congr 1;simp [Ks,g];done)|(have g:=QR h2_18;congr 1;simp [Ks,g];done),rfl⟩
 refine .kDF (t:=17) Y h2_18 (Z ?_)
 exact .dn Y Y ⟨by first|(have g:=UV h2_18;congr 1;simp [Ks,g];done)|(have g:=QR h2_18;congr 1;simp [Ks,g];done),rfl⟩
theorem ADp (t:Nat) (τ:Tr) (u:C9) (iv:Value) (r:Rq) (p:HP) (hA:E3 p u iv r) (N:Nat) (ho:τ.Ok N) (hN:N≤1099511627776) (b:Nat):Fn prog 227 #[AD b] [AW b (Cp t u iv r) 215] fun v L=>v=AA (BQ r.path)∧L=[AW b (Cp t u iv r) 215]:=by
 refine Fn.intro func227 Y Y fun F W=>?_
 have hpl:=hA.rq.path
 have hpl2:r.path.length≤1048576:=by omega
 refine Z ?_
 refine .cv func114 [_] (EU r.path hpl2) ?_
 refine Z ?_
 exact .vv
theorem ACm (t:Nat) (τ:Tr) (u:C9) (iv:Value) (r:Rq) (p:HP) (hA:E3 p u iv r) (N:Nat) (ho:τ.Ok N) (hN:N≤1099511627776) (b:Nat):Fn prog 228 #[AD b] [AW b (Cp t u iv r) 215] fun v L=>v=AA (Ay (r.data.length>100∨r.flags<0∨r.flags>3) 1)∧L=[AW b (Cp t u iv r) 215]:=by
 refine Fn.intro func228 Y Y fun F W=>?_
 refine Z ?_
 refine .dec (t:=7) Y (fun h1_7=>?_) (fun h1_7=>?_)
 ·refine .kDT (t:=6) Y h1_7 (Z ?_)
  refine .cv func184 [_,_] (BB _ _) ?_
  refine Z ?_
  exact .dn Y Y ⟨by congr 1;unfold Ay;first|(simp_all;done)|(simp_all;omega)|(split<;>simp_all;done)|(split<;>simp_all<;>omega),rfl⟩
 refine .kDF (t:=6) Y h1_7 (Z ?_)
 refine .dec (t:=13) Y (fun h1_13=>?_) (fun h1_13=>?_)
 ·refine .kDT (t:=11) Y h1_13 (.kDT (t:=12) Y h1_13 (Z ?_))
  refine .cv func184 [_,_] (BB _ _) ?_
  refine Z ?_
  exact .dn Y Y ⟨by congr 1;unfold Ay;first|(simp_all;done)|(simp_all;omega)|(split<;>simp_all;done)|(split<;>simp_all<;>omega),rfl⟩
 refine .kDF (t:=11) Y h1_13 (.kDF (t:=12) Y h1_13 (Z ?_))
 refine .cv func184 [_,_] (BB _ _) ?_
 refine Z ?_
 exact .dn Y Y ⟨by congr 1;unfold Ay;first|(simp_all;done)|(simp_all;omega)|(split<;>simp_all;done)|(split<;>simp_all<;>omega),rfl⟩
theorem ABr (t:Nat) (τ:Tr) (u:C9) (iv:Value) (r:Rq) (p:HP) (hA:E3 p u iv r) (N:Nat) (ho:τ.Ok N) (hN:N≤1099511627776) (b:Nat):Fn prog 229 #[AD b] [AW b (Cp t u iv r) 215,p] fun v L=>v=AA (Ay (¬GE r.acl=true) 50)∧L=[AW b (Cp t u iv r) 215,p]:=by
 refine Fn.intro func229 Y Y fun F W=>?_
 refine Z ?_
 refine .oq (.call func230 Y Y (vs:=[_]) Y (M2 _ r.acl p hA.rq.acl (by have:=hA.rq.many;omega) (fun a ha=>(hA.rq.ids a ha).2))) ?_
 rintro v L' ⟨rfl,rfl⟩
 refine Z ?_
 refine .cv func184 [_,_] (BB _ _) ?_
 refine Z ?_
 exact .dn Y Y ⟨by congr 1;unfold Ay;first|(simp_all;done)|(simp_all;omega)|(split<;>simp_all;done)|(split<;>simp_all<;>omega),rfl⟩
theorem ADd (b:Nat) (c:Prop) [Decidable c]:Fn prog 231 #[AD b] [AW b [.bool (decide c)] 4] fun v L=>v=AA (Ay (¬c) 60)∧L=[AW b [.bool (decide c)] 4]:=by
 refine Fn.intro func231 Y Y fun F W=>?_
 refine Z ?_
 refine .cv func184 [_,_] (BB _ _) ?_
 refine Z ?_
 exact .dn Y Y ⟨by congr 1;unfold Ay;first|(simp_all;done)|(simp_all;omega)|(split<;>simp_all;done)|(split<;>simp_all<;>omega),rfl⟩
theorem AEc (b:Nat) (s:Ie):Fn prog 232 #[AD b] [AW b (Ca s) 62] fun v L=>v=AA (Ay (s.own≠0) 63)∧L=[AW b (Ca s) 62]:=by
 refine Fn.intro func232 Y Y fun F W=>?_
 refine Z ?_
 refine .cv func184 [_,_] (BB _ _) ?_
 refine Z ?_
 exact .dn Y Y ⟨by congr 1;unfold Ay;first|(simp_all;done)|(simp_all;omega)|(split<;>simp_all;done)|(split<;>simp_all<;>omega),rfl⟩
theorem AB9 (t:Nat) (τ:Tr) (u:C9) (iv:Value) (r:Rq) (p:HP) (hA:E3 p u iv r) (N:Nat) (ho:τ.Ok N) (hN:N≤1099511627776) (b:Nat) (c:Nat) (q:Bs):Fn prog 233 #[AD b,AD c] [AW b (Cp t u iv r) 215,AW c [AF q] 9,AV t τ,p] fun v L=>v=AA (Ay (¬Ks τ u.ids q 4) 65)∧L=[AW b (Cp t u iv r) 215,AW c [AF q] 9,AV t τ,p]:=by
 refine Fn.intro func233 Y Y fun F W=>?_
 refine Z ?_
 refine .q (.la (Cp t u iv r) Y Gi) Y (Z ?_)
 refine .cv func186 [_,_,_] (Me t τ u iv r p hA N ho hN q 4) ?_
 refine Z ?_
 refine .cv func184 [_,_] (BB _ _) ?_
 refine Z ?_
 exact .dn Y Y ⟨by congr 1;unfold Ay;first|(simp_all;done)|(simp_all;omega)|(split<;>simp_all;done)|(split<;>simp_all<;>omega),rfl⟩
theorem ADK (c:Nat) (q:Bs) (hq:q.length≤1048576):Fn prog 234 #[AD c] [AW c [AF q] 9] fun v L=>v=AA (Ay (BQ q≠0) 41)∧L=[AW c [AF q] 9]:=by
 refine Fn.intro func234 Y Y fun F W=>?_
 refine Z ?_
 refine .cv func114 [_] (EU q hq) ?_
 refine Z ?_
 refine .cv func184 [_,_] (BB _ _) ?_
 refine Z ?_
 exact .dn Y Y ⟨by congr 1;unfold Ay;first|(simp_all;done)|(simp_all;omega)|(split<;>simp_all;done)|(split<;>simp_all<;>omega),rfl⟩
theorem ACE (t:Nat) (τ:Tr) (u:C9) (iv:Value) (r:Rq) (p:HP) (hA:E3 p u iv r) (N:Nat) (ho:τ.Ok N) (hN:N≤1099511627776) (b:Nat) (c:Nat) (q:Bs):Fn prog 235 #[AD b,AD c] [AW b (Cp t u iv r) 215,AW c [AF q] 9,AV t τ,p] fun v L=>v=AA (Ay (AL τ q) 61)∧L=[AW b (Cp t u iv r) 215,AW c [AF q] 9,AV t τ,p]:=by
 refine Fn.intro func235 Y Y fun F W=>?_
 refine Z ?_
 refine .q (.la (Cp t u iv r) Y Gi) Y (Z ?_)
 refine .cv func198 [_,_] (Vq t τ u iv r p hA N ho hN q) ?_
 refine .cv func184 [_,_] (BB _ _) ?_
 refine Z ?_
 exact .dn Y Y ⟨by congr 1;unfold Ay;first|(simp_all;done)|(simp_all;omega)|(split<;>simp_all;done)|(split<;>simp_all<;>omega),rfl⟩
theorem ADV (t:Nat) (τ:Tr) (u:C9) (iv:Value) (r:Rq) (p:HP) (hA:E3 p u iv r) (N:Nat) (ho:τ.Ok N) (hN:N≤1099511627776) (b:Nat):Fn prog 236 #[AD b] [AW b (Cp t u iv r) 215,AV t τ] fun v L=>v=AA (Ay ((AX τ).length≥64) 64)∧L=[AW b (Cp t u iv r) 215,AV t τ]:=by
 refine Fn.intro func236 Y Y fun F W=>?_
 refine Z ?_
 refine .oq (.c func88 [_] (E0 t τ N ho hN)) ?_
 rintro v L' ⟨⟨a0,c0,rfl⟩,rfl⟩
 refine Z ?_
 refine .cv func184 [_,_] (BB _ _) ?_
 refine Z ?_
 exact .dn Y Y ⟨by congr 1;unfold Ay;first|(simp_all;done)|(simp_all;omega)|(split<;>simp_all;done)|(split<;>simp_all<;>omega),rfl⟩
theorem ABJ (t:Nat) (τ:Tr) (u:C9) (iv:Value) (r:Rq) (p:HP) (hA:E3 p u iv r) (N:Nat) (ho:τ.Ok N) (hN:N≤1099511627776) (b:Nat):Fn prog 237 #[AD b] [AW b (Cp t u iv r) 215,AV t τ] fun v L=>v=AA (Ay (andI r.flags 1≠0∧(AG τ u.ses).length≥32) 64)∧L=[AW b (Cp t u iv r) 215,AV t τ]:=by
 refine Fn.intro func237 Y Y fun F W=>?_
 refine Z ?_
 refine .u (.andI Y Y) (Z ?_)
 refine .ndec (t:=7) Y (fun h1_7=>?_) (fun h1_7=>?_)
 ·refine .kNT (t:=6) Y h1_7 (Z ?_)
  refine .oq (.c func175 [_,_] (Lf t τ u.ses N ho hN)) ?_
  rintro v L' ⟨⟨a0,c0,rfl⟩,rfl⟩
  refine Z ?_
  refine .cv func184 [_,_] (BB _ _) ?_
  refine Z ?_
  exact .dn Y Y ⟨by congr 1;unfold Ay;first|(simp_all;done)|(simp_all;omega)|(split<;>simp_all;done)|(split<;>simp_all<;>omega),rfl⟩
 refine .kNF (t:=6) Y h1_7 (Z ?_)
 refine .cv func184 [_,_] (BB _ _) ?_
 refine Z ?_
 exact .dn Y Y ⟨by congr 1;unfold Ay;first|(simp_all;done)|(simp_all;omega)|(split<;>simp_all;done)|(split<;>simp_all<;>omega),rfl⟩
theorem ZQ (t:Nat) (τ:Tr) (u:C9) (iv:Value) (r:Rq) (p:HP) (hA:E3 p u iv r) (N:Nat) (ho:τ.Ok N) (hN:N≤1099511627776) (b1 bu bs bi bw:Nat) (va:Value) (p0:HP) (hr:∀h:Hp,p0 h→CA 1 h va 10 [.func (.func 227) #[] #[AD b1], .func (.func 228) #[] #[AD b1], .func (.func 229) #[] #[AD b1], .func (.func 231) #[] #[AD bi], .func (.func 232) #[] #[AD bs], .func (.func 233) #[] #[AD b1,AD bu], .func (.func 234) #[] #[AD bw], .func (.func 235) #[] #[AD b1,AD bw], .func (.func 236) #[] #[AD b1], .func (.func 237) #[] #[AD b1]]):Fn prog 180 #[va] [p0,AW b1 (Cp t u iv r) 215,AW bu [AF (AK r.path)] 9,AW bs (Ca (Kv τ r)) 62,AW bi [.bool (decide (AL τ (AK r.path)))] 4,AW bw [AF (CE τ r)] 9,AV t τ,p] fun v L=>v=AA (CM (D8 τ u r))∧L=[p0,AW b1 (Cp t u iv r) 215,AW bu [AF (AK r.path)] 9,AW bs (Ca (Kv τ r)) 62,AW bi [.bool (decide (AL τ (AK r.path)))] 4,AW bw [AF (CE τ r)] 9,AV t τ,p]:=by
 refine Fn.unpack (JK [.func (.func 227) #[] #[AD b1], .func (.func 228) #[] #[AD b1], .func (.func 229) #[] #[AD b1], .func (.func 231) #[] #[AD bi], .func (.func 232) #[] #[AD bs], .func (.func 233) #[] #[AD b1,AD bu], .func (.func 234) #[] #[AD bw], .func (.func 235) #[] #[AD b1,AD bw], .func (.func 236) #[] #[AD b1], .func (.func 237) #[] #[AD b1]] (D8 τ u r) va p0 _ rfl (by show 10≤_;decide) hr ?_)
 intro i hi hz
 have hi2:i<10:=hi
 have hc:i=0∨i=1∨i=2∨i=3∨i=4∨i=5∨i=6∨i=7∨i=8∨i=9:=by omega
 rcases hc with rfl|rfl|rfl|rfl|rfl|rfl|rfl|rfl|rfl|rfl
 ·exact CW.share (us:=[]) (vs:=[]) (ws:=[AD b1]) func227 rfl rfl O (ADp t τ u iv r p hA N ho hN b1)
 ·exact CW.share (us:=[]) (vs:=[]) (ws:=[AD b1]) func228 rfl rfl O (ACm t τ u iv r p hA N ho hN b1)
 ·exact CW.share (us:=[]) (vs:=[]) (ws:=[AD b1]) func229 rfl rfl O (ABr t τ u iv r p hA N ho hN b1)
 ·exact CW.share (us:=[]) (vs:=[]) (ws:=[AD bi]) func231 rfl rfl O (ADd bi _)
 ·exact CW.share (us:=[]) (vs:=[]) (ws:=[AD bs]) func232 rfl rfl O (AEc bs _)
 ·exact CW.share (us:=[]) (vs:=[]) (ws:=[AD b1,AD bu]) func233 rfl rfl O (AB9 t τ u iv r p hA N ho hN b1 bu _)
 ·exact CW.share (us:=[]) (vs:=[]) (ws:=[AD bw]) func234 rfl rfl O (ADK bw _ (by have:=RH hA τ;omega))
 ·exact CW.share (us:=[]) (vs:=[]) (ws:=[AD b1,AD bw]) func235 rfl rfl O (ACE t τ u iv r p hA N ho hN b1 bw _)
 ·exact CW.share (us:=[]) (vs:=[]) (ws:=[AD b1]) func236 rfl rfl O (ADV t τ u iv r p hA N ho hN b1)
 ·exact CW.share (us:=[]) (vs:=[]) (ws:=[AD b1]) func237 rfl rfl O (ABJ t τ u iv r p hA N ho hN b1)
theorem R9 (t:Nat) (τ:Tr) (u:C9) (iv:Value) (r:Rq) (p:HP) (hA:E3 p u iv r) (N:Nat) (ho:τ.Ok N) (hN:N≤1099511627776) (hcv:Aw (Kv τ r).cver):Fn prog 177 #[.agg (Cp t u iv r).toArray] [AV t τ,p] fun v L=> ∃w:Value,v= .tuple #[.agg (A0 (CQ (Aq τ u r) w)).toArray,AA (CM (D8 τ u r))]∧(∃a c,w= .slice a r.acl.length c)∧L=[AV t τ,p,At 133 2 w r.acl.length (r.acl.flatMap CJ)]:=by
 refine Fn.intro func177 Y Y fun F W=>?_
 have hpl:=hA.rq.path
 have hpl2:r.path.length≤1048576:=by omega
 have hcl:=hA.cells t
 refine .sr (.oq (.box Y) ?_)
 rintro v L' ⟨b1,rfl,rfl⟩
 refine .oq (.allocA BM) ?_
 rintro v L' ⟨bx,rfl,rfl⟩
 refine Z ?_
 refine .pc b1 (Cp t u iv r) ?_
 refine Z ?_
 refine .cv func176 [_] (Dl r.path om) ?_
 refine .oq (.alloc Gf) ?_
 rintro v L' ⟨bu,rfl,rfl⟩
 refine Z ?_
 refine .cv func171 [_,_] (CG t τ _ N ho hN) ?_
 refine Z ?_
 refine .oq (.allocA FU) ?_
 rintro v L' ⟨bs,rfl,rfl⟩
 refine .oq (.alloc AHa) ?_
 rintro v L' ⟨bi,rfl,rfl⟩
 refine .sa Y Y FW (by simp [Ca,AB]) ?_
 refine Z ?_
 refine .pc bs (Ca (Kv τ r)) ?_
 refine Z ?_
 refine .oq (.alloc Gf) ?_
 rintro v L' ⟨bw,rfl,rfl⟩
 refine Z ?_
 refine .u (.andI Y Y) (Z ?_)
 refine .condN Y (fun h28=>?_) (fun h28=>?_)
 ·have hw:CE τ r=Gg r.path (Kv τ r).cver:=if_pos h28
  refine Z ?_
  refine .cv func226 [_,_] (P1 p hA.tab r.path (Kv τ r).cver om hcv) ?_
  refine .oq (.store Y Y Y Xz ?c55 (Bd _ _)) ?_
  case c55=>exact Nat.zero_lt_one
  rintro v L' rfl
  refine Z ?_
  refine .ptCast (b:=bw) (l':=[AF (CE τ r)]) O (by rw [hw];rfl) ?_
  refine .q (.func (us:=[]) (vs:=[_]) Y Y) Y (.q (.func (us:=[]) (vs:=[_]) Y Y) Y (.q (.func (us:=[]) (vs:=[_]) Y Y) Y (.q (.func (us:=[]) (vs:=[_]) Y Y) Y (.q (.func (us:=[]) (vs:=[_]) Y Y) Y (.q (.func (us:=[]) (vs:=[_,_]) Y Y) Y (.q (.func (us:=[]) (vs:=[_]) Y Y) Y (.q (.func (us:=[]) (vs:=[_,_]) Y Y) Y (.q (.func (us:=[]) (vs:=[_]) Y Y) Y (.q (.func (us:=[]) (vs:=[_]) Y Y) Y (.oq (.buildSlice1 (vs:=[_,_,_,_,_,_,_,_,_,_]) IC Ys Y Y Y Y Y dQ) ?_))))))))))
  rintro v L' ⟨bf,rfl,rfl⟩
  refine .slMake (b:=bf) (n:=10) (c:=10) (xs:=[.func (.func 227) #[] #[AD b1], .func (.func 228) #[] #[AD b1], .func (.func 229) #[] #[AD b1], .func (.func 231) #[] #[AD bi], .func (.func 232) #[] #[AD bs], .func (.func 233) #[] #[AD b1,AD bu], .func (.func 234) #[] #[AD bw], .func (.func 235) #[] #[AD b1,AD bw], .func (.func 236) #[] #[AD b1], .func (.func 237) #[] #[AD b1]]) O dQ (by exact Nat.le_refl 10) Y (.cv func180 [_] (ZQ t τ u iv r p hA N ho hN b1 bu bs bi bw _ _ (fun _=>Ad)) ?_)
  refine Z ?_
  refine .draw [7,12,13] [[0,1,2,3,4,5,6,8,9,10,7,11,12],[13]] mixed kQ (.go [AW b1 _ _,AW bs _ _,AW bw _ _] O (Z ?_))
  refine D.k Y (.addW Y Y) (.h2 (k:=12) Y Y kQ Y (.c func136 [_] (B8 r.aclV r.acl p hA.rq.acl hA.rq.many)) O (.allocA BM) O ?_ ?_)
  ·rintro v L' ⟨⟨a7,c7,rfl⟩,rfl⟩
   refine D.k Y (.build (us:=[(0,_),(1,_),(2,_),(3,_),(5,_)]) FV BM Y Y (by simp [AB])) (.hh Y (.allocA BM) ?_)
   rintro v L' ⟨bp,rfl,rfl⟩
   refine D.ph (.g0 (.sa Y Y Y BO (by (first|(simp [AB];done)|(simp [AB,AQ,Value.cells];done))) ?_))
   refine D.ph (.fin (.pc bp (A0 ⟨1,CE τ r,r.data, .slice a7 r.acl.length c7,r.acl,0,DB ((Kv τ r).cver+1),0,AR⟩) ?_))
   refine Z ?_
   refine .u (.andI Y Y) (Z ?_)
   refine .condN Y (fun h63=>?_) (fun h63=>?_)
   ·refine Z ?_
    refine .ptCast (b:=bp) (l':=A0 (CQ (Aq τ u r) (.slice a7 r.acl.length c7))) O (by unfold Aq;first|(rw [if_pos h63];rfl)|(rw [if_neg (fun g=>g h63)];rfl)) ?_
    refine .q (.la (A0 (CQ (Aq τ u r) (.slice a7 r.acl.length c7))) Y A3) Y (Z ?_)
    refine .sa Y Y BO (by simp [A0,CQ,Aq,AB]) ?_
    refine Z ?_
    refine .pc bx ([AA 1,AF (CE τ r),AF r.data, .slice a7 r.acl.length c7,AA (if andI r.flags 1≠0 then u.ses else 0),AA (DB ((Kv τ r).cver+1)),AA 0,AR]) ?_
    refine Z ?_
    exact .d2 Y (.cellA Y A3 O (by simp [CX,AQ]) Y) (.tmp Y) ⟨_,Y,⟨_,_,Y⟩,Y⟩
   refine Z ?_
   refine .ptCast (b:=bp) (l':=A0 (CQ (Aq τ u r) (.slice a7 r.acl.length c7))) O (by unfold Aq;first|(rw [if_pos h63];rfl)|(rw [if_neg (fun g=>g h63)];rfl)) ?_
   refine .q (.la (A0 (CQ (Aq τ u r) (.slice a7 r.acl.length c7))) Y A3) Y (Z ?_)
   refine .sa Y Y BO (by simp [A0,CQ,Aq,AB]) ?_
   refine Z ?_
   refine .pc bx ([AA 1,AF (CE τ r),AF r.data, .slice a7 r.acl.length c7,AA (if andI r.flags 1≠0 then u.ses else 0),AA (DB ((Kv τ r).cver+1)),AA 0,AR]) ?_
   refine Z ?_
   exact .d2 Y (.cellA Y A3 O (by simp [CX,AQ]) Y) (.tmp Y) ⟨_,Y,⟨_,_,Y⟩,Y⟩
  rintro v L' ⟨bp,rfl,rfl⟩
  refine D.hh Y (.c func136 [_] (B8 r.aclV r.acl p hA.rq.acl hA.rq.many)) ?_
  rintro v L' ⟨⟨a7,c7,rfl⟩,rfl⟩
  refine D.kv Y (.build (us:=[(0,_),(1,_),(2,_),(3,_),(5,_)]) FV BM Y Y (by simp [AB])) (.ph (.g0 (.sa Y Y Y BO (by (first|(simp [AB];done)|(simp [AB,AQ,Value.cells];done))) ?_)))
  refine D.ph (.fin (.pc bp (A0 ⟨1,CE τ r,r.data, .slice a7 r.acl.length c7,r.acl,0,DB ((Kv τ r).cver+1),0,AR⟩) ?_))
  refine Z ?_
  refine .u (.andI Y Y) (Z ?_)
  refine .condN Y (fun h63=>?_) (fun h63=>?_)
  ·refine Z ?_
   refine .ptCast (b:=bp) (l':=A0 (CQ (Aq τ u r) (.slice a7 r.acl.length c7))) O (by unfold Aq;first|(rw [if_pos h63];rfl)|(rw [if_neg (fun g=>g h63)];rfl)) ?_
   refine .q (.la (A0 (CQ (Aq τ u r) (.slice a7 r.acl.length c7))) Y A3) Y (Z ?_)
   refine .sa Y Y BO (by simp [A0,CQ,Aq,AB]) ?_
   refine Z ?_
   refine .pc bx ([AA 1,AF (CE τ r),AF r.data, .slice a7 r.acl.length c7,AA (if andI r.flags 1≠0 then u.ses else 0),AA (DB ((Kv τ r).cver+1)),AA 0,AR]) ?_
   refine Z ?_
   exact .d2 Y (.cellA Y A3 O (by simp [CX,AQ]) Y) (.tmp Y) ⟨_,Y,⟨_,_,Y⟩,Y⟩
  refine Z ?_
  refine .ptCast (b:=bp) (l':=A0 (CQ (Aq τ u r) (.slice a7 r.acl.length c7))) O (by unfold Aq;first|(rw [if_pos h63];rfl)|(rw [if_neg (fun g=>g h63)];rfl)) ?_
  refine .q (.la (A0 (CQ (Aq τ u r) (.slice a7 r.acl.length c7))) Y A3) Y (Z ?_)
  refine .sa Y Y BO (by simp [A0,CQ,Aq,AB]) ?_
  refine Z ?_
  refine .pc bx ([AA 1,AF (CE τ r),AF r.data, .slice a7 r.acl.length c7,AA (if andI r.flags 1≠0 then u.ses else 0),AA (DB ((Kv τ r).cver+1)),AA 0,AR]) ?_
  refine Z ?_
  exact .d2 Y (.cellA Y A3 O (by simp [CX,AQ]) Y) (.tmp Y) ⟨_,Y,⟨_,_,Y⟩,Y⟩
 have hw:CE τ r=r.path:=if_neg (fun g=>g h28)
 refine Z ?_
 refine .ptCast (b:=bw) (l':=[AF (CE τ r)]) O (by rw [hw];rfl) ?_
 refine .q (.func (us:=[]) (vs:=[_]) Y Y) Y (.q (.func (us:=[]) (vs:=[_]) Y Y) Y (.q (.func (us:=[]) (vs:=[_]) Y Y) Y (.q (.func (us:=[]) (vs:=[_]) Y Y) Y (.q (.func (us:=[]) (vs:=[_]) Y Y) Y (.q (.func (us:=[]) (vs:=[_,_]) Y Y) Y (.q (.func (us:=[]) (vs:=[_]) Y Y) Y (.q (.func (us:=[]) (vs:=[_,_]) Y Y) Y (.q (.func (us:=[]) (vs:=[_]) Y Y) Y (.q (.func (us:=[]) (vs:=[_]) Y Y) Y (.oq (.buildSlice1 (vs:=[_,_,_,_,_,_,_,_,_,_]) IC Ys Y Y Y Y Y dQ) ?_))))))))))
 rintro v L' ⟨bf,rfl,rfl⟩
 refine .slMake (b:=bf) (n:=10) (c:=10) (xs:=[.func (.func 227) #[] #[AD b1], .func (.func 228) #[] #[AD b1], .func (.func 229) #[] #[AD b1], .func (.func 231) #[] #[AD bi], .func (.func 232) #[] #[AD bs], .func (.func 233) #[] #[AD b1,AD bu], .func (.func 234) #[] #[AD bw], .func (.func 235) #[] #[AD b1,AD bw], .func (.func 236) #[] #[AD b1], .func (.func 237) #[] #[AD b1]]) O dQ (by exact Nat.le_refl 10) Y (.cv func180 [_] (ZQ t τ u iv r p hA N ho hN b1 bu bs bi bw _ _ (fun _=>Ad)) ?_)
 refine Z ?_
 refine .draw [7,12,13] [[0,1,2,3,4,5,6,8,9,10,7,11,12],[13]] mixed kQ (.go [AW b1 _ _,AW bs _ _,AW bw _ _] O (Z ?_))
 refine D.k Y (.addW Y Y) (.h2 (k:=12) Y Y kQ Y (.c func136 [_] (B8 r.aclV r.acl p hA.rq.acl hA.rq.many)) O (.allocA BM) O ?_ ?_)
 ·rintro v L' ⟨⟨a7,c7,rfl⟩,rfl⟩
  refine D.k Y (.build (us:=[(0,_),(1,_),(2,_),(3,_),(5,_)]) FV BM Y Y (by simp [AB])) (.hh Y (.allocA BM) ?_)
  rintro v L' ⟨bp,rfl,rfl⟩
  refine D.ph (.g0 (.sa Y Y Y BO (by (first|(simp [AB];done)|(simp [AB,AQ,Value.cells];done))) ?_))
  refine D.ph (.fin (.pc bp (A0 ⟨1,CE τ r,r.data, .slice a7 r.acl.length c7,r.acl,0,DB ((Kv τ r).cver+1),0,AR⟩) ?_))
  refine Z ?_
  refine .u (.andI Y Y) (Z ?_)
  refine .condN Y (fun h63=>?_) (fun h63=>?_)
  ·refine Z ?_
   refine .ptCast (b:=bp) (l':=A0 (CQ (Aq τ u r) (.slice a7 r.acl.length c7))) O (by unfold Aq;first|(rw [if_pos h63];rfl)|(rw [if_neg (fun g=>g h63)];rfl)) ?_
   refine .q (.la (A0 (CQ (Aq τ u r) (.slice a7 r.acl.length c7))) Y A3) Y (Z ?_)
   refine .sa Y Y BO (by simp [A0,CQ,Aq,AB]) ?_
   refine Z ?_
   refine .pc bx ([AA 1,AF (CE τ r),AF r.data, .slice a7 r.acl.length c7,AA (if andI r.flags 1≠0 then u.ses else 0),AA (DB ((Kv τ r).cver+1)),AA 0,AR]) ?_
   refine Z ?_
   exact .d2 Y (.cellA Y A3 O (by simp [CX,AQ]) Y) (.tmp Y) ⟨_,Y,⟨_,_,Y⟩,Y⟩
  refine Z ?_
  refine .ptCast (b:=bp) (l':=A0 (CQ (Aq τ u r) (.slice a7 r.acl.length c7))) O (by unfold Aq;first|(rw [if_pos h63];rfl)|(rw [if_neg (fun g=>g h63)];rfl)) ?_
  refine .q (.la (A0 (CQ (Aq τ u r) (.slice a7 r.acl.length c7))) Y A3) Y (Z ?_)
  refine .sa Y Y BO (by simp [A0,CQ,Aq,AB]) ?_
  refine Z ?_
  refine .pc bx ([AA 1,AF (CE τ r),AF r.data, .slice a7 r.acl.length c7,AA (if andI r.flags 1≠0 then u.ses else 0),AA (DB ((Kv τ r).cver+1)),AA 0,AR]) ?_
  refine Z ?_
  exact .d2 Y (.cellA Y A3 O (by simp [CX,AQ]) Y) (.tmp Y) ⟨_,Y,⟨_,_,Y⟩,Y⟩
 rintro v L' ⟨bp,rfl,rfl⟩
 refine D.hh Y (.c func136 [_] (B8 r.aclV r.acl p hA.rq.acl hA.rq.many)) ?_
 rintro v L' ⟨⟨a7,c7,rfl⟩,rfl⟩
 refine D.kv Y (.build (us:=[(0,_),(1,_),(2,_),(3,_),(5,_)]) FV BM Y Y (by simp [AB])) (.ph (.g0 (.sa Y Y Y BO (by (first|(simp [AB];done)|(simp [AB,AQ,Value.cells];done))) ?_)))
 refine D.ph (.fin (.pc bp (A0 ⟨1,CE τ r,r.data, .slice a7 r.acl.length c7,r.acl,0,DB ((Kv τ r).cver+1),0,AR⟩) ?_))
 refine Z ?_
 refine .u (.andI Y Y) (Z ?_)
 refine .condN Y (fun h63=>?_) (fun h63=>?_)
 ·refine Z ?_
  refine .ptCast (b:=bp) (l':=A0 (CQ (Aq τ u r) (.slice a7 r.acl.length c7))) O (by unfold Aq;first|(rw [if_pos h63];rfl)|(rw [if_neg (fun g=>g h63)];rfl)) ?_
  refine .q (.la (A0 (CQ (Aq τ u r) (.slice a7 r.acl.length c7))) Y A3) Y (Z ?_)
  refine .sa Y Y BO (by simp [A0,CQ,Aq,AB]) ?_
  refine Z ?_
  refine .pc bx ([AA 1,AF (CE τ r),AF r.data, .slice a7 r.acl.length c7,AA (if andI r.flags 1≠0 then u.ses else 0),AA (DB ((Kv τ r).cver+1)),AA 0,AR]) ?_
  refine Z ?_
  exact .d2 Y (.cellA Y A3 O (by simp [CX,AQ]) Y) (.tmp Y) ⟨_,Y,⟨_,_,Y⟩,Y⟩
 refine Z ?_
 refine .ptCast (b:=bp) (l':=A0 (CQ (Aq τ u r) (.slice a7 r.acl.length c7))) O (by unfold Aq;first|(rw [if_pos h63];rfl)|(rw [if_neg (fun g=>g h63)];rfl)) ?_
 refine .q (.la (A0 (CQ (Aq τ u r) (.slice a7 r.acl.length c7))) Y A3) Y (Z ?_)
 refine .sa Y Y BO (by simp [A0,CQ,Aq,AB]) ?_
 refine Z ?_
 refine .pc bx ([AA 1,AF (CE τ r),AF r.data, .slice a7 r.acl.length c7,AA (if andI r.flags 1≠0 then u.ses else 0),AA (DB ((Kv τ r).cver+1)),AA 0,AR]) ?_
 refine Z ?_
 exact .d2 Y (.cellA Y A3 O (by simp [CX,AQ]) Y) (.tmp Y) ⟨_,Y,⟨_,_,Y⟩,Y⟩
theorem AEN (t:Nat) (τ:Tr) (u:C9) (iv:Value) (r:Rq) (p:HP) (hA:E3 p u iv r) (N:Nat) (ho:τ.Ok N) (hN:N≤1099511627776) (b:Nat):Fn prog 238 #[AD b] [AW b (Cp t u iv r) 215] fun v L=>v=AA (BQ r.path)∧L=[AW b (Cp t u iv r) 215]:=by
 refine Fn.intro func238 Y Y fun F W=>?_
 have hpl:=hA.rq.path
 have hpl2:r.path.length≤1048576:=by omega
 refine Z ?_
 refine .cv func114 [_] (EU r.path hpl2) ?_
 refine Z ?_
 exact .vv
theorem AEh (t:Nat) (τ:Tr) (u:C9) (iv:Value) (r:Rq) (p:HP) (hA:E3 p u iv r) (N:Nat) (ho:τ.Ok N) (hN:N≤1099511627776) (b:Nat):Fn prog 239 #[AD b] [AW b (Cp t u iv r) 215] fun v L=>v=AA (Ay (r.path=[47]) 1)∧L=[AW b (Cp t u iv r) 215]:=by
 refine Fn.intro func239 Y Y fun F W=>?_
 refine Z ?_
 refine .cv func184 [_,_] (BB _ _) ?_
 refine Z ?_
 exact .dn Y Y ⟨by congr 1;unfold Ay;first|(simp_all;done)|(simp_all;omega)|(split<;>simp_all;done)|(split<;>simp_all<;>omega),rfl⟩
theorem AD0 (b:Nat) (c:Prop) [Decidable c]:Fn prog 240 #[AD b] [AW b [.bool (decide c)] 4] fun v L=>v=AA (Ay (¬c) 60)∧L=[AW b [.bool (decide c)] 4]:=by
 refine Fn.intro func240 Y Y fun F W=>?_
 refine Z ?_
 refine .cv func184 [_,_] (BB _ _) ?_
 refine Z ?_
 exact .dn Y Y ⟨by congr 1;unfold Ay;first|(simp_all;done)|(simp_all;omega)|(split<;>simp_all;done)|(split<;>simp_all<;>omega),rfl⟩
theorem ACo (t:Nat) (τ:Tr) (u:C9) (iv:Value) (r:Rq) (p:HP) (hA:E3 p u iv r) (N:Nat) (ho:τ.Ok N) (hN:N≤1099511627776) (b:Nat) (c:Nat) (q:Bs):Fn prog 241 #[AD b,AD c] [AW b (Cp t u iv r) 215,AW c [AF q] 9,AV t τ,p] fun v L=>v=AA (Ay (¬Ks τ u.ids q 8) 65)∧L=[AW b (Cp t u iv r) 215,AW c [AF q] 9,AV t τ,p]:=by
 refine Fn.intro func241 Y Y fun F W=>?_
 refine Z ?_
 refine .q (.la (Cp t u iv r) Y Gi) Y (Z ?_)
 refine .cv func186 [_,_,_] (Me t τ u iv r p hA N ho hN q 8) ?_
 refine Z ?_
 refine .cv func184 [_,_] (BB _ _) ?_
 refine Z ?_
 exact .dn Y Y ⟨by congr 1;unfold Ay;first|(simp_all;done)|(simp_all;omega)|(split<;>simp_all;done)|(split<;>simp_all<;>omega),rfl⟩
theorem AE0 (t:Nat) (τ:Tr) (u:C9) (iv:Value) (r:Rq) (p:HP) (hA:E3 p u iv r) (N:Nat) (ho:τ.Ok N) (hN:N≤1099511627776) (b:Nat) (c:Nat) (s:Ie):Fn prog 242 #[AD b,AD c] [AW b (Cp t u iv r) 215,AW c (Ca s) 62] fun v L=>v=AA (Ay (r.ver≠ -1∧r.ver≠s.ver) 66)∧L=[AW b (Cp t u iv r) 215,AW c (Ca s) 62]:=by
 refine Fn.intro func242 Y Y fun F W=>?_
 refine Z ?_
 refine .ndec (t:=7) Y (fun h1_7=>?_) (fun h1_7=>?_)
 ·refine .kNT (t:=6) Y h1_7 (Z ?_)
  refine .cv func184 [_,_] (BB _ _) ?_
  refine Z ?_
  exact .dn Y Y ⟨by congr 1;unfold Ay;first|(simp_all;done)|(simp_all;omega)|(split<;>simp_all;done)|(split<;>simp_all<;>omega),rfl⟩
 refine .kNF (t:=6) Y h1_7 (Z ?_)
 refine .cv func184 [_,_] (BB _ _) ?_
 refine Z ?_
 exact .dn Y Y ⟨by congr 1;unfold Ay;first|(simp_all;done)|(simp_all;omega)|(split<;>simp_all;done)|(split<;>simp_all<;>omega),rfl⟩
theorem ACV (c:Nat) (s:Ie):Fn prog 243 #[AD c] [AW c (Ca s) 62] fun v L=>v=AA (Ay (s.kids>0) 62)∧L=[AW c (Ca s) 62]:=by
 refine Fn.intro func243 Y Y fun F W=>?_
 refine Z ?_
 refine .cv func184 [_,_] (BB _ _) ?_
 refine Z ?_
 exact .dn Y Y ⟨by congr 1;unfold Ay;first|(simp_all;done)|(simp_all;omega)|(split<;>simp_all;done)|(split<;>simp_all<;>omega),rfl⟩
theorem AGC (t:Nat) (τ:Tr) (u:C9) (iv:Value) (r:Rq) (p:HP) (hA:E3 p u iv r) (N:Nat) (ho:τ.Ok N) (hN:N≤1099511627776) (b1 bu bs bi:Nat) (va:Value) (p0:HP) (hr:∀h:Hp,p0 h→CA 1 h va 6 [.func (.func 238) #[] #[AD b1], .func (.func 239) #[] #[AD b1], .func (.func 240) #[] #[AD bi], .func (.func 241) #[] #[AD b1,AD bu], .func (.func 242) #[] #[AD b1,AD bs], .func (.func 243) #[] #[AD bs]]):Fn prog 180 #[va] [p0,AW b1 (Cp t u iv r) 215,AW bu [AF (AK r.path)] 9,AW bs (Ca (A7 τ r.path)) 62,AW bi [.bool (decide (AL τ r.path))] 4,AV t τ,p] fun v L=>v=AA (CM (HM τ u r))∧L=[p0,AW b1 (Cp t u iv r) 215,AW bu [AF (AK r.path)] 9,AW bs (Ca (A7 τ r.path)) 62,AW bi [.bool (decide (AL τ r.path))] 4,AV t τ,p]:=by
 refine Fn.unpack (JK [.func (.func 238) #[] #[AD b1], .func (.func 239) #[] #[AD b1], .func (.func 240) #[] #[AD bi], .func (.func 241) #[] #[AD b1,AD bu], .func (.func 242) #[] #[AD b1,AD bs], .func (.func 243) #[] #[AD bs]] (HM τ u r) va p0 _ rfl (by show 6≤_;decide) hr ?_)
 intro i hi hz
 have hi2:i<6:=hi
 have hc:i=0∨i=1∨i=2∨i=3∨i=4∨i=5:=by omega
 rcases hc with rfl|rfl|rfl|rfl|rfl|rfl
 ·exact CW.share (us:=[]) (vs:=[]) (ws:=[AD b1]) func238 rfl rfl O (AEN t τ u iv r p hA N ho hN b1)
 ·exact CW.share (us:=[]) (vs:=[]) (ws:=[AD b1]) func239 rfl rfl O (AEh t τ u iv r p hA N ho hN b1)
 ·exact CW.share (us:=[]) (vs:=[]) (ws:=[AD bi]) func240 rfl rfl O (AD0 bi _)
 ·exact CW.share (us:=[]) (vs:=[]) (ws:=[AD b1,AD bu]) func241 rfl rfl O (ACo t τ u iv r p hA N ho hN b1 bu _)
 ·exact CW.share (us:=[]) (vs:=[]) (ws:=[AD b1,AD bs]) func242 rfl rfl O (AE0 t τ u iv r p hA N ho hN b1 bs _)
 ·exact CW.share (us:=[]) (vs:=[]) (ws:=[AD bs]) func243 rfl rfl O (ACV bs _)
theorem U7 (t:Nat) (τ:Tr) (u:C9) (iv:Value) (r:Rq) (p:HP) (hA:E3 p u iv r) (N:Nat) (ho:τ.Ok N) (hN:N≤1099511627776):Fn prog 178 #[.agg (Cp t u iv r).toArray] [AV t τ,p] fun v L=>v= .tuple #[.agg (A0 (Ed τ r)).toArray,AA (CM (HM τ u r))]∧L=[AV t τ,p]:=by
 refine Fn.intro func178 Y Y fun F W=>?_
 have hpl:=hA.rq.path
 have hpl2:r.path.length≤1048576:=by omega
 have hcl:=hA.cells t
 refine .sr (.oq (.box Y) ?_)
 rintro v L' ⟨b1,rfl,rfl⟩
 refine .oq (.allocA BM) ?_
 rintro v L' ⟨bx,rfl,rfl⟩
 refine Z ?_
 refine .pc b1 (Cp t u iv r) ?_
 refine Z ?_
 refine .cv func176 [_] (Dl r.path om) ?_
 refine .oq (.alloc Gf) ?_
 rintro v L' ⟨bu,rfl,rfl⟩
 refine Z ?_
 refine .cv func171 [_,_] (CG t τ _ N ho hN) ?_
 refine Z ?_
 refine .oq (.allocA FU) ?_
 rintro v L' ⟨bv,rfl,rfl⟩
 refine .sa Y Y FW (by simp [Ca,AB]) ?_
 refine Z ?_
 refine .pc bv (Ca (Kv τ r)) ?_
 refine Z ?_
 refine .cv func171 [_,_] (CG t τ _ N ho hN) ?_
 refine Z ?_
 refine .oq (.allocA FU) ?_
 rintro v L' ⟨bs,rfl,rfl⟩
 refine .oq (.alloc AHa) ?_
 rintro v L' ⟨bi,rfl,rfl⟩
 refine .sa Y Y FW (by simp [Ca,AB]) ?_
 refine Z ?_
 refine .pc bs (Ca (A7 τ r.path)) ?_
 refine Z ?_
 refine .q (.func (us:=[]) (vs:=[_]) Y Y) Y (.q (.func (us:=[]) (vs:=[_]) Y Y) Y (.q (.func (us:=[]) (vs:=[_]) Y Y) Y (.q (.func (us:=[]) (vs:=[_,_]) Y Y) Y (.q (.func (us:=[]) (vs:=[_,_]) Y Y) Y (.q (.func (us:=[]) (vs:=[_]) Y Y) Y (.oq (.buildSlice1 (vs:=[_,_,_,_,_,_]) IC Ys Y Y Y Y Y dQ) ?_))))))
 rintro v L' ⟨bf,rfl,rfl⟩
 refine .slMake (b:=bf) (n:=6) (c:=6) (xs:=[.func (.func 238) #[] #[AD b1], .func (.func 239) #[] #[AD b1], .func (.func 240) #[] #[AD bi], .func (.func 241) #[] #[AD b1,AD bu], .func (.func 242) #[] #[AD b1,AD bs], .func (.func 243) #[] #[AD bs]]) O dQ (by exact Nat.le_refl 6) Y (.cv func180 [_] (AGC t τ u iv r p hA N ho hN b1 bu bs bi _ _ (fun _=>Ad)) ?_)
 refine Z ?_
 refine .u (.addW Y Y) (.q (.build (us:=[(0,_),(1,_),(5,_)]) FV BM Y Y (by simp [AB])) Y (Z ?_))
 refine .sa Y Y BO (by (first|(simp [AB];done)|(simp [AB,AQ,Value.cells];done))) ?_
 refine Z ?_
 refine .pc bx ([AA 2,AF r.path,AF [],AR,AA 0,AA (DB ((Kv τ r).cver+1)),AA 0,AR]) ?_
 refine Z ?_
 exact .d2 Y (.cellA Y A3 O (by simp [CX,AQ]) Y) (.tmp Y) ⟨Y,Y⟩
def L5 (k:Int):List Value:=if k=3 then [.func (.func 245) #[] #[],AA 2, .func (.func 244) #[] #[], .func (.func 246) #[] #[]] else if k=4 then [.func (.func 247) #[] #[],AA 16, .func (.func 248) #[] #[], .func (.func 249) #[] #[]] else if k=5 then [.func (.func 250) #[] #[],AA 1, .func (.func 244) #[] #[], .func (.func 251) #[] #[]] else [.nilFunc,AA 0, .nilFunc, .nilFunc]
theorem VV (k:Int):Fn prog 179 #[AA k] [] fun v L=>v= .tuple #[.agg (L5 k).toArray, .bool (decide (k=3∨k=4∨k=5))]∧L=[]:=by
 refine Fn.intro func179 Y Y fun F W=>?_
 refine .sr (.oq (.allocA MK) ?_)
 rintro v L' ⟨bx,rfl,rfl⟩
 refine Z ?_
 refine .q (.build (us:=[(0,_),(1,_),(2,_),(3,_)]) Rv MK Y Y (by simp [AB])) Y (.q (.to (v':= .agg ([AA 3, .func (.func 245) #[] #[],AA 2, .func (.func 244) #[] #[], .func (.func 246) #[] #[]]).toArray) (.buildN (pl:=[(0,1),(1,4)]) (us:=[(0,AA 3),(1, .agg ([.func (.func 245) #[] #[],AA 2, .func (.func 244) #[] #[], .func (.func 246) #[] #[]]).toArray)]) (cells:=[AA 3, .func (.func 245) #[] #[],AA 2, .func (.func 244) #[] #[], .func (.func 246) #[] #[]]) underlying322 kQ Ku Y Y) Y) Y (.q (.build (us:=[(0,_),(1,_),(2,_),(3,_)]) Rv MK Y Y (by simp [AB])) Y (.q (.to (v':= .agg ([AA 4, .func (.func 247) #[] #[],AA 16, .func (.func 248) #[] #[], .func (.func 249) #[] #[]]).toArray) (.buildN (pl:=[(0,1),(1,4)]) (us:=[(0,AA 4),(1, .agg ([.func (.func 247) #[] #[],AA 16, .func (.func 248) #[] #[], .func (.func 249) #[] #[]]).toArray)]) (cells:=[AA 4, .func (.func 247) #[] #[],AA 16, .func (.func 248) #[] #[], .func (.func 249) #[] #[]]) underlying322 kQ Ku Y Y) Y) Y ?_)))
 refine Z ?_
 refine .q (.build (us:=[(0,_),(1,_),(2,_),(3,_)]) Rv MK Y Y (by simp [AB])) Y (.q (.to (v':= .agg ([AA 5, .func (.func 250) #[] #[],AA 1, .func (.func 244) #[] #[], .func (.func 251) #[] #[]]).toArray) (.buildN (pl:=[(0,1),(1,4)]) (us:=[(0,AA 5),(1, .agg ([.func (.func 250) #[] #[],AA 1, .func (.func 244) #[] #[], .func (.func 251) #[] #[]]).toArray)]) (cells:=[AA 5, .func (.func 250) #[] #[],AA 1, .func (.func 244) #[] #[], .func (.func 251) #[] #[]]) underlying322 kQ Ku Y Y) Y) Y (.oq (.buildSlice (vs:=[_,_,_]) ACR Ku Y Y Y Y cQ dQ) ?_))
 rintro v L' ⟨bk,rfl,rfl⟩
 refine Z ?_
 refine .slMakeN 5 3 (b:=bk) (xs:=[AA 3]++[.func (.func 245) #[] #[],AA 2, .func (.func 244) #[] #[], .func (.func 246) #[] #[]]++[AA 4]++[.func (.func 247) #[] #[],AA 16, .func (.func 248) #[] #[], .func (.func 249) #[] #[]]++[AA 5]++[.func (.func 250) #[] #[],AA 1, .func (.func 244) #[] #[], .func (.func 251) #[] #[]]) O Y Y (Z ?_)
 refine .loopK (ι:=Nat) (fun q E=>(19,AA q)::E) (fun q=>[]) (fun q=>q≤3∧(0<q→k≠3)∧(1<q→k≠4)∧(2<q→k≠5)) (fun q=>3-q) (0) (ts:=[0,2,17,18]) O (⟨by omega,by omega,by omega,by omega⟩) O O ?_
 rintro i ⟨hi,hk3,hk4,hk5⟩
 refine Z ?_
 refine .condD Y (fun h20=>?_) (fun h20=>?_)
 ·refine Z ?_
  refine .q (.indexAddr Y Y ACR om) Y ?_
  rcases (show i=0∨i=1∨i=2 by omega) with rfl|rfl|rfl
  ·refine .q (.loadRdA (sz:=5) (j:=0*5) (k:=5) (p:=At 322 5 (.slice (some ⟨bk,0,none⟩) 3 3) 3 _) (vs:=[AA 3, .func (.func 245) #[] #[],AA 2, .func (.func 244) #[] #[], .func (.func 246) #[] #[]]) Y WN O (fun _=>Ad) dQ om om Y) Y (.oq (.allocA Ku) ?_)
   rintro v L' ⟨b5_2,rfl,rfl⟩
   refine .sa Y Y Wb (by (first|(simp [AB];done)|(simp [AB,AQ,Value.cells];done))) ?_
   refine .nil (.pc b5_2 ([AA 3, .func (.func 245) #[] #[],AA 2, .func (.func 244) #[] #[], .func (.func 246) #[] #[]]) ?_)
   refine Z ?_
   refine .condD Y (fun h26=>?_) (fun h26=>?_)
   ·refine Z ?_
    refine .q (.loadA Y KT O (by simp)) Y (.sa Y Y OK (by (first|(simp [AB];done)|(simp [AB,AQ,Value.cells];done))) ?_)
    refine Z ?_
    exact .d2 Y (.cellA Y KT O (by simp [CX,AQ]) Y) (.tmp Y) ⟨by subst h26;rfl,rfl⟩
   refine Z ?_
   exact .rk (1) (⟨by omega,by omega,by omega,by omega⟩) om O
  ·refine .q (.loadRdA (sz:=5) (j:=1*5) (k:=5) (p:=At 322 5 (.slice (some ⟨bk,0,none⟩) 3 3) 3 _) (vs:=[AA 4, .func (.func 247) #[] #[],AA 16, .func (.func 248) #[] #[], .func (.func 249) #[] #[]]) Y WN O (fun _=>Ad) dQ om om Y) Y (.oq (.allocA Ku) ?_)
   rintro v L' ⟨b5_2,rfl,rfl⟩
   refine .sa Y Y Wb (by (first|(simp [AB];done)|(simp [AB,AQ,Value.cells];done))) ?_
   refine .nil (.pc b5_2 ([AA 4, .func (.func 247) #[] #[],AA 16, .func (.func 248) #[] #[], .func (.func 249) #[] #[]]) ?_)
   refine Z ?_
   refine .condD Y (fun h26=>?_) (fun h26=>?_)
   ·refine Z ?_
    refine .q (.loadA Y KT O (by simp)) Y (.sa Y Y OK (by (first|(simp [AB];done)|(simp [AB,AQ,Value.cells];done))) ?_)
    refine Z ?_
    exact .d2 Y (.cellA Y KT O (by simp [CX,AQ]) Y) (.tmp Y) ⟨by subst h26;rfl,rfl⟩
   refine Z ?_
   exact .rk (2) (⟨by omega,by omega,by omega,by omega⟩) om O
  refine .q (.loadRdA (sz:=5) (j:=2*5) (k:=5) (p:=At 322 5 (.slice (some ⟨bk,0,none⟩) 3 3) 3 _) (vs:=[AA 5, .func (.func 250) #[] #[],AA 1, .func (.func 244) #[] #[], .func (.func 251) #[] #[]]) Y WN O (fun _=>Ad) dQ om om Y) Y (.oq (.allocA Ku) ?_)
  rintro v L' ⟨b5_2,rfl,rfl⟩
  refine .sa Y Y Wb (by (first|(simp [AB];done)|(simp [AB,AQ,Value.cells];done))) ?_
  refine .nil (.pc b5_2 ([AA 5, .func (.func 250) #[] #[],AA 1, .func (.func 244) #[] #[], .func (.func 251) #[] #[]]) ?_)
  refine Z ?_
  refine .condD Y (fun h26=>?_) (fun h26=>?_)
  ·refine Z ?_
   refine .q (.loadA Y KT O (by simp)) Y (.sa Y Y OK (by (first|(simp [AB];done)|(simp [AB,AQ,Value.cells];done))) ?_)
   refine Z ?_
   exact .d2 Y (.cellA Y KT O (by simp [CX,AQ]) Y) (.tmp Y) ⟨by subst h26;rfl,rfl⟩
  refine Z ?_
  exact .rk (3) (⟨by omega,by omega,by omega,by omega⟩) om O
 refine Z ?_
 refine .q (.build (us:=[]) Rv MK Y Y (by simp [AB])) Y (.sa Y Y OK (by (first|(simp [AB];done)|(simp [AB,AQ,Value.cells];done))) ?_)
 refine Z ?_
 exact .d2 Y (.cellA Y KT O (by simp [CX,AQ]) Y) (.tmp Y) ⟨by unfold L5;rw [if_neg (hk3 om),if_neg (hk4 om),if_neg (hk5 om),decide_eq_false (by rintro (g|g|g);exact hk3 om g;exact hk4 om g;exact hk5 om g)];rfl,rfl⟩
theorem AJt:A9 prog 278=some none:=by kernel_rfl
theorem ADj (t:Nat) (u:C9) (iv:Value) (r:Rq) (p:HP) (hA:E3 p u iv r):Fn prog 245 #[.agg (Cp t u iv r).toArray] [p] fun v L=>v=AA (Ay (r.data.length>100) 1)∧L=[p]:=by
 refine Fn.intro func245 Y Y fun F W=>?_
 have hcl:=hA.cells t
 refine .sr (.oq (.box Y) ?_)
 rintro v L' ⟨b1,rfl,rfl⟩
 refine Z ?_
 refine .pc b1 (Cp t u iv r) ?_
 refine Z ?_
 refine .cv func184 [_,_] (BB _ _) ?_
 refine Z ?_
 exact .dn Y Y ⟨by congr 1;unfold Ay;first|(simp_all;done)|(simp_all;omega)|(split<;>simp_all;done)|(split<;>simp_all<;>omega),rfl⟩
theorem AEI (t:Nat) (u:C9) (iv:Value) (r:Rq) (p:HP) (hA:E3 p u iv r):Fn prog 247 #[.agg (Cp t u iv r).toArray] [p] fun v L=>v=AA (Ay (¬GE r.acl=true) 50)∧L=[p]:=by
 refine Fn.intro func247 Y Y fun F W=>?_
 have hcl:=hA.cells t
 refine .sr (.oq (.box Y) ?_)
 rintro v L' ⟨b1,rfl,rfl⟩
 refine Z ?_
 refine .pc b1 (Cp t u iv r) ?_
 refine Z ?_
 refine .oq (.call func230 Y Y (vs:=[_]) Y (M2 _ r.acl p hA.rq.acl (by have:=hA.rq.many;omega) (fun a ha=>(hA.rq.ids a ha).2))) ?_
 rintro v L' ⟨rfl,rfl⟩
 refine Z ?_
 refine .cv func184 [_,_] (BB _ _) ?_
 refine Z ?_
 exact .dn Y Y ⟨by congr 1;unfold Ay;first|(simp_all;done)|(simp_all;omega)|(split<;>simp_all;done)|(split<;>simp_all<;>omega),rfl⟩
theorem ACL (t:Nat) (u:C9) (iv:Value) (r:Rq) (p:HP) (hA:E3 p u iv r):Fn prog 250 #[.agg (Cp t u iv r).toArray] [p] fun v L=>v=AA 0∧L=[p]:=by
 refine Fn.intro func250 Y Y fun F W=>?_
 have hcl:=hA.cells t
 refine .sr (.oq (.box Y) ?_)
 rintro v L' ⟨b1,rfl,rfl⟩
 refine Z ?_
 refine .pc b1 (Cp t u iv r) ?_
 refine Z ?_
 exact .vv
theorem TY (s:Ie):Fn prog 244 #[.agg (Ca s).toArray] [] fun v L=>v=AA s.ver∧L=[]:=by
 refine Fn.intro func244 Y Y fun F W=>?_
 refine .sr (.oq (.box Y) ?_)
 rintro v L' ⟨b1,rfl,rfl⟩
 refine Z ?_
 refine .pc b1 (Ca s) ?_
 refine Z ?_
 exact .vv
theorem AER (s:Ie):Fn prog 248 #[.agg (Ca s).toArray] [] fun v L=>v=AA s.av∧L=[]:=by
 refine Fn.intro func248 Y Y fun F W=>?_
 refine .sr (.oq (.box Y) ?_)
 rintro v L' ⟨b1,rfl,rfl⟩
 refine Z ?_
 refine .pc b1 (Ca s) ?_
 refine Z ?_
 exact .vv
def Ct (r:Rq) (k n:Int):Pt:=
 if k=3 then ⟨3,r.path,r.data,AR,[],0,DB (n+1),0,AR⟩ else if k=4 then ⟨4,r.path,[],AR,r.acl,0,DB (n+1),0,AR⟩ else F3
theorem AHp (τ:Tr) (r:Rq):GM τ r=Ct r r.kind (DI r.kind (A7 τ r.path)):=by
 unfold GM Ct
 split
 ·rename_i h;rw [h]
 ·split
  ·rename_i h;rw [h]
  ·rfl
theorem AEb (t:Nat) (u:C9) (iv:Value) (r:Rq) (p:HP) (hA:E3 p u iv r) (n:Int):Fn prog 246 #[.agg (Cp t u iv r).toArray,AA n] [p] fun v L=> ∃w:Value,v= .agg (A0 (CQ (Ct r 3 n) w)).toArray∧(∃a c,w= .slice a (Ct r 3 n).acl.length c)∧L=[p,At 133 2 w (Ct r 3 n).acl.length ((Ct r 3 n).acl.flatMap CJ)]:=by
 refine Fn.intro func246 Y Y fun F W=>?_
 have hcl:=hA.cells t
 refine .sr (.oq (.box Y) ?_)
 rintro v L' ⟨b1,rfl,rfl⟩
 refine .oq (.allocA BM) ?_
 rintro v L' ⟨b4,rfl,rfl⟩
 refine .nil (.pc b1 (Cp t u iv r) ?_)
 refine Z ?_
 refine .u (.addW Y Y) (.q (.build (us:=[(0,_),(1,_),(2,_),(5,_)]) FV BM Y Y (by simp [AB])) Y (.sa Y Y BO (by (first|(simp [AB];done)|(simp [AB,AQ,Value.cells];done))) ?_))
 refine .nil (.pc b4 ([AA 3,AF r.path,AF r.data,AR,AA 0,AA (DB (n+1)),AA 0,AR]) ?_)
 refine .add (AU 133 2) (.then_n (.ret ?_))
 exact .d1 Y (.cellA Y A3 O (by simp [CX,AQ]) Y) ⟨AR,Y,⟨none,0,Y⟩,Y⟩
theorem AD3 (t:Nat) (u:C9) (iv:Value) (r:Rq) (p:HP) (hA:E3 p u iv r) (n:Int):Fn prog 249 #[.agg (Cp t u iv r).toArray,AA n] [p] fun v L=> ∃w:Value,v= .agg (A0 (CQ (Ct r 4 n) w)).toArray∧(∃a c,w= .slice a (Ct r 4 n).acl.length c)∧L=[p,At 133 2 w (Ct r 4 n).acl.length ((Ct r 4 n).acl.flatMap CJ)]:=by
 refine Fn.intro func249 Y Y fun F W=>?_
 have hcl:=hA.cells t
 refine .sr (.oq (.box Y) ?_)
 rintro v L' ⟨b1,rfl,rfl⟩
 refine .oq (.allocA BM) ?_
 rintro v L' ⟨b4,rfl,rfl⟩
 refine .nil (.pc b1 (Cp t u iv r) ?_)
 refine .then_n (.seq (.draw [6,10] [[0,1,2,3,4,5,7,8,6],[9,10]] mixed kQ (.go [AW b1 _ _] O (Z ?_))))
 refine D.k Y (.addW Y Y) (.hh Y (.c func136 [_] (B8 r.aclV r.acl p hA.rq.acl hA.rq.many)) ?_)
 rintro v L' ⟨⟨a7,c7,rfl⟩,rfl⟩
 refine D.ph (.g0 (.kv Y (.build (us:=[(0,_),(1,_),(3,_),(5,_)]) FV BM Y Y (by simp [AB])) (.sa Y Y Y BO (by (first|(simp [AB];done)|(simp [AB,AQ,Value.cells];done))) ?_)))
 refine D.ph (.fin (.pc b4 ([AA 4,AF r.path,AF [], .slice a7 r.acl.length c7,AA 0,AA (DB (n+1)),AA 0,AR]) ?_))
 refine .then_n (.ret ?_)
 exact .d1 Y (.cellA Y A3 O (by simp [CX,AQ]) Y) ⟨.slice a7 r.acl.length c7,Y,⟨a7,c7,Y⟩,Y⟩
theorem ACT (t:Nat) (u:C9) (iv:Value) (r:Rq) (p:HP) (hA:E3 p u iv r) (n:Int):Fn prog 251 #[.agg (Cp t u iv r).toArray,AA n] [p] fun v L=> ∃w:Value,v= .agg (A0 (CQ (Ct r 5 n) w)).toArray∧(∃a c,w= .slice a (Ct r 5 n).acl.length c)∧L=[p,At 133 2 w (Ct r 5 n).acl.length ((Ct r 5 n).acl.flatMap CJ)]:=by
 refine Fn.intro func251 Y Y fun F W=>?_
 have hcl:=hA.cells t
 refine .sr (.oq (.box Y) ?_)
 rintro v L' ⟨b1,rfl,rfl⟩
 refine .oq (.allocA BM) ?_
 rintro v L' ⟨b4,rfl,rfl⟩
 refine .nil (.pc b1 (Cp t u iv r) ?_)
 refine Z ?_
 refine .q (.build (us:=[(0,_)]) FV BM Y Y (by simp [AB])) Y (.sa Y Y BO (by (first|(simp [AB];done)|(simp [AB,AQ,Value.cells];done))) ?_)
 refine .nil (.pc b4 ([AA 0,AF [],AF [],AR,AA 0,AA 0,AA 0,AR]) ?_)
 refine .add (AU 133 2) (.then_n (.ret ?_))
 exact .d1 Y (.cellA Y A3 O (by simp [CX,AQ]) Y) ⟨AR,Y,⟨none,0,Y⟩,Y⟩
theorem AGs (t:Nat) (u:C9) (iv:Value) (r:Rq) (p:HP) (hA:E3 p u iv r) (hk:r.kind=3∨r.kind=4∨r.kind=5):∃f1 f2 f3:Value,L5 r.kind=[f1,AA (Qt r.kind),f2,f3]∧AB f1=true∧AB f2=true∧AB f3=true∧
  CW prog f1 [.agg (Cp t u iv r).toArray] [p] (fun v L=>v=AA (Ew r)∧L=[p])∧(∀s:Ie,CW prog f2 [.agg (Ca s).toArray] [] (fun v L=>v=AA (DI r.kind s)∧L=[]))∧
  ∀n:Int,CW prog f3 [.agg (Cp t u iv r).toArray,AA n] [p] (fun v L=> ∃w:Value,v= .agg (A0 (CQ (Ct r r.kind n) w)).toArray∧(∃a c,w= .slice a (Ct r r.kind n).acl.length c)∧L=[p,At 133 2 w (Ct r r.kind n).acl.length ((Ct r r.kind n).acl.flatMap CJ)]):=by
 rcases hk with hk|hk|hk
 ·have hw:Ew r=Ay (r.data.length>100) 1:=if_pos hk
  rw [hw,hk]
  exact ⟨_,_,_,rfl,rfl,rfl,rfl,CW.of (us:=[]) (vs:=[.agg (Cp t u iv r).toArray]) (ws:=[]) func245 rfl rfl (ADj t u iv r p hA),fun s=>CW.of (us:=[]) (vs:=[.agg (Ca s).toArray]) (ws:=[]) func244 rfl rfl (TY s),fun n=>CW.of (us:=[]) (vs:=[.agg (Cp t u iv r).toArray,AA n]) (ws:=[]) func246 rfl rfl (AEb t u iv r p hA n)⟩
 ·have hw:Ew r=Ay (¬GE r.acl=true) 50:=by unfold Ew;rw [if_neg om,if_pos hk]
  rw [hw,hk]
  exact ⟨_,_,_,rfl,rfl,rfl,rfl,CW.of (us:=[]) (vs:=[.agg (Cp t u iv r).toArray]) (ws:=[]) func247 rfl rfl (AEI t u iv r p hA),fun s=>CW.of (us:=[]) (vs:=[.agg (Ca s).toArray]) (ws:=[]) func248 rfl rfl (AER s),fun n=>CW.of (us:=[]) (vs:=[.agg (Cp t u iv r).toArray,AA n]) (ws:=[]) func249 rfl rfl (AD3 t u iv r p hA n)⟩
 ·have hw:Ew r=0:=by unfold Ew;rw [if_neg om,if_neg om]
  rw [hw,hk]
  exact ⟨_,_,_,rfl,rfl,rfl,rfl,CW.of (us:=[]) (vs:=[.agg (Cp t u iv r).toArray]) (ws:=[]) func250 rfl rfl (ACL t u iv r p hA),fun s=>CW.of (us:=[]) (vs:=[.agg (Ca s).toArray]) (ws:=[]) func244 rfl rfl (TY s),fun n=>CW.of (us:=[]) (vs:=[.agg (Cp t u iv r).toArray,AA n]) (ws:=[]) func251 rfl rfl (ACT t u iv r p hA n)⟩
theorem ADA (t:Nat) (τ:Tr) (u:C9) (iv:Value) (r:Rq) (p:HP) (hA:E3 p u iv r) (N:Nat) (ho:τ.Ok N) (hN:N≤1099511627776) (b:Nat):Fn prog 181 #[AD b] [AW b (Cp t u iv r) 215] fun v L=>v=AA (BQ r.path)∧L=[AW b (Cp t u iv r) 215]:=by
 refine Fn.intro func181 Y Y fun F W=>?_
 have hpl:=hA.rq.path
 have hpl2:r.path.length≤1048576:=by omega
 refine Z ?_
 refine .cv func114 [_] (EU r.path hpl2) ?_
 refine Z ?_
 exact .vv
theorem AEl (t:Nat) (τ:Tr) (u:C9) (iv:Value) (r:Rq) (p:HP) (hA:E3 p u iv r) (N:Nat) (ho:τ.Ok N) (hN:N≤1099511627776) (b:Nat) (bk:Nat) (f1 f2 f3:Value) (m:Int) (e:Int) (hf:CW prog f1 [.agg (Cp t u iv r).toArray] [p] (fun v L=>v=AA e∧L=[p])):Fn prog 182 #[AD bk,AD b] [AW bk [f1,AA m,f2,f3] 282,AW b (Cp t u iv r) 215,p] fun v L=>v=AA (e)∧L=[AW bk [f1,AA m,f2,f3] 282,AW b (Cp t u iv r) 215,p]:=by
 refine Fn.intro func182 Y Y fun F W=>?_
 refine .sr (.an Y (.sr (.fa Y AEx (.q (.load Y AJt O Y) Y (.q (.la (Cp t u iv r) Y Gi) Y (.oq (.callD (vs:=[_]) Y Y (hf)) ?_))))))
 rintro v L' ⟨rfl,rfl⟩
 refine Z ?_
 exact .dn Y Y ⟨Y,Y⟩
theorem AC6 (b:Nat) (c:Prop) [Decidable c]:Fn prog 183 #[AD b] [AW b [.bool (decide c)] 4] fun v L=>v=AA (Ay (¬c) 60)∧L=[AW b [.bool (decide c)] 4]:=by
 refine Fn.intro func183 Y Y fun F W=>?_
 refine Z ?_
 refine .cv func184 [_,_] (BB _ _) ?_
 refine Z ?_
 exact .dn Y Y ⟨by congr 1;unfold Ay;first|(simp_all;done)|(simp_all;omega)|(split<;>simp_all;done)|(split<;>simp_all<;>omega),rfl⟩
theorem ACq (t:Nat) (τ:Tr) (u:C9) (iv:Value) (r:Rq) (p:HP) (hA:E3 p u iv r) (N:Nat) (ho:τ.Ok N) (hN:N≤1099511627776) (b:Nat) (bk:Nat) (f1 f2 f3:Value) (m:Int):Fn prog 185 #[AD b,AD bk] [AW b (Cp t u iv r) 215,AW bk [f1,AA m,f2,f3] 282,AV t τ,p] fun v L=>v=AA (Ay (¬Ks τ u.ids r.path m) 65)∧L=[AW b (Cp t u iv r) 215,AW bk [f1,AA m,f2,f3] 282,AV t τ,p]:=by
 refine Fn.intro func185 Y Y fun F W=>?_
 refine Z ?_
 refine .q (.la (Cp t u iv r) Y Gi) Y (Z ?_)
 refine .cv func186 [_,_,_] (Me t τ u iv r p hA N ho hN r.path m) ?_
 refine Z ?_
 refine .cv func184 [_,_] (BB _ _) ?_
 refine Z ?_
 exact .dn Y Y ⟨by congr 1;unfold Ay;first|(simp_all;done)|(simp_all;omega)|(split<;>simp_all;done)|(split<;>simp_all<;>omega),rfl⟩
theorem ACU (t:Nat) (τ:Tr) (u:C9) (iv:Value) (r:Rq) (p:HP) (hA:E3 p u iv r) (N:Nat) (ho:τ.Ok N) (hN:N≤1099511627776) (b:Nat) (bk:Nat) (f1 f2 f3:Value) (m:Int) (c:Nat) (s:Ie) (g:Ie→Int) (hf:CW prog f2 [.agg (Ca s).toArray] [] (fun v L=>v=AA (g s)∧L=[])):Fn prog 187 #[AD b,AD bk,AD c] [AW b (Cp t u iv r) 215,AW bk [f1,AA m,f2,f3] 282,AW c (Ca s) 62] fun v L=>v=AA (Ay (r.ver≠ -1∧r.ver≠g s) 66)∧L=[AW b (Cp t u iv r) 215,AW bk [f1,AA m,f2,f3] 282,AW c (Ca s) 62]:=by
 refine Fn.intro func187 Y Y fun F W=>?_
 refine Z ?_
 refine .draw [] [[0,1,2,3,4,5,6,7,8,9,10,11,12,13,14,15]] mixed kQ (.go [AW b _ _,AW bk _ _,AW c _ _] O (Z ?_))
 refine D.ndec (t:=8) Y (fun h1_8=>?_) (fun h1_8=>?_)
 ·refine D.kNT (t:=7) Y h1_8 (.gv Y (.fieldAddr Y LJ) (.gv Y (.fieldAddr Y AFh) (.gv Y (.ld Y CT) (.gv Y (.fieldAddr Y Vl) (.gv Y (.load Y AHL O Y) (.gv Y (.la (Ca s) Y GK) (.gm (t:=8) Y Y Y kQ (.callD (vs:=[_]) Y Y (hf)) O ?_)))))))
  refine Z ?_
  refine D.m Y kQ (.c func184 [_,_] (BB _ _)) O ?_
  refine Z ?_
  exact .dn Y Y ⟨by congr 1;unfold Ay;first|(simp_all;done)|(simp_all;omega)|(split<;>simp_all;done)|(split<;>simp_all<;>omega),rfl⟩
 refine D.kNF (t:=7) Y h1_8 (Z ?_)
 refine D.m Y kQ (.c func184 [_,_] (BB _ _)) O ?_
 refine Z ?_
 exact .dn Y Y ⟨by congr 1;unfold Ay;first|(simp_all;done)|(simp_all;omega)|(split<;>simp_all;done)|(split<;>simp_all<;>omega),rfl⟩
theorem AG2 (t:Nat) (τ:Tr) (u:C9) (iv:Value) (r:Rq) (p:HP) (hA:E3 p u iv r) (N:Nat) (ho:τ.Ok N) (hN:N≤1099511627776) (f1 f2 f3:Value) (hf1:CW prog f1 [.agg (Cp t u iv r).toArray] [p] (fun v L=>v=AA (Ew r)∧L=[p])) (hf2:∀s:Ie,CW prog f2 [.agg (Ca s).toArray] [] (fun v L=>v=AA (DI r.kind s)∧L=[])) (b1 bk bs bi:Nat) (va:Value) (p0:HP) (hr:∀h:Hp,p0 h→CA 1 h va 5 [.func (.func 181) #[] #[AD b1], .func (.func 182) #[] #[AD bk,AD b1], .func (.func 183) #[] #[AD bi], .func (.func 185) #[] #[AD b1,AD bk], .func (.func 187) #[] #[AD b1,AD bk,AD bs]]):Fn prog 180 #[va] [p0,AW b1 (Cp t u iv r) 215,AW bk [f1,AA (Qt r.kind),f2,f3] 282,AW bs (Ca (A7 τ r.path)) 62,AW bi [.bool (decide (AL τ r.path))] 4,AV t τ,p] fun v L=>v=AA (CM (Lw τ u r))∧L=[p0,AW b1 (Cp t u iv r) 215,AW bk [f1,AA (Qt r.kind),f2,f3] 282,AW bs (Ca (A7 τ r.path)) 62,AW bi [.bool (decide (AL τ r.path))] 4,AV t τ,p]:=by
 refine Fn.unpack (JK [.func (.func 181) #[] #[AD b1], .func (.func 182) #[] #[AD bk,AD b1], .func (.func 183) #[] #[AD bi], .func (.func 185) #[] #[AD b1,AD bk], .func (.func 187) #[] #[AD b1,AD bk,AD bs]] (Lw τ u r) va p0 _ rfl (by show 5≤_;decide) hr ?_)
 intro i hi hz
 have hi2:i<5:=hi
 have hc:i=0∨i=1∨i=2∨i=3∨i=4:=by omega
 rcases hc with rfl|rfl|rfl|rfl|rfl
 ·exact CW.share (us:=[]) (vs:=[]) (ws:=[AD b1]) func181 rfl rfl O (ADA t τ u iv r p hA N ho hN b1)
 ·exact CW.share (us:=[]) (vs:=[]) (ws:=[AD bk,AD b1]) func182 rfl rfl O (AEl t τ u iv r p hA N ho hN b1 bk f1 f2 f3 _ (Ew r) hf1)
 ·exact CW.share (us:=[]) (vs:=[]) (ws:=[AD bi]) func183 rfl rfl O (AC6 bi _)
 ·exact CW.share (us:=[]) (vs:=[]) (ws:=[AD b1,AD bk]) func185 rfl rfl O (ACq t τ u iv r p hA N ho hN b1 bk f1 f2 f3 _)
 ·exact CW.share (us:=[]) (vs:=[]) (ws:=[AD b1,AD bk,AD bs]) func187 rfl rfl O (ACU t τ u iv r p hA N ho hN b1 bk f1 f2 f3 _ bs _ (DI r.kind) (hf2 _))
theorem VW (k:Int):(L5 k).all AB=true:=by
 unfold L5
 split
 ·rfl
 ·split
  ·rfl
  ·split<;>rfl
theorem QM (k:Int):(L5 k).length=4:=by
 unfold L5
 split
 ·rfl
 ·split
  ·rfl
  ·split<;>rfl
theorem ABL (r:Rq) (k n:Int):∃a m c,(Ct r k n).subsV= .slice a m c:=by
 unfold Ct
 split
 ·exact ⟨_,_,_,rfl⟩
 ·split<;>exact ⟨_,_,_,rfl⟩
theorem Hh {τ:Tr} {u:C9} {r:Rq} (h:r.kind=1):AY τ u r=(Aq τ u r,CM (D8 τ u r)):=if_pos h
theorem JR {τ:Tr} {u:C9} {r:Rq} (h:r.kind=2):AY τ u r=(Ed τ r,CM (HM τ u r)):=by unfold AY;rw [if_neg om,if_pos h]
theorem RS {x:Pt} {a:Option Addr} {n c:Nat} (h:∃a n c,x.subsV= .slice a n c):(A0 (CQ x (.slice a n c))).all AB=true:=by
 obtain ⟨a,n,c,e⟩:=h
 simp [A0,CQ,e,AB]
theorem Nx (t:Nat) (τ:Tr) (u:C9) (iv:Value) (r:Rq) (p:HP) (hA:E3 p u iv r) (N:Nat) (ho:τ.Ok N) (hN:N≤1099511627776) (hcv:Aw (Kv τ r).cver):Fn prog 125 #[.agg (Cp t u iv r).toArray] [AV t τ,p] fun v L=> ∃w:Value,v= .tuple #[.agg (A0 (CQ (AY τ u r).1 w)).toArray,AA (AY τ u r).2]∧(∃a c,w= .slice a (AY τ u r).1.acl.length c)∧L=[AV t τ,p,At 133 2 w (AY τ u r).1.acl.length ((AY τ u r).1.acl.flatMap CJ)]:=by
 refine Fn.intro func125 Y Y fun F W=>?_
 have hpl:=hA.rq.path
 have hpl2:r.path.length≤1048576:=by omega
 have hcl:=hA.cells t
 refine .sr (.oq (.box Y) ?_)
 rintro v L' ⟨b1,rfl,rfl⟩
 refine .oq (.allocA BM) ?_
 rintro v L' ⟨bx,rfl,rfl⟩
 refine Z ?_
 refine .pc b1 (Cp t u iv r) ?_
 refine Z ?_
 refine .condD Y (fun h12=>?_) (fun h12=>?_)
 ·refine .sr (.q (.la (Cp t u iv r) Y Gi) Y (.oq (.c func177 [_] (R9 t τ u iv r p hA N ho hN hcv)) ?_))
  rintro v L' ⟨w,rfl,⟨aw,cw,rfl⟩,rfl⟩
  refine Z ?_
  refine .sa Y Y BO (by simp [A0,CQ,Aq,AB]) ?_
  refine Z ?_
  refine .pc bx ([AA (Aq τ u r).kind,AF (Aq τ u r).path,AF (Aq τ u r).data, .slice aw r.acl.length cw,AA (Aq τ u r).own,AA (Aq τ u r).num,AA (Aq τ u r).err,(Aq τ u r).subsV]) ?_
  refine Z ?_
  exact .d2 Y (.cellA Y A3 O (by simp [CX,AQ]) Y) (.tmp Y) ⟨.slice aw r.acl.length cw,by first|(rw [Hh h12];done)|(rw [Hh h12];rfl),by rw [Hh h12];exact ⟨_,_,rfl⟩,by first|(rw [Hh h12];done)|(rw [Hh h12];rfl)⟩
 refine Z ?_
 refine .condD Y (fun h18=>?_) (fun h18=>?_)
 ·refine .sr (.q (.la (Cp t u iv r) Y Gi) Y (.cv func178 [_] (U7 t τ u iv r p hA N ho hN) ?_))
  refine Z ?_
  refine .sa Y Y BO (by simp [A0,Ed,AB]) ?_
  refine Z ?_
  refine .pc bx ([AA (Ed τ r).kind,AF (Ed τ r).path,AF (Ed τ r).data,AR,AA (Ed τ r).own,AA (Ed τ r).num,AA (Ed τ r).err,(Ed τ r).subsV]) ?_
  refine .add (AU 133 2) (Z ?_)
  exact .d2 Y (.cellA Y A3 O (by simp [CX,AQ]) Y) (.tmp Y) ⟨AR,by first|(rw [JR h18];done)|(rw [JR h18];rfl),by rw [JR h18];exact ⟨_,_,rfl⟩,by first|(rw [JR h18];done)|(rw [JR h18];rfl)⟩
 refine Z ?_
 refine .cv func179 [_] (VV r.kind) ?_
 refine Z ?_
 refine .oq (.allocA MK) ?_
 rintro v L' ⟨bk,rfl,rfl⟩
 refine .oq (.storeA Y Y ?c40 OK ?c43 ?c41 (Bd _ _)) ?_
 case c40=>exact fun v hv=>all_eq_true.1 (VW r.kind) v hv
 case c43=>exact QM _
 case c41=>simp [QM]
 rintro v L' rfl
 refine Z ?_
 refine .condN Y (fun h32=>?_) (fun h32=>?_)
 ·have hP:AY τ u r=(F3,110):=by unfold AY;rw [if_neg h12,if_neg h18,if_neg h32]
  have hkc:L5 r.kind=[.nilFunc,AA 0, .nilFunc, .nilFunc]:=by unfold L5;rw [if_neg (fun g=>h32 (.inl g)),if_neg (fun g=>h32 (.inr (.inl g))),if_neg (fun g=>h32 (.inr (.inr g)))]
  refine .sr (.q (.build (us:=[]) FV BM Y Y (by simp [AB])) Y (.sa Y Y BO (by (first|(simp [AB];done)|(simp [AB,AQ,Value.cells];done))) ?_))
  refine Z ?_
  refine .pc bx ([AA 0,AF [],AF [],AR,AA 0,AA 0,AA 0,AR]) ?_
  refine .add (AU 133 2) (Z ?_)
  exact .d2 Y (.cellA Y A3 O (by simp [CX,AQ]) Y) (.tmp Y) ⟨AR,by first|(rw [hP];done)|(rw [hP];rfl),by rw [hP];exact ⟨_,_,rfl⟩,by first|(rw [hP];done)|(rw [hP];rfl)⟩
 have hP:AY τ u r=(Ct r r.kind (DI r.kind (A7 τ r.path)),CM (Lw τ u r)):=by unfold AY;rw [if_neg h12,if_neg h18,if_pos h32,AHp]
 obtain ⟨f1,f2,f3,hkc,hc1,hc2,hc3,hf1,hf2,hf3⟩:=AGs t u iv r p hA h32
 refine .ptCast (b:=bk) (l':=[f1,AA (Qt r.kind),f2,f3]) O (by rw [hkc];rfl) ?_
 refine Z ?_
 refine .cv func171 [_,_] (CG t τ _ N ho hN) ?_
 refine Z ?_
 refine .oq (.allocA FU) ?_
 rintro v L' ⟨bs,rfl,rfl⟩
 refine .oq (.alloc AHa) ?_
 rintro v L' ⟨bi,rfl,rfl⟩
 refine .sa Y Y FW (by simp [Ca,AB]) ?_
 refine Z ?_
 refine .pc bs (Ca (A7 τ r.path)) ?_
 refine Z ?_
 refine .q (.func (us:=[]) (vs:=[_]) Y Y) Y (.q (.func (us:=[]) (vs:=[_,_]) Y Y) Y (.q (.func (us:=[]) (vs:=[_]) Y Y) Y (.q (.func (us:=[]) (vs:=[_,_]) Y Y) Y (.q (.func (us:=[]) (vs:=[_,_,_]) Y Y) Y (.oq (.buildSlice1 (vs:=[_,_,_,_,_]) IC Ys Y Y Y Y Y dQ) ?_)))))
 rintro v L' ⟨bf,rfl,rfl⟩
 refine .slMake (b:=bf) (n:=5) (c:=5) (xs:=[.func (.func 181) #[] #[AD b1], .func (.func 182) #[] #[AD bk,AD b1], .func (.func 183) #[] #[AD bi], .func (.func 185) #[] #[AD b1,AD bk], .func (.func 187) #[] #[AD b1,AD bk,AD bs]]) O dQ (by exact Nat.le_refl 5) Y (.cv func180 [_] (AG2 t τ u iv r p hA N ho hN f1 f2 f3 hf1 hf2 b1 bk bs bi _ _ (fun _=>Ad)) ?_)
 refine Z ?_
 refine .draw [7,9] [[0,1,2,3,4,5,6,8,7,9],[10]] mixed kQ (.go [AW b1 _ _,AW bk _ _,AW bs _ _] O (.kv Y (.fieldAddr Y ABo) (.kv Y (.load Y AJ5 O Y) (.kv Y (.la (Cp t u iv r) Y Gi) (.kv Y (.fieldAddr Y Vl) (.kv Y (.load Y AHL O Y) (.kv Y (.la (Ca (A7 τ r.path)) Y GK) (.m Y kQ (.callD (vs:=[_]) Y Y (hf2 _)) O ?_))))))))
 refine Z ?_
 refine D.hh Y (.callD (vs:=[_,_]) Y Y (hf3 _)) ?_
 rintro v L' ⟨w,rfl,⟨aw,cw,rfl⟩,rfl⟩
 refine D.sa Y Y Y BO (by exact fun v hv=>all_eq_true.1 (RS (ABL r _ _)) v hv) ?_
 refine D.ph (.g0 (Z ?_))
 refine .pc bx ([AA (Ct r r.kind (DI r.kind (A7 τ r.path))).kind,AF (Ct r r.kind (DI r.kind (A7 τ r.path))).path,AF (Ct r r.kind (DI r.kind (A7 τ r.path))).data, .slice aw (Ct r r.kind (DI r.kind (A7 τ r.path))).acl.length cw,AA (Ct r r.kind (DI r.kind (A7 τ r.path))).own,AA (Ct r r.kind (DI r.kind (A7 τ r.path))).num,AA (Ct r r.kind (DI r.kind (A7 τ r.path))).err,(Ct r r.kind (DI r.kind (A7 τ r.path))).subsV]) ?_
 refine Z ?_
 exact .d2 Y (.cellA Y A3 O (by simp [CX,AQ]) Y) (.tmp Y) ⟨.slice aw (Ct r r.kind (DI r.kind (A7 τ r.path))).acl.length cw,by first|(rw [hP];done)|(rw [hP];rfl),by rw [hP];exact ⟨_,_,rfl⟩,by first|(rw [hP];done)|(rw [hP];rfl)⟩
abbrev PN:=Bs×Nd
abbrev SN:=Int×(Int×Bs)
def Df (s:Ie):List Int:=[s.cz,s.mz,s.pz,s.ver,s.cver,s.av,s.own]
def st7 (l:List Int):Ie:=⟨l.getD 0 0,l.getD 1 0,l.getD 2 0,l.getD 3 0,l.getD 4 0,l.getD 5 0,l.getD 6 0,0,0⟩
def QA (y:PN):Bs:=Bx y.1++(Bx y.2.data++(EA y.2.acl++(Df y.2.st).flatMap Bl))
def Pp (x:SN):Bs:=Bl x.1++(Bl x.2.1++Bx x.2.2)
def HI:Bs:=[84,82,69,69]
def Kq (n:List PN):Bs:=BW n.length++n.flatMap QA
def FS (s:List SN):Bs:=BW s.length++s.flatMap Pp
def Zo (zx:Int) (n:List PN) (s:List SN):Bs:=Bx HI++(Bl zx++(Kq n++FS s))
def EX (τ:Tr):Bs:=Zo τ.zx τ.nodes τ.sess
/-! ### Read UY -/
def Jc:Rn Bs:=runP [] (HX 4)
def DJ:Rn PN:=B1 Ag fun p=>B1 Ag fun d=>B1 (CD Et) fun l=>B1 (AJ AS 7) fun ns=>Ir (p,⟨d,l,st7 ns⟩)
def IG:Rn SN:=B1 AS fun i=>B1 AS fun t=>B1 Ag fun s=>Ir (i,(t,s))
theorem RQ:Bq DJ:= .bind (.run _ _) fun _=> .bind (.run _ _) fun _=> .bind (.rows D6) fun _=> .bind (.many (.run _ _) 7) fun _=> .ret _
theorem Mp:Bq IG:= .bind (.run _ _) fun _=> .bind (.run _ _) fun _=> .bind (.run _ _) fun _=> .ret _
def Cs (l:List PN):Bs:=match l.getLast? with
 |some y=>y.1
 |none=>[]
def HE (l:List SN):Int:=match l.getLast? with
 |some x=>x.1
 |none=>0
theorem Dr (l:List PN) (y:PN):Cs (l++[y])=y.1:=by unfold Cs;rw [List.getLast?_append];rfl
theorem IT (l:List SN) (y:SN):HE (l++[y])=y.1:=by unfold HE;rw [List.getLast?_append];rfl
def Ua (last p:Bs):Prop:=BQ p=0∧last<p∧(last=[]↔p=[47])
def nextS (last id:Int):Prop:=last<id
instance (a p:Bs):Decidable (Ua a p):=inferInstanceAs (Decidable (_∧_∧_))
instance (a p:Int):Decidable (nextS a p):=inferInstanceAs (Decidable (_<_))
def ZC (l:List PN):Prop:= ∀i (hi:i<l.length),Ua (Cs (l.take i)) l[i].1
def okS (l:List SN):Prop:= ∀i (hi:i<l.length),nextS (HE (l.take i)) l[i].1
theorem AGn:ZC []:=fun _ h=>absurd h (Nat.not_lt_zero _)
theorem AFO:okS []:=fun _ h=>absurd h (Nat.not_lt_zero _)
theorem Om {l:List PN} {y:PN}:ZC (l++[y])↔ZC l∧Ua (Cs l) y.1:=by
 constructor
 ·intro h
  refine ⟨fun i hi=>?_,?_⟩
  ·have:=h i (by rw [length_append];omega)
   rw [take_append_of_le_length om,getElem_append_left hi] at this
   exact this
  ·have:=h l.length (by simp)
   rw [take_left',getElem_append_right (Nat.le_refl _)] at this
   ·simpa using this
   ·rfl
 ·rintro ⟨h1,h2⟩ i hi
  rw [length_append,length_singleton] at hi
  by_cases e:i<l.length
  ·rw [take_append_of_le_length om,getElem_append_left e];exact h1 i e
  ·have:i=l.length:=by omega
   subst this
   rw [take_left' rfl,getElem_append_right (Nat.le_refl _)]
   simpa using h2
theorem LP {l:List SN} {y:SN}:okS (l++[y])↔okS l∧nextS (HE l) y.1:=by
 constructor
 ·intro h
  refine ⟨fun i hi=>?_,?_⟩
  ·have:=h i (by rw [length_append];omega)
   rw [take_append_of_le_length om,getElem_append_left hi] at this
   exact this
  ·have:=h l.length (by simp)
   rw [take_left',getElem_append_right (Nat.le_refl _)] at this
   ·simpa using this
   ·rfl
 ·rintro ⟨h1,h2⟩ i hi
  rw [length_append,length_singleton] at hi
  by_cases e:i<l.length
  ·rw [take_append_of_le_length om,getElem_append_left e];exact h1 i e
  ·have:i=l.length:=by omega
   subst this
   rw [take_left' rfl,getElem_append_right (Nat.le_refl _)]
   simpa using h2
theorem HU {α:Type} (f:Rn α) (st:Rs):∀(n j:Nat),j≤n→(AJ f n st).1.take j=(AJ f j st).1
 |0,j,h=>by
  have:j=0:=by omega
  subst this;rfl
 |n+1,j,h=>by
  have hl:∀k,(AJ f k st).1.length=k:=by
   intro k
   induction k with
   |zero=>rfl
   |succ k ih=>show ((AJ f k st).1++[_]).length=_;rw [length_append,ih];rfl
  by_cases e:j=n+1
  ·subst e;rw [take_of_length_le (Nat.le_of_eq (hl _))]
  ·show ((AJ f n st).1++[_]).take j=_
   rw [take_append_of_le_length (by rw [hl];omega)]
   exact HU f st n j om
/-! What a text is, step by step: what is read, and what is left to be read. -/
def KF (s:Bs):Rs:=if (Jc (some s)).1=HI then (Jc (some s)).2 else none
def snM (s:Bs):Nat:=(BU (AS (KF s)).2).1
def Da (s:Bs):Rs:=if snM s=0 then none else (BU (AS (KF s)).2).2
def TJ (s:Bs):List PN:=(AJ DJ (snM s) (Da s)).1
open Classical in
noncomputable def sn4 (s:Bs):Rs:=if ZC (TJ s) then (AJ DJ (snM s) (Da s)).2 else none
noncomputable def snK (s:Bs):Nat:=(BU (sn4 s)).1
noncomputable def snS (s:Bs):List SN:=(AJ IG (snK s) (BU (sn4 s)).2).1
open Classical in
noncomputable def sn6 (s:Bs):Rs:=if okS (snS s) then (AJ IG (snK s) (BU (sn4 s)).2).2 else none
noncomputable def readZ (s:Bs):Option Tr:=if sn6 s=some [] then some ⟨TJ s,snS s,(AS (KF s)).1⟩ else none
open Classical in
/-! ### What is read was laid so -/
structure Pi (τ:Tr):Prop where
 n:ZC τ.nodes
 s:okS τ.sess
 some':τ.nodes≠[]
 zx:Aw τ.zx
 nf:τ.nodes.length≤256
 sf:τ.sess.length≤256
 nd:∀y∈τ.nodes,y.2.data.length≤4096∧y.2.acl.length≤256∧(∀a∈y.2.acl,Aw a.1∧a.2.length≤4096)∧(∀n∈Df y.2.st,Aw n)∧y.2.st.len=0∧y.2.st.kids=0∧y.1.length≤4096
 ss:∀x∈τ.sess,Aw x.1∧Aw x.2.1∧x.2.2.length≤4096
theorem ABD {s r x:Bs} (h:Jc (some s)=(x,some r)):s=Bx x++r:=by
 unfold Jc Go.Proofs.YtbhkloaagkkioaaGreatDoor.runP at h
 dsimp only at h
 split at h
 ·rename_i y hy
  simp only [Prod.mk.injEq,Option.some.injEq] at h
  obtain ⟨rfl,rfl⟩:=h
  exact (PP hy).1
 ·cases h
theorem ABu {s r:Bs} {a:Ac} (h:Et (some s)=(a,some r)):s=Hw a++r∧(Aw a.1∧a.2.length≤4096):=by
 obtain ⟨n,s1,h1,h2⟩:=bind_some (fun _=> .bind (.run _ _) fun _=> .ret _) h
 obtain ⟨t,s2,h3,h4⟩:=bind_some (fun _=> .ret _) h2
 obtain ⟨e1,q1⟩:=I1 h1
 obtain ⟨e2,q2⟩:=L4 h3
 simp only [Ir,Prod.mk.injEq,Option.some.injEq] at h4
 obtain ⟨rfl,rfl⟩:=h4
 exact ⟨by rw [e1,e2];unfold Hw;simp [append_assoc],q1,q2⟩
theorem UJ {l:List Int} (h:l.length=7):Df (st7 l)=l:=by
 match l,h with
 |[a,b,c,d,e,f,g],_=>rfl
theorem AF1 {s r:Bs} {y:PN} (h:DJ (some s)=(y,some r)):s=QA y++r∧(y.2.data.length≤4096∧y.2.acl.length≤256∧(∀a∈y.2.acl,Aw a.1∧a.2.length≤4096)∧(∀n∈Df y.2.st,Aw n)∧y.2.st.len=0∧y.2.st.kids=0∧y.1.length≤4096):=by
 obtain ⟨p,s1,h1,h⟩:=bind_some (fun _=> .bind (.run _ _) fun _=> .bind (.rows D6) fun _=> .bind (.many (.run _ _) 7) fun _=> .ret _) h
 obtain ⟨d,s2,h2,h⟩:=bind_some (fun _=> .bind (.rows D6) fun _=> .bind (.many (.run _ _) 7) fun _=> .ret _) h
 obtain ⟨l,s3,h3,h⟩:=bind_some (fun _=> .bind (.many (.run _ _) 7) fun _=> .ret _) h
 obtain ⟨ns,s4,h4,h⟩:=bind_some (fun _=> .ret _) h
 obtain ⟨e1,q1⟩:=L4 h1
 obtain ⟨e2,q2⟩:=L4 h2
 obtain ⟨e3,q3,q4⟩:=AAH (E:=Hw) (Q:=fun a:Ac=>Aw a.1∧a.2.length≤4096) D6 (fun s x r hh=>ABu hh) h3
 obtain ⟨e4,q5,q6⟩:=Hn (E:=Bl) (Q:=Aw) (.run _ _) (fun s x r hh=>I1 hh) 7 s3 ns s4 h4
 simp only [Ir,Prod.mk.injEq,Option.some.injEq] at h
 obtain ⟨rfl,rfl⟩:=h
 refine ⟨?_,q2,q3,q4,by dsimp only;rw [UJ q5];exact q6,rfl,rfl,q1⟩
 rw [e1,e2,e3,e4]
 unfold QA EA
 dsimp only
 rw [UJ q5]
 simp [append_assoc]
theorem AFx {s r:Bs} {x:SN} (h:IG (some s)=(x,some r)):s=Pp x++r∧(Aw x.1∧Aw x.2.1∧x.2.2.length≤4096):=by
 obtain ⟨i,s1,h1,h⟩:=bind_some (fun _=> .bind (.run _ _) fun _=> .bind (.run _ _) fun _=> .ret _) h
 obtain ⟨t,s2,h2,h⟩:=bind_some (fun _=> .bind (.run _ _) fun _=> .ret _) h
 obtain ⟨c,s3,h3,h⟩:=bind_some (fun _=> .ret _) h
 obtain ⟨e1,q1⟩:=I1 h1
 obtain ⟨e2,q2⟩:=I1 h2
 obtain ⟨e3,q3⟩:=L4 h3
 simp only [Ir,Prod.mk.injEq,Option.some.injEq] at h
 obtain ⟨rfl,rfl⟩:=h
 exact ⟨by rw [e1,e2,e3];unfold Pp;simp [append_assoc],q1,q2,q3⟩
theorem AFH {α:Type} {f:Rn α} (hs:Bq f) (n:Nat):(AJ f n none).2=none:=Bq.many hs n
structure AJJ (s:Bs) (z:Int) (n:List PN) (ss:List SN):Prop where
 okn:ZC n
 oks:okS ss
 ne:n≠[]
 read:∃r1 r2 r3 r4 r5,Jc (some s)=(HI,some r1)∧AS (some r1)=(z,some r2)∧BU (some r2)=(n.length,some r3)∧AJ DJ n.length (some r3)=(n,some r4)∧BU (some r4)=(ss.length,some r5)∧AJ IG ss.length (some r5)=(ss,some [])
theorem KP {α:Type} (f:Rn α) (st:Rs):∀n,(AJ f n st).1.length=n
 |0=>rfl
 |n+1=>by show ((AJ f n st).1++[_]).length=n+1;rw [length_append,KP f st n];rfl
theorem Lc {α:Type} {f:Rn α} (hs:Bq f) {st:Rs} {r:Bs} (h:(f st).2=some r):∃s,st=some s:=by
 cases st with
 |none=>unfold Bq at hs;rw [hs] at h;cases h
 |some s=>exact ⟨s,rfl⟩
theorem Ml {s:Bs} {τ:Tr}:readZ s=some τ↔AJJ s τ.zx τ.nodes τ.sess:=by
 constructor
 ·intro h
  unfold readZ at h
  split at h
  ·rename_i h6
   simp only [Option.some.injEq] at h
   subst h
   dsimp only
   have g6:=h6
   unfold sn6 at g6
   split at g6
   ·rename_i hS
    obtain ⟨r5,e5⟩:=Lc (.many Mp _) g6
    obtain ⟨r4,e4⟩:=Lc (f:=BU) (.run _ _) e5
    have g4:=e4
    unfold sn4 at g4
    split at g4
    ·rename_i hN
     obtain ⟨r3,e3⟩:=Lc (.many RQ _) g4
     have g3:=e3
     unfold Da at g3
     split at g3
     ·cases g3
     ·rename_i hm
      obtain ⟨r2,e2⟩:=Lc (f:=BU) (.run _ _) g3
      obtain ⟨r1,e1⟩:=Lc (f:=AS) (.run _ _) e2
      have g1:=e1
      unfold KF at g1
      split at g1
      ·rename_i hh
       have hl:(TJ s).length=snM s:=KP _ _ _
       have hk:(snS s).length=snK s:=KP _ _ _
       refine ⟨hN,hS,fun e=>hm ?_,r1,r2,r3,r4,r5,?_,?_,?_,?_,?_,?_⟩
       ·rw [←hl,e];rfl
       ·rw [←hh,←g1]
       ·rw [←e1,←e2]
       ·rw [hl,←e2,←g3];rfl
       ·rw [hl,←e3,←g4];rfl
       ·rw [hk,←e4,←e5];rfl
       ·rw [hk,←e5,←g6];rfl
      ·cases g1
    ·cases g4
   ·cases g6
  ·cases h
 ·rintro ⟨hN,hS,hne,r1,r2,r3,r4,r5,h1,h2,h3,h4,h5,h6⟩
  have hl:τ.nodes.length≠0:=fun e=>hne (eq_nil_of_length_eq_zero e)
  have e1:KF s=some r1:=by unfold KF;rw [h1];exact if_pos rfl
  have eM:snM s=τ.nodes.length:=by unfold snM;rw [e1,h2];dsimp only;rw [h3]
  have e3:Da s=some r3:=by unfold Da;rw [eM,if_neg hl,e1,h2];dsimp only;rw [h3]
  have eL:TJ s=τ.nodes:=by unfold TJ;rw [eM,e3,h4]
  have e4:sn4 s=some r4:=by unfold sn4;rw [eL,if_pos hN,eM,e3,h4]
  have eK:snK s=τ.sess.length:=by unfold snK;rw [e4,h5]
  have eS:snS s=τ.sess:=by unfold snS;rw [eK,e4,h5];dsimp only;rw [h6]
  have e6:sn6 s=some []:=by unfold sn6;rw [eS,if_pos hS,eK,e4,h5];dsimp only;rw [h6]
  unfold readZ
  rw [if_pos e6,eL,eS,e1,h2]
theorem XU {s:Bs} {τ:Tr} (h:AJJ s τ.zx τ.nodes τ.sess):Pi τ∧s=EX τ:=by
 obtain ⟨hN,hS,hne,r1,r2,r3,r4,r5,h1,h2,h3,h4,h5,h6⟩:=h
 obtain ⟨e2,q2⟩:=I1 h2
 obtain ⟨e3,q3⟩:=O8 h3
 obtain ⟨e4,-,q4⟩:=Hn (E:=QA) RQ (fun s x r hh=>AF1 hh) _ _ _ _ h4
 obtain ⟨e5,q5⟩:=O8 h5
 obtain ⟨e6,-,q6⟩:=Hn (E:=Pp) Mp (fun s x r hh=>AFx hh) _ _ _ _ h6
 refine ⟨⟨hN,hS,hne,q2,q3,q5,q4,q6⟩,?_⟩
 rw [ABD h1,e2,e3,e4,e5,e6]
 unfold EX Zo Kq FS
 simp [append_assoc]
theorem ABd {s:Bs} {τ:Tr} (h:readZ s=some τ):Pi τ∧s=EX τ:=XU (Ml.1 h)
/-! ### What was laid is read UY -/
theorem ACY {s:Ie} (h:s.len=0∧s.kids=0):st7 (Df s)=s:=by
 obtain ⟨a,b,c,d,e,f,g,l,k⟩:=s
 obtain ⟨h1,h2⟩:=h
 dsimp only at h1 h2
 subst h1;subst h2
 rfl
theorem AAy (r:Bs):Jc (some (Bx HI++r))=(HI,some r):=by
 unfold Jc Go.Proofs.YtbhkloaagkkioaaGreatDoor.runP
 dsimp only
 rw [LB dQ dQ]
theorem QQ {α:Type} {f:Rn α} {E:α→Bs} {l:List α} (h:∀x∈l,∀r,f (some (E x++r))=(x,some r)):∀i,i≤l.length→∀r,AJ f i (some ((l.take i).flatMap E++r))=(l.take i,some r)
 |0,_,r=>rfl
 |i+1,hi,r=>by
  have ih:=QQ h i om
  rw [take_succ_eq_append_getElem om,flatMap_append,append_assoc]
  show ((AJ f i _).1++[(f (AJ f i _).2).1],(f (AJ f i _).2).2)=_
  rw [ih]
  dsimp only
  have e:[l[i]].flatMap E=E l[i]:=by simp
  rw [e,h _ (getElem_mem om)]
theorem II {α:Type} {f:Rn α} {E:α→Bs} {l:List α} (h:∀x∈l,∀r,f (some (E x++r))=(x,some r)) (r:Bs):AJ f l.length (some (l.flatMap E++r))=(l,some r):=by
 have:=QQ h l.length (Nat.le_refl _) r
 rw [take_length] at this
 exact this
theorem Hs {n:Int} (h:Aw n) (r:Bs):AS (some (Bl n++r))=(n,some r):=by unfold AS Go.Proofs.YtbhkloaagkkioaaGreatDoor.runP;dsimp only;rw [K4 h]
theorem J0 {s:Bs} (h:s.length≤4096) (r:Bs):Ag (some (Bx s++r))=(s,some r):=by unfold Ag Go.Proofs.YtbhkloaagkkioaaGreatDoor.runP;dsimp only;rw [LB h dQ]
theorem Mh {n:Nat} (h:n≤256) (r:Bs):BU (some (BW n++r))=(n,some r):=by unfold BU Go.Proofs.YtbhkloaagkkioaaGreatDoor.runP;dsimp only;rw [Iw h dQ]
theorem ADr {a:Ac} (h:Aw a.1∧a.2.length≤4096) (r:Bs):Et (some (Hw a++r))=(a,some r):=by
 unfold Et B1 Ir Hw
 rw [append_assoc,Hs h.1]
 dsimp only
 rw [J0 h.2]
theorem G9 {α β:Type} {f:Rn α} {g:α→Rn β} {st st':Rs} {x:α} (h:f st=(x,st')):B1 f g st=g x st':=by unfold B1;rw [h]
theorem Zi {τ:Tr} (h:Pi τ):readZ (EX τ)=some τ:=by
 rw [Ml]
 have hnd:∀y∈τ.nodes,∀r,DJ (some (QA y++r))=(y,some r):=fun y hy r=>by
  obtain ⟨h1,h2,h3,h4,h5,h6,h7⟩:=h.nd y hy
  unfold QA EA
  simp only [append_assoc]
  unfold DJ
  rw [G9 (J0 h7 _),G9 (J0 h1 _)]
  have hr:∀r,CD Et (some (BW y.2.acl.length++(y.2.acl.flatMap Hw++r)))=(y.2.acl,some r):=fun r=>by
   unfold CD
   rw [G9 (Mh h2 _)]
   exact II (fun a ha r=>ADr (h3 a ha) r) r
  rw [G9 (hr _),G9 (show AJ AS 7 (some ((Df y.2.st).flatMap Bl++r))=(Df y.2.st,some r) from II (f:=AS) (E:=Bl) (l:=Df y.2.st) (fun n hn r=>Hs (h4 n hn) r) r)]
  unfold Ir
  rw [ACY ⟨h5,h6⟩]
 have hss:∀x∈τ.sess,∀r,IG (some (Pp x++r))=(x,some r):=fun x hx r=>by
  obtain ⟨h1,h2,h3⟩:=h.ss x hx
  unfold Pp
  simp only [append_assoc]
  unfold IG
  rw [G9 (Hs h1 _),G9 (Hs h2 _),G9 (J0 h3 _)]
  rfl
 refine ⟨h.n,h.s,h.some',Bl τ.zx++(Kq τ.nodes++FS τ.sess),Kq τ.nodes++FS τ.sess,τ.nodes.flatMap QA++FS τ.sess,FS τ.sess,τ.sess.flatMap Pp,?_,?_,?_,?_,?_,?_⟩
 ·unfold EX Zo;exact AAy _
 ·exact Hs h.zx _
 ·unfold Kq;rw [append_assoc];exact Mh h.nf _
 ·exact II hnd _
 ·unfold FS;exact Mh h.sf _
 ·have:=II hss []
  rw [append_nil] at this
  exact this
/-! ### A tree that is being laid -/
structure Fz where
 from':Int
 nds:List PN
 ss:List SN
 all:Bool
def E1 (τ:Tr):Fz:=⟨τ.zx,[],[],false⟩
def UQ (τ:Tr) (φ:Fz):Option PN:=τ.nodes.find? fun y=>decide (Cs φ.nds<y.1)
def C5 (τ:Tr) (φ:Fz):Fz:=match UQ τ φ with
 |some y=>⟨φ.from',φ.nds++[y],φ.ss,false⟩
 |none=>⟨φ.from',φ.nds,φ.ss++τ.sess,true⟩
def BT (τ:Tr):Nat→Fz→Fz
 |0,φ=>φ
 |n+1,φ=>if φ.all then φ else BT τ n (C5 τ φ)
def Nw (φ:Fz):Bs:=if φ.all then Zo φ.from' φ.nds φ.ss else []
theorem GZ (τ:Tr) (n:Nat) {φ:Fz} (h:φ.all=true):BT τ n φ=φ:=by
 cases n with
 |zero=>rfl
 |succ n=>unfold BT;rw [if_pos h]
theorem Jw (τ:Tr):∀(n:Nat) (φ:Fz),BT τ (n+1) φ=if (BT τ n φ).all then BT τ n φ else C5 τ (BT τ n φ)
 |0,φ=>by
  show (if φ.all then φ else BT τ 0 (C5 τ φ))=_
  rfl
 |n+1,φ=>by
  by_cases h:φ.all
  ·rw [GZ τ _ h,GZ τ _ h,if_pos h]
  ·rw [BT,if_neg h,Jw τ n,BT,if_neg h]
theorem K8 (τ:Tr):∀(n m:Nat) (φ:Fz),BT τ (n+m) φ=BT τ m (BT τ n φ)
 |0,m,φ=>by rw [Nat.zero_add];rfl
 |n+1,m,φ=>by
  by_cases h:φ.all
  ·rw [GZ τ _ h,GZ τ _ h,GZ τ _ h]
  ·rw [show n+1+m=(n+m)+1 by omega,BT,if_neg h,K8 τ n m,BT,if_neg h]
def DS (τ:Tr) (e:En):Tr:=(AM τ e.zx e.x e.subs).1
def Bb (τ:Tr) (l:List En):Tr:=l.foldl DS τ
theorem Jn (τ:Tr) (l:List En) (e:En):Bb τ (l++[e])=DS (Bb τ l) e:=by unfold Bb;rw [foldl_append];rfl
theorem QG (τ:Tr) {l:List En} {i:Nat} (hi:i<l.length):Bb τ (l.take (i+1))=DS (Bb τ (l.take i)) l[i]:=by
 rw [take_succ_eq_append_getElem hi,Jn]
def ptS (kind:Int) (path data:Bs) (num:Int):Pt:=⟨kind,path,data, .slice none 0 0,[],0,num,0, .slice none 0 0⟩
theorem ZV (sz:Nat) (h:Hp):CA sz h (.slice none 0 0) 0 []:= .inl ⟨rfl,rfl,none,0,rfl⟩
theorem AH8 (p:HP) {kind:Int} {path data:Bs} {num:Int} (hp:path.length≤1048576):PtA p (ptS kind path data num):=⟨fun h _=>ZV 2 h,Nat.zero_le _,hp,rfl,rfl⟩
theorem YL (p:HP) {kind:Int} {path data:Bs} {num:Int} (hp:path.length≤1048576):TxA p (ptS kind path data num) []:=⟨AH8 p hp,fun h _=>ZV 8 h,Nat.zero_le _,fun y hy=>by cases hy⟩
/-! ### Raw acts -/
/-! ### Parts touch what is theirs -/
theorem GW (τ:Tr) (x:Pt) (zx:Int):(AI τ x zx).1.sess=τ.sess:=by
 unfold AI A5 BS
 repeat' split
 all_goals rfl
/-! ### The chapter's examples -/
theorem Fi {n:Int} (h:Aw n):(Bl n).length≤10:=CN (OR h)
theorem FF {α:Type} {f:α→Bs} {c:Nat}:∀{l:List α},(∀x∈l,(f x).length≤c)→(l.flatMap f).length≤l.length*c
 |[],_=>by simp
 |y::l,h=>by
  have h1:=h y (mem_cons_self ..)
  have h2:=FF (l:=l) (f:=f) (fun x hx=>h x (mem_cons_of_mem _ hx))
  rw [flatMap_cons,length_append,length_cons,Nat.add_mul];omega
structure Hf (l:List Ac):Prop where
 few:l.length≤1048576
 long:(EA l).length≤33000000
 each:∀a∈l,AcI a∧a.2.length≤1048576
structure PnW (y:PN):Prop where
 p:y.1.length≤60
 d:y.2.data.length≤1048576
 acl:Hf y.2.acl
 st:∀n∈Df y.2.st,Aw n
 bare:y.2.st.len=0∧y.2.st.kids=0
structure SnW (x:SN):Prop where
 i:Aw x.1
 t:Aw x.2.1
 s:x.2.2.length≤1048576
structure Hx (τ:Tr):Prop where
 nd:∀y∈τ.nodes,PnW y
 ss:∀x∈τ.sess,SnW x
 zx:Aw τ.zx
theorem Hj {s:Bs} (h:s.length≤1048576):(Bx s).length≤1048586:=by
 have h1:=CN (u:=s.length) (by have:Ds=18446744073709551616:=rfl;omega)
 unfold Bx BW
 rw [length_append];omega
theorem PnW.len {y:PN} (h:PnW y):(QA y).length≤35200000:=by
 have h1:=Hj (s:=y.1) (by have:=h.p;omega)
 have h2:=Hj h.d
 have h3:=h.acl.long
 have h4:=FF (f:=Bl) (c:=10) (l:=Df y.2.st) (fun n hn=>Fi (h.st n hn))
 have h5:(Df y.2.st).length=7:=rfl
 rw [h5] at h4
 unfold QA
 rw [length_append,length_append,length_append]
 omega
theorem SnW.len {x:SN} (h:SnW x):(Pp x).length≤1048606:=by
 have h1:=Fi h.i
 have h2:=Fi h.t
 have h3:=Hj h.s
 unfold Pp
 rw [length_append,length_append]
 omega
theorem Wi {l:List PN} (h:∀y∈l,PnW y) (hl:l.length≤1048576):(l.flatMap QA).length≤36909875200000:=by
 have:=FF (f:=QA) (c:=35200000) (l:=l) (fun y hy=>(h y hy).len)
 have h2:l.length*35200000≤1048576*35200000:=Nat.mul_le_mul_right _ hl
 omega
theorem RN {l:List SN} (h:∀y∈l,SnW y) (hl:l.length≤1048576):(l.flatMap Pp).length≤1099550000000:=by
 have:=FF (f:=Pp) (c:=1048606) (l:=l) (fun y hy=>(h y hy).len)
 have h2:l.length*1048606≤1048576*1048606:=Nat.mul_le_mul_right _ hl
 omega
/-! ### C9 keeps it -/
structure PtN (x:Pt):Prop where
 own:Aw x.own
 num:Aw x.num
 data:x.data.length≤1048576
 acl:Hf x.acl
structure EnN (e:En):Prop where
 zx:Aw e.zx
 x:PtN e.x
 each:∀y∈e.subs,PtN y
theorem BX {s:Ie} {n:Int}:n∈Df s↔n=s.cz∨n=s.mz∨n=s.pz∨n=s.ver∨n=s.cver∨n=s.av∨n=s.own:=by
 simp [Df]
theorem PnW.kid {p:Bs} {n:Nd} (h:PnW (p,n)) {num zx:Int} (h1:Aw num) (h2:Aw zx):PnW (p,kidN num zx n):=by
 refine ⟨h.p,h.d,h.acl,fun k hk=>?_,h.bare⟩
 have hs:=h.st
 rw [BX] at hk
 rcases hk with rfl|rfl|rfl|rfl|rfl|rfl|rfl
 ·exact hs _ (BX.2 (.inl rfl))
 ·exact hs _ (BX.2 (.inr (.inl rfl)))
 ·exact h2
 ·exact hs _ (BX.2 (.inr (.inr (.inr (.inl rfl)))))
 ·exact h1
 ·exact hs _ (BX.2 (.inr (.inr (.inr (.inr (.inr (.inl rfl)))))))
 ·exact hs _ (BX.2 (.inr (.inr (.inr (.inr (.inr (.inr rfl)))))))
theorem PnW.set {p:Bs} {n:Nd} (h:PnW (p,n)) {d:Bs} {num zx:Int} (hd:d.length≤1048576) (h1:Aw num) (h2:Aw zx):PnW (p,HQ d num zx n):=by
 refine ⟨h.p,hd,h.acl,fun k hk=>?_,h.bare⟩
 have hs:=h.st
 rw [BX] at hk
 rcases hk with rfl|rfl|rfl|rfl|rfl|rfl|rfl
 ·exact hs _ (BX.2 (.inl rfl))
 ·exact h2
 ·exact hs _ (BX.2 (.inr (.inr (.inl rfl))))
 ·exact h1
 ·exact hs _ (BX.2 (.inr (.inr (.inr (.inr (.inl rfl))))))
 ·exact hs _ (BX.2 (.inr (.inr (.inr (.inr (.inr (.inl rfl)))))))
 ·exact hs _ (BX.2 (.inr (.inr (.inr (.inr (.inr (.inr rfl)))))))
theorem PnW.acl' {p:Bs} {n:Nd} (h:PnW (p,n)) {l:List Ac} {num:Int} (hl:Hf l) (h1:Aw num):PnW (p,Gd l num n):=by
 refine ⟨h.p,h.d,hl,fun k hk=>?_,h.bare⟩
 have hs:=h.st
 rw [BX] at hk
 rcases hk with rfl|rfl|rfl|rfl|rfl|rfl|rfl
 ·exact hs _ (BX.2 (.inl rfl))
 ·exact hs _ (BX.2 (.inr (.inl rfl)))
 ·exact hs _ (BX.2 (.inr (.inr (.inl rfl))))
 ·exact hs _ (BX.2 (.inr (.inr (.inr (.inl rfl)))))
 ·exact hs _ (BX.2 (.inr (.inr (.inr (.inr (.inl rfl))))))
 ·exact h1
 ·exact hs _ (BX.2 (.inr (.inr (.inr (.inr (.inr (.inr rfl)))))))
theorem Ud:Aw 0:=by decide
theorem PnW.new {x:Pt} (h:PtN x) (hp:Bm x.path) {zx:Int} (hz:Aw zx):PnW (x.path,EZ x zx):=by
 refine ⟨F0 (.inr hp),h.data,h.acl,fun k hk=>?_,⟨rfl,rfl⟩⟩
 rw [BX] at hk
 rcases hk with rfl|rfl|rfl|rfl|rfl|rfl|rfl
 ·exact hz
 ·exact hz
 ·exact hz
 ·exact Ud
 ·exact Ud
 ·exact Ud
 ·exact h.own
theorem Si {l:List PN} {p:Bs} {f:Nd→Nd} (h:∀y∈l,PnW y) (hf:∀n,PnW (p,n)→PnW (p,f n)):∀y∈amod l p f,PnW y:=by
 intro y hy
 obtain ⟨x,hx,e1,e2|⟨e2,e3⟩⟩:=Lq hy
 ·have:y=x:=Prod.ext e1.symm e2
  rw [this];exact h x hx
 ·have e:y=(p,f x.2):=Prod.ext (e1.symm.trans e2) e3
  rw [e]
  refine hf _ ?_
  have:=h x hx
  rw [←e2];exact this
theorem Hx.part {τ:Tr} (h:Hx τ) {x:Pt} (hx:PtN x) {zx:Int} (hz:Aw zx):Hx (AI τ x zx).1:=by
 unfold AI
 split
 ·unfold A5
  split
  ·rename_i g
   refine ⟨Si (fun y hy=>?_) fun n hn=>hn.kid hx.num hz,h.ss,h.zx⟩
   rcases F6 hy with rfl|hy
   ·exact PnW.new hx g.1 hz
   ·exact h.nd y hy
  ·exact h
 split
 ·unfold BS
  split
  ·exact ⟨Si (fun y hy=>h.nd y (mem_filter.1 hy).1) fun n hn=>hn.kid hx.num hz,h.ss,h.zx⟩
  ·exact h
 split
 ·exact ⟨Si h.nd fun n hn=>hn.set hx.data hx.num hz,h.ss,h.zx⟩
 split
 ·exact ⟨Si h.nd fun n hn=>hn.acl' hx.acl hx.num,h.ss,h.zx⟩
 ·exact h
theorem Hx.parts {τ:Tr} (h:Hx τ) {zx:Int} (hz:Aw zx) {l:List Pt} (hl:∀x∈l,PtN x):Hx (AP τ zx l).1:=by
 have key:∀(l:List Pt) (r:Tr×List Ev),Hx r.1→(∀x∈l,PtN x)→Hx (l.foldl (fun r x=>((AI r.1 x zx).1,r.2++(AI r.1 x zx).2)) r).1:=by
  intro l
  induction l with
  |nil=>intro r h _;exact h
  |cons x l ih=>
   intro r h hl
   rw [foldl_cons]
   exact ih _ (h.part (hl x (by simp)) hz) (fun y hy=>hl y (by simp [hy]))
 exact key l _ h hl
theorem Hx.zxT {τ:Tr} (h:Hx τ) {z:Int} (hz:Aw z):Hx (Go.Proofs.YtbhkloaagkkioaaGreatDoor.zxT τ z):=⟨h.nd,h.ss,hz⟩
theorem Hx.app {τ:Tr} (h:Hx τ) {e:En} (he:EnN e):Hx (DS τ e):=by
 have h0:=h.zxT he.zx
 unfold DS AM
 dsimp only
 split
 ·split
  ·refine ⟨h0.nd,fun y hy=>?_,h0.zx⟩
   rcases F6 hy with rfl|hy
   ·exact ⟨he.x.own,he.x.num,he.x.data⟩
   ·exact h0.ss y hy
  ·exact h0
 split
 ·have h1:=h0.parts he.zx (l:=e.subs.filter Bc) fun y hy=>he.each y (mem_filter.1 hy).1
  exact ⟨h1.nd,fun y hy=>h1.ss y (mem_filter.1 hy).1,h1.zx⟩
 split
 ·exact h0.parts he.zx he.each
 split
 ·exact h0
 ·exact h0.part he.x he.zx
theorem Hx.new:Hx BV:=by
 refine ⟨fun y hy=>?_,fun x hx=>(by cases hx),Ud⟩
 simp only [BV,mem_singleton] at hy
 subst hy
 refine ⟨by decide,by decide,⟨by decide,?_,fun a ha=>?_⟩,fun n hn=>?_,⟨rfl,rfl⟩⟩
 ·have h1:=Fi (n:=31) dQ
  have h2:=Hj (s:=[119,111,114,108,100]) dQ
  have h3:=CN (u:=0+1) dQ
  unfold EA Hw
  simp only [flatMap_cons,flatMap_nil,length_append,length_nil,length_cons] at *
  unfold BW
  omega
 ·simp only [mem_singleton] at ha;subst ha
  exact ⟨⟨by decide,by decide⟩,by decide⟩
 ·rw [BX] at hn
  rcases hn with rfl|rfl|rfl|rfl|rfl|rfl|rfl<;>exact Ud
theorem G.as {W:World} {n:Nat} {ds:List Deferred} {E:Bi} {L R:List HP} {X:Act→World→Prop} {p q:HP} (hL:BJ p L R) (e:p=q) (h:G W n ds E (q::R) X):G W n ds E L X:=by
 subst e;exact G.focus hL h
theorem wrap_i64 (n:Int):Aw (DB n):=by
 show -9223372036854775808≤IntKind.i64.wrap n∧IntKind.i64.wrap n≤9223372036854775807
 simp only [IntKind.wrap,IntKind.signed,IntKind.bits,Bool.true_and]
 split<;>simp_all<;>omega
theorem Aw.zero:Aw 0:=⟨by decide,by decide⟩
theorem VZ {τ:Tr} (h:Hx τ) (p:Bs):Aw (A7 τ p).cver:=by
 unfold A7 NP
 rcases hn:AC τ.nodes p with _|n
 case some=>
  exact (h.nd _ (De hn)).st _ (BX.2 (.inr (.inr (.inr (.inr (.inl rfl))))))
 case none=>exact Aw.zero
theorem SH (τ:Tr) (u:C9) {r:Rq} (hu:Aw u.ses) (hd:r.data.length≤1048576) (ha:Hf r.acl):PtN (AY τ u r).1:=by
 have h0:Hf []:=⟨by decide,by simp [EA,BW,DU],fun a ha=>by cases ha⟩
 unfold AY
 split
 ·refine ⟨?_,wrap_i64 _,hd,ha⟩
  show Aw (if andI r.flags 1≠0 then u.ses else 0)
  split
  ·exact hu
  ·exact Aw.zero
 split
 ·exact ⟨Aw.zero,wrap_i64 _,Nat.zero_le _,h0⟩
 split
 ·unfold GM
  split
  ·exact ⟨Aw.zero,wrap_i64 _,hd,h0⟩
  split
  ·exact ⟨Aw.zero,wrap_i64 _,Nat.zero_le _,ha⟩
  ·exact ⟨Aw.zero,Aw.zero,Nat.zero_le _,h0⟩
 ·exact ⟨Aw.zero,Aw.zero,Nat.zero_le _,h0⟩
theorem Eg {u:C9} {r:Rq} {l:List Rq} {τ:Tr}:B3 u (r::l) τ=if (AY τ u r).2≠0 then (τ,[],some (0,(AY τ u r).2))
  else ((B3 u l (AM τ τ.zx (AY τ u r).1 []).1).1,(AY τ u r).1::(B3 u l (AM τ τ.zx (AY τ u r).1 []).1).2.1,(B3 u l (AM τ τ.zx (AY τ u r).1 []).1).2.2.map fun x=>(x.1+1,x.2)):=rfl
def D5 (u:C9) (l:List Rq) (τ:Tr) (i:Nat) (σ:Tr) (xs:List Pt):Prop:=
 (B3 u l τ).2.1=xs++(B3 u (l.drop i) σ).2.1∧(B3 u l τ).2.2=(B3 u (l.drop i) σ).2.2.map (fun x=>(x.1+i,x.2))∧xs.length=i
theorem D5.zero (u:C9) (l:List Rq) (τ:Tr):D5 u l τ 0 τ []:=⟨rfl,by simp,rfl⟩
theorem D5.step {u:C9} {l:List Rq} {τ σ:Tr} {i:Nat} {xs:List Pt} (h:D5 u l τ i σ xs) (hi:i<l.length) (h0:(AY σ u l[i]).2=0):
  D5 u l τ (i+1) (AM σ σ.zx (AY σ u l[i]).1 []).1 (xs++[(AY σ u l[i]).1]):=by
 obtain ⟨h1,h2,h3⟩:=h
 rw [drop_eq_getElem_cons hi,Eg,if_neg om] at h1 h2
 refine ⟨by rw [h1,append_assoc];rfl,?_,by rw [length_append,h3];rfl⟩
 rw [h2,Option.map_map]
 congr 1
 funext x
 show (x.1+1+i,x.2)=(x.1+(i+1),x.2)
 congr 1;omega
theorem D5.stop {u:C9} {l:List Rq} {τ σ:Tr} {i:Nat} {xs:List Pt} (h:D5 u l τ i σ xs) (hi:i<l.length) (h0:(AY σ u l[i]).2≠0) (hl:¬(l.length=0∨l.length>8)):
  BL τ u l=(Az (AY σ u l[i]).2 i,[]):=by
 obtain ⟨h1,h2,h3⟩:=h
 rw [drop_eq_getElem_cons hi,Eg,if_pos h0] at h2
 unfold BL
 rw [if_neg hl,h2]
 simp
theorem D5.done {u:C9} {l:List Rq} {τ σ:Tr} {xs:List Pt} (h:D5 u l τ l.length σ xs) (hl:¬(l.length=0∨l.length>8)):
  BL τ u l=(⟨7,[],[],AR,[],0,0,0,AR⟩,xs):=by
 obtain ⟨h1,h2,h3⟩:=h
 rw [drop_length] at h1 h2
 have h2:(B3 u l τ).2.2=none:=h2
 have h1:(B3 u l τ).2.1=xs++[]:=h1
 unfold BL
 rw [if_neg hl,h2,h1,append_nil]
theorem OT (w:Nat) (bs:Bs) (va:Value) (ns:List Int) (p:HP) (hp:∀h:Hp,p h→CA 1 h va ns.length (BZ ns)) (hi:∀n∈ns,Aw n) (hl:bs.length+(ns.flatMap Bl).length≤4294900000) (hn:ns.length≤1048576):Fn prog 201 #[AD w,va] [FM w bs,p] fun v L=>v= .tuple #[]∧L=[FM w (bs++ns.flatMap Bl),p]:=by
 refine Fn.intro func201 Y Y fun F W=>?_
 refine .rdAny (p:=p) hp O fun aa ca e0 _=>?_
 subst e0
 refine Z ?_
 refine .wrCast (w:=w) (bs':=bs++(ns.take 0).flatMap Bl) O (by simp) (.loopK (ι:=Nat) (fun q E=>(8,AA q)::E) (fun q=>[FM w (bs++(ns.take q).flatMap Bl)]) (fun q=>q≤ns.length) (fun q=>ns.length-q) (0) (ts:=[0,6,7]) O (Nat.zero_le _) O O ?_)
 rintro j hj
 refine Z ?_
 refine .condD Y (fun h9=>?_) (fun h9=>?_)
 ·have hj2:j<ns.length:=by omega
  have hft:=ZZ Bl ns j
  refine .rdShape (p:=p) hp O om fun ba oa e=>?_
  subst e
  refine Z ?_
  refine .q (.indexAddr Y Y Bv om) Y (.q (.loadEl (p:=p) (i:=j*1) (v:=AA ns[j]) Y CT O hp (by simp [hj2])) Y (Z ?_))
  refine .oq (.c func80 [_,_] (D1 w _ ns[j] (hi _ (getElem_mem hj2)) ?hb8)) ?_
  case hb8=>rw [length_append];omega
  rintro v L' ⟨rfl,rfl⟩
  refine Z ?_
  refine .wrCast (w:=w) (bs':=bs++(ns.take (j+1)).flatMap Bl) O (by rw [H2 Bl hj2,append_assoc]) ?_
  exact .rk (j+1) om om O
 have hjj:j=ns.length:=by omega
 rw [hjj,take_length]
 refine Z ?_
 refine .done_n ?_
 exact .vv
theorem Zv (w:Nat) (bs:Bs) (a:Ac) (hi:AcI a) (hl:bs.length+(Hw a).length≤4294900000):Fn prog 264 #[AD w, .agg (CJ a).toArray] [FM w bs] fun v L=>v= .tuple #[]∧L=[FM w (bs++Hw a)]:=by
 refine Fn.intro func264 Y Y fun F W=>?_
 have hab:(Hw a).length=(Bl a.1).length+((BW a.2.length).length+a.2.length):=by unfold Hw Bx;simp
 refine .sr (.oq (.box Y) ?_)
 rintro v L' ⟨b3,rfl,rfl⟩
 refine .nil (.ptCast (b:=b3) (l':=CJ a) O Y ?_)
 refine Z ?_
 refine .cv func80 [_,_] (D1 w bs a.1 hi.n om) ?_
 refine Z ?_
 refine .oq (.c func92 [_,_] (Dn w _ a.2 ?hb11)) ?_
 case hb11=>rw [length_append];omega
 rintro v L' ⟨rfl,rfl⟩
 refine .nil (.done_n (.wrCast (w:=w) (bs':=bs++Hw a) O (by unfold Hw;rw [append_assoc]) ?_))
 exact .vv
theorem Wd (w:Nat) (bs:Bs) (va:Value) (l:List Ac) (p:HP) (hp:∀h:Hp,p h→CA 2 h va l.length (l.flatMap CJ)) (hi:∀a∈l,AcI a) (hl:bs.length+(BW l.length++l.flatMap Hw).length≤4294900000) (hn:l.length≤1048576):Fn prog 263 #[AD w,va, .func (.func 264) #[] #[]] [FM w bs,p] fun v L=>v= .tuple #[]∧L=[FM w (bs++(BW l.length++l.flatMap Hw)),p]:=by
 refine Fn.intro func263 Y Y fun F W=>?_
 refine .rdAny (p:=p) hp O fun aa ca e0 _=>?_
 subst e0
 rw [length_append] at hl
 refine Z ?_
 refine .cv func81 [_,_] (Dt w bs l.length om om) ?_
 refine Z ?_
 refine .wrCast (w:=w) (bs':=bs++BW l.length++(l.take 0).flatMap Hw) O (by simp) (.loopK (ι:=Nat) (fun q E=>(14,AA q)::E) (fun q=>[FM w (bs++BW l.length++(l.take q).flatMap Hw)]) (fun q=>q≤l.length) (fun q=>l.length-q) (0) (ts:=[0,2,12,13]) O (Nat.zero_le _) O O ?_)
 rintro j hj
 refine Z ?_
 refine .condD Y (fun h15=>?_) (fun h15=>?_)
 ·have hj2:j<l.length:=by omega
  have hft:=JY Hw hj2
  refine .rdShape (p:=p) hp O om fun ba oa e=>?_
  subst e
  refine Z ?_
  refine .q (.indexAddr Y Y GN om) Y (.q (.loadRdA (sz:=2) (j:=j*2) (k:=2) (p:=p) (vs:=CJ l[j]) Y JP O hp (by simp) om om (BH (f:=CJ) (sz:=2) (fun _ _=>Y) om)) Y (.oq (.allocA EI) ?_))
  rintro v L' ⟨b7,rfl,rfl⟩
  refine .sa Y Y S1 (by simp [CJ,AB]) ?_
  refine .nil (.pc b7 (CJ l[j]) ?_)
  refine Z ?_
  refine .q (.loadAs (vs:=CJ l[j]) Y JP O (by simp [CJ]) Y) Y (.oq (.callV func264 Y Y (us:=[]) (vs:=[_,_]) (ws:=[]) Y Y (Zv w _ l[j] (hi _ (getElem_mem hj2)) ?hb22)) ?_)
  case hb22=>rw [length_append,length_append];omega
  rintro v L' ⟨rfl,rfl⟩
  refine Z ?_
  refine .wrCast (w:=w) (bs':=bs++BW l.length++(l.take (j+1)).flatMap Hw) O (by rw [H2 Hw hj2,←append_assoc]) ?_
  exact .rk (j+1) om om O
 have hjj:j=l.length:=by omega
 rw [hjj,take_length,append_assoc]
 refine Z ?_
 refine .done_n ?_
 exact .vv
theorem AFy (y:Pt):(HT y).length=(Bl y.kind).length+((BW y.path.length).length+y.path.length)+((BW y.data.length).length+y.data.length)+(EA y.acl).length+([y.own,y.num,y.err].flatMap Bl).length:=by unfold HT Bx;simp only [length_append]
theorem Nv (w:Nat) (bs:Bs) (y:Pt) (p:HP) (hy:PtW p y) (hl:bs.length+(HT y).length≤4294900000) (hn:y.acl.length≤1048576):Fn prog 202 #[AD w, .agg (A0 y).toArray] [FM w bs,p] fun v L=>v= .tuple #[]∧L=[FM w (bs++HT y),p]:=by
 refine Fn.intro func202 Y Y fun F W=>?_
 have hpl:=AFy y
 have hal:(BW y.acl.length++y.acl.flatMap Hw).length=(EA y.acl).length:=rfl
 have hiy:=hy.i
 refine .sr (.oq (.box Y) ?_)
 rintro v L' ⟨b3,rfl,rfl⟩
 refine .nil (.ptCast (b:=b3) (l':=A0 y) O Y ?_)
 refine Z ?_
 refine .cv func80 [_,_] (D1 w bs y.kind hiy.kind om) ?_
 refine Z ?_
 refine .oq (.c func92 [_,_] (Dn w _ y.path ?hb11)) ?_
 case hb11=>rw [length_append];omega
 rintro v L' ⟨rfl,rfl⟩
 refine Z ?_
 refine .oq (.c func92 [_,_] (Dn w _ y.data ?hb17)) ?_
 case hb17=>simp only [length_append,Bx];omega
 rintro v L' ⟨rfl,rfl⟩
 refine Z ?_
 refine .oq (.c func263 [_,_,_] (Wd w _ _ y.acl p hy.acl hiy.acl ?hb23 hn)) ?_
 case hb23=>rw [hal];simp only [length_append,Bx];omega
 rintro v L' ⟨rfl,rfl⟩
 refine Z ?_
 refine .oq (.buildSlice1 (vs:=[_,_,_]) Bv FA Y Y Y Y Y dQ) ?_
 rintro v L' ⟨b5,rfl,rfl⟩
 refine .slMake (b:=b5) (n:=3) (c:=3) (xs:=BZ [y.own,y.num,y.err]) O dQ (by simp) Y (.oq (.call func201 Y Y (vs:=[_,_]) Y (OT w _ _ [y.own,y.num,y.err] (At 3 1 (.slice (some ⟨b5,0,none⟩) 3 3) 3 (BZ [y.own,y.num,y.err])) (fun h hp=>Ad hp) (fun n hn=>by simp only [mem_cons,not_mem_nil,or_false] at hn;rcases hn with rfl|rfl|rfl;exact hiy.own;exact hiy.num;exact hiy.err) ?hb35 (by simp))) ?_)
 case hb35=>have h9:(BW y.acl.length++y.acl.flatMap Hw).length=(EA y.acl).length:=rfl;simp only [length_append,Bx] at h9 ⊢;omega
 rintro v L' ⟨rfl,rfl⟩
 refine .nil (.done_n (.wrCast (w:=w) (bs':=bs++HT y) O (by unfold HT EA;simp only [append_assoc]) ?_))
 exact .vv
theorem Tp (w:Nat) (bs:Bs) (va:Value) (l:List Pt) (p:HP) (hp:∀h:Hp,p h→CA 8 h va l.length (l.flatMap A0)) (hi:∀y∈l,PtW p y∧y.acl.length≤1048576) (hl:bs.length+(BW l.length++l.flatMap HT).length≤4294900000) (hn:l.length≤1048576) (hcl:∀y∈l,∀v∈A0 y,AB v=true):Fn prog 203 #[AD w,va, .func (.func 202) #[] #[]] [FM w bs,p] fun v L=>v= .tuple #[]∧L=[FM w (bs++(BW l.length++l.flatMap HT)),p]:=by
 refine Fn.intro func203 Y Y fun F W=>?_
 refine .rdAny (p:=p) hp O fun aa ca e0 _=>?_
 subst e0
 rw [length_append] at hl
 refine Z ?_
 refine .cv func81 [_,_] (Dt w bs l.length om om) ?_
 refine Z ?_
 refine .wrCast (w:=w) (bs':=bs++BW l.length++(l.take 0).flatMap HT) O (by simp) (.loopK (ι:=Nat) (fun q E=>(14,AA q)::E) (fun q=>[FM w (bs++BW l.length++(l.take q).flatMap HT)]) (fun q=>q≤l.length) (fun q=>l.length-q) (0) (ts:=[0,2,12,13]) O (Nat.zero_le _) O O ?_)
 rintro j hj
 refine Z ?_
 refine .condD Y (fun h15=>?_) (fun h15=>?_)
 ·have hj2:j<l.length:=by omega
  have hft:=JY HT hj2
  refine .rdShape (p:=p) hp O om fun ba oa e=>?_
  subst e
  refine Z ?_
  refine .q (.indexAddr Y Y FQ om) Y (.q (.loadRdA (sz:=8) (j:=j*8) (k:=8) (p:=p) (vs:=A0 l[j]) Y A3 O hp (by simp) om om (BH (f:=A0) (sz:=8) (fun _ _=>Y) om)) Y (.oq (.allocA BM) ?_))
  rintro v L' ⟨b7,rfl,rfl⟩
  refine .sa Y Y BO (by exact hcl _ (getElem_mem hj2)) ?_
  refine .nil (.pc b7 (A0 l[j]) ?_)
  refine Z ?_
  refine .q (.loadAs (vs:=A0 l[j]) Y A3 O (by simp [A0]) Y) Y (.oq (.callV func202 Y Y (us:=[]) (vs:=[_,_]) (ws:=[]) Y Y (Nv w _ l[j] p (hi _ (getElem_mem hj2)).1 ?hb22 (hi _ (getElem_mem hj2)).2)) ?_)
  case hb22=>rw [length_append,length_append];omega
  rintro v L' ⟨rfl,rfl⟩
  refine Z ?_
  refine .wrCast (w:=w) (bs':=bs++BW l.length++(l.take (j+1)).flatMap HT) O (by rw [H2 HT hj2,←append_assoc]) ?_
  exact .rk (j+1) om om O
 have hjj:j=l.length:=by omega
 rw [hjj,take_length,append_assoc]
 refine Z ?_
 refine .done_n ?_
 exact .vv
theorem R1 (e:En):(Cb e).length=([e.zx,e.ses,e.xid].flatMap Bl).length+(HT e.x).length+(If e.subs).length:=by unfold Cb;simp only [length_append]
theorem B9 {y:Pt} (h1:AB y.aclV=true) (h2:AB y.subsV=true):∀v∈A0 y,AB v=true:=by
 intro v hv
 simp only [A0,mem_cons,not_mem_nil,or_false] at hv
 rcases hv with rfl|rfl|rfl|rfl|rfl|rfl|rfl|rfl
 case inr.inr.inr.inl=>exact h1
 case inr.inr.inr.inr.inr.inr.inr=>exact h2
 all_goals rfl
structure EnL (p:HP) (e:En):Prop where
 w:EnW p e
 len:(Cb e).length≤1073741824
 few:e.subs.length≤1048576∧e.x.acl.length≤1048576∧∀y∈e.subs,y.acl.length≤1048576
 cx:AB e.x.aclV=true∧AB e.x.subsV=true
 cs:∀y∈e.subs,AB y.aclV=true∧AB y.subsV=true
theorem EnL.cells {p:HP} {e:En} (h:EnL p e):∀v∈CB e,AB v=true:=by
 intro v hv
 unfold CB at hv
 rcases mem_append.1 hv with hv|hv
 ·simp at hv;rcases hv with rfl|rfl|rfl<;>rfl
 ·exact B9 h.cx.1 h.cx.2 v hv
theorem Up (w:Nat) (e:En) (p:HP) (he:EnL p e):Fn prog 133 #[AD w, .agg (CB e).toArray] [FM w [],p] fun v L=>v= .tuple #[]∧L=[FM w (Cb e),p]:=by
 refine Fn.intro func133 Y Y fun F W=>?_
 have hel:=R1 e
 have hle:=he.len
 have hie:=he.w.i
 have hsb:(BW e.subs.length++e.subs.flatMap HT).length=(If e.subs).length:=rfl
 refine .sr (.oq (.box Y) ?_)
 rintro v L' ⟨b3,rfl,rfl⟩
 refine .nil (.pc b3 (CB e) ?_)
 refine Z ?_
 refine .oq (.buildSlice1 (vs:=[_,_,_]) Bv FA Y Y Y Y Y dQ) ?_
 rintro v L' ⟨b4,rfl,rfl⟩
 refine .slMake (b:=b4) (n:=3) (c:=3) (xs:=BZ [e.zx,e.ses,e.xid]) O dQ (by simp) Y (.oq (.call func201 Y Y (vs:=[_,_]) Y (OT w [] _ [e.zx,e.ses,e.xid] (At 3 1 (.slice (some ⟨b4,0,none⟩) 3 3) 3 (BZ [e.zx,e.ses,e.xid])) (fun h hp=>Ad hp) (fun n hn=>by simp only [mem_cons,not_mem_nil,or_false] at hn;rcases hn with rfl|rfl|rfl;exact hie.zx;exact hie.ses;exact hie.xid) (by simp only [length_nil];omega) (by simp))) ?_)
 rintro v L' ⟨rfl,rfl⟩;rw [nil_append]
 refine Z ?_
 refine .q (.loadAs (vs:=A0 e.x) Y A3 O (by simp [CB,A0]) Y) Y (.oq (.c func202 [_,_] (Nv w _ e.x p he.w.x ?hb17 he.few.2.1)) ?_)
 case hb17=>omega
 rintro v L' ⟨rfl,rfl⟩
 refine Z ?_
 refine .oq (.c func203 [_,_,_] (Tp w _ _ e.subs p he.w.subs (fun y hy=>⟨he.w.sub hy,he.few.2.2 y hy⟩) ?hb24 he.few.1 (fun y hy=>B9 (he.cs y hy).1 (he.cs y hy).2))) ?_
 case hb24=>rw [hsb,length_append];omega
 rintro v L' ⟨rfl,rfl⟩
 refine .nil (.done_n (.wrCast (w:=w) (bs':=Cb e) O (by unfold Cb If;simp only [append_assoc]) ?_))
 exact .vv
theorem Ra:∀l:List Int,CM l=0∨CM l∈l
 |[]=> .inl rfl
 |e::l=>by
  show (if e≠0 then e else CM l)=0∨(if e≠0 then e else CM l)∈e::l
  split
  ·exact .inr (mem_cons_self ..)
  ·rcases Ra l with h|h
   ·exact .inl h
   ·exact .inr (mem_cons_of_mem _ h)
theorem Gj:∀l:List Int,CM l=0→∀e∈l,e=0
 |[],_,e,he=>by cases he
 |x::l,h,e,he=>by
  have h:(if x≠0 then x else CM l)=0:=h
  split at h
  ·rename_i g;exact absurd h g
  ·rename_i g
   rcases mem_cons.1 he with rfl|he
   ·omega
   ·exact Gj l h e he
theorem AAC (p:Bs):BQ p=0∨BQ p=40∨BQ p=41:=by
 unfold BQ
 repeat' split
 ·exact .inl rfl
 ·exact .inr (.inl rfl)
 ·exact .inr (.inr rfl)
 ·exact .inl rfl
def AH3 (x:Pt×List Pt):Prop:=x.1.kind=8∧x.1.err=66
instance (x:Pt×List Pt):Decidable (AH3 x):=inferInstanceAs (Decidable (_∧_))
end Go.Proofs.YtbhkloaagkkioaaGreatDoor
