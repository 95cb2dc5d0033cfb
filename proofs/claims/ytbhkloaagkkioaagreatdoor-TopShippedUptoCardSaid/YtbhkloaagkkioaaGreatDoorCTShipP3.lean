/- Own work, in part by program, for topShipped.proved. -/
import Derived.Test.YtbhkloaagkkioaaGreatDoorCTShipP1
import Derived.Test.YtbhkloaagkkioaaGreatDoorCTShipP2
import Derived.Shelf.Bits.Mul64
import Derived.Ground.NamesProg
import Derived.Test.YtbhkloaagkkioaaGreatDoorProg
import Derived.Sort.Walk0
import Derived.Test.YtbhkloaagkkioaaGreatDoorCTShipP0
import Derived.RangeFuncRecord
import Derived.Shelf.Slices.CompactI
import Derived.Shelf.Slices.Cells
set_option maxRecDepth 100000
namespace Go.Proofs.YtbhkloaagkkioaaGreatDoor
open Go List Go.Proofs.Tryz
theorem KM (k:Int):Fn prog 61 #[AA k] [] fun v L=>v= .bool (C0 k)∧L=[]:=by
 refine Fn.intro func61 Y Y fun F W=>?_
 refine Z ?_
 refine .dec (t:=4) Y (fun h4=>?_) (fun h4=>?_)
 ·refine Z ?_
  exact .dn Y Y ⟨by congr 1;unfold C0;symm;first|(simp;omega)|(simp_all;done)|(simp_all;omega),rfl⟩
 refine Z ?_
 refine .dec (t:=4) Y (fun h4=>?_) (fun h4=>?_)
 ·refine Z ?_
  exact .dn Y Y ⟨by congr 1;unfold C0;symm;first|(simp;omega)|(simp_all;done)|(simp_all;omega),rfl⟩
 refine Z ?_
 refine .dec (t:=4) Y (fun h4=>?_) (fun h4=>?_)
 ·refine Z ?_
  exact .dn Y Y ⟨by congr 1;unfold C0;symm;first|(simp;omega)|(simp_all;done)|(simp_all;omega),rfl⟩
 refine Z ?_
 refine .dec (t:=4) Y (fun h4=>?_) (fun h4=>?_)
 ·refine Z ?_
  exact .dn Y Y ⟨by congr 1;unfold C0;symm;first|(simp;omega)|(simp_all;done)|(simp_all;omega),rfl⟩
 refine Z ?_
 refine .dec (t:=4) Y (fun h4=>?_) (fun h4=>?_)
 ·refine Z ?_
  exact .dn Y Y ⟨by congr 1;unfold C0;symm;first|(simp;omega)|(simp_all;done)|(simp_all;omega),rfl⟩
 refine Z ?_
 refine .dec (t:=4) Y (fun h4=>?_) (fun h4=>?_)
 ·refine Z ?_
  exact .dn Y Y ⟨by congr 1;unfold C0;symm;first|(simp;omega)|(simp_all;done)|(simp_all;omega),rfl⟩
 refine Z ?_
 refine .dec (t:=4) Y (fun h4=>?_) (fun h4=>?_)
 ·refine Z ?_
  exact .dn Y Y ⟨by congr 1;unfold C0;symm;first|(simp;omega)|(simp_all;done)|(simp_all;omega),rfl⟩
 refine Z ?_
 exact .dn Y Y ⟨by congr 1;unfold C0;symm;first|(simp;omega)|(simp_all;done)|(simp_all;omega),rfl⟩
theorem DX (e n:Int):Fn prog 122 #[AA e,AA n] [] fun v L=>v= .agg (A0 (Az e n)).toArray∧L=[]:=by
 refine Fn.intro func122 Y Y fun F W=>?_
 refine .sr (.oq (.allocA BM) ?_)
 rintro v L' ⟨b4,rfl,rfl⟩
 refine Z ?_
 refine .q (.build (us:=[(0,_),(6,_),(5,_)]) FV BM Y Y (by simp [AB])) Y (.sa Y Y BO (by (first|(simp [AB];done)|(simp [AB,AQ,Value.cells];done))) ?_)
 refine .nil (.pc b4 ([AA 8,AF [],AF [],AR,AA 0,AA n,AA e,AR]) ?_)
 refine .then_n (.ret ?_)
 exact .d1 Y (.cellA Y A3 O (by simp [CX,AQ]) Y) ⟨Y,Y⟩
theorem Hz (zx:Int) (s0 s1 s2 s3 s4 s5 s6 s7:Value):Instr.fill (fun i=>[(0,1),(1,1),(2,1),(3,8)].toArray[i]?) ([.int .i64 0, .int .i64 0, .int .i64 0, .int .i64 0, .string (bs []), .string (bs []), .slice none 0 0, .int .i64 0, .int .i64 0, .int .i64 0, .slice none 0 0]:List Value).toArray [(0,AA zx),(3, .agg ([s0,s1,s2,s3,s4,s5,s6,s7]:List Value).toArray)]=some (([AA zx,AA 0,AA 0]++[s0,s1,s2,s3,s4,s5,s6,s7]:List Value).toArray):=by kernel_rfl
theorem YF (c:Nat) (n:Int) (a:Option Addr) (m k:Nat) (s0 s1 s2 s3 s4 s5 s6 s7 s8 s9:Value):Instr.fill (fun i=>[(0,1),(1,1),(2,1),(3,10)].toArray[i]?) ([.pointer none, .int .i64 0, .slice none 0 0, .int .i64 0, .int .i64 0, .string (bs []), .string (bs []), .slice none 0 0, .int .i64 0, .int .i64 0, .bool false, .slice none 0 0, .slice none 0 0]:List Value).toArray
  [(0,AD c),(1,AA n),(2, .slice a m k),(3, .agg ([s0,s1,s2,s3,s4,s5,s6,s7,s8,s9]:List Value).toArray)]=some ([AD c,AA n, .slice a m k,s0,s1,s2,s3,s4,s5,s6,s7,s8,s9]:List Value).toArray:=by kernel_rfl
theorem Q9 (c:Nat) (u:C9) (iv:Value) (h:∃a n c,iv= .slice a n c) (r:Rq):Instr.fill (fun i=>[(0,1),(1,1),(2,1),(3,10)].toArray[i]?) ([.pointer none, .int .i64 0, .slice none 0 0, .int .i64 0, .int .i64 0, .string (bs []), .string (bs []), .slice none 0 0, .int .i64 0, .int .i64 0, .bool false, .slice none 0 0, .slice none 0 0]:List Value).toArray
  [(0,AD c),(1,AA u.ses),(2,iv),(3, .agg (L8 r).toArray)]=some (Cp c u iv r).toArray:=by
 obtain ⟨a,m,k,rfl⟩:=h
 exact YF _ _ _ _ _ _ _ _ _ _ _ _ _ _ _
theorem OM (τ:Tr) (u:C9) (r:Rq):(AY τ u r).1.subsV=AR:=by
 unfold AY
 split
 ·rfl
 split
 ·rfl
 split
 ·unfold GM;split
  ·rfl
  split<;>rfl
 ·rfl
theorem ZY (τ:Tr) (u:C9) (r:Rq) (w:Value):(CQ (AY τ u r).1 w).pl=(AY τ u r).1:=by
 unfold AY
 split
 ·rfl
 split
 ·rfl
 split
 ·unfold GM;split
  ·rfl
  split<;>rfl
 ·rfl
theorem QF {p:HP} {u:C9} {iv:Value} {r:Rq} (h:E3 p u iv r) (τ:Tr):(AY τ u r).1.path.length≤1048576:=by
 have h1:=RH h τ
 have h2:=h.rq.path
 unfold AY
 split
 ·exact h1
 split
 ·show r.path.length≤_;omega
 split
 ·unfold GM;split
  ·show r.path.length≤_;omega
  split
  ·show r.path.length≤_;omega
  ·exact Nat.zero_le _
 ·exact Nat.zero_le _
theorem Xv {p:HP} {u:C9} {iv:Value} {r:Rq} (h:E3 p u iv r) (τ:Tr) (h0:(AY τ u r).2=0):(AY τ u r).1.path.length≤1048576:=by
 have h2:=h.rq.path
 unfold AY at h0 ⊢
 split at h0
 ·rename_i hk
  rw [if_pos hk]
  have h3:=Gj _ h0 (Ay (BQ (CE τ r)≠0) 41) (by unfold D8;simp)
  have h4:BQ (CE τ r)=0:=by
   unfold Ay at h3
   split at h3
   ·cases h3
   ·rename_i g;exact Decidable.not_not.1 g
  have h5:(CE τ r).length≤60:=by
   by_cases e:CE τ r=[47]
   ·exact F0 (.inl e)
   ·exact F0 (.inr ⟨e,h4⟩)
  show (CE τ r).length≤_
  omega
 rename_i hk
 rw [if_neg hk]
 split
 ·show r.path.length≤_;omega
 split
 ·unfold GM;split
  ·show r.path.length≤_;omega
  split
  ·show r.path.length≤_;omega
  ·exact Nat.zero_le _
 ·exact Nat.zero_le _
theorem LY {p:HP} {u:C9} {iv:Value} {r:Rq} (h:E3 p u iv r) (τ:Tr):(AY τ u r).1.acl.length≤1048576:=by
 have h1:=h.rq.many
 unfold AY
 split
 ·exact h1
 split
 ·exact Nat.zero_le _
 split
 ·unfold GM;split
  ·exact Nat.zero_le _
  split
  ·exact h1
  ·exact Nat.zero_le _
 ·exact Nat.zero_le _
theorem E3.rqcells {p:HP} {u:C9} {iv:Value} {r:Rq} (h:E3 p u iv r):∀v∈L8 r,AB v=true:=fun v hv=>all_eq_true.1 (h.cells 0) v (mem_cons_of_mem _ (mem_cons_of_mem _ (mem_cons_of_mem _ hv)))
theorem AF6 {y:Pt} (h1:y.acl.length≤1048576) (h2:y.path.length≤1048576) (h3:y.subsV=AR) (h4:AB y.aclV=true):TxA (aclR y) y []:=
 ⟨⟨fun _ hp=>Ad hp,h1,h2,by rw [h3];rfl,h4⟩,fun _ _=>by rw [h3];exact .inl ⟨rfl,rfl,none,0,rfl⟩,Nat.zero_le _,fun _ hy=>by cases hy⟩
theorem VC (t:Nat) (τ:Tr) (u:C9) (iv:Value) (r:Rq) (p:HP) (hA:E3 p u iv r) (N:Nat) (ho:τ.Ok N) (hN:N≤1099511627776) (hw:Hx τ) (hN2:N+16≤1099511627776) (subs:List Rq) (hr:∀h:Hp,p h→CA 10 h r.subsV subs.length (subs.flatMap L8)) (hS:∀x∈subs,E3 p u iv x) (hSa:∀x∈subs,Hf x.acl):Fn prog 123 #[.agg (Cp t u iv r).toArray] [AV t τ,p] fun v L=>
    ∃(w:Value) (ys:List Pt),v= .agg (A0 ((BL τ u subs).1.ws w)).toArray∧ys.map Pt.pl=(BL τ u subs).2∧(∃a c,w= .slice a ys.length c)∧(∀y∈ys,AB y.aclV=true∧y.subsV=AR)∧L=[AV t τ,p,At 38 8 w ys.length (ys.flatMap A0),Am aclR ys]:=by
 refine Fn.intro func123 Y Y fun F W=>?_
 refine .rdAny (p:=p) hr O fun aa ca hsv _=>?_
 have hr2:∀h:Hp,p h→CA 10 h (.slice aa subs.length ca) subs.length (subs.flatMap L8):=fun h hp=>hsv▸hr h hp
 refine .sr (.oq (.box Y) ?_)
 rintro v L' ⟨b1,rfl,rfl⟩
 refine .oq (.allocA BM) ?_
 rintro v L' ⟨bx,rfl,rfl⟩
 refine .nil (.pc b1 (Cp t u iv r) ?_)
 refine .then_n (.seq (.sr (.fa Y LJ (.fa Y TC (.q (.to (v':= .slice aa subs.length ca) (.load Y AEV O Y) (by exact hsv)) Y (Z ?_))))))
 refine .dec (t:=14) Y (fun h1_14=>?_) (fun h1_14=>?_)
 ·refine .kDT (t:=13) Y h1_14 (Z ?_)
  refine .cv func122 [_,_] (DX 1 (-1)) ?_
  refine .sa Y Y BO (by simp [A0,Az,AB]) ?_
  refine .nil (.pc bx ([AA 8,AF [],AF [],AR,AA 0,AA (-1),AA 1,AR]) ?_)
  refine .add (AU 38 8) (.add (p:=Am aclR []) (fun h=>CH h) ?_)
  have hm:BL τ u subs=(Az 1 (-1),[]):=by unfold BL;rw [if_pos om]
  refine Z ?_
  exact .d1 Y (.cellA Y A3 O (by simp [CX,AQ]) Y) ⟨AR,[],by rw [hm];rfl,by rw [hm];rfl,⟨none,0,rfl⟩,(fun _ h=>by cases h),rfl⟩
 refine .kDF (t:=13) Y h1_14 (.gr (.fa Y LJ (.gr (.fa Y TC (.gr (.q (.to (v':= .slice aa subs.length ca) (.load Y AEV O Y) (by exact hsv)) Y (Z ?_)))))))
 refine .condD Y (fun h20=>?_) (fun h20=>?_)
 ·refine .sr (.cv func122 [_,_] (DX 1 (-1)) ?_)
  refine .sa Y Y BO (by simp [A0,Az,AB]) ?_
  refine .nil (.pc bx ([AA 8,AF [],AF [],AR,AA 0,AA (-1),AA 1,AR]) ?_)
  refine .add (AU 38 8) (.add (p:=Am aclR []) (fun h=>CH h) ?_)
  have hm:BL τ u subs=(Az 1 (-1),[]):=by unfold BL;rw [if_pos om]
  refine Z ?_
  exact .d1 Y (.cellA Y A3 O (by simp [CX,AQ]) Y) ⟨AR,[],by rw [hm];rfl,by rw [hm];rfl,⟨none,0,rfl⟩,(fun _ h=>by cases h),rfl⟩
 refine Z ?_
 refine .oq (.c func173 [_] (Lh t τ N ho hN)) ?_
 rintro v L' ⟨c,rfl,rfl⟩
 refine Z ?_
 refine .q (.build (us:=[(0,_)]) FV BM Y Y (by simp [AB])) Y (.oq (.allocA BM) ?_)
 rintro v L' ⟨b4,rfl,rfl⟩
 refine .sa Y Y BO (by (first|(simp [AB];done)|(simp [AB,AQ,Value.cells];done))) ?_
 refine .nil (.pc b4 ([AA 7,AF [],AF [],AR,AA 0,AA 0,AA 0,AR]) ?_)
 refine .add (AU 38 8) (.add (p:=Am aclR []) (fun h=>CH h) ?_)
 have hlen8:¬(subs.length=0∨subs.length>8):=by omega
 refine .then_n (.seq (.sr (.fa Y LJ (.fa Y TC (.q (.to (v':= .slice aa subs.length ca) (.load Y AEV O Y) (by exact hsv)) Y (Z ?_))))))
 refine .loopK (ι:=Nat×Tr×Value×(List Pt)) (fun q E=>(30,AA q.1)::E) (fun q=>[AV c q.2.1,AW b4 [AA 7,AF [],AF [],AR,AA 0,AA 0,AA 0,q.2.2.1] 38,At 38 8 q.2.2.1 q.1 (q.2.2.2.flatMap A0),Am aclR q.2.2.2]) (fun q=>q.1≤subs.length∧(∃a c,q.2.2.1= .slice a q.1 c)∧D5 u subs τ q.1 q.2.1 (q.2.2.2.map Pt.pl)∧(∀y∈q.2.2.2,AB y.aclV=true∧y.subsV=AR)∧q.2.1.Ok (N+q.1)∧Hx q.2.1) (fun q=>subs.length-q.1) (0,τ,AR,[]) (ts:=[1,2,3,4,28,29]) O (⟨Nat.zero_le _,⟨none,0,Y⟩,D5.zero u subs τ,(fun y hy=>by cases hy),ho,hw⟩) O O ?_
 rintro ⟨i,σ,z,ys⟩ ⟨hi,⟨au,cu,hu⟩,hat,hyc,hok,hwσ⟩
 dsimp only
 dsimp only at hi hu hat hyc hok hwσ
 subst hu
 refine Z ?_
 refine .condD Y (fun h31=>?_) (fun h31=>?_)
 ·have hi2:i<subs.length:=by omega
  refine .rdShape (p:=p) hr2 O om fun ba oa e=>?_
  subst e
  refine Z ?_
  refine .q (.indexAddr Y Y AJ8 om) Y (.q (.loadRdA (sz:=10) (j:=i*10) (k:=10) (p:=p) (vs:=L8 subs[i]) Y Vo O hr2 (by simp) om om (BH (f:=L8) (sz:=10) (fun _ _=>Y) om)) Y (.oq (.allocA AHZ) ?_))
  rintro v L' ⟨b6,rfl,rfl⟩
  refine Z ?_
  refine .sa Y Y AJ2 (by exact (hS _ (getElem_mem hi2)).rqcells) ?_
  refine .nil (.pc b6 (L8 subs[i]) ?_)
  refine Z ?_
  refine .q (.la (L8 subs[i]) Y Vo) Y (.q (.to (v':= .agg (Cp c u iv subs[i]).toArray) (.buildN (pl:=[(0,1),(1,1),(2,1),(3,10)]) (us:=[(0,AD c),(1,AA u.ses),(2,iv),(3, .agg (L8 subs[i]).toArray)]) (cells:=Cp c u iv subs[i]) underlying215 kQ Xy Y (Q9 c u iv hA.shape subs[i])) Y) Y (.oq (.call func125 Y Y (vs:=[_]) Y (Nx c σ u iv subs[i] p (hS _ (getElem_mem hi2)) (N+i) hok om (VZ hwσ _))) ?_))
  rintro v L' ⟨w,rfl,⟨aw,cw,rfl⟩,rfl⟩;obtain ⟨y,hy⟩:∃y:Pt,y=(CQ (AY σ u subs[i]).1 (.slice aw (AY σ u subs[i]).1.acl.length cw)):=⟨_,rfl⟩;rw [←hy]
  refine .as (q:=aclR y) (p:=At 133 2 (.slice aw (AY σ u subs[i]).1.acl.length cw) (AY σ u subs[i]).1.acl.length ((AY σ u subs[i]).1.acl.flatMap CJ)) O (by rw [hy];rfl) ?_
  have hyk:AB y.aclV=true∧y.subsV=AR:=by (rw [hy];exact ⟨rfl,OM _ _ _⟩)
  have hpl:y.pl=(AY σ u subs[i]).1:=by (rw [hy];exact ZY _ _ _ _)
  have hap:AM σ σ.zx y []=AM σ σ.zx (AY σ u subs[i]).1 []:=by (rw [←hpl];rfl)
  have hac:y.acl.length≤1048576:=by (rw [hy];exact LY (hS _ (getElem_mem hi2)) σ)
  have hwa:Hx (AM σ σ.zx (AY σ u subs[i]).1 []).1:=hwσ.app (e:=⟨σ.zx,0,0,(AY σ u subs[i]).1,[]⟩) ⟨hwσ.zx,SH σ u hA.ses (by have:=(hS _ (getElem_mem hi2)).rq.data;omega) (hSa _ (getElem_mem hi2)),fun _ h=>by cases h⟩
  refine Z ?_
  refine .oq (.allocA BM) ?_
  rintro v L' ⟨b7,rfl,rfl⟩
  refine .sa Y Y BO (by exact B9 hyk.1 (by rw [hyk.2];rfl)) ?_
  refine Z ?_
  refine .pc b7 (A0 y) ?_
  refine Z ?_
  refine .condN Y (fun h47=>?_) (fun h47=>?_)
  ·refine Z ?_
   refine .cv func122 [_,_] (DX _ _) ?_
   refine .sa Y Y BO (by simp [A0,Az,AB]) ?_
   refine .nil (.pc bx ([AA 8,AF [],AF [],AR,AA 0,AA i,AA (AY σ u subs[i]).2,AR]) ?_)
   refine .add (AU 38 8) (.add (p:=Am aclR []) (fun h=>CH h) ?_)
   have hm:=hat.stop hi2 h47 hlen8
   refine Z ?_
   exact .d1 Y (.cellA Y A3 O (by simp [CX,AQ]) Y) ⟨AR,[],by rw [hm];rfl,by rw [hm];rfl,⟨none,0,rfl⟩,(fun _ h=>by cases h),rfl⟩
  have hpa:y.path.length≤1048576:=by (rw [hy];exact Xv (hS _ (getElem_mem hi2)) σ om)
  refine Z ?_
  refine .draw [2,5] [[0,1,3,2,4],[5]] mixed kQ (.go [AW b7 _ _] O (Z ?_))
  refine D.k Y (.la (A0 y) Y A3) (.hh Y (.c func52 [_] (Dm c σ)) ?_)
  rintro v L' ⟨rfl,rfl⟩
  refine D.kv Y (.buildN (pl:=[(0,1),(1,1),(2,1),(3,8)]) (us:=[(0,AA σ.zx),(3, .agg (A0 y).toArray)]) (cells:=[AA σ.zx,AA 0,AA 0]++A0 y) underlying40 kQ Cq Y (Hz _ _ _ _ _ _ _ _ _)) (.ph (.g0 (.hh Y (.call func30 Y Y (vs:=[_,_]) Y (C2 c σ σ.zx 0 0 y [] (aclR y) (AF6 hac hpa hyk.2 hyk.1) (N+i) hok (by show N+i+0≤_;omega))) ?_)))
  rintro v L' ⟨ue,ee,rfl,-,⟨ae,ce,rfl⟩,rfl⟩;rw [hap]
  refine Z ?_
  refine .q (.la (A0 y) Y A3) Y (.oq (.buildSlice (vs:=[_]) FQ BM Y Y Y Y cQ dQ) ?_)
  rintro v L' ⟨b12,rfl,rfl⟩
  refine .oq (.append1 Y Y Y FQ BM Y Y ?c97 ?c98 (Nat.le_refl _) ?c99 dQ) ?_
  case c97=>simp only [map_cons,map_nil,flatten_cons,flatten_nil,append_nil];simp only [Value.cells];intro z hz;exact B9 (y:=y) hyk.1 (by rw [hyk.2];rfl) z (by simpa using hz)
  case c98=>rfl
  case c99=>omega
  rintro v L' ⟨⟨a12,c12,rfl⟩,rfl⟩
  refine Z ?_
  refine .pc b4 ([AA 7,AF [],AF [],AR,AA 0,AA 0,AA 0, .slice a12 (i+1) c12]) ?_
  refine Z ?_
  refine .bigAdd (f:=aclR) (l:=ys) (p:=aclR y) y Y O (.slCast (T:=38) (sz:=8) (m':=i+1) (xs':=(ys++[y]).flatMap A0) O (by exact rfl) (by rw [flatMap_append];simp [Value.cells]) ?_)
  exact .rk ((i+1,_, .slice a12 (i+1) c12,ys++[y])) (⟨by dsimp only;omega,⟨_,_,rfl⟩,by have h5:=hat.step hi2 om;show D5 u subs τ (i+1) (AM σ σ.zx (AY σ u subs[i]).1 []).1 ((ys++[y]).map Pt.pl);rw [map_append,show List.map Pt.pl [y]=[(AY σ u subs[i]).1] from by rw [map_cons,hpl];rfl];exact h5,fun z hz=>by rcases mem_append.1 hz with hz|hz;exact hyc z hz;rw [mem_singleton] at hz;subst hz;exact hyk,by have:=hok.apply σ.zx (AY σ u subs[i]).1 [] (LY (hS _ (getElem_mem hi2)) σ) (fun _ h=>by cases h);exact this,hwa⟩) (by dsimp only;omega) O
 have hie:i=subs.length:=by omega
 have hat2:D5 u subs τ subs.length σ (ys.map Pt.pl):=by rw [←hie];exact hat
 have hm:=hat2.done hlen8
 have hyl:ys.length=i:=by have h:=hat.2.2;rw [length_map] at h;exact h
 refine .slCast (T:=38) (sz:=8) (m':=ys.length) (xs':=ys.flatMap A0) O (by rw [hyl]) Y (Z ?_)
 refine .q (.la ([AA 7,AF [],AF [],AR,AA 0,AA 0,AA 0, .slice au i cu]) Y A3) Y (.sa Y Y BO (by (first|(simp [AB];done)|(simp [AB,AQ,Value.cells];done))) ?_)
 refine .nil (.pc bx ([AA 7,AF [],AF [],AR,AA 0,AA 0,AA 0, .slice au i cu]) ?_)
 refine .then_n (.ret ?_)
 exact .d1 Y (.cellA Y A3 O (by simp [CX,AQ]) Y) ⟨.slice au i cu,ys,by rw [hm];rfl,by rw [hm],⟨au,cu,by rw [hyl]⟩,hyc,rfl⟩
theorem AC0 (τ:Tr) (u:C9) (l:List Rq) (w:Value):((BL τ u l).1.ws w).pl=(BL τ u l).1:=by
 unfold BL
 split
 ·rfl
 ·split<;>rfl
theorem Jv (τ:Tr) (u:C9) (l:List Rq):(BL τ u l).1.aclV=AR∧(BL τ u l).1.acl=[]:=by
 unfold BL
 split
 ·exact ⟨rfl,rfl⟩
 ·split<;>exact ⟨rfl,rfl⟩
theorem ABp {x:Pt} {a:Option Addr} {n c:Nat} (h:AB x.aclV=true):∀v∈A0 (x.ws (.slice a n c)),AB v=true:=B9 (y:=x.ws (.slice a n c)) h rfl
def E4 (k:Int):Prop:=k=1∨k=3∨k=4
instance (k:Int):Decidable (E4 k):=inferInstanceAs (Decidable (_∨_))
structure Rp where
 xid:Int
 zx:Int
 err:Int
 path:Bs
 data:Bs
 st:Ie
 aclV:Value
 kidsV:Value
 subsV:Value
def Ci (x:Rp):List Value:=[AA x.xid,AA x.zx,AA x.err,AF x.path,AF x.data]++Ca x.st++[x.aclV,x.kidsV,x.subsV]
def rp0:Rp:=⟨0,0,0,[],[],st0,AR,AR,AR⟩
def BG (τ:Tr) (x:Pt):Rp:=⟨0,0,0,if x.kind=1 then x.path else [],[],if E4 x.kind then A7 τ x.path else st0,AR,AR,AR⟩
@[simp] theorem rpC_len (x:Rp):(Ci x).length=17:=rfl
def Rp.ws (x:Rp) (w:Value):Rp:=⟨x.xid,x.zx,x.err,x.path,x.data,x.st,x.aclV,x.kidsV,w⟩
def HK (e:Int):Rp:=⟨0,0,e,[],[],st0,AR,AR,AR⟩
def BE (τ:Tr) (e:En):Rp:=⟨e.xid,e.zx,if e.x.kind=8 then e.x.err else 0,(BG τ e.x).path,[],(BG τ e.x).st,AR,AR,AR⟩
def BC (τ:Tr) (e:En):List Rp:=
 if e.x.kind=7 then e.subs.map (BG τ) else if e.x.kind=8∧0≤e.x.num∧e.x.num<8 then List.replicate e.x.num.toNat (HK 111)++[HK e.x.err] else []
theorem Pd (t:Nat) (τ:Tr) (x:Pt) (N:Nat) (ho:τ.Ok N) (hN:N≤1099511627776) (hx1:AB x.aclV=true) (hx2:AB x.subsV=true):Fn prog 120 #[AD t, .agg (A0 x).toArray] [AV t τ] fun v L=>v= .agg (Ci (BG τ x)).toArray∧L=[AV t τ]:=by
 refine Fn.intro func120 Y Y fun F W=>?_
 refine .sr (.oq (.box Y) ?_)
 rintro v L' ⟨b3,rfl,rfl⟩
 refine .oq (.allocA Em) ?_
 rintro v L' ⟨b4,rfl,rfl⟩
 refine .nil (.pc b3 (A0 x) ?_)
 refine Z ?_
 refine .oq (.allocA Em) ?_
 rintro v L' ⟨b5,rfl,rfl⟩
 refine .nil (.pc b5 (Ci rp0) ?_)
 refine Z ?_
 refine .condD Y (fun h8=>?_) (fun h8=>?_)
 ·refine Z ?_
  refine .pc b5 (Ci ⟨0,0,0,x.path,[],st0,AR,AR,AR⟩) ?_
  refine Z ?_
  refine .cv func171 [_,_] (CG t τ x.path N ho hN) ?_
  refine Z ?_
  refine .sa Y Y FW (by simp [Ca,AB]) ?_
  refine .nil (.pc b5 (Ci ⟨0,0,0,x.path,[],(A7 τ x.path),AR,AR,AR⟩) ?_)
  refine Z ?_
  have e1:(if x.kind=1 then x.path else [])=x.path:=by first|exact if_pos (by assumption)|exact if_neg (by assumption)
  have e2:(if E4 x.kind then A7 τ x.path else st0)=(A7 τ x.path):=by first|exact if_pos (by unfold E4;omega)|exact if_neg (by unfold E4;omega)
  refine .ptCast (b:=b5) (l':=Ci (BG τ x)) O (by unfold BG;rw [e1,e2];try rfl) ?_
  refine .q (.la (Ci (BG τ x)) Y Dg) Y (.sa Y Y Gv (by simp [Ci,Ca,BG,AB]) ?_)
  refine .nil (.pc b4 (Ci (BG τ x)) ?_)
  refine .then_n (.ret ?_)
  exact .d1 Y (.cellA Y Dg O (by simp [CX,AQ]) Y) ⟨Y,Y⟩
 refine Z ?_
 refine .dec (t:=21) Y (fun h21=>?_) (fun h21=>?_)
 ·refine Z ?_
  refine .cv func171 [_,_] (CG t τ x.path N ho hN) ?_
  refine Z ?_
  refine .sa Y Y FW (by simp [Ca,AB]) ?_
  refine .nil (.pc b5 (Ci ⟨0,0,0,[],[],(A7 τ x.path),AR,AR,AR⟩) ?_)
  refine Z ?_
  have e1:(if x.kind=1 then x.path else [])=[]:=by first|exact if_pos (by assumption)|exact if_neg (by assumption)
  have e2:(if E4 x.kind then A7 τ x.path else st0)=(A7 τ x.path):=by first|exact if_pos (by unfold E4;omega)|exact if_neg (by unfold E4;omega)
  refine .ptCast (b:=b5) (l':=Ci (BG τ x)) O (by unfold BG;rw [e1,e2];try rfl) ?_
  refine .q (.la (Ci (BG τ x)) Y Dg) Y (.sa Y Y Gv (by simp [Ci,Ca,BG,AB]) ?_)
  refine .nil (.pc b4 (Ci (BG τ x)) ?_)
  refine .then_n (.ret ?_)
  exact .d1 Y (.cellA Y Dg O (by simp [CX,AQ]) Y) ⟨Y,Y⟩
 refine Z ?_
 refine .dec (t:=21) Y (fun h21=>?_) (fun h21=>?_)
 ·refine Z ?_
  refine .cv func171 [_,_] (CG t τ x.path N ho hN) ?_
  refine Z ?_
  refine .sa Y Y FW (by simp [Ca,AB]) ?_
  refine .nil (.pc b5 (Ci ⟨0,0,0,[],[],(A7 τ x.path),AR,AR,AR⟩) ?_)
  refine Z ?_
  have e1:(if x.kind=1 then x.path else [])=[]:=by first|exact if_pos (by assumption)|exact if_neg (by assumption)
  have e2:(if E4 x.kind then A7 τ x.path else st0)=(A7 τ x.path):=by first|exact if_pos (by unfold E4;omega)|exact if_neg (by unfold E4;omega)
  refine .ptCast (b:=b5) (l':=Ci (BG τ x)) O (by unfold BG;rw [e1,e2];try rfl) ?_
  refine .q (.la (Ci (BG τ x)) Y Dg) Y (.sa Y Y Gv (by simp [Ci,Ca,BG,AB]) ?_)
  refine .nil (.pc b4 (Ci (BG τ x)) ?_)
  refine .then_n (.ret ?_)
  exact .d1 Y (.cellA Y Dg O (by simp [CX,AQ]) Y) ⟨Y,Y⟩
 refine Z ?_
 have e1:(if x.kind=1 then x.path else [])=[]:=by first|exact if_pos (by assumption)|exact if_neg (by assumption)
 have e2:(if E4 x.kind then A7 τ x.path else st0)=st0:=by first|exact if_pos (by unfold E4;omega)|exact if_neg (by unfold E4;omega)
 refine .ptCast (b:=b5) (l':=Ci (BG τ x)) O (by unfold BG;rw [e1,e2];try rfl) ?_
 refine .q (.la (Ci (BG τ x)) Y Dg) Y (.sa Y Y Gv (by simp [Ci,Ca,BG,AB]) ?_)
 refine .nil (.pc b4 (Ci (BG τ x)) ?_)
 refine .then_n (.ret ?_)
 exact .d1 Y (.cellA Y Dg O (by simp [CX,AQ]) Y) ⟨Y,Y⟩
end Go.Proofs.YtbhkloaagkkioaaGreatDoor
/-
 DERIVED:THE SHELF's CONTRACTS AT THIS DUMP,IN PLAIN WORDS (tools/lay-plain.mjs out of 'YtbhkloaagkkioaaGreatDoorLayB.lean',which tools/lay-shelf.mjs wrote):THE SAME DECLARATIONS UNDER THE SAME NAMES:'import','namespace','open','def','theorem' AND NOTHING ELSE:no command of the shelf's:FOR A HAND-IN. Each laying:the table of numbers ('.._ren') and one theorem,a field a fact of the dump's own or the kernel's comparison;each Gt:ONE APPLICATION.
-/
namespace Go.Proofs
open Go List Go.Proofs.Tryz Go.Shelf
def Tryz.bmulA_ren:Go.Shelf.Ren:=⟨fun|212=>172|263=>221|264=>222|n=>n,fun|46=>117|51=>230|146=>315|53=>237|148=>317|n=>n,fun|n=>n⟩
theorem Tryz.bmulA:Go.Proofs.Lays.n212 prog Tryz.bmulA_ren:={
 mixed:=by kernel_rfl
 f212:=func172.trans (congrArg some (by kernel_rfl))
 f263:=func221.trans (congrArg some (by kernel_rfl))
 f264:=func222.trans (congrArg some (by kernel_rfl))
 t46:=underlying117
 a46:=Tryz.isAgg117
 z46:=Tryz.sizeOf117
 v46:=Tryz.zeroValue117
 t51:=underlying230
 a51:=Tryz.isAgg230
 z51:=Tryz.sizeOf230
 v51:=Tryz.zeroValue230
 t53:=underlying237
 a53:=Tryz.isAgg237
 z53:=Tryz.sizeOf237
 v53:=Tryz.zeroValue237
 t146:=underlying315
 a146:=Tryz.isAgg315
 z146:=Tryz.sizeOf315
 v146:=Tryz.zeroValue315
 t148:=underlying317
 a148:=Tryz.isAgg317
 z148:=Tryz.sizeOf317
 v148:=Tryz.zeroValue317}
end Go.Proofs
namespace Go.Proofs.YtbhkloaagkkioaaGreatDoor
open Go List Go.Proofs.Tryz Go.RowKit Go.Sort Go.Shelf
theorem AO.copyMe {P:Program} {E:Bi} {ty:TypeId} {dT sT e:TypeId} {x y:Operand} {b off dLen dCap so m mc sz by':Nat} {l:List Value} {T:TypeId} {fr:Nat×Nat} {ts:Array TypeId} (hts:ts= #[dT,sT]) (hx:ev E x=some (.slice (some ⟨b,off,none⟩) dLen dCap)) (hy:ev E y=some (.slice (some ⟨b,so,none⟩) m mc)) (ht:Au P dT=some (e,sz,by'))
  (hcell:∀y∈l,AB y=true) (hso:so+m*sz≤l.length) (hmc:m≤mc) (hoff:off+dLen*sz≤l.length) (hf:V5 fr off (dLen*sz)):
  AO P ⟨none, .call {callee:= .builtin .copy,args:= #[x,y],argTypes:=ts},ty, "",#[],none⟩ E [pt b (.cells l.toArray T fr)] fun v' L'=>v'=AA (min m dLen:Nat)∧L'=[pt b (.cells (CX l off (((l.drop so).take (m*sz)).take (min m dLen*sz))).toArray T fr)]:=by
 intro ρ w F ha hs
 subst hts
 have hbw:w.heap[b]?=some (.cells l.toArray T fr):=St.pt (L:=F) hs
 have hru:Nc sz (fun b=>w.heap[b]?) (.slice (some ⟨b,so,none⟩) m mc) m ((l.drop so).take (m*sz)):= .inl (.inr ⟨b,so,mc,l,T,fr,rfl,hbw,rfl,hso,hmc⟩)
 unfold Au at ht
 split at ht<;>(try cases ht)
 rename_i e' hu
 split at ht<;>(try cases ht)
 rename_i inf hin
 have hlen:(Builtin.lenOf (.slice (some ⟨b,so,none⟩) m mc)).run P w= .ok m w:=ME hru
 have hyl:=Gy hru
 have hfc:(Builtin.firstCells inf.size (min m dLen) (.slice (some ⟨b,so,none⟩) m mc)).run P w= .ok (((l.drop so).take (m*inf.size)).take (min m dLen*inf.size)).toArray w:=Mc hru (Nat.min_le_left _ _)
 have hle2:min m dLen*inf.size≤dLen*inf.size:=Nat.mul_le_mul_right _ (Nat.min_le_right _ _)
 have hcl:(((l.drop so).take (m*inf.size)).take (min m dLen*inf.size)).length≤dLen*inf.size:=by simp;omega
 have hrun:(execOp ρ ⟨none, .call {callee:= .builtin .copy,args:= #[x,y],argTypes:= #[dT,sT]},ty, "",#[],none⟩).run P w= .ok (.value (AA (min m dLen:Nat))) (upd w b (.cells (CX l off (((l.drop so).take (m*inf.size)).take (min m dLen*inf.size))).toArray T fr)):=by
  rw [CR]
  refine Bn ?_
  simp only [map_toArray,map_cons,map_nil]
  rw [ha x _ hx,ha y _ hy]
  unfold Builtin.copy_
  simp only [List.getElem?_toArray,List.getElem?_cons_zero,List.getElem?_cons_succ]
  rw [run_bind (AN hu)]
  dsimp only
  rw [run_bind hlen,run_bind (Be (k:=inf.size) (by simp [Ab,hin]))]
  rw [show Nat.min m dLen=min m dLen from rfl,run_bind hfc]
  have hst:=Do (P:=P) (((l.drop so).take (m*inf.size)).take (min m dLen*inf.size)) w l off 0 hbw om (fun y hy=>hcell y (mem_of_mem_drop (mem_of_mem_take (mem_of_mem_take hy)))) (fun i h1 h2=>hf i om om)
  dsimp only
  rw [run_bind hst];rfl
 unfold DC;rw [hrun]
 exact ⟨_,⟨rfl,rfl⟩,St.upd (L:=F) hs,As.upd _ _ _⟩
theorem AAY (x y:Nat) (hx:x<18446744073709551616) (hy:y<18446744073709551616):Fn prog 172 #[.int .u64 x, .int .u64 y] [] fun v L=>v= .tuple #[.int .u64 ((x*y/18446744073709551616:Nat):Int), .int .u64 ((x*y%18446744073709551616:Nat):Int)]∧L=[]:=by
 intro F w hs
 refine (Any.bits_Mul Tryz.bmulA x y hx hy w).mono ?_
 rintro e w' ⟨rfl,rfl⟩
 exact ⟨_,_,⟨rfl,rfl⟩,rfl,hs,As.refl _⟩
open Go Go.RowKit Go.Sort Go.Shelf
def DH (c:List Value) (n:Nat):List Value:=(List.replicate n c).flatten
theorem Dp {c:List Value} {m:Nat} (h:c.length=m) (n:Nat):(DH c n).length=n*m:=by
 unfold DH
 rw [length_flatten,map_replicate,sum_replicate_nat,h]
theorem LZ (c:List Value) (a b:Nat):DH c (a+b)=DH c a++DH c b:=by
 unfold DH
 rw [←replicate_append_replicate,flatten_append]
theorem ABg {c:List Value} {m:Nat} (h:c.length=m) {a n:Nat} (ha:a≤n):(DH c n).take (a*m)=DH c a:=by
 obtain ⟨b,rfl⟩:∃b,n=a+b:=⟨n-a,by omega⟩
 rw [LZ,←Dp h a,take_left']
 rfl
theorem ABE {c:List Value} {m:Nat} (h:c.length=m) {a n:Nat} (ha:a≤n):(DH c n).drop (a*m)=DH c (n-a):=by
 obtain ⟨b,rfl⟩:∃b,n=a+b:=⟨n-a,by omega⟩
 rw [LZ,←Dp h a,drop_left',show a+b-a=b by omega]
 rfl
def PD (c z:List Value) (k n:Nat):List Value:=DH c n++DH z (k-n)
theorem TR {c z:List Value} {m:Nat} (hc:c.length=m) (hz:z.length=m) {k n:Nat} (h:n≤k):(PD c z k n).length=k*m:=by
 unfold PD
 rw [length_append,Dp hc,Dp hz,←Nat.add_mul];congr 1;omega
theorem Uj {c z:List Value} {m:Nat} (hc:c.length=m) (hz:z.length=m) {k n j:Nat} (h:n≤k) (hj:j≤k-n):CX (PD c z k n) (n*m) (DH c j)=PD c z k (n+j):=by
 unfold CX PD
 have e1:(DH c n++DH z (k-n)).take (n*m)=DH c n:=by rw [←Dp hc n,take_left'];rfl
 have e2:(DH c n++DH z (k-n)).drop (n*m+(DH c j).length)=DH z (k-(n+j)):=by
  rw [←drop_drop,←Dp hc n,drop_left' rfl,Dp hc j,ABE hz hj];congr 1;omega
 rw [e1,e2,LZ]
theorem AB2 {c z:List Value} {m:Nat} (hc:c.length=m) {k n j:Nat} (hj:j≤n):(((PD c z k n).drop 0).take (n*m)).take (j*m)=DH c j:=by
 unfold PD
 rw [drop_zero,←Dp hc n,take_left' rfl,ABg hc hj]
theorem Vf (c:List Value):DH c 1=c:=by simp [DH]
theorem O4 {c:List Value} (h:∀v∈c,AB v=true) (n:Nat):∀v∈DH c n,AB v=true:=by
 intro v hv
 obtain ⟨l,hl,hv⟩:=mem_flatten.1 hv
 rw [eq_of_mem_replicate hl] at hv
 exact h v hv
theorem VO {c:List Value} {m:Nat} (h:c.length=m) (hm:0<m):∀(n i:Nat),i<n*m→(DH c n)[i]?=c[i%m]?
 |0,i,hi=>by omega
 |n+1,i,hi=>by
  have e:DH c (n+1)=c++DH c n:=by rw [Nat.add_comm,LZ,Vf]
  rw [e]
  rcases Nat.lt_or_ge i m with g|g
  ·rw [List.getElem?_append_left om,Nat.mod_eq_of_lt g]
  ·rw [List.getElem?_append_right om,h,VO h hm n (i-m) (by rw [Nat.add_mul] at hi;omega),Nat.mod_eq_sub_mod g]
theorem AA1 {z:Value} {l:List Value} {sz n:Nat} (hz:z.cells=l.toArray) (hl:l.length=sz) (hs:0<sz):(Array.range (n*sz)).map (fun i=>z.cells[i%z.cells.size]!)=(DH l n).toArray:=by
 apply Array.ext
 ·simp [Dp hl]
 ·intro i h1 h2
  have hi:i<n*sz:=by simpa using h1
  have hlt:i%l.length<l.length:=Nat.mod_lt _ om
  simp only [Array.getElem_map,Array.getElem_range,hz,size_toArray,getElem_toArray]
  rw [List.getElem!_toArray,getElem!_pos l (i%l.length) hlt]
  have:=VO hl hs n i hi
  rw [List.getElem?_eq_getElem (by simpa using h2),←hl,List.getElem?_eq_getElem hlt] at this
  exact (Option.some.inj this).symm
theorem AO.makeZ {P:Program} {E:Bi} {ty:TypeId} {t e:TypeId} {x y:Operand} {i j:Int} {sz by':Nat} {z:Value} {l:List Value} (hx:ev E x=some (AA i)) (hy:ev E y=some (AA j)) (ht:Au P t=some (e,sz,by')) (hz:Ah P e=some z) (hzc:z.cells=l.toArray) (hl:0<sz∧l.length=sz)
  (hb:0≤i∧i≤j∧(by':Int)*j≤281474976710656∧j≤9223372036854775807):AO P ⟨none, .makeSlice t x y,ty, "",#[],none⟩ E [] fun v L'=> ∃b,v= .slice (some ⟨b,0,none⟩) i.toNat j.toNat∧L'=[AW b (DH l j.toNat) e]:=by
 intro ρ w F ha hs
 unfold Au at ht
 split at ht<;>(try cases ht)
 rename_i e' hu
 split at ht<;>(try cases ht)
 rename_i inf hin
 obtain ⟨h0,h1,h2,h3⟩:=hb
 have hwi:IntKind.i64.wrap i=i:=JA om
 have hwj:IntKind.i64.wrap j=j:=JA om
 have hrun:(execOp ρ ⟨none, .makeSlice t x y,ty, "",#[],none⟩).run P w= .ok (.value (.slice (some ⟨w.heap.size,0,none⟩) i.toNat j.toNat)) {w with heap:=w.heap.push (.cells (DH l j.toNat).toArray e)}:=by
  refine Bn ?_
  show (Instr.makeSlice t (ρ x) (ρ y)).run P w=_
  rw [ha x _ hx,ha y _ hy]
  unfold Instr.makeSlice
  rw [run_bind (AN hu)]
  dsimp only
  have hti:(typeInfo e).run P w= .ok inf w:=by simp [typeInfo,program,Bind.bind,Sem.bind,Pure.pure,Sem.run,hin]
  rw [run_bind (a:=i) (w':=w) rfl,run_bind (a:=j) (w':=w) rfl,run_bind hti]
  simp only [hwi,hwj]
  have c1:((decide (j<0)||decide ((inf.bytes:Int)*j>2^48))||decide (i<0)||decide (i>j))=false:=by
   simp only [Bool.or_eq_false_iff,decide_eq_false_iff_not]
   refine ⟨⟨⟨by omega,?_⟩,by omega⟩,by omega⟩
   have:(2:Int)^48=281474976710656:=by decide
   omega
  rw [c1]
  simp only [Bool.false_eq_true,if_false]
  rw [run_bind (run_askRoom (P:=P) (w:=w) _),run_bind (Be (k:=inf.size) (by simp [Ab,hin]))]
  by_cases hn:j.toNat*inf.size=0
  ·rw [if_pos hn,run_bind run_pure]
   rw [hn]
   have hj0:j.toNat=0:=by
    rcases Nat.eq_zero_or_pos j.toNat with g|g
    ·exact g
    ·have:=Nat.mul_pos g hl.1;omega
   have he:(Array.range 0).map (fun x=>(#[]:Array Value)[x%(#[]:Array Value).size]!)=(DH l j.toNat).toArray:=by rw [hj0];simp [DH]
   rw [he,run_bind (C7 e _)]
   rfl
  ·rw [if_neg hn]
   rw [run_bind (FD hz),run_bind run_pure,AA1 hzc hl.2 hl.1,run_bind (C7 e _)]
   rfl
 unfold DC;rw [hrun]
 exact ⟨_,⟨_,rfl,rfl⟩,St.new (L:=F) hs _,As.new _ _⟩
theorem LF:(Ci rp0).length=17:=rfl
theorem Cd {x:Rp} (h1:AB x.aclV=true) (h2:AB x.kidsV=true) (h3:AB x.subsV=true):∀v∈Ci x,AB v=true:=by
 intro v hv
 have h:(Ci x).all AB=true:=by simp only [Ci,Ca,cons_append,nil_append,all_cons,all_nil,h1,h2,h3];rfl
 exact all_eq_true.1 h v hv
theorem Wz {c z:List Value} (hc:∀v∈c,AB v=true) (hz:∀v∈z,AB v=true) (k n:Nat):∀v∈PD c z k n,AB v=true:=by
 intro v hv
 rcases mem_append.1 hv with h|h
 ·exact O4 hc _ v h
 ·exact O4 hz _ v h
theorem H9 (x:Rp) (b0 k:Nat) (p:HP) (hr:∀h:Hp,p h→CA 17 h (.slice (some ⟨b0,0,none⟩) 1 1) 1 (Ci x)) (hx:∀v∈Ci x,AB v=true) (hk:k≤8):Fn prog 121 #[.slice (some ⟨b0,0,none⟩) 1 1,AA (k:Nat)] [p] fun v L=>(∃b,v= .slice (some ⟨b,0,none⟩) k k)∧L=[p,At 66 17 v k (DH (Ci x) k)]:=by
 refine Fn.intro func121 Y Y fun F W=>?_
 have hz0:∀v∈Ci rp0,AB v=true:=Cd rfl rfl rfl
 refine Z ?_
 refine .condD Y (fun h10=>?_) (fun h10=>?_)
 ·exfalso;omega
 refine Z ?_
 refine .q (.as (v':= .int .u64 ((1:Nat):Int)) (by rfl) (.conv Y underlying3 underlying117)) Y (Z ?_)
 refine .q (.as (v':= .int .u64 ((k:Nat):Int)) (by show Value.int .u64 (IntKind.u64.wrap (k:Int))=_;rw [show IntKind.u64.wrap (k:Int)=(k:Int) by (simp only [IntKind.wrap,IntKind.signed,IntKind.bits,Bool.false_and];simp;omega)]) (.conv Y underlying3 underlying117)) Y (.oq (.c func172 [_,_] (AAY 1 k om om)) ?_)
 rintro v L' ⟨rfl,rfl⟩;rw [show (1*k/18446744073709551616:Nat)=0 by omega,show (1*k%18446744073709551616:Nat)=k by omega]
 refine .m Y (.ex Y Y (.ex Y Y (.a Y (.an Y (.seq (.sm Y (.q (.as (v':= .bool false) (by rfl) (.int Y Y Y)) Y (.m Y (.gr (.m Y (.gr (.q (.as (v':= .bool false) (by exact congrArg Value.bool (decide_eq_false om)) (.int Y Y Y)) Y (Z ?_)))))))))))))
 refine .q (.as (v':=AA (k:Nat)) (by show Value.int .i64 (IntKind.i64.wrap (k:Int))=_;rw [JA om]) (.conv Y underlying117 underlying3)) Y (.oq (.makeZ (l:=Ci rp0) Y Y Gc Em Y ⟨by decide,rfl⟩ ⟨by omega,by omega,by omega,by omega⟩) ?_)
 rintro v L' ⟨bm,rfl,rfl⟩;rw [Int.toNat_natCast]
 refine Z ?_
 refine .oq (.copy (m:=1) (ys:=Ci x) (p:=p) Y Y Y Gc ?h119 ?h220 ?h321 ?h422) ?_
 case h119=>exact hr
 case h220=>exact hx
 case h321=>rw [Dp LF];omega
 case h422=>exact Bd _ _
 rintro v L' ⟨rfl,rfl⟩
 refine Z ?_
 refine .ptCast (b:=bm) (l':=PD (Ci x) (Ci rp0) k (min 1 k)) O (by rw [show (Ci x).take (min 1 k*17)=DH (Ci x) (min 1 k) by (rcases Nat.eq_zero_or_pos k with g|g;rw [g];rfl;rw [Nat.min_eq_left g,Vf];rfl)];have:=Uj (rpC_len x) LF (k:=k) (n:=0) (j:=min 1 k) om om;rw [Nat.zero_mul,Nat.zero_add] at this;exact this) ?_
 refine Z ?_
 refine .loopK (ι:=Nat) (fun q E=>(8,AA (q:Nat))::E) (fun q=>[AW bm (PD (Ci x) (Ci rp0) k q) 66]) (fun q=>q≤k∧(0<k→0<q)) (fun q=>k-q) (min 1 k) (ts:=[4,7]) O (⟨by omega,by omega⟩) O O ?_
 rintro n ⟨hn,hpos⟩
 refine Z ?_
 refine .condD Y (fun h37=>?_) (fun h37=>?_)
 ·have hn2:n<k:=by omega
  refine Z ?_
  refine .draw [7] [[0,1,2,3,4,5,6,7],[8,9]] mixed kQ (.g0 (Z ?_))
  refine D.kv Y (.to (v':= .slice (some ⟨bm,0+n*17,none⟩) (k-n) (k-n)) (.slSlice (i:=(n:Int)) (j:=(k:Int)) Y Gc Y Y om) (by rw [Int.toNat_natCast,Int.toNat_natCast,if_neg om])) (Z ?_)
  refine D.kv Y (.to (v':= .slice (some ⟨bm,0,none⟩) n k) (.slTo Y Gc Y om (.inr ⟨_,_,Y⟩)) (by rw [Int.toNat_natCast])) (.hh Y (.copyMe (sz:=17) Y Y Y Gc ?h136 ?h237 ?h338 ?h439 ?h540) ?_)
  case h136=>exact Wz hx hz0 k n
  case h237=>rw [TR (rpC_len x) LF hn];omega
  case h338=>exact hn
  case h439=>rw [TR (rpC_len x) LF hn];omega
  case h540=>exact Bd _ _
  rintro v L' ⟨rfl,rfl⟩
  refine D.ph (.g0 (Z ?_))
  refine .ptCast (b:=bm) (l':=PD (Ci x) (Ci rp0) k (n+min n (k-n))) O (by rw [AB2 (rpC_len x) (Nat.min_le_left _ _),Nat.zero_add];exact Uj (rpC_len x) LF hn (Nat.min_le_right _ _)) ?_
  exact .rk (n+min n (k-n)) (⟨by omega,by omega⟩) om O
 have hnk:n=k:=by omega
 subst hnk
 refine .slMakeN 17 n (b:=bm) (xs:=DH (Ci x) n) O (by show DH (Ci x) n++DH _ (n-n)=_;rw [Nat.sub_self];simp [DH]) (by exact Dp (rpC_len x) n) (Z ?_)
 exact .dn Y Y ⟨⟨_,Y⟩,Y⟩
theorem Vr (t:Nat) (τ:Tr) (e:En) (N:Nat) (ho:τ.Ok N) (hN:N≤1099511627776) (q:HP) (hq:∀h:Hp,q h→CA 8 h e.x.subsV e.subs.length (e.subs.flatMap A0)) (hfew:e.subs.length≤1048576) (h1:AB e.x.aclV=true) (h2:AB e.x.subsV=true) (hs:∀y∈e.subs,AB y.aclV=true∧AB y.subsV=true):Fn prog 62 #[AD t, .agg (CB e).toArray] [AV t τ,q] fun v L=>
    ∃w:Value,v= .agg (Ci ((BE τ e).ws w)).toArray∧(∃a c,w= .slice a (BC τ e).length c)∧L=[AV t τ,q,At 66 17 w (BC τ e).length ((BC τ e).flatMap Ci)]:=by
 refine Fn.intro func62 Y Y fun F W=>?_
 refine .rdAny (p:=q) hq O fun aa ca hsv _=>?_
 have hq2:∀h:Hp,q h→CA 8 h (.slice aa e.subs.length ca) e.subs.length (e.subs.flatMap A0):=fun h hp=>hsv▸hq h hp
 refine .sr (.oq (.box Y) ?_)
 rintro v L' ⟨b3,rfl,rfl⟩
 refine .oq (.allocA Em) ?_
 rintro v L' ⟨b4,rfl,rfl⟩
 refine .nil (.pc b3 (CB e) ?_)
 refine Z ?_
 refine .q (.la (A0 e.x) Y A3) Y (.oq (.allocA BM) ?_)
 rintro v L' ⟨b5,rfl,rfl⟩
 refine .sa Y Y BO (by exact B9 h1 h2) ?_
 refine .nil (.pc b5 (A0 e.x) ?_)
 refine Z ?_
 refine .q (.la (A0 e.x) Y A3) Y (.cv func120 [_,_] (Pd t τ e.x N ho hN h1 h2) ?_)
 refine .oq (.allocA Em) ?_
 rintro v L' ⟨b6,rfl,rfl⟩
 refine .sa Y Y Gv (by exact Cd rfl rfl rfl) ?_
 refine .nil (.pc b6 (Ci (BG τ e.x)) ?_)
 refine .then_n (.seq (.draw [5,7] [[0,1,2,3,4,5],[6,7]] mixed kQ (.go [AW b3 _ _] O (Z ?_))))
 refine D.hh Y (.store Y Y Y IV ?c32 (Bd _ _)) ?_
 case c32=>simp
 rintro v L' rfl
 refine D.ph (.g0 (Z ?_))
 refine D.hh Y (.store Y Y Y IV ?c36 (Bd _ _)) ?_
 case c36=>simp
 rintro v L' rfl
 refine D.ph (.fin (.pc b6 (Ci ⟨e.xid,e.zx,0,(BG τ e.x).path,[],(BG τ e.x).st,AR,AR,AR⟩) ?_))
 refine Z ?_
 refine .condD Y (fun h23=>?_) (fun h23=>?_)
 ·refine .sr (.fa Y Fs (.q (.to (v':= .slice aa e.subs.length ca) (.load Y O6 O Y) (by exact hsv)) Y (Z ?_)))
  refine .add (AU 66 17) (Z ?_)
  refine .loopK (ι:=Nat×Value) (fun q E=>(30,AA q.1)::E) (fun q=>[AV t τ,AW b6 (Ci ⟨e.xid,e.zx,0,(BG τ e.x).path,[],(BG τ e.x).st,AR,AR,q.2⟩) 66,At 66 17 q.2 q.1 (((e.subs.take q.1).map (BG τ)).flatMap Ci)]) (fun q=>q.1≤e.subs.length∧(∃a c,q.2= .slice a q.1 c)) (fun q=>e.subs.length-q.1) (0,AR) (ts:=[0,4,6,28,29]) O (⟨Nat.zero_le _,⟨none,0,Y⟩⟩) O O ?_
  rintro ⟨j,w⟩ ⟨hj,⟨au,cu,hu⟩⟩
  dsimp only
  dsimp only at hj hu
  subst hu
  refine Z ?_
  refine .condD Y (fun h31=>?_) (fun h31=>?_)
  ·have hj2:j<e.subs.length:=by omega
   refine .rdShape (p:=q) hq2 O om fun ba oa ee=>?_
   subst ee
   refine Z ?_
   refine .q (.indexAddr Y Y FQ om) Y (.q (.loadRdA (sz:=8) (j:=j*8) (k:=8) (p:=q) (vs:=A0 e.subs[j]) Y A3 O hq2 (by simp) om om (BH (f:=A0) (sz:=8) (fun _ _=>Y) om)) Y (.oq (.allocA BM) ?_))
   rintro v L' ⟨b8,rfl,rfl⟩
   refine .sa Y Y BO (by exact B9 (hs _ (getElem_mem hj2)).1 (hs _ (getElem_mem hj2)).2) ?_
   refine .nil (.pc b8 (A0 e.subs[j]) ?_)
   refine .then_n (.draw [4,5,6,8] [[0,1,2,3,4,5],[6],[7,8]] mixed kQ (.go [AW b8 _ _,AW b6 _ _] O (Z ?_)))
   refine D.kv Y (.la (A0 e.subs[j]) Y A3) (.hh Y (.c func120 [_,_] (Pd t τ e.subs[j] N ho hN (hs _ (getElem_mem hj2)).1 (hs _ (getElem_mem hj2)).2)) ?_)
   rintro v L' ⟨rfl,rfl⟩
   refine D.hh Y (.buildSlice (vs:=[_]) Gc Em Y Y Y Y cQ dQ) ?_
   rintro v L' ⟨b10,rfl,rfl⟩
   refine D.ph (.g0 (.hh Y (.append1 Y Y Y Gc Em Y Y ?c64 ?c65 (Nat.le_refl _) ?c66 dQ) ?_))
   case c64=>simp only [map_cons,map_nil,flatten_cons,flatten_nil,append_nil];simp only [Value.cells];intro z hz;exact Cd (x:=BG τ e.subs[j]) rfl rfl rfl z (by simpa using hz)
   case c65=>rfl
   case c66=>omega
   rintro v L' ⟨⟨a10,c10,rfl⟩,rfl⟩
   refine D.ph (.g0 (Z ?_))
   refine D.hh Y (.store Y Y Y ZT ?c70 (Bd _ _)) ?_
   case c70=>simp
   rintro v L' rfl
   refine Z ?_
   refine .slCast (T:=66) (sz:=17) (m':=j+1) (xs':=((e.subs.take (j+1)).map (BG τ)).flatMap Ci) O (by exact rfl) (by rw [take_succ_eq_append_getElem hj2,map_append,flatMap_append];simp [Value.cells]) (.pc b6 (Ci ⟨e.xid,e.zx,0,(BG τ e.x).path,[],(BG τ e.x).st,AR,AR, .slice a10 (j+1) c10⟩) ?_)
   exact .rk ((j+1, .slice a10 (j+1) c10)) (⟨by dsimp only;omega,⟨_,_,rfl⟩⟩) (by dsimp only;omega) O
  refine Z ?_
  have hW:BC τ e=e.subs.map (BG τ):=if_pos h23
  have hje:j=e.subs.length:=by omega
  have hlen:j=(BC τ e).length:=by rw [hW,length_map];exact hje
  refine .as (q:=At 66 17 (.slice au j cu) (BC τ e).length ((BC τ e).flatMap Ci)) (p:=At 66 17 (.slice au j cu) j (((e.subs.take j).map (BG τ)).flatMap Ci)) O (by rw [←hlen,hW,hje,take_length]) (.ptCast (b:=b6) (l':=Ci ((BE τ e).ws (.slice au j cu))) O (by unfold BE Rp.ws;first|(rw [if_pos h43];try rfl)|(rw [if_neg om];try rfl)) ?_)
  refine .q (.la (Ci ((BE τ e).ws (.slice au j cu))) Y Dg) Y (.sa Y Y Gv (by exact Cd rfl rfl rfl) ?_)
  refine .nil (.pc b4 (Ci ((BE τ e).ws (.slice au j cu))) ?_)
  refine .then_n (.ret ?_)
  exact .d1 Y (.cellA Y Dg O (by simp [CX,AQ]) Y) ⟨.slice au j cu,Y,⟨_,_,congrArg (fun m=>Value.slice _ m _) hlen⟩,Y⟩
 refine Z ?_
 refine .condD Y (fun h43=>?_) (fun h43=>?_)
 ·refine Z ?_
  refine .dec (t:=53) Y (fun h14_53=>?_) (fun h14_53=>?_)
  ·refine .kDT (t:=52) Y h14_53 (Z ?_)
   refine .condD Y (fun h57=>?_) (fun h57=>?_)
   ·refine .draw [1,4,8,9,11] [[0,2,3,5,6,7,1,4,8],[9],[10,11]] mixed kQ (.go [AW b5 _ _] O (.k Y (.to (v':= .agg (Ci (HK (111))).toArray) (.buildN (pl:=[(0,1),(1,1),(2,1),(3,1),(4,1),(5,9),(14,1),(15,1),(16,1)]) (us:=[(2,AA (111))]) (cells:=Ci (HK (111))) underlying66 kQ Em Y Y) Y) (.k Y (.fieldAddr Y AFX) (.k Y (.as (v':=AA ((e.x.num.toNat:Nat):Int)) (by rw [Int.toNat_of_nonneg om]) (.ld Y CT)) (Z ?_)))))
    refine D.k Y (.to (v':= .agg (Ci (HK (e.x.err))).toArray) (.buildN (pl:=[(0,1),(1,1),(2,1),(3,1),(4,1),(5,9),(14,1),(15,1),(16,1)]) (us:=[(2,AA (e.x.err))]) (cells:=Ci (HK (e.x.err))) underlying66 kQ Em Y Y) Y) (.h2 (k:=8) Y Y kQ Y (.buildSlice (vs:=[_]) Gc Em Y Y Y Y cQ dQ) O (.buildSlice (vs:=[_]) Gc Em Y Y Y Y cQ dQ) O ?_ ?_)
    ·rintro v L' ⟨b15,rfl,rfl⟩
     refine D.h2 (k:=8) Y Y kQ Y (.call func121 Y Y (vs:=[_,_]) Y (H9 (HK 111) b15 e.x.num.toNat (AW b15 (Ci (HK 111)) 66) (fun _ hp=>Ad (TE hp Y)) (Cd Y Y Y) om)) O (.buildSlice (vs:=[_]) Gc Em Y Y Y Y cQ dQ) O ?_ ?_
     ·rintro v L' ⟨⟨br,rfl⟩,rfl⟩
      refine D.hh Y (.buildSlice (vs:=[_]) Gc Em Y Y Y Y cQ dQ) ?_
      rintro v L' ⟨b18,rfl,rfl⟩
      refine D.ph (.g0 (.hh Y (.append1 Y Y Y Gc Em Y Y ?c109 ?c110 (Nat.le_refl _) ?c111 dQ) ?_))
      case c109=>simp only [map_cons,map_nil,flatten_cons,flatten_nil,append_nil];simp only [Value.cells];intro z hz;exact Cd (x:=HK e.x.err) rfl rfl rfl z (by simpa using hz)
      case c110=>rfl
      case c111=>omega
      rintro v L' ⟨⟨a15,c15,rfl⟩,rfl⟩
      refine D.ph (.g0 (Z ?_))
      refine D.hh Y (.store Y Y Y ZT ?c115 (Bd _ _)) ?_
      case c115=>simp
      rintro v L' rfl
      refine Z ?_
      have hW:BC τ e=List.replicate e.x.num.toNat (HK 111)++[HK e.x.err]:=by unfold BC;rw [if_neg h23,if_pos ⟨h43,by omega,by omega⟩]
      have hlen:e.x.num.toNat+1=(BC τ e).length:=by rw [hW];simp
      refine .slCast (T:=66) (sz:=17) (m':=(BC τ e).length) (xs':=(BC τ e).flatMap Ci) O (by exact hlen) (by rw [hW,flatMap_append,flatMap_replicate];simp [DH,Value.cells]) (.ptCast (b:=b6) (l':=Ci ((BE τ e).ws (.slice a15 (e.x.num.toNat+1) c15))) O (by unfold BE Rp.ws;first|(rw [if_pos h43];try rfl)|(rw [if_neg om];try rfl)) ?_)
      refine .q (.la (Ci ((BE τ e).ws (.slice a15 (e.x.num.toNat+1) c15))) Y Dg) Y (.sa Y Y Gv (by exact Cd rfl rfl rfl) ?_)
      refine .nil (.pc b4 (Ci ((BE τ e).ws (.slice a15 (e.x.num.toNat+1) c15))) ?_)
      refine .then_n (.ret ?_)
      exact .d1 Y (.cellA Y Dg O (by simp [CX,AQ]) Y) ⟨.slice a15 (e.x.num.toNat+1) c15,Y,⟨_,_,congrArg (fun m=>Value.slice _ m _) hlen⟩,Y⟩
     rintro v L' ⟨b18,rfl,rfl⟩
     refine D.hh Y (.call func121 Y Y (vs:=[_,_]) Y (H9 (HK 111) b15 e.x.num.toNat (AW b15 (Ci (HK 111)) 66) (fun _ hp=>Ad (TE hp Y)) (Cd Y Y Y) om)) ?_
     rintro v L' ⟨⟨br,rfl⟩,rfl⟩
     refine D.ph (.g0 (.hh Y (.append1 Y Y Y Gc Em Y Y ?c127 ?c128 (Nat.le_refl _) ?c129 dQ) ?_))
     case c127=>simp only [map_cons,map_nil,flatten_cons,flatten_nil,append_nil];simp only [Value.cells];intro z hz;exact Cd (x:=HK e.x.err) rfl rfl rfl z (by simpa using hz)
     case c128=>rfl
     case c129=>omega
     rintro v L' ⟨⟨a15,c15,rfl⟩,rfl⟩
     refine D.ph (.g0 (Z ?_))
     refine D.hh Y (.store Y Y Y ZT ?c133 (Bd _ _)) ?_
     case c133=>simp
     rintro v L' rfl
     refine Z ?_
     have hW:BC τ e=List.replicate e.x.num.toNat (HK 111)++[HK e.x.err]:=by unfold BC;rw [if_neg h23,if_pos ⟨h43,by omega,by omega⟩]
     have hlen:e.x.num.toNat+1=(BC τ e).length:=by rw [hW];simp
     refine .slCast (T:=66) (sz:=17) (m':=(BC τ e).length) (xs':=(BC τ e).flatMap Ci) O (by exact hlen) (by rw [hW,flatMap_append,flatMap_replicate];simp [DH,Value.cells]) (.ptCast (b:=b6) (l':=Ci ((BE τ e).ws (.slice a15 (e.x.num.toNat+1) c15))) O (by unfold BE Rp.ws;first|(rw [if_pos h43];try rfl)|(rw [if_neg om];try rfl)) ?_)
     refine .q (.la (Ci ((BE τ e).ws (.slice a15 (e.x.num.toNat+1) c15))) Y Dg) Y (.sa Y Y Gv (by exact Cd rfl rfl rfl) ?_)
     refine .nil (.pc b4 (Ci ((BE τ e).ws (.slice a15 (e.x.num.toNat+1) c15))) ?_)
     refine .then_n (.ret ?_)
     exact .d1 Y (.cellA Y Dg O (by simp [CX,AQ]) Y) ⟨.slice a15 (e.x.num.toNat+1) c15,Y,⟨_,_,congrArg (fun m=>Value.slice _ m _) hlen⟩,Y⟩
    rintro v L' ⟨b18,rfl,rfl⟩
    refine D.hh Y (.buildSlice (vs:=[_]) Gc Em Y Y Y Y cQ dQ) ?_
    rintro v L' ⟨b15,rfl,rfl⟩
    refine D.hh Y (.call func121 Y Y (vs:=[_,_]) Y (H9 (HK 111) b15 e.x.num.toNat (AW b15 (Ci (HK 111)) 66) (fun _ hp=>Ad (TE hp Y)) (Cd Y Y Y) om)) ?_
    rintro v L' ⟨⟨br,rfl⟩,rfl⟩
    refine D.ph (.g0 (.hh Y (.append1 Y Y Y Gc Em Y Y ?c147 ?c148 (Nat.le_refl _) ?c149 dQ) ?_))
    case c147=>simp only [map_cons,map_nil,flatten_cons,flatten_nil,append_nil];simp only [Value.cells];intro z hz;exact Cd (x:=HK e.x.err) rfl rfl rfl z (by simpa using hz)
    case c148=>rfl
    case c149=>omega
    rintro v L' ⟨⟨a15,c15,rfl⟩,rfl⟩
    refine D.ph (.g0 (Z ?_))
    refine D.hh Y (.store Y Y Y ZT ?c153 (Bd _ _)) ?_
    case c153=>simp
    rintro v L' rfl
    refine Z ?_
    have hW:BC τ e=List.replicate e.x.num.toNat (HK 111)++[HK e.x.err]:=by unfold BC;rw [if_neg h23,if_pos ⟨h43,by omega,by omega⟩]
    have hlen:e.x.num.toNat+1=(BC τ e).length:=by rw [hW];simp
    refine .slCast (T:=66) (sz:=17) (m':=(BC τ e).length) (xs':=(BC τ e).flatMap Ci) O (by exact hlen) (by rw [hW,flatMap_append,flatMap_replicate];simp [DH,Value.cells]) (.ptCast (b:=b6) (l':=Ci ((BE τ e).ws (.slice a15 (e.x.num.toNat+1) c15))) O (by unfold BE Rp.ws;first|(rw [if_pos h43];try rfl)|(rw [if_neg om];try rfl)) ?_)
    refine .q (.la (Ci ((BE τ e).ws (.slice a15 (e.x.num.toNat+1) c15))) Y Dg) Y (.sa Y Y Gv (by exact Cd rfl rfl rfl) ?_)
    refine .nil (.pc b4 (Ci ((BE τ e).ws (.slice a15 (e.x.num.toNat+1) c15))) ?_)
    refine .then_n (.ret ?_)
    exact .d1 Y (.cellA Y Dg O (by simp [CX,AQ]) Y) ⟨.slice a15 (e.x.num.toNat+1) c15,Y,⟨_,_,congrArg (fun m=>Value.slice _ m _) hlen⟩,Y⟩
   refine Z ?_
   have hW:BC τ e=[]:=by unfold BC;rw [if_neg h23,if_neg (by rintro ⟨g0,g1,g2⟩;omega)]
   have hlen:0=(BC τ e).length:=by rw [hW];rfl
   refine .add (AU 66 17) (.as (q:=At 66 17 AR (BC τ e).length ((BC τ e).flatMap Ci)) (p:=At 66 17 AR 0 []) O (by rw [hW];rfl) (.ptCast (b:=b6) (l':=Ci ((BE τ e).ws (AR))) O (by unfold BE Rp.ws;first|(rw [if_pos h43];try rfl)|(rw [if_neg om];try rfl)) ?_))
   refine .q (.la (Ci ((BE τ e).ws (AR))) Y Dg) Y (.sa Y Y Gv (by exact Cd rfl rfl rfl) ?_)
   refine .nil (.pc b4 (Ci ((BE τ e).ws (AR))) ?_)
   refine .then_n (.ret ?_)
   exact .d1 Y (.cellA Y Dg O (by simp [CX,AQ]) Y) ⟨AR,Y,⟨_,_,congrArg (fun m=>Value.slice _ m _) hlen⟩,Y⟩
  refine .kDF (t:=52) Y h14_53 (Z ?_)
  have hW:BC τ e=[]:=by unfold BC;rw [if_neg h23,if_neg (by rintro ⟨g0,g1,g2⟩;omega)]
  have hlen:0=(BC τ e).length:=by rw [hW];rfl
  refine .add (AU 66 17) (.as (q:=At 66 17 AR (BC τ e).length ((BC τ e).flatMap Ci)) (p:=At 66 17 AR 0 []) O (by rw [hW];rfl) (.ptCast (b:=b6) (l':=Ci ((BE τ e).ws (AR))) O (by unfold BE Rp.ws;first|(rw [if_pos h43];try rfl)|(rw [if_neg om];try rfl)) ?_))
  refine .q (.la (Ci ((BE τ e).ws (AR))) Y Dg) Y (.sa Y Y Gv (by exact Cd rfl rfl rfl) ?_)
  refine .nil (.pc b4 (Ci ((BE τ e).ws (AR))) ?_)
  refine .then_n (.ret ?_)
  exact .d1 Y (.cellA Y Dg O (by simp [CX,AQ]) Y) ⟨AR,Y,⟨_,_,congrArg (fun m=>Value.slice _ m _) hlen⟩,Y⟩
 refine Z ?_
 have hW:BC τ e=[]:=by unfold BC;rw [if_neg h23,if_neg (by rintro ⟨g0,g1,g2⟩;omega)]
 have hlen:0=(BC τ e).length:=by rw [hW];rfl
 refine .add (AU 66 17) (.as (q:=At 66 17 AR (BC τ e).length ((BC τ e).flatMap Ci)) (p:=At 66 17 AR 0 []) O (by rw [hW];rfl) (.ptCast (b:=b6) (l':=Ci ((BE τ e).ws (AR))) O (by unfold BE Rp.ws;first|(rw [if_pos h43];try rfl)|(rw [if_neg om];try rfl)) ?_))
 refine .q (.la (Ci ((BE τ e).ws (AR))) Y Dg) Y (.sa Y Y Gv (by exact Cd rfl rfl rfl) ?_)
 refine .nil (.pc b4 (Ci ((BE τ e).ws (AR))) ?_)
 refine .then_n (.ret ?_)
 exact .d1 Y (.cellA Y Dg O (by simp [CX,AQ]) Y) ⟨AR,Y,⟨_,_,congrArg (fun m=>Value.slice _ m _) hlen⟩,Y⟩
section
variable {P:Program} {E:Bi} {L:List HP} {ty:TypeId}
end
/- not in this seat -/
/- not in this seat -/
/- not in this seat -/
/- not in this seat -/
/- not in this seat -/
/- not in this seat -/
/- not in this seat -/
/- not in this seat -/
/- not in this seat -/
/- not in this seat -/
/- not in this seat -/
/- not in this seat -/
section
variable {P:Program} {E:Bi} {L:List HP} {ty:TypeId}
theorem AE.strle {t t':TypeId} {x y:Operand} {a b:List UInt8} (hx:ev E x=some (AF a)) (hy:ev E y=some (AF b)):AE P ⟨none, .binOp .leq t x y t',ty, "",#[],none⟩ E L (.bool (decide (¬b<a))):=by
 intro ρ w ha _
 have key:(Op.bytesLess a b||decide (a=b))=decide (¬b<a):=by
  rw [bytesLess_eq]
  rcases CS.tri a b with h|h|h
  ·rw [decide_eq_true h,decide_eq_true (show ¬b<a from fun g=>CS.irr _ (CS.tr _ _ _ h g))];rfl
  ·subst h;rw [decide_eq_true rfl,decide_eq_true (CS.irr a),Bool.or_true]
  ·rw [decide_eq_false (fun g=>CS.irr _ (CS.tr _ _ _ h g)),decide_eq_false (fun e=>by subst e;exact CS.irr _ h),decide_eq_false (show ¬ ¬b<a from fun g=>g h)];rfl
 rw [←key]
 simp [execOp,ha x _ hx,ha y _ hy,eqGuard,binOp,Op.stringOp,Bind.bind,Sem.bind,Pure.pure,Sem.run]
 by_cases h:a=b<;>simp [h]
end
/- not in this seat: rnR -/
/- not in this seat: rsR -/
/- not in this seat: refR -/
section
variable {W:World} {n:Nat} {ds:List Deferred} {E:Bi} {L R:List HP} {X:Act→World→Prop}
/- not in this seat: G.rtOpen -/
/- not in this seat: G.rtFold -/
/- not in this seat: G.rfCast -/
end
/-! ### Places -/
/-! ### Parts of slices -/
section
variable {P:Program} {E:Bi} {L:List HP} {ty:TypeId}
end
theorem Qw {α:Type} {f:α→List Value} {sz:Nat} (hf:∀x,(f x).length=sz):∀(l:List α) (k:Nat),(l.flatMap f).take (k*sz)=(l.take k).flatMap f∧(l.flatMap f).drop (k*sz)=(l.drop k).flatMap f
 |[],k=>by simp
 |x::l,0=>by simp
 |x::l,k+1=>by
  have hx:=hf x
  obtain ⟨h1,h2⟩:=Qw hf l k
  rw [flatMap_cons,take_succ_cons,drop_succ_cons,flatMap_cons,show (k+1)*sz=sz+k*sz by rw [Nat.add_mul];omega]
  refine ⟨?_,?_⟩
  ·rw [take_append,hx,take_of_length_le om,show sz+k*sz-sz=k*sz by omega,h1]
  ·rw [drop_append,hx,drop_eq_nil_of_le om,show sz+k*sz-sz=k*sz by omega,h2];rfl
/-! ### What is told -/
theorem Fb (τ:Tr) (s:Int):(AG τ s).length≤τ.nodes.length:=by
 unfold AG;rw [length_map];exact length_filter_le _ _
/-! ### Soundness -/
def B5 (τ:Tr) (x:Pt):Bool:=
 if x.kind=1 then decide (Bm x.path∧¬AL τ x.path∧AL τ (AK x.path))
 else if x.kind=2 then decide (x.path≠[47]∧AL τ x.path∧(Dv τ x.path).length=0)
 else if x.kind=3∨x.kind=4 then decide (AL τ x.path) else false
def Cc (τ:Tr) (zx:Int) (cl:Bool):List Pt→Bool
 |[]=>true
 |x::l=>B5 τ x&&(!cl||decide (x.kind=2))&&Cc (AI τ x zx).1 zx cl l
def FJ (τ:Tr) (zx:Int) (x:Pt) (subs:List Pt):Bool:=
 if x.kind=1∨x.kind=2∨x.kind=3∨x.kind=4 then B5 τ x
 else if x.kind=6∨x.kind=7 then Cc τ zx (decide (x.kind=6)) subs else true
theorem OD {τ:Tr} {zx:Int} {cl:Bool} {l:List Pt} {i:Nat} (hi:i<l.length):Cc (AP τ zx (l.take i)).1 zx cl (l.drop i)=(B5 (AP τ zx (l.take i)).1 l[i]&&(!cl||decide (l[i].kind=2))&&Cc (AP τ zx (l.take (i+1))).1 zx cl (l.drop (i+1))):=by
 rw [drop_eq_getElem_cons hi,Cc,take_succ_eq_append_getElem hi,B2]
/-! ### Paths -/
theorem ACI (p:Bs) {r:Bs} (h:r≠[]):p<p++r:=by
 have:p++[]<p++r↔[]<r:=OA p
 rw [append_nil] at this
 refine this.2 ?_
 cases r with
 |nil=>exact absurd rfl h
 |cons a r=>exact nil_lt_cons _ _
theorem MO {q p:Bs} (h:PG q p):∃d,d≠[]∧q=Ip p []++d:=by
 obtain ⟨h1,h2⟩:=h
 unfold pfx at h1
 have e:q=Ip p []++q.drop (Ip p []).length:=by
  conv=>lhs;rw [←take_append_drop (Ip p []).length q,h1]
 refine ⟨q.drop (Ip p []).length,fun g=>h2 ?_,e⟩
 rw [e,g,append_nil]
theorem MN {q p d:Bs} (hd:d≠[]) (e:q=Ip p []++d):B6 q p=true:=by
 have:PG q p:=by
  subst e
  refine ⟨by unfold pfx;rw [take_left],fun g=>hd ?_⟩
  have:=congrArg List.length g
  rw [length_append] at this
  exact eq_nil_of_length_eq_zero om
 unfold B6
 rw [decide_eq_true this,Bool.or_true]
theorem Hd (n:Bs):Ip [47] n=47::n:=by unfold Ip;rw [if_pos rfl];rfl
theorem GC {p:Bs} (h:p≠[47]) (n:Bs):Ip p n=p++47::n:=by unfold Ip;rw [if_neg h,append_assoc];rfl
theorem Nr {q p:Bs} (h:B6 q p=true):∃r,q=p++r:=by
 unfold B6 at h
 rw [Bool.or_eq_true,decide_eq_true_iff,decide_eq_true_iff] at h
 rcases h with rfl|h
 ·exact ⟨[],(append_nil _).symm⟩
 ·obtain ⟨d,-,rfl⟩:=MO h
  by_cases e:p=[47]
  ·subst e;exact ⟨d,by rw [Hd]⟩
  ·exact ⟨47::d,by rw [GC e,append_assoc];rfl⟩
theorem Ng {q:Bs} (h:Bm q):DL q≠[]:=by
 obtain ⟨-,-,-,h⟩:=Gw h
 intro e
 rw [e] at h;revert h;decide
theorem Gs {q:Bs} (h:Bm q):q=Ip (AK q) (DL q):=by
 obtain ⟨h0,h1,h2,-⟩:=Gw h
 rw [G7 h]
 by_cases e:KE q=[]
 ·rw [if_pos e,Hd];rw [e] at h2;exact h2
 ·rw [if_neg e,GC h1];exact h2
theorem KW {q:Bs} (h:Bm q):∃r,r≠[]∧q=AK q++r:=by
 have h1:=Gs h
 by_cases e:AK q=[47]
 ·rw [e,Hd] at h1
  exact ⟨DL q,Ng h,by rw [e];exact h1⟩
 ·rw [GC e] at h1
  exact ⟨47::DL q,by simp,h1⟩
theorem Z3 {q:Bs} (h:Bm q):AK q<q:=by
 obtain ⟨r,h1,h2⟩:=KW h
 have:=ACI (AK q) h1
 rw [←h2] at this;exact this
theorem AEO {q p:Bs} (h:B6 q p=true):¬q<p:=by
 obtain ⟨r,rfl⟩:=Nr h
 intro g
 by_cases e:r=[]
 ·subst e;rw [append_nil] at g;exact CS.irr _ g
 ·exact CS.irr _ (CS.tr _ _ _ g (ACI p e))
theorem Wj {q:Bs} (h:Bm q):B6 q [47]=true:=by
 have h1:=Gs h
 have:∃d,d≠[]∧q=47::d:=by
  by_cases e:AK q=[47]
  ·rw [e,Hd] at h1;exact ⟨_,Ng h,h1⟩
  ·obtain ⟨-,-,h2,-⟩:=Gw h
   have ha:=G7 h
   by_cases e2:KE q=[]
   ·rw [if_pos e2] at ha;exact absurd ha e
   ·rw [if_neg e2] at ha
    obtain ⟨hs,hl⟩:=h
    unfold BQ at hl
    rw [if_neg hs] at hl
    have hh:(Ax q).head?=some []:=by
     apply Decidable.byContradiction
     intro g;rw [if_pos (.inl g)] at hl;cases hl
    cases q with
    |nil=>exact absurd h2 (by simp)
    |cons c r=>
     rw [IY] at hh
     by_cases hc:c=47
     ·refine ⟨r,fun e3=>hs (by rw [hc,e3]),by rw [hc]⟩
     ·rw [if_neg hc] at hh
      split at hh<;>simp at hh
 obtain ⟨d,hd,e⟩:=this
 exact MN hd (by rw [Hd];exact e)
theorem N4 {q p:Bs} (hq:Bm q) (hp:p≠[47]) (h:B6 (AK q) p=true):B6 q p=true:=by
 obtain ⟨r,hr,e⟩:=KW hq
 have key:∃d,d≠[]∧q=Ip p []++d:=by
  unfold B6 at h
  rw [Bool.or_eq_true,decide_eq_true_iff,decide_eq_true_iff] at h
  rcases h with h|h
  ·have h1:=Gs hq
   rw [h,GC hp] at h1
   refine ⟨DL q,Ng hq,?_⟩
   rw [GC hp,append_assoc];exact h1
  ·obtain ⟨d,hd,h2⟩:=MO h
   refine ⟨d++r,by simp [hd],?_⟩
   rw [←append_assoc,←h2];exact e
 obtain ⟨d,hd,e2⟩:=key
 exact MN hd e2
/-! ### What a part does, path by path -/
theorem Cx {τ:Tr} {y:Pt} {zx:Int} (h1:y.kind=1) (ha:Bm y.path) (hu:AL τ (AK y.path)) (q:Bs):AC (AI τ y zx).1.nodes q=(if q=AK y.path then (if q=y.path then some (EZ y zx) else AC τ.nodes q).map (kidN y.num zx) else if q=y.path then some (EZ y zx) else AC τ.nodes q):=by
 unfold AI A5
 rw [if_pos h1,if_pos ⟨ha,hu⟩]
 show AC (amod (sset _ _ _) _ _) q=_
 rw [Jt,J5]
theorem Dz {τ:Tr} {y:Pt} {zx:Int} (h2:y.kind=2) (ha:Bm y.path) (q:Bs):AC (AI τ y zx).1.nodes q=(if q=AK y.path then (if B6 q y.path=true then none else AC τ.nodes q).map (kidN y.num zx) else if B6 q y.path=true then none else AC τ.nodes q):=by
 unfold AI BS
 rw [if_neg om,if_pos h2,if_pos ha]
 show AC (amod (τ.nodes.filter _) _ _) q=_
 rw [Jt,HZ (fun k=> !B6 k y.path)]
 cases B6 q y.path<;>simp
theorem IS {τ:Tr} {y:Pt} {zx:Int} (h3:y.kind=3) (ht:AL τ y.path) (q:Bs):AC (AI τ y zx).1.nodes q=if q=y.path then (AC τ.nodes q).map (HQ y.data y.num zx) else AC τ.nodes q:=by
 unfold AI
 rw [if_neg om,if_neg om,if_pos ⟨h3,ht⟩]
 show AC (amod _ _ _) q=_
 rw [Jt]
theorem IM {τ:Tr} {y:Pt} {zx:Int} (h4:y.kind=4) (ht:AL τ y.path) (q:Bs):AC (AI τ y zx).1.nodes q=if q=y.path then (AC τ.nodes q).map (Gd y.acl y.num) else AC τ.nodes q:=by
 unfold AI
 rw [if_neg om,if_neg om,if_neg (by rintro ⟨g,-⟩;omega),if_pos ⟨h4,ht⟩]
 show AC (amod _ _ _) q=_
 rw [Jt]
/-! ### What an entry may be -/
def AJ7:Bs:=[119,111,114,108,100]
def wld (l:List Ac):Prop:=l=[]∨∃q:Int,1≤q∧q≤31∧l=[(q,AJ7)]
theorem AGU {l:List Ac} (h:wld l):l.length≤1:=by
 rcases h with rfl|⟨q,-,-,rfl⟩<;>simp
structure QX (τ:Tr) (y:Pt) (K:Int):Prop where
 kind:0≤y.kind∧y.kind≤4
 path:y.path.length≤62
 data:y.data.length≤100
 acl:wld y.acl
 own:y.own=0∨∃s,AC τ.sess y.own=some s
 num:0≤y.num∧y.num≤K+1
 err:y.err=0
 room:y.kind=1→τ.nodes.length<60
theorem QX.more {τ:Tr} {y:Pt} {K M:Int} (h:QX τ y K) (hm:K≤M):QX τ y M:={h with num:=⟨h.num.1,by have:=h.num.2;omega⟩}
def Rh (τ:Tr) (zx:Int) (subs:List Pt) (K:Int):Prop:= ∀i (hi:i<subs.length),QX (AP τ zx (subs.take i)).1 subs[i] (K+i)
structure ACB (τ:Tr) (x:Pt) (subs:List Pt):Prop where
 own:1≤x.own∧x.own≤5
 paths:subs.map (·.path)=(AG τ x.own).reverse
 kinds:∀y∈subs,y.kind=2
inductive AH4 (τ:Tr) (zx:Int) (x:Pt) (subs:List Pt) (K:Int):Prop
 |part (hs:subs=[]) (h:QX τ x K)
 |opens (hk:x.kind=5) (hs:subs=[]) (ho:1≤x.own∧x.own≤5) (hn:4≤x.num∧x.num≤53) (hd:x.data.length≤100) (ha:x.acl=[]) (hp:x.path=[])
 |close (hk:x.kind=6) (h:ACB τ x subs) (hp:Rh τ zx subs K) (ha:x.acl=[]) (hd:x.data=[]) (hl:subs.length≤60) (hp:x.path=[])
 |multi (hk:x.kind=7) (h:Rh τ zx subs K) (ha:x.acl=[]) (hd:x.data=[]) (hl:subs.length≤6) (hp:x.path=[])
 |error (hk:x.kind=8) (hs:subs=[]) (he:0≤x.err∧x.err<99) (hn:x.num= -1) (ha:x.acl=[]) (hd:x.data=[]) (hp:x.path=[])
def TxC (x:Pt) (subs:List Pt):Prop:=AB x.aclV=true∧AB x.subsV=true∧∀y∈subs,AB y.aclV=true∧AB y.subsV=true
structure UX (τ:Tr) (e:En) (K:Int):Prop where
 sound:FJ τ e.zx e.x e.subs=true
 shape:AH4 τ e.zx e.x e.subs K
 ses:0≤e.ses∧e.ses<9
 cells:TxC e.x e.subs
/-! ### What is so in a sound history -/
structure EB (τ:Tr) (K:Int):Prop where
 ok:τ.Ok 60
 root:∃n,AC τ.nodes [47]=some n∧n.st.own=0
 closed:∀q,AL τ q→q≠[47]→AL τ (AK q)
 ver:∀q n,AC τ.nodes q=some n→(0≤n.st.ver∧n.st.ver≤K)∧(0≤n.st.cver∧n.st.cver≤K)∧(0≤n.st.av∧n.st.av≤K)
 own:∀q n,AC τ.nodes q=some n→n.st.own=0∨∃s,AC τ.sess n.st.own=some s
 ids:∀i s,AC τ.sess i=some s→1≤i∧i≤5
 data:∀q n,AC τ.nodes q=some n→n.data.length≤100
 acl:∀q n,AC τ.nodes q=some n→wld n.acl
 bare:∀q n,AC τ.nodes q=some n→n.st.len=0∧n.st.kids=0
 zx0:0≤K
theorem EB.able {τ:Tr} {K:Int} (h:EB τ K) {q:Bs} (ht:AL τ q) (hq:q≠[47]):Bm q:=by
 unfold AL at ht
 obtain ⟨n,hn⟩:=Option.isSome_iff_exists.1 ht
 exact (h.ok.able _ (De hn)).resolve_left hq
theorem EB.rootT {τ:Tr} {K:Int} (h:EB τ K):AL τ [47]:=by
 obtain ⟨n,hn,-⟩:=h.root
 unfold AL;rw [hn];rfl
theorem EB.more {τ:Tr} {K M:Int} (h:EB τ K) (hm:K≤M):EB τ M:=
 {h with ver:=fun q n hn=>by have:=h.ver q n hn;omega,zx0:=by have:=h.zx0;omega}
theorem EB.zx {τ:Tr} {K:Int} (h:EB τ K) (z:Int):EB (zxT τ z) K:=⟨h.ok.zx z,h.root,h.closed,h.ver,h.own,h.ids,h.data,h.acl,h.bare,h.zx0⟩
theorem map_some {α β:Type} {f:α→β} {o:Option α} {b:β} (h:o.map f=some b):∃a,o=some a∧b=f a:=by
 cases o with
 |none=>cases h
 |some a=>exact ⟨a,rfl,by simpa using h.symm⟩
theorem BY {τ:Tr} {p:Bs}:AL τ p↔ ∃n,AC τ.nodes p=some n:=Option.isSome_iff_exists
theorem EB.part {τ:Tr} {K:Int} (h:EB τ K) {y:Pt} {zx:Int} (hs:B5 τ y=true) (hp:QX τ y K):EB (AI τ y zx).1 (K+1):=by
 have hacl:=AGU hp.acl
 have hses:=GW τ y zx
 -- what a node may become
 suffices hn:(∀q n,AC (AI τ y zx).1.nodes q=some n→(∃n0,(AC τ.nodes q=some n0∨(n0=EZ y zx∧q=y.path∧y.kind=1))∧(n=n0∨n=kidN y.num zx n0∨n=HQ y.data y.num zx n0∨n=Gd y.acl y.num n0)))∧AL (AI τ y zx).1 [47]∧(∀q,AL (AI τ y zx).1 q→q≠[47]→AL (AI τ y zx).1 (AK q))∧(AI τ y zx).1.nodes.length≤60∧¬y.kind=1∨y.kind=1∧(∀q n,AC (AI τ y zx).1.nodes q=some n→(∃n0,(AC τ.nodes q=some n0∨(n0=EZ y zx∧q=y.path∧y.kind=1))∧(n=n0∨n=kidN y.num zx n0∨n=HQ y.data y.num zx n0∨n=Gd y.acl y.num n0)))∧AL (AI τ y zx).1 [47]∧(∀q,AL (AI τ y zx).1 q→q≠[47]→AL (AI τ y zx).1 (AK q))∧y.path≠[47] by
  have hok:=h.ok.part y zx om
  have key:(∀q n,AC (AI τ y zx).1.nodes q=some n→(∃n0,(AC τ.nodes q=some n0∨(n0=EZ y zx∧q=y.path∧y.kind=1))∧(n=n0∨n=kidN y.num zx n0∨n=HQ y.data y.num zx n0∨n=Gd y.acl y.num n0)))∧AL (AI τ y zx).1 [47]∧(∀q,AL (AI τ y zx).1 q→q≠[47]→AL (AI τ y zx).1 (AK q))∧(AI τ y zx).1.nodes.length≤60∧(y.kind=1→y.path≠[47]):=by
   rcases hn with ⟨h1,h2,h3,h4,h5⟩|⟨h0,h1,h2,h3,h5⟩
   ·exact ⟨h1,h2,h3,h4,fun g=>absurd g h5⟩
   ·refine ⟨h1,h2,h3,?_,fun _=>h5⟩
    have hr:=hp.room h0
    unfold AI A5
    rw [if_pos h0]
    split
    ·show (amod (sset _ _ _) _ _).length≤60
     rw [E7]
     have:=(Lv τ.nodes y.path (EZ y zx)).1
     omega
    ·show τ.nodes.length≤60
     omega
  obtain ⟨g1,g2,g3,g4,g5⟩:=key
  have hv:∀q n,AC (AI τ y zx).1.nodes q=some n→((0≤n.st.ver∧n.st.ver≤K+1)∧(0≤n.st.cver∧n.st.cver≤K+1)∧(0≤n.st.av∧n.st.av≤K+1))∧(n.st.own=0∨∃s,AC (AI τ y zx).1.sess n.st.own=some s)∧n.data.length≤100∧wld n.acl∧n.st.len=0∧n.st.kids=0:=by
   intro q n hq
   obtain ⟨n0,g,e⟩:=g1 q n hq
   have hk:=h.zx0
   obtain ⟨p1,p2⟩:=hp.num
   rw [hses]
   have base:((0≤n0.st.ver∧n0.st.ver≤K+1)∧(0≤n0.st.cver∧n0.st.cver≤K+1)∧(0≤n0.st.av∧n0.st.av≤K+1))∧(n0.st.own=0∨∃s,AC τ.sess n0.st.own=some s)∧n0.data.length≤100∧wld n0.acl∧n0.st.len=0∧n0.st.kids=0:=by
    rcases g with g|⟨rfl,-,-⟩
    ·have:=h.ver q n0 g
     exact ⟨by omega,h.own q n0 g,h.data q n0 g,h.acl q n0 g,h.bare q n0 g⟩
    ·refine ⟨?_,hp.own,hp.data,hp.acl,rfl,rfl⟩
     show ((0:Int)≤0∧(0:Int)≤K+1)∧((0:Int)≤0∧(0:Int)≤K+1)∧((0:Int)≤0∧(0:Int)≤K+1)
     omega
   obtain ⟨b1,b2,b3,b4,b5⟩:=base
   rcases e with rfl|rfl|rfl|rfl
   ·exact ⟨b1,b2,b3,b4,b5⟩
   ·exact ⟨⟨b1.1,⟨p1,p2⟩,b1.2.2⟩,b2,b3,b4,b5⟩
   ·exact ⟨⟨⟨p1,p2⟩,b1.2.1,b1.2.2⟩,b2,hp.data,b4,b5⟩
   ·exact ⟨⟨b1.1,b1.2.1,⟨p1,p2⟩⟩,b2,b3,hp.acl,b5⟩
  refine ⟨⟨hok.sorted,hok.ssorted,g4,hok.able,hok.ids,hok.acls,?_⟩,?_,g3,fun q n hq=>(hv q n hq).1,fun q n hq=>(hv q n hq).2.1,?_,fun q n hq=>(hv q n hq).2.2.1,fun q n hq=>(hv q n hq).2.2.2.1,fun q n hq=>(hv q n hq).2.2.2.2,by have:=h.zx0;omega⟩
  ·rw [hses];exact h.ok.sfew
  ·obtain ⟨n,hn⟩:=BY.1 g2
   refine ⟨n,hn,?_⟩
   obtain ⟨r,hr,hr0⟩:=h.root
   obtain ⟨n0,g,e⟩:=g1 _ _ hn
   have:n0.st.own=0:=by
    rcases g with g|⟨-,g,g'⟩
    ·rw [hr] at g;cases g;exact hr0
    ·exact absurd g.symm (g5 g')
   rcases e with rfl|rfl|rfl|rfl<;>exact this
  ·rw [hses];exact h.ids
 unfold B5 at hs
 split at hs
 ·rename_i h1
  obtain ⟨ha,hnt,hu⟩:=of_decide_eq_true hs
  refine .inr ⟨h1,fun q n hq=>?_,?_,fun q hq hne=>?_,ha.1⟩
  ·rw [Cx h1 ha hu] at hq
   by_cases e1:q=AK y.path
   ·rw [if_pos e1] at hq
    obtain ⟨n0,g,rfl⟩:=map_some hq
    by_cases e2:q=y.path
    ·rw [if_pos e2] at g;cases g
     exact ⟨_, .inr ⟨rfl,e2,h1⟩, .inr (.inl rfl)⟩
    ·rw [if_neg e2] at g
     exact ⟨_, .inl g, .inr (.inl rfl)⟩
   ·rw [if_neg e1] at hq
    by_cases e2:q=y.path
    ·rw [if_pos e2] at hq;cases hq
     exact ⟨_, .inr ⟨rfl,e2,h1⟩, .inl rfl⟩
    ·rw [if_neg e2] at hq
     exact ⟨_, .inl hq, .inl rfl⟩
  ·have:=h.rootT
   unfold AL at this ⊢
   rw [Cx h1 ha hu]
   rw [if_neg (show ¬[47]=y.path from fun e=>ha.1 e.symm)]
   split
   ·rw [Option.isSome_map];exact this
   ·exact this
  ·have hth:∀r,AL (AI τ y zx).1 r↔r=y.path∨AL τ r:=by
    intro r
    unfold AL
    rw [Cx h1 ha hu]
    by_cases e2:r=y.path
    ·rw [if_pos e2];split<;>simp [e2]
    ·rw [if_neg e2];split<;>simp [e2]
   rw [hth] at hq ⊢
   right
   rcases hq with rfl|hq
   ·exact hu
   ·exact h.closed q hq hne
 ·rename_i h1
  split at hs
  ·rename_i h2
   obtain ⟨hr,ht,hk⟩:=of_decide_eq_true hs
   have ha:=h.able ht hr
   have hth:∀r,AL (AI τ y zx).1 r↔AL τ r∧B6 r y.path=false:=by
    intro r
    unfold AL
    rw [Dz h2 ha]
    cases e:B6 r y.path<;>split<;>simp
   refine .inl ⟨fun q n hq=>?_,?_,fun q hq hne=>?_,?_,h1⟩
   ·rw [Dz h2 ha] at hq
    by_cases e1:q=AK y.path
    ·rw [if_pos e1] at hq
     obtain ⟨n0,g,rfl⟩:=map_some hq
     split at g
     ·cases g
     ·exact ⟨_, .inl g, .inr (.inl rfl)⟩
    ·rw [if_neg e1] at hq
     split at hq
     ·cases hq
     ·exact ⟨_, .inl hq, .inl rfl⟩
   ·rw [hth]
    refine ⟨h.rootT,?_⟩
    cases e:B6 [47] y.path with
    |false=>rfl
    |true=>
     obtain ⟨r,e2⟩:=Nr e
     have:=congrArg List.length e2
     simp at this
     cases hy:y.path with
     |nil=>exact absurd (h.able ht hr) (by rw [hy];decide)
     |cons c r2=>
      rw [hy] at e2
      simp at e2
      exact absurd (by rw [hy,←e2.1,e2.2.1]) hr
   ·rw [hth] at hq ⊢
    refine ⟨h.closed q hq.1 hne,?_⟩
    cases e:B6 (AK q) y.path with
    |false=>rfl
    |true=>rw [N4 (h.able hq.1 hne) hr e] at hq;exact absurd hq.2 dQ
   ·unfold AI BS
    rw [if_neg h1,if_pos h2,if_pos ha]
    show (amod (IR τ y.path).nodes _ _).length≤60
    rw [E7]
    exact Nat.le_trans (ZA τ y.path) h.ok.few
  ·rename_i h2
   split at hs
   ·rename_i h3
    have ht:=of_decide_eq_true hs
    have hth:∀r,AL (AI τ y zx).1 r↔AL τ r:=by
     intro r
     unfold AL
     rcases h3 with h3|h4
     ·rw [IS h3 ht];split<;>simp
     ·rw [IM h4 ht];split<;>simp
    refine .inl ⟨fun q n hq=>?_,(hth _).2 h.rootT,fun q hq hne=>(hth _).2 (h.closed q ((hth q).1 hq) hne),?_,h1⟩
    ·rcases h3 with h3|h4
     ·rw [IS h3 ht] at hq
      split at hq
      ·obtain ⟨n0,g,rfl⟩:=map_some hq
       exact ⟨_, .inl g, .inr (.inr (.inl rfl))⟩
      ·exact ⟨_, .inl hq, .inl rfl⟩
     ·rw [IM h4 ht] at hq
      split at hq
      ·obtain ⟨n0,g,rfl⟩:=map_some hq
       exact ⟨_, .inl g, .inr (.inr (.inr rfl))⟩
      ·exact ⟨_, .inl hq, .inl rfl⟩
    ·unfold AI
     rw [if_neg h1,if_neg h2]
     have:=h.ok.few
     split
     ·show (amod _ _ _).length≤60
      rw [E7];exact this
     ·split
      ·show (amod _ _ _).length≤60
       rw [E7];exact this
      ·exact this
   ·cases hs
/-! ### Parts, one by one -/
theorem HA {α:Type} {P:List α→Prop} (h0:P []) (h1:∀l x,P l→P (l++[x])) (l:List α):P l:=by
 have:∀m:List α,P m.reverse:=by
  intro m
  induction m with
  |nil=>exact h0
  |cons x m ih=>rw [reverse_cons];exact h1 _ _ ih
 have:=this l.reverse
 rwa [reverse_reverse] at this
theorem Ns {τ:Tr} {zx:Int} {subs:List Pt} {i:Nat} (hi:i<subs.length):(AP τ zx (subs.take (i+1))).1=(AI (AP τ zx (subs.take i)).1 subs[i] zx).1:=by
 rw [take_succ_eq_append_getElem hi,B2]
theorem ABW {τ:Tr} {zx:Int} {cl:Bool} {subs:List Pt} (hs:Cc τ zx cl subs=true):∀i,i≤subs.length→Cc (AP τ zx (subs.take i)).1 zx cl (subs.drop i)=true:=by
 intro i
 induction i with
 |zero=>intro _;rw [take_zero];exact hs
 |succ i ih=>
  intro hi
  have:=ih om
  rw [OD om] at this
  simp only [Bool.and_eq_true] at this
  exact this.2
theorem LV {τ:Tr} {zx:Int} {cl:Bool} {subs:List Pt} (hs:Cc τ zx cl subs=true) {i:Nat} (hi:i<subs.length):B5 (AP τ zx (subs.take i)).1 subs[i]=true:=by
 have:=ABW hs i om
 rw [OD hi] at this
 simp only [Bool.and_eq_true] at this
 exact this.1.1
theorem EB.parts {τ:Tr} {K:Int} (h:EB τ K) {zx:Int} {cl:Bool} {subs:List Pt} (hs:Cc τ zx cl subs=true) (hp:Rh τ zx subs K):∀i,i≤subs.length→EB (AP τ zx (subs.take i)).1 (K+i):=by
 intro i
 induction i with
 |zero=>intro _;rw [take_zero];exact h.more om
 |succ i ih=>
  intro hi
  rw [Ns om]
  exact ((ih om).part (LV hs om) (hp i om)).more om
theorem OQ (τ:Tr) (zx:Int) (l:List Pt):(AP τ zx l).1.sess=τ.sess:=by
 induction l using HA with
 |h0=>rfl
 |h1 l x ih=>rw [B2];dsimp only;rw [GW,ih]
theorem EB.sfew {l:List (Int×(Int×Bs))} (hs:BK l) (h:∀i s,AC l i=some s→1≤i∧i≤5):l.length≤5:=by
 have hn:=hs.nodup XL
 have:=Mw (l:=l.map (·.1)) (m:=[1,2,3,4,5]) hn fun x hx=>by
  have h1:=Cw.2 hx
  obtain ⟨s,e⟩:=Option.isSome_iff_exists.1 h1
  have:=h x s e
  have:x=1∨x=2∨x=3∨x=4∨x=5:=by omega
  simpa using this
 simpa using this
theorem EB.opens {τ:Tr} {K:Int} (h:EB τ K) {id n:Int} {s:Bs} (hi:1≤id∧id≤5):EB (openS τ id n s) K:=by
 have hl:∀i,AC (openS τ id n s).sess i=if i=id then some (n,s) else AC τ.sess i:=fun i=>J5 τ.sess id i (n,s)
 have hids:∀i r,AC (openS τ id n s).sess i=some r→1≤i∧i≤5:=by
  intro i r hr
  rw [hl] at hr
  split at hr
  ·rename_i e;rw [e];exact hi
  ·exact h.ids i r hr
 have hk:=h.ok.openS (id:=id) om n s
 refine ⟨⟨hk.sorted,hk.ssorted,h.ok.few,hk.able,hk.ids,hk.acls,by have:=EB.sfew hk.ssorted hids;omega⟩,h.root,h.closed,h.ver,fun q m hq=>?_,hids,h.data,h.acl,h.bare,h.zx0⟩
 rcases h.own q m hq with e|⟨r,e⟩
 ·exact .inl e
 ·right;rw [hl]
  split
  ·exact ⟨_,rfl⟩
  ·exact ⟨r,e⟩
theorem QP {τ:Tr} {zx:Int} {subs:List Pt} (hk:∀y∈subs,y.kind=2):∀i,i≤subs.length→(∀j (hj:j<subs.length),j<i→Bm subs[j].path)→∀q n,AC (AP τ zx (subs.take i)).1.nodes q=some n→(∃n0,AC τ.nodes q=some n0∧n0.st.own=n.st.own)∧∀j (hj:j<subs.length),j<i→B6 q subs[j].path=false:=by
 intro i
 induction i with
 |zero=>intro _ _ q n hq;exact ⟨⟨n,by rw [take_zero] at hq;exact hq,rfl⟩,fun j _ hj=>by omega⟩
 |succ i ih=>
  intro hi ha q n hq
  have hi2:i<subs.length:=by omega
  rw [Ns hi2,Dz (hk _ (getElem_mem hi2)) (ha i hi2 om)] at hq
  have key:∃n0,AC (AP τ zx (subs.take i)).1.nodes q=some n0∧n0.st.own=n.st.own∧B6 q subs[i].path=false:=by
   split at hq
   ·obtain ⟨n0,g,rfl⟩:=map_some hq
    split at g
    ·cases g
    ·rename_i e;exact ⟨n0,g,rfl,by simpa using e⟩
   ·split at hq
    ·cases hq
    ·rename_i e;exact ⟨n,hq,rfl,by simpa using e⟩
  obtain ⟨n0,g1,g2,g3⟩:=key
  obtain ⟨⟨n1,k1,k2⟩,k3⟩:=ih om (fun j hj hji=>ha j hj om) q n0 g1
  refine ⟨⟨n1,k1,k2.trans g2⟩,fun j hj hji=>?_⟩
  by_cases e:j=i
  ·subst e;exact g3
  ·exact k3 j hj om
theorem HY (q:Bs):B6 q q=true:=by unfold B6;simp
theorem Jq {τ:Tr} {s:Int} {q:Bs} (hn:(τ.nodes.map (·.1)).Nodup):q∈AG τ s↔s≠0∧∃n,AC τ.nodes q=some n∧n.st.own=s:=by
 unfold AG
 rw [mem_map]
 constructor
 ·rintro ⟨⟨q',n⟩,hm,rfl⟩
  obtain ⟨h1,h2⟩:=mem_filter.1 hm
  simp at h2
  exact ⟨h2.1,n,Bu hn h1,h2.2⟩
 ·rintro ⟨h0,n,h1,h2⟩
  exact ⟨(q,n),mem_filter.2 ⟨De h1,by simp [h0,h2]⟩,rfl⟩
theorem ABP {τ:Tr} {K:Int} (h:EB τ K) {y:Pt} (hs:B5 τ y=true) (hk:y.kind=2):Bm y.path:=by
 unfold B5 at hs
 rw [if_neg om,if_pos hk] at hs
 obtain ⟨h1,h2,-⟩:=of_decide_eq_true hs
 exact h.able h2 h1
theorem W8 {τ:Tr} {K:Int} (h:EB τ K) {zx:Int} {x:Pt} {subs:List Pt} (hs:Cc τ zx true subs=true) (hp:Rh τ zx subs K) (hc:ACB τ x subs):∀q n,AC (AP τ zx subs).1.nodes q=some n→n.st.own≠x.own:=by
 intro q n hq e
 have ha:∀j (hj:j<subs.length),j<subs.length→Bm subs[j].path:=fun j hj _=>
  ABP (h.parts hs hp j om) (LV hs hj) (hc.kinds _ (getElem_mem hj))
 have hq':AC (AP τ zx (subs.take subs.length)).1.nodes q=some n:=by rw [take_length];exact hq
 obtain ⟨⟨n0,g1,g2⟩,g3⟩:=QP hc.kinds subs.length (Nat.le_refl _) ha q n hq'
 have hm:q∈AG τ x.own:=(Jq (h.ok.sorted.nodup CS)).2 ⟨by have:=hc.own.1;omega,n0,g1,g2.trans e⟩
 have hm2:q∈subs.map (·.path):=by rw [hc.paths];simpa using hm
 obtain ⟨y,hy,rfl⟩:=mem_map.1 hm2
 obtain ⟨j,hj,rfl⟩:=mem_iff_getElem.1 hy
 have:=g3 j hj hj
 rw [HY] at this;cases this
theorem EB.drop {τ:Tr} {K:Int} (h:EB τ K) {id:Int} (hno:∀q n,AC τ.nodes q=some n→n.st.own≠id):EB (dropS τ id) K:=by
 have hl:∀i,AC (dropS τ id).sess i=if i=id then none else AC τ.sess i:=by
  intro i
  show AC (τ.sess.filter fun y=> !decide (y.1=id)) i=_
  rw [HZ (fun k=> !decide (k=id))]
  by_cases e:i=id<;>simp [e]
 refine ⟨h.ok.dropS id,h.root,h.closed,h.ver,fun q n hq=>?_,fun i s hi=>?_,h.data,h.acl,h.bare,h.zx0⟩
 ·rcases h.own q n hq with e|⟨s,e⟩
  ·exact .inl e
  ·right;rw [hl,if_neg (hno q n hq)];exact ⟨s,e⟩
 ·rw [hl] at hi
  split at hi
  ·cases hi
  ·exact h.ids i s hi
theorem I6 {τ:Tr} {zx:Int} {x:Pt} {subs:List Pt} (h:FJ τ zx x subs=true) (hk:x.kind=6∨x.kind=7):Cc τ zx (decide (x.kind=6)) subs=true:=by
 unfold FJ at h
 rw [if_neg om,if_pos hk] at h
 exact h
theorem O0 {subs:List Pt} (h:∀y∈subs,y.kind=2):subs.filter Bc=subs:=filter_eq_self.2 fun y hy=>by unfold Bc;rw [decide_eq_true (h y hy)]
theorem Vk {τ:Tr} {e:En} (h:e.x.kind≤4∨8<e.x.kind):DS τ e=zxT (AI τ e.x e.zx).1 e.zx:=by
 unfold DS AM;dsimp only
 have hz:∀(x:Pt) (zx z:Int),AI (zxT τ z) x zx=(zxT (AI τ x zx).1 z,(AI τ x zx).2):=by
  intro x zx z
  unfold AI A5 BS
  have h:∀p,AL (zxT τ z) p↔AL τ p:=fun p=>Iff.rfl
  simp only [h]
  repeat' split
  all_goals first|rfl|contradiction
 rw [if_neg om,if_neg om,if_neg om,if_neg om,hz]
theorem T6 (τ:Tr) (x:Pt) (zx z:Int):(AI (zxT τ z) x zx).1=zxT (AI τ x zx).1 z:=by
 unfold AI A5 BS
 have h:∀p,AL (zxT τ z) p↔AL τ p:=fun p=>Iff.rfl
 simp only [h]
 repeat' split
 all_goals first|rfl|contradiction
theorem RG (τ:Tr) (zx z:Int) (l:List Pt):(AP (zxT τ z) zx l).1=zxT (AP τ zx l).1 z:=by
 induction l using HA with
 |h0=>rfl
 |h1 l x ih=>rw [B2,B2];dsimp only;rw [ih,T6]
theorem ADB {τ:Tr} {e:En} (h:e.x.kind=5) (ho:0<e.x.own):DS τ e=zxT (openS τ e.x.own e.x.num e.x.data) e.zx:=by
 unfold DS AM;dsimp only;rw [if_pos h,if_pos ho];rfl
theorem QE {τ:Tr} {e:En} (h:e.x.kind=6) (hk:∀y∈e.subs,y.kind=2):DS τ e=zxT (dropS (AP τ e.zx e.subs).1 e.x.own) e.zx:=by
 unfold DS AM;dsimp only;rw [if_neg om,if_pos h,O0 hk,RG];rfl
theorem RB {τ:Tr} {e:En} (h:e.x.kind=7):DS τ e=zxT (AP τ e.zx e.subs).1 e.zx:=by
 unfold DS AM;dsimp only;rw [if_neg om,if_neg om,if_pos h,RG]
theorem Y2 {τ:Tr} {e:En} (h:e.x.kind=8):DS τ e=zxT τ e.zx:=by
 unfold DS AM;dsimp only;rw [if_neg om,if_neg om,if_neg om,if_pos h]
theorem Fj {τ:Tr} {x:Pt} {zx:Int} (h:x.kind=0):(AI τ x zx).1=τ:=by
 unfold AI
 rw [if_neg om,if_neg om,if_neg (by rintro ⟨g,-⟩;omega),if_neg (by rintro ⟨g,-⟩;omega)]
theorem EB.app {τ:Tr} {K:Int} (h:EB τ K) {e:En} (he:UX τ e K):EB (DS τ e) (K+60):=by
 rcases he.shape with ⟨hs,hp⟩|⟨hk,hs,ho,hn,hd,ha,hp⟩|⟨hk,hc,hps,ha,hd,hl,hp⟩|⟨hk,hps,ha,hd,hl,hp⟩|⟨hk,hs,he2,hn,ha,hd,hp⟩
 ·rw [Vk (.inl hp.kind.2)]
  by_cases hz:e.x.kind=0
  ·rw [Fj hz];exact (h.zx _).more om
  ·have hf:B5 τ e.x=true:=by
    have:=he.sound
    unfold FJ at this
    have hk:=hp.kind
    rw [if_pos om] at this
    exact this
   exact ((h.part hf hp).zx _).more om
 ·rw [ADB hk om]
  exact ((h.opens ho).zx _).more om
 ·rw [QE hk hc.kinds]
  have hsl:=I6 he.sound (.inl hk)
  rw [decide_eq_true hk] at hsl
  have h2:=h.parts hsl hps e.subs.length (Nat.le_refl _)
  rw [take_length] at h2
  exact ((h2.drop (W8 h hsl hps hc)).zx _).more om
 ·rw [RB hk]
  have h2:=h.parts (I6 he.sound (.inr hk)) hps e.subs.length (Nat.le_refl _)
  rw [take_length] at h2
  exact (h2.zx _).more om
 ·rw [Y2 hk]
  exact (h.zx _).more om
inductive AIa (z0:Int):List En→Tr→Prop
 |nil:AIa z0 [] BV
 |snoc {l:List En} {τ:Tr} {e:En} (h:AIa z0 l τ) (he:UX τ e (60*l.length)) (hz:e.zx=z0+l.length) (hx:0≤e.xid∧e.xid<150):AIa z0 (l++[e]) (DS τ e)
/-! ### In memory -/
structure AFG (e:En):Prop where
 acl:e.x.acl.length≤1
 path:e.x.path.length≤62
 few:e.subs.length≤60
 each:∀y∈e.subs,y.acl.length≤1∧y.path.length≤62
/-! ### A session's end, path by path -/
theorem SQ {τ:Tr} {N:Nat} (ho:τ.Ok N) (s:Int):(AG τ s).Pairwise (· < ·):=ho.sorted.filter _
theorem Ou {τ:Tr} {zx:Int} {q:Bs} (l:List Pt):(∀y∈l,y.kind=2∧Bm y.path)→(AL (AP τ zx l).1 q↔AL τ q∧∀y∈l,B6 q y.path=false):=by
 induction l using HA with
 |h0=>intro _;exact ⟨fun h=>⟨h,fun y hy=>by cases hy⟩,fun h=>h.1⟩
 |h1 l x ih=>
  intro hl
  obtain ⟨k1,k2⟩:=hl x (by simp)
  have ih2:=ih fun y hy=>hl y (by simp [hy])
  have e:AL (AP τ zx (l++[x])).1 q↔AL (AP τ zx l).1 q∧B6 q x.path=false:=by
   rw [B2]
   unfold AL
   dsimp only
   rw [Dz k1 k2]
   cases B6 q x.path<;>split<;>simp
  rw [e,ih2]
  constructor
  ·rintro ⟨⟨a,b⟩,c⟩
   refine ⟨a,fun y hy=>?_⟩
   rcases mem_append.1 hy with hy|hy
   ·exact b y hy
   ·rw [mem_singleton] at hy;subst hy;exact c
  ·rintro ⟨a,b⟩
   exact ⟨⟨a,fun y hy=>b y (by simp [hy])⟩,b x (by simp)⟩
def Rg (τ:Tr) (s:List (Int×(Int×Bs))):Tr:={τ with sess:=s}
theorem AGI (τ:Tr) (s:List (Int×(Int×Bs))) (x:Pt) (zx:Int):(AI (Rg τ s) x zx).1=Rg (AI τ x zx).1 s:=by
 unfold AI A5 BS
 have h:∀p,AL (Rg τ s) p↔AL τ p:=fun p=>Iff.rfl
 simp only [h]
 repeat' split
 all_goals first|rfl|contradiction
def S3 (s:List (Int×(Int×Bs))) (e:En):List (Int×(Int×Bs)):=
 if e.x.kind=5 then (if 0<e.x.own then sset s e.x.own (e.x.num,e.x.data) else s)
 else if e.x.kind=6 then s.filter fun y=> !decide (y.1=e.x.own) else s
theorem AB0 (τ:Tr) (e:En):(DS τ e).sess=S3 τ.sess e:=by
 unfold DS AM S3
 dsimp only
 split
 ·split<;>rfl
 split
 ·show (dropS _ _).sess=_
  unfold dropS;dsimp only
  rw [OQ];rfl
 split
 ·rw [OQ];rfl
 split
 ·rfl
 ·rw [GW];rfl
theorem SC (s:List (Int×(Int×Bs))) (e:En) (i:Int):AC (S3 s e) i=if e.x.kind=5∧0<e.x.own∧i=e.x.own then some (e.x.num,e.x.data) else if e.x.kind=6∧i=e.x.own then none else AC s i:=by
 unfold S3
 by_cases h5:e.x.kind=5
 ·have e2:(if e.x.kind=6∧i=e.x.own then none else AC s i)=AC s i:=if_neg (by rintro ⟨g,-⟩;omega)
  rw [e2,if_pos h5]
  by_cases ho:0<e.x.own
  ·rw [if_pos ho,J5]
   by_cases hi:i=e.x.own
   ·rw [if_pos hi,if_pos ⟨h5,ho,hi⟩]
   ·rw [if_neg hi,if_neg (fun g=>hi g.2.2)]
  ·rw [if_neg ho,if_neg (fun g=>ho g.2.1)]
 ·have e1:(if e.x.kind=5∧0<e.x.own∧i=e.x.own then some (e.x.num,e.x.data) else if e.x.kind=6∧i=e.x.own then none else AC s i)=if e.x.kind=6∧i=e.x.own then none else AC s i:=if_neg (fun g=>h5 g.1)
  rw [e1,if_neg h5]
  by_cases h6:e.x.kind=6
  ·rw [if_pos h6,HZ (fun k=> !decide (k=e.x.own))]
   by_cases hi:i=e.x.own
   ·simp [hi,h6]
   ·simp [hi]
  ·rw [if_neg h6];simp [h6]
theorem ACF (τ:Tr) (e:En):(DS τ e).zx=e.zx:=by
 have hp:∀(τ:Tr) (x:Pt) (zx:Int),(AI τ x zx).1.zx=τ.zx:=by
  intro τ x zx
  unfold AI A5 BS
  repeat' split
  all_goals rfl
 have hps:∀(τ:Tr) (zx:Int) (l:List Pt),(AP τ zx l).1.zx=τ.zx:=by
  intro τ zx l
  induction l using HA with
  |h0=>rfl
  |h1 l x ih=>rw [B2];dsimp only;rw [hp,ih]
 unfold DS AM
 dsimp only
 split
 ·split<;>rfl
 split
 ·exact hps _ _ _
 split
 ·exact hps _ _ _
 split
 ·rfl
 ·exact hp _ _ _
def Y7 (l:List En):Nat:=(l.map fun e=>1+e.subs.length).sum
theorem Ro {l:List En} (i:Nat):Y7 (l.take i)≤Y7 l:=by
 unfold Y7
 induction l generalizing i with
 |nil=>simp
 |cons e l ih=>
  cases i with
  |zero=>simp
  |succ i=>
   rw [take_succ_cons,map_cons,sum_cons,map_cons,sum_cons]
   have:=ih i
   omega
theorem AHg {l:List En} {e:En} (h:e∈l):e.subs.length≤Y7 l:=by
 unfold Y7
 induction l with
 |nil=>cases h
 |cons x l ih=>
  rw [map_cons,sum_cons]
  rcases mem_cons.1 h with rfl|h
  ·omega
  ·have:=ih h;omega
theorem Un {τ:Tr} {N:Nat} (h:τ.Ok N) {p:HP} {e:En} (ht:TxA p e.x e.subs):(DS τ e).Ok (N+(1+e.subs.length)):=
 (h.apply e.zx e.x e.subs ht.own.few (fun y hy=>(ht.each y hy).few)).more om
theorem Yg {p:HP}:∀{l:List En} {τ:Tr} {N:Nat},τ.Ok N→(∀e∈l,TxA p e.x e.subs)→(Bb τ l).Ok (N+Y7 l)
 |[],_,_,h,_=>h
 |e::l,τ,N,h,hl=>(Yg (Un h (hl e mem_cons_self)) (fun x hx=>hl x (mem_cons_of_mem _ hx))).more (by unfold Y7;rw [map_cons,sum_cons];omega)
theorem J9.up {a p:HP} (hT:J9 p):J9 (CP [a,p]):=by
 intro h w hp hle
 obtain ⟨h1,h2,_,a1,a2,_,h3⟩:=hp
 obtain ⟨h4,a4,hp4⟩:=Ae (p:=p) (L:=[]) h3
 exact hT h4 w hp4 (fun b o e=>hle b o (a2 b o (a4 b o e)))
def Dw:List Ac:=[(31,[119,111,114,108,100])]
def KD (v:Value):Rq:=⟨1,0,[47,97],[],v,Dw,0,0,false,AR,AR⟩
theorem E3.mk0 {p:HP} {s:Int} {r:Rq} (hs:Aw s) (hT:J9 p) (hk:Aw r.kind∧Aw r.xid∧Aw r.flags∧Aw r.ver) (hl:r.path.length≤64∧r.data.length≤64) (ha:∀h:Hp,p h→CA 2 h r.aclV r.acl.length (r.acl.flatMap CJ))
  (hm:r.acl.length≤8∧∀a∈r.acl,Aw a.1∧a.2.length≤64) (h1:∃a n c,r.aclV= .slice a n c) (h2:∃a n c,r.subsV= .slice a n c) (h3:∃a n c,r.armV= .slice a n c):E3 p ⟨s,[]⟩ AR r:=
 ⟨⟨hk.1,hk.2.1,hk.2.2.1,hk.2.2.2,by omega,by omega,ha,by omega,fun a h=>⟨(hm.2 a h).1,by have:=(hm.2 a h).2;omega⟩,h2,h3⟩,hs,fun _ _=> .inl ⟨rfl,rfl,none,0,rfl⟩,by show 0≤_;decide,⟨none,0,0,rfl⟩,h1,hT⟩
theorem AFg {a p:HP} {sz n:Nat} {v:Value} {xs:List Value} (ha:∀h:Hp,a h→CA sz h v n xs):∀h:Hp,CP [a,p] h→CA sz h v n xs:=by
 intro h hp
 obtain ⟨h1,a1,hp1⟩:=Ae hp
 exact Bj (ha h1 hp1) a1
theorem ZX {a p:HP} {sz n:Nat} {v:Value} {xs:List Value} (ha:∀h:Hp,p h→CA sz h v n xs):∀h:Hp,CP [a,p] h→CA sz h v n xs:=by
 intro h hp
 obtain ⟨h1,h2,_,a1,a2,_,h3⟩:=hp
 obtain ⟨h4,a4,hp4⟩:=Ae (p:=p) (L:=[]) h3
 exact Bj (ha h4 hp4) (fun b o e=>a2 b o (a4 b o e))
theorem Sq:Hf Dw:=⟨by decide,by simp [Dw,EA,Hw,BW,Bx,Bl,OP,DU],fun a ha=>by
 obtain rfl:=mem_singleton.1 ha
 exact ⟨⟨⟨by decide,by decide⟩,by decide⟩,by decide⟩⟩
theorem CZ:Hf []:=⟨by decide,by simp [EA,BW,DU],fun a ha=>by cases ha⟩
theorem AI7 {a p:HP} {v:Value} (ha:∀h:Hp,a h→CA 2 h v 1 (Dw.flatMap CJ)):∀h:Hp,CP [a,p] h→CA 2 h v Dw.length (Dw.flatMap CJ):=by
 intro h hp
 obtain ⟨h1,a1,hp1⟩:=Ae hp
 exact Bj (ha h1 hp1) a1
theorem AIA {τ:Tr} {u:C9} {r:Rq} {p:HP} {iv:Value} (h:E3 p u iv r) (ha:Hf r.acl):PtI (AY τ u r).1:=by
 have h1:=SH τ u h.ses (by have:=h.rq.data;omega) ha
 have h2:=QF h τ
 have h3:=LY h τ
 have hu:Ds=18446744073709551616:=rfl
 refine ⟨?_,h1.own,h1.num,?_,by omega,by have:=h1.data;omega,by omega,fun a ha=>(h1.acl.each a ha).1⟩
 ·have hs:∀k:Int,0≤k∧k≤8→Aw k:=fun k hk=>⟨by omega,by omega⟩
  unfold AY
  split
  ·exact hs 1 om
  split
  ·exact hs 2 om
  split
  ·unfold GM
   split
   ·exact hs 3 om
   split
   ·exact hs 4 om
   ·exact hs 0 om
  ·exact hs 0 om
 ·unfold AY
  split
  ·exact Aw.zero
  split
  ·exact Aw.zero
  split
  ·unfold GM
   split
   ·exact Aw.zero
   split<;>exact Aw.zero
  ·exact Aw.zero
structure ZF (y:Pt):Prop where
 i:PtI y
 acl:(EA y.acl).length≤33000000
 many:y.acl.length≤1048576
 path:y.path.length≤1048576
 data:y.data.length≤1048576
theorem JQ {n:Int} (h:Aw n):(Bl n).length≤10:=Fi h
theorem Ji {α:Type} {f:α→HP}:∀{l:List α} {x:α} {h:Hp},x∈l→Am f l h→∃h1,(∀b o,h1 b=some o→h b=some o)∧f x h1
 |y::l,x,h,hx,hp=>by
  have hq:=Vh hp
  rcases mem_cons.1 hx with rfl|hx
  ·exact Ae hq
  ·obtain ⟨h1,a1,q1⟩:=Ae (DG (List.Perm.swap _ _ _) hq)
   obtain ⟨h2,a2,q2⟩:=Ji hx q1
   exact ⟨h2,fun b o hb=>a1 b o (a2 b o hb),q2⟩
 |[],_,_,hx,_=>by cases hx
theorem Lz {e:En} {h:Hp} (hp:entR e h):CA 2 h e.x.aclV e.x.acl.length (e.x.acl.flatMap CJ):=by
 obtain ⟨h1,a1,q1⟩:=Ae hp
 exact Bj (Ad q1) a1
theorem Hu {e:En} {h:Hp} (hp:entR e h):CA 8 h e.x.subsV e.subs.length (e.subs.flatMap A0):=by
 obtain ⟨h1,a1,q1⟩:=Ae (DG (List.Perm.swap _ _ _) hp)
 exact Bj (Ad q1) a1
theorem JU {e:En} {h:Hp} (hp:entR e h) {y:Pt} (hy:y∈e.subs):CA 2 h y.aclV y.acl.length (y.acl.flatMap CJ):=by
 have hq:CP [Am aclR e.subs,aclR e.x,AHT e] h:=DG (by
  refine List.Perm.trans (List.Perm.cons _ (List.Perm.swap _ _ _)) (List.Perm.swap _ _ _)) hp
 obtain ⟨h1,a1,q1⟩:=Ae hq
 obtain ⟨h2,a2,q2⟩:=Ji hy q1
 exact Bj (Ad q2) (fun b o hb=>a1 b o (a2 b o hb))
theorem Hg {b:Prop} [Decidable b] {e:Int} (h:0≤e∧e≤110):0≤Ay b e∧Ay b e≤110:=by
 show 0≤(if b then e else 0)∧(if b then e else 0)≤110
 split<;>omega
theorem Ka (p:Bs):0≤BQ p∧BQ p≤110:=by rcases AAC p with h|h|h<;>omega
theorem KZ {l:List Int} (h:∀e∈l,0≤e∧e≤110):0≤CM l∧CM l≤110:=by
 rcases Ra l with g|g
 ·omega
 ·exact h _ g
theorem WU (r:Rq):0≤Ew r∧Ew r≤110:=by
 unfold Ew
 split
 ·exact Hg om
 split
 ·exact Hg om
 ·omega
theorem Mb (τ:Tr) (u:C9) (r:Rq):0≤(AY τ u r).2∧(AY τ u r).2≤110:=by
 unfold AY
 split
 ·refine KZ fun e he=>?_
  simp only [D8,mem_cons,not_mem_nil,or_false] at he
  rcases he with rfl|rfl|rfl|rfl|rfl|rfl|rfl|rfl|rfl|rfl<;>first|exact Ka _|exact Hg om
 split
 ·refine KZ fun e he=>?_
  simp only [HM,mem_cons,not_mem_nil,or_false] at he
  rcases he with rfl|rfl|rfl|rfl|rfl|rfl<;>first|exact Ka _|exact Hg om
 split
 ·refine KZ fun e he=>?_
  simp only [Lw,mem_cons,not_mem_nil,or_false] at he
  rcases he with rfl|rfl|rfl|rfl|rfl<;>first|exact Ka _|exact WU _|exact Hg om
 ·exact ⟨by show (0:Int)≤110;decide,by show (110:Int)≤110;decide⟩
theorem Mv {e n:Int} (he:Aw e) (hn:Aw n):ZF (Az e n):=
 ⟨⟨⟨by show (-9223372036854775808:Int)≤8;decide,by show (8:Int)≤9223372036854775807;decide⟩,Aw.zero,hn,he,by show 0<Ds;decide,by show 0<Ds;decide,by show 0<Ds;decide,fun a ha=>by cases ha⟩,CZ.long,Nat.zero_le _,Nat.zero_le _,Nat.zero_le _⟩
theorem AEo {τ:Tr} {u:C9} {r:Rq} {p:HP} {iv:Value} (h:E3 p u iv r) (ha:Hf r.acl):ZF (AY τ u r).1:=by
 have h1:=SH τ u h.ses (by have:=h.rq.data;omega) ha
 exact ⟨AIA h ha,h1.acl.long,LY h τ,QF h τ,h1.data⟩
theorem ZF.of {y z:Pt} (e:y.pl=z.pl) (h:ZF z):ZF y:=by
 have hk:ZF z.pl:=⟨⟨h.i.kind,h.i.own,h.i.num,h.i.err,h.i.path,h.i.data,h.i.many,h.i.acl⟩,h.acl,h.many,h.path,h.data⟩
 rw [←e] at hk
 exact ⟨⟨hk.i.kind,hk.i.own,hk.i.num,hk.i.err,hk.i.path,hk.i.data,hk.i.many,hk.i.acl⟩,hk.acl,hk.many,hk.path,hk.data⟩
def Ids (p:HP) (v:Value) (l:List Bs):Prop:=(∀h:Hp,p h→CA 1 h v l.length (A1 l))∧l.length≤1048576∧∃a n c,v= .slice a n c
structure WiD (p:HP) (u:C9) (iv:Value) (r:Rq) (subs:List Rq):Prop where
 w:E3 p u iv r
 a:Hf r.acl
 rd:∀h:Hp,p h→CA 10 h r.subsV subs.length (subs.flatMap L8)
 each:∀x∈subs,E3 p u iv x
 acls:∀x∈subs,Hf x.acl
def AAz:HP:=fun _=>True
theorem ZU (h:Hp):AAz h:=trivial
def Ai:List Bs→Tr→Tr
 |[],τ=>τ
 |p::l,τ=>Ai l (AM τ τ.zx (Cu τ p) []).1
theorem Oo:∀(l m:List Bs) (τ:Tr),Ai (l++m) τ=Ai m (Ai l τ)
 |[],_,_=>rfl
 |_::l,m,_=>Oo l m _
theorem PW:∀(l m:List Bs) (τ:Tr),A8 (l++m) τ=A8 l τ++A8 m (Ai l τ)
 |[],_,_=>rfl
 |p::l,m,τ=>by
  show Cu τ p::A8 (l++m) _=(Cu τ p::A8 l _)++_
  rw [PW l m];rfl
theorem C8:∀(l:List Bs) (τ:Tr),(A8 l τ).length=l.length
 |[],_=>rfl
 |_::l,_=>congrArg Nat.succ (C8 l _)
theorem JV {l:List Bs} {i:Nat} (hi:i<l.length) (τ:Tr):Ai (l.take (i+1)) τ=(AM (Ai (l.take i) τ) (Ai (l.take i) τ).zx (Cu (Ai (l.take i) τ) l[i]) []).1:=by
 rw [take_succ_eq_append_getElem hi,Oo];rfl
theorem Eo {l:List Bs} {i:Nat} (hi:i<l.length) (τ:Tr):A8 (l.take (i+1)) τ=A8 (l.take i) τ++[Cu (Ai (l.take i) τ) l[i]]:=by
 rw [take_succ_eq_append_getElem hi,PW];rfl
theorem Qg {N:Nat}:∀(l:List Bs) {τ:Tr},τ.Ok N→(Ai l τ).Ok (N+l.length)
 |[],_,h=>h
 |p::l,τ,h=>by
  have h1:(AM τ τ.zx (Cu τ p) []).1.Ok (N+1):=h.apply τ.zx (Cu τ p) [] (Nat.zero_le _) (fun _ h=>by cases h)
  have h2:=Qg l h1
  rw [length_cons,show N+(l.length+1)=N+1+l.length by omega]
  exact h2
theorem D4:∀(l:List Bs) (τ:Tr),∀y∈A8 l τ,y.aclV=AR∧y.acl=[]∧y.subsV=AR∧y.pl=y
 |[],_,y,hy=>by cases hy
 |p::l,τ,y,hy=>by
  rcases mem_cons.1 (show y∈Cu τ p::A8 l _ from hy) with rfl|hy
  ·exact ⟨rfl,rfl,rfl,rfl⟩
  ·exact D4 l _ y hy
theorem AEJ:∀{l:List Pt},(∀y∈l,y.pl=y)→l.map Pt.pl=l
 |[],_=>rfl
 |y::l,h=>by rw [map_cons,h y mem_cons_self,AEJ fun z hz=>h z (mem_cons_of_mem _ hz)]
theorem Iz {τ:Tr} {N:Nat} (ho:τ.Ok N) {s:Int} {p:Bs} (hp:p∈AG τ s):p.length≤60:=by
 unfold AG at hp
 obtain ⟨y,hy,rfl⟩:=mem_map.1 hp
 exact F0 (ho.able y (mem_filter.1 hy).1)
theorem Uc:∀{l:List Pt},(∀y∈l,y.aclV=AR∧y.acl=[])→∀h:Hp,Am aclR l h
 |[],_,h=>CH h
 |y::l,hl,h=>by
  refine JD ?_
  obtain ⟨h1,h2⟩:=hl y mem_cons_self
  have ha:∀g:Hp,aclR y g:=fun g=>by
   unfold aclR
   rw [h1,h2]
   exact AU _ 2 g
  exact ⟨fun _=>none,h,fun _=> .inl rfl,(fun _ _ e=>by cases e),fun _ _ e=>e,ha _,h,fun _=>none,fun _=> .inr rfl,fun _ _ e=>e,(fun _ _ e=>by cases e),Uc (fun z hz=>hl z (mem_cons_of_mem _ hz)) _,trivial⟩
theorem GS (l:List Pt):(l.flatMap A0).length=l.length*8:=V0 (fun _ _=>rfl)
theorem Ju {xs ys zs:List Value} {n:Nat} (hn:xs.length=n) (hl:zs.length=ys.length):CX (xs++ys) n zs=xs++zs:=by
 unfold CX
 have e:(xs++ys).drop (n+zs.length)=[]:=drop_eq_nil_of_le (by rw [length_append];omega)
 rw [e,←hn,take_left,append_nil]
def Fh (s:Int) (z:Value):List Value:=[AA 6,AF [],AF [],AR,AA s,AA 0,AA 0,z]
def UI (K:HP) (c b:Nat) (τ:Tr) (s:Int) (l:List Bs) (i:Nat):HP:=fun h=> ∃z:Value,(∃a k,z= .slice a i k)∧CP [K,AV c (Ai (l.take i) τ),AW b (Fh s z) 38,At 38 8 z i ((A8 (l.take i) τ).flatMap A0)] h
theorem Ve {p:HP} {u:C9} {iv:Value}:∀{l:List Rq} {τ:Tr},(∀r∈l,E3 p u iv r∧Hf r.acl)→(∀y∈(B3 u l τ).2.1,ZF y)∧(B3 u l τ).2.1.length≤l.length
 |[],_,_=>⟨(fun _ h=>by cases h),Nat.le_refl _⟩
 |r::l,τ,h=>by
  rw [Eg]
  split
  ·exact ⟨(fun _ g=>by cases g),Nat.zero_le _⟩
  ·obtain ⟨h1,h2⟩:=Ve (l:=l) (τ:=(AM τ τ.zx (AY τ u r).1 []).1) (fun x hx=>h x (mem_cons_of_mem _ hx))
   have h0:=h r mem_cons_self
   refine ⟨fun y hy=>?_,Nat.succ_le_succ h2⟩
   rcases mem_cons.1 hy with rfl|hy
   ·exact AEo h0.1 h0.2
   ·exact h1 y hy
theorem E5 {u:C9}:∀{l:List Rq} {τ:Tr} {i:Nat} {e:Int},(B3 u l τ).2.2=some (i,e)→i<l.length∧0≤e∧e≤110
 |[],_,_,_,h=>by cases h
 |r::l,τ,i,e,h=>by
  rw [Eg] at h
  split at h
  ·have h2:(0,(AY τ u r).2)=(i,e):=Option.some.inj h
   obtain ⟨rfl,rfl⟩:=Prod.mk.inj h2
   have:=Mb τ u r
   exact ⟨by rw [length_cons];omega,this.1,this.2⟩
  ·have h2:Option.map (fun x:Nat×Int=>(x.1+1,x.2)) (B3 u l (AM τ τ.zx (AY τ u r).1 []).1).2.2=some (i,e):=h
   obtain ⟨⟨j,k⟩,h3,h4⟩:=Option.map_eq_some_iff.1 h2
   obtain ⟨rfl,rfl⟩:=Prod.mk.inj h4
   have:=E5 h3
   exact ⟨by rw [length_cons];omega,this.2.1,this.2.2⟩
theorem AG1 {p:HP} {u:C9} {iv:Value} {l:List Rq} {τ:Tr} (h:∀r∈l,E3 p u iv r∧Hf r.acl):ZF (BL τ u l).1∧(∀y∈(BL τ u l).2,ZF y)∧(BL τ u l).2.length≤8:=by
 have hm:Aw (-1):=⟨by decide,by decide⟩
 unfold BL
 split
 ·exact ⟨Mv ⟨by decide,by decide⟩ hm,(fun _ g=>by cases g),by show 0≤8;decide⟩
 ·rename_i hl
  have h8:l.length≤8:=by omega
  obtain ⟨h1,h2⟩:=Ve (τ:=τ) h
  split
  ·rename_i i e he
   have hie:i<8∧0≤e∧e≤110:=by
    have:=E5 he
    omega
   exact ⟨Mv ⟨by omega,by omega⟩ ⟨by omega,by omega⟩,(fun _ g=>by cases g),by show 0≤8;decide⟩
  ·refine ⟨⟨⟨⟨by show (-9223372036854775808:Int)≤7;decide,by show (7:Int)≤9223372036854775807;decide⟩,Aw.zero,Aw.zero,Aw.zero,by show 0<Ds;decide,by show 0<Ds;decide,by show 0<Ds;decide,fun a ha=>by cases ha⟩,CZ.long,Nat.zero_le _,Nat.zero_le _,Nat.zero_le _⟩,h1,by show (B3 u l τ).2.1.length≤8;omega⟩
theorem AJU {τ:Tr} {p:Bs} (hp:p.length≤60):ZF (Cu τ p)∧(HT (Cu τ p)).length≤200:=by
 have hu:Ds=18446744073709551616:=rfl
 have hn:Aw (DB ((A7 τ (AK p)).cver+1)):=wrap_i64 _
 have hR:ZF (Cu τ p):=⟨⟨⟨by show (-9223372036854775808:Int)≤2;decide,by show (2:Int)≤9223372036854775807;decide⟩,Aw.zero,hn,Aw.zero,by show p.length<Ds;omega,by show 0<Ds;decide,by show 0<Ds;decide,fun a ha=>by cases ha⟩,CZ.long,Nat.zero_le _,by show p.length≤_;omega,Nat.zero_le _⟩
 refine ⟨hR,?_⟩
 have h1:=JQ hR.i.kind
 have h2:=CN (u:=p.length) om
 have h5:=JQ hR.i.own
 have h6:=JQ hR.i.num
 have h7:=JQ hR.i.err
 have h8:(Bx (Cu τ p).path).length≤70:=by
  show (Bx p).length≤70
  unfold Bx BW
  rw [length_append];omega
 have h9:(Bx (Cu τ p).data).length≤10:=by
  show (Bx []).length≤10
  simp [Bx,BW,DU]
 have h10:(EA (Cu τ p).acl).length≤10:=by
  show (EA []).length≤10
  simp [EA,BW,DU]
 unfold HT
 simp only [flatMap_cons,flatMap_nil,length_append,length_nil]
 omega
theorem Th:∀{l:List Bs} {τ:Tr},(∀p∈l,p.length≤60)→∀y∈A8 l τ,ZF y∧(HT y).length≤200
 |[],_,_,_,h=>by cases h
 |p::l,τ,h,y,hy=>by
  rcases mem_cons.1 (show y∈Cu τ p::A8 l _ from hy) with rfl|hy
  ·exact AJU (h p mem_cons_self)
  ·exact Th (fun x hx=>h x (mem_cons_of_mem _ hx)) y hy
def AJK (k:Int):Prop:=k=9∨k=10∨k=11∨k=12
instance (k:Int):Decidable (AJK k):=inferInstanceAs (Decidable (_∨_))
theorem RqA.up {a p:HP} {r:Rq} (h:RqA p r):RqA (CP [a,p]) r:=⟨h.kind,h.xid,h.flags,h.ver,h.path,h.data,ZX h.acl,h.many,h.ids,h.sub,h.arm⟩
theorem E3.more {a p:HP} {s:Int} {ids all:List Bs} {iv iv2:Value} {r:Rq} (h:E3 p ⟨s,ids⟩ iv r) (hr:∀h:Hp,a h→CA 1 h iv2 all.length (A1 all)) (hl:all.length≤1048576) (hs:∃a n c,iv2= .slice a n c):E3 (CP [a,p]) ⟨s,all⟩ iv2 r:=⟨h.rq.up,h.ses,AFg hr,hl,hs,h.ashape,h.tab.up⟩
theorem WiD.more {a p:HP} {s:Int} {ids all:List Bs} {iv iv2:Value} {r:Rq} {subs:List Rq} (h:WiD p ⟨s,ids⟩ iv r subs) (hr:∀h:Hp,a h→CA 1 h iv2 all.length (A1 all)) (hl:all.length≤1048576) (hs:∃a n c,iv2= .slice a n c):WiD (CP [a,p]) ⟨s,all⟩ iv2 r subs:=
 ⟨h.w.more hr hl hs,h.a,ZX h.rd,fun x hx=>(h.each x hx).more hr hl hs,h.acls⟩
def zS (s:Ie):Ie:={s with cz:=0,mz:=0,pz:=0}
def zN (n:Nd):Nd:={n with st:=zS n.st}
def zL (l:List PN):List PN:=l.map fun y=>(y.1,zN y.2)
def zT (τ:Tr):Tr:=⟨zL τ.nodes,τ.sess,0⟩
theorem Nh:∀(l:List PN) (p:Bs),AC (zL l) p=(AC l p).map zN
 |[],_=>rfl
 |y::l,p=>by
  show AC ((y.1,zN y.2)::zL l) p=(AC (y::l) p).map zN
  unfold AC
  split
  ·rfl
  ·exact Nh l p
theorem Gu (τ:Tr) (p:Bs):AL (zT τ) p↔AL τ p:=by
 unfold AL
 rw [show AC (zT τ).nodes p=(AC τ.nodes p).map zN from Nh _ _]
 cases AC τ.nodes p<;>simp
theorem ADJ (τ:Tr):AX (zT τ)=AX τ:=by
 unfold AX zT zL
 rw [map_map];rfl
theorem AFN (τ:Tr) (p:Bs):Dv (zT τ) p=Dv τ p:=by
 unfold Dv zT zL
 rw [filter_map,map_map];rfl
theorem ABz (τ:Tr) (s:Int):AG (zT τ) s=AG τ s:=by
 unfold AG zT zL
 rw [filter_map,map_map];rfl
theorem SJ (τ:Tr) (p:Bs):A7 (zT τ) p=zS (A7 τ p):=by
 unfold A7 NP
 rw [show AC (zT τ).nodes p=(AC τ.nodes p).map zN from Nh _ _,AFN]
 cases AC τ.nodes p<;>rfl
theorem AIs (τ:Tr) (p:Bs):KB (zT τ) p=KB τ p:=by
 unfold KB
 rw [show AC (zT τ).nodes p=(AC τ.nodes p).map zN from Nh _ _]
 cases AC τ.nodes p<;>rfl
theorem X8 (τ:Tr) (ids:List Bs) (p:Bs) (k:Int):Ks (zT τ) ids p k↔Ks τ ids p k:=by
 unfold Ks
 rw [Gu,AIs]
theorem GX {a b:Prop} [Decidable a] [Decidable b] (h:a↔b) (e:Int):Ay a e=Ay b e:=by
 by_cases g:a
 ·rw [show Ay a e=e from if_pos g,show Ay b e=e from if_pos (h.1 g)]
 ·rw [show Ay a e=0 from if_neg g,show Ay b e=0 from if_neg (fun k=>g (h.2 k))]
theorem YS (τ:Tr) (r:Rq):Kv (zT τ) r=zS (Kv τ r):=SJ _ _
theorem Yv (τ:Tr) (r:Rq):CE (zT τ) r=CE τ r:=by
 unfold CE
 rw [YS];rfl
theorem ZD (τ:Tr) (u:C9) (r:Rq):AY (zT τ) u r=AY τ u r:=by
 have e1:Aq (zT τ) u r=Aq τ u r:=by
  unfold Aq
  rw [Yv,YS];rfl
 have e2:D8 (zT τ) u r=D8 τ u r:=by
  unfold D8
  rw [Yv,YS,ADJ,ABz,GX (not_congr (Gu τ (AK r.path))),GX (not_congr (X8 τ u.ids (AK r.path) 4)),GX (Gu τ (CE τ r))]
  rfl
 have e3:Ed (zT τ) r=Ed τ r:=by
  unfold Ed
  rw [YS];rfl
 have e4:HM (zT τ) u r=HM τ u r:=by
  unfold HM
  rw [SJ,GX (not_congr (Gu τ r.path)),GX (not_congr (X8 τ u.ids (AK r.path) 8))]
  rfl
 have es:∀k p,DI k (A7 (zT τ) p)=DI k (A7 τ p):=fun k p=>by
  rw [SJ]
  unfold DI
  split<;>rfl
 have e5:GM (zT τ) r=GM τ r:=by
  unfold GM
  rw [es,es]
 have e6:Lw (zT τ) u r=Lw τ u r:=by
  unfold Lw
  rw [es,GX (not_congr (Gu τ r.path)),GX (not_congr (X8 τ u.ids r.path (Qt r.kind)))]
 unfold AY
 rw [e1,e2,e3,e4,e5,e6]
/-! ### Steps -/
theorem ZM:∀(l:List PN) (p:Bs) (n:Nd),zL (sset l p n)=sset (zL l) p (zN n)
 |[],_,_=>rfl
 |y::l,p,n=>by
  show zL (if y.1=p then (p,n)::l else if p<y.1 then (p,n)::y::l else y::sset l p n)=if y.1=p then (p,zN n)::zL l else if p<y.1 then (p,zN n)::(y.1,zN y.2)::zL l else (y.1,zN y.2)::sset (zL l) p (zN n)
  split
  ·rfl
  ·split
   ·rfl
   ·show (y.1,zN y.2)::zL (sset l p n)=_
    rw [ZM l p n]
theorem Sp {l:List PN} {p:Bs} {f g:Nd→Nd} (h:∀n,zN (f n)=g (zN n)):zL (amod l p f)=amod (zL l) p g:=by
 unfold zL amod
 rw [map_map,map_map]
 refine map_congr_left fun y _=>?_
 dsimp only [Function.comp]
 split
 ·rw [h]
 ·rfl
theorem AAn (l:List PN) (f:Bs→Bool):zL (l.filter fun y=>f y.1)=(zL l).filter fun y=>f y.1:=by
 unfold zL
 rw [filter_map];rfl
theorem AEF {τ υ:Tr} (h:zT τ=zT υ) (p:Bs) (num zx zy:Int):zT (G3 τ p num zx)=zT (G3 υ p num zy):=by
 have e:∀(σ:Tr) (z:Int),zT (G3 σ p num z)={zT σ with nodes:=amod (zT σ).nodes p (fun n=>{n with st:={n.st with cver:=num}})}:=fun σ z=>by
  unfold zT G3
  dsimp only
  rw [Sp (g:=fun n=>{n with st:={n.st with cver:=num}}) (fun n=>rfl)]
 rw [e,e,h]
theorem MV {c d:Prop} [Decidable c] [Decidable d] (h:c↔d) {a b a' b':Tr} (h1:c→zT a=zT a') (h2:¬c→zT b=zT b'):zT (if c then a else b)=zT (if d then a' else b'):=by
 by_cases g:c
 ·rw [if_pos g,if_pos (h.1 g)];exact h1 g
 ·rw [if_neg g,if_neg (fun k=>g (h.2 k))];exact h2 g
theorem Iy (τ:Tr) (x:Pt) (zx:Int):(AI τ x zx).1=if x.kind=1 then (if Bm x.path∧AL τ (AK x.path) then G3 {τ with nodes:=sset τ.nodes x.path (EZ x zx)} (AK x.path) x.num zx else τ) else if x.kind=2 then (if Bm x.path then G3 (IR τ x.path) (AK x.path) x.num zx else τ) else if x.kind=3∧AL τ x.path then {τ with nodes:=amod τ.nodes x.path (HQ x.data x.num zx)} else if x.kind=4∧AL τ x.path then {τ with nodes:=amod τ.nodes x.path (Gd x.acl x.num)} else τ:=by
 unfold AI A5 BS
 simp only [apply_ite Prod.fst]
theorem AEP {τ υ:Tr} (h:zT τ=zT υ) (x:Pt) (zx zy:Int):zT (AI τ x zx).1=zT (AI υ x zy).1:=by
 have ht:∀p,AL τ p↔AL υ p:=fun p=>by rw [←Gu τ,h,Gu]
 rw [Iy,Iy]
 refine MV Iff.rfl (fun _=>MV (and_congr_right' (ht _)) (fun _=>AEF ?_ _ _ _ _) (fun _=>h)) (fun _=>MV Iff.rfl (fun _=>MV Iff.rfl (fun _=>AEF ?_ _ _ _ _) (fun _=>h)) (fun _=>MV (and_congr_right' (ht _)) (fun _=>?_) (fun _=>MV (and_congr_right' (ht _)) (fun _=>?_) (fun _=>h))))
 ·have e:∀(σ:Tr) (z:Int),zT {σ with nodes:=sset σ.nodes x.path (EZ x z)}={zT σ with nodes:=sset (zT σ).nodes x.path (zN (EZ x 0))}:=fun σ z=>by
   unfold zT
   dsimp only
   rw [ZM];rfl
  exact (e τ zx).trans (by rw [h];exact (e υ zy).symm)
 ·have e:∀σ:Tr,zT (IR σ x.path)={zT σ with nodes:=(zT σ).nodes.filter fun y=> !B6 y.1 x.path}:=fun σ=>by
   unfold zT IR
   dsimp only
   rw [AAn σ.nodes (fun q=> !B6 q x.path)]
  rw [e,e,h]
 ·have e:∀(σ:Tr) (z:Int),zT {σ with nodes:=amod σ.nodes x.path (HQ x.data x.num z)}={zT σ with nodes:=amod (zT σ).nodes x.path (fun n=>{n with data:=x.data,st:={n.st with ver:=x.num}})}:=fun σ z=>by
   unfold zT
   dsimp only
   rw [Sp (g:=fun n=>{n with data:=x.data,st:={n.st with ver:=x.num}}) (fun n=>rfl)]
  exact (e τ zx).trans (by rw [h];exact (e υ zy).symm)
 ·have e:∀(σ:Tr),zT {σ with nodes:=amod σ.nodes x.path (Gd x.acl x.num)}={zT σ with nodes:=amod (zT σ).nodes x.path (Gd x.acl x.num)}:=fun σ=>by
   unfold zT
   dsimp only
   rw [Sp (g:=Gd x.acl x.num) (fun n=>rfl)]
  exact (e τ).trans (by rw [h];exact (e υ).symm)
theorem AJP (τ:Tr) (z:Int):zT (zxT τ z)=zT τ:=rfl
def MY (x:Pt):Prop:=x.kind≠5∧x.kind≠6∧x.kind≠7∧x.kind≠8
theorem Ow {τ:Tr} {zx:Int} {x:Pt} (h:MY x) (l:List Pt):(AM τ zx x l).1=(AI (zxT τ zx) x zx).1:=by
 obtain ⟨h5,h6,h7,h8⟩:=h
 unfold AM
 dsimp only
 rw [if_neg h5,if_neg h6,if_neg h7,if_neg h8]
theorem Mt {c d:Prop} [Decidable c] [Decidable d] (h:c↔d) (z:Int) {a b a' b':Tr} (h1:a=zxT a' z) (h2:b=zxT b' z):(if c then a else b)=zxT (if d then a' else b') z:=by
 by_cases g:c
 ·rw [if_pos g,if_pos (h.1 g)];exact h1
 ·rw [if_neg g,if_neg (fun k=>g (h.2 k))];exact h2
theorem TS (τ:Tr) (x:Pt) (zx z:Int):(AI (zxT τ z) x zx).1=zxT (AI τ x zx).1 z:=by
 rw [Iy,Iy]
 exact Mt Iff.rfl z (Mt Iff.rfl z rfl rfl) (Mt Iff.rfl z (Mt Iff.rfl z rfl rfl) (Mt Iff.rfl z rfl (Mt Iff.rfl z rfl rfl)))
theorem Qc (τ:Tr) (zx z:Int) (l:List Pt):(AP (zxT τ z) zx l).1=zxT (AP τ zx l).1 z:=by
 unfold AP
 have H:∀(l:List Pt) (σ:Tr) (e e':List Ev),(l.foldl (fun r x=>((AI r.1 x zx).1,r.2++(AI r.1 x zx).2)) (zxT σ z,e)).1=zxT (l.foldl (fun r x=>((AI r.1 x zx).1,r.2++(AI r.1 x zx).2)) (σ,e')).1 z:=by
  intro l
  induction l with
  |nil=>intro σ e e';rfl
  |cons x l ih=>
   intro σ e e'
   rw [foldl_cons,foldl_cons]
   dsimp only
   rw [TS]
   exact ih _ _ _
 exact H l τ [] []
theorem AAG {x:Pt} (h:x.kind=0∨x.kind=1∨x.kind=2∨x.kind=3∨x.kind=4):MY x:=by
 unfold MY;omega
theorem Xk (τ:Tr) (u:C9) (r:Rq):MY (AY τ u r).1:=by
 refine AAG ?_
 unfold AY
 split
 ·exact .inr (.inl rfl)
 split
 ·exact .inr (.inr (.inl rfl))
 split
 ·unfold GM
  split
  ·exact .inr (.inr (.inr (.inl rfl)))
  split
  ·exact .inr (.inr (.inr (.inr rfl)))
  ·exact .inl rfl
 ·exact .inl rfl
section
variable {P:Program} {ops:Array Oper} {n:Nat} {RO:List HP} {H:List Nat} {Fin:EF→List HP→Prop}
variable {j:Nat} {S:List Nat} {E:Bi} {RW:List HP} {op:Op} {ty:TypeId} {pos:String} {aft:Array Edge}
end
section
variable {P:Program} {W:World} {n:Nat} {ds:List Deferred} {E:Bi} {L R:List HP} {Q:Exit→Act→World→Prop}
theorem AO.append1S {t e:TypeId} {ty:TypeId} {x y:Operand} {v:Value} {b n m c sz by':Nat} {xs l:List Value} {T:TypeId} {z:Value} {zl:List Value} {ts:Array TypeId} (hts:ts= #[t,t]) (hx:ev E x=some v) (hy:ev E y=some (.slice (some ⟨b,0,none⟩) m c)) (ht:Au P t=some (e,sz,by'))
  (hz:Ah P e=some z) (hzc:z.cells=zl.toArray) (hzl:zl.length=sz) (hcell:∀y∈l,AB y=true) (hl:l.length=m*sz) (hmc:m≤c) (hb:(n+m)*by'≤140737488355328) (hb0:0<by') (hm:0<m):
  AO P ⟨none, .call {callee:= .builtin .append,args:= #[x,y],argTypes:=ts},ty, "",#[],none⟩ E [At e sz v n xs,AW b l T] fun v' L'=> ∃b' c',v'= .slice (some ⟨b',0,none⟩) (n+m) c'∧L'=[At e sz v' (n+m) (xs++l)]:=by
 intro ρ w F ha hs
 refine (AO.append1 (ty:=ty) hts hx hy ht hz hzc hzl hcell hl hmc hb hb0 ρ w F ha hs).mono ?_
 rintro v' w' ⟨L',⟨⟨a,k,rfl⟩,rfl⟩,hs',hk⟩
 obtain ⟨h1,a1,hp⟩:=Ae hs'
 rcases hp with ⟨h2,h3,-⟩|⟨b',cap,rest,fr,h2,-⟩
 ·omega
 ·simp only [Value.slice.injEq] at h2
  obtain ⟨rfl,-,rfl⟩:=h2
  exact ⟨_,⟨b',k,rfl,rfl⟩,hs',hk⟩
/-! ### Code in a round's frame -/
abbrev FR (l:Nat):Fence:=Fence.wide.inRound l
def G5 (o:Oper):Bool:=match o.op with
 | .defer _=>false
 |_=>true
theorem PB {o:Oper} (h:G5 o=true):∀c,o.op≠ .defer c:=by
 intro c e
 unfold G5 at h
 rw [e] at h
 cases h
theorem Zg {F:Fence} (hF:∀m m',StepsIn (Machine.fenced P F) P m m'↔Steps P m m') {m:Nat} {row:String} {args:Array Value} {w:World} {K:Value→World→Prop} (h:Rows P row args w K):RowsIn F m P row args w K:=
 fun c cs _=>let ⟨v,w',r,s⟩:=h c cs;⟨v,w',r,(hF _ _).2 s⟩
theorem Xd {l m:Nat} {o:Oper} {a:Act} {next next':Act→World→Prop} (hn:∀a w,next a w→next' a w) {r:Result Next} (h:o.upon P a next Q r):o.uponIn (FR l) m P a next' Q r:=by
  cases r with
  |ok nx w'=>
    cases nx<;>first|exact hn _ _ h|exact h.elim|skip
    · refine ⟨(fun hd=>by cases hd),?_⟩
      have h1:CallsIn Fence.wide (m-1) P _ _ w' _:=callsIn_wide.2 h
      have h2:CallsIn (FR l) (m-1) P _ _ w' _:=CallsIn.mono h1 (R':=fun e w''=>match e with
        | .returned v=>next' (a.put o.dst v) w''
        | .panicked chain=>Q (.panic chain) a w''
        | .outgrown=>LetsOut Q) (by
          intro e w'' hq
          cases e
          · exact hn _ _ hq
          · exact hq
          · exact hq)
      exact h2.mono (by intro e w'' hq;cases e<;>exact hq)
    · exact ⟨(fun hd=>by cases hd),RowsIn.mono (Zg (F:=FR l) (fun _ _=>stepsIn_wide) h) (fun v w'' hq=>hn _ _ hq)⟩
  |halt x w'=>cases x<;>first|exact h|exact h.elim
theorem Hv {l m:Nat} {ops:Array Oper} (hQ:¬LetsOut Q) (hnd:∀(i:Nat) (o:Oper),ops[i]?=some o→G5 o=true):∀(idx:List Nat) (a:Act) (w:World),wpOps P ops Q idx a w→wpOpsIn (FR l) m P ops Q idx a w
 |[],_,_,h=>h
 |i::rest,a,w,h=>by
  unfold wpOps at h
  unfold wpOpsIn
  cases ho:ops[i]? with
  |none=>rw [ho] at h;exact Hv hQ hnd rest a w h
  |some o=>
   rw [ho] at h
   dsimp only at h ⊢
   split at h
   ·rename_i hw
    rw [if_pos hw]
    rcases h with h|h
    ·refine ⟨fun _ _=>trivial,?_⟩
     rw [Oper.semAt_eq _ _ _ (PB (hnd _ _ ho))]
     exact Xd (fun a w=>Hv hQ hnd rest a w) h
    ·exact absurd h.2 hQ
   ·rename_i hw
    rw [if_neg hw]
    exact ⟨fun _ _=>trivial,Hv hQ hnd rest _ _ h⟩
theorem NE {os:List Oper} (h:os.all G5=true):∀(i:Nat) (o:Oper),os.toArray[i]?=some o→G5 o=true:=by
 intro i o ho
 rw [List.getElem?_toArray] at ho
 exact all_eq_true.1 h o (mem_of_getElem? ho)
theorem GR.seq {F:Fence} {m:Nat} {x y:Code} (h:G W n ds E L (x.wpIn F m P (Exit.then (y.wpIn F m P Q) Q))):G W n ds E L ((Code.seq x y).wpIn F m P Q):=fun a w he hk hs=>wpIn_seq (h a w he hk hs)
theorem GR.block {F:Fence} {m id:Nat} {c:Code} (h:G W n ds E L (c.wpIn F m P (Exit.inBlock id Q))):G W n ds E L ((Code.block id c).wpIn F m P Q):=fun a w he hk hs=>wpIn_block (h a w he hk hs)
theorem GR.region {l m id:Nat} {os:List Oper} (hQ:¬LetsOut Q) (hnd:os.all G5=true) (h:G W n ds E L (wpList P os.toArray Q os)):G W n ds E L ((Code.region id os.toArray false).wpIn (FR l) m P Q):=by
 intro a w he hk hs
 refine wpIn_region (Hv hQ (NE hnd) _ _ _ ?_)
 rw [range_eq_range',size_toArray,wpOps_eq_wpList os 0 (by simp)]
 exact h a w he hk hs
theorem ACX {id:Nat} {l:List Oper} (H:List Nat) (Ss:List (List Nat))
  (hc:(D2 l.toArray&&US l.toArray.size Ss.flatten&&Mf l.toArray Ss)=true)
  (h:CC P l.toArray n H W ds (Q .normal) Ss (look E) L):G W n ds E L fun a w=>wpAny P .any l.toArray Q l.toArray.size (Array.replicate l.toArray.size false) a {w with drawn:=w.drawn+1}:=by
 intro a w he hk hs
 simp only [Bool.and_eq_true] at hc
 have hp:=hc.1.2
 simp only [US,Bool.and_eq_true,Nat.beq_eq] at hp
 have hlen:Ss.flatten.length=l.toArray.size:=hp.1.1.1
 have hmem:∀i,i∈Ss.flatten↔i<l.toArray.size:=by
  intro i
  constructor
  ·intro hi;have:=all_eq_true.1 hp.1.1.2 i hi;simpa [Nat.blt_eq] using this
  ·intro hi;have:=all_eq_true.1 hp.2 i (mem_range.2 hi);simpa using this
 have hn:Ss.flatten.Nodup:=Vi hp.1.2
 refine CC.sound (H:=H) hc.1.1 Ss hc.2 hn (look E) L _ _ _ _ h om ?_ (by simp) ⟨he.size,he.defers,he.slots⟩ (hk.trans (As.drew w)) hs.drew
 intro i
 rw [hmem]
 simp only [Array.getD_eq_getD_getElem?,Array.getElem?_replicate,size_toArray]
 by_cases hlt:i<l.length<;>simp [hlt]
theorem GR.draw {r m id:Nat} {l:List Oper} (hQ:¬LetsOut Q) (hnd:l.all G5=true) (H:List Nat) (Ss:List (List Nat)) (hm:P.follows .mixedOrders=true)
  (hc:(D2 l.toArray&&US l.toArray.size Ss.flatten&&Mf l.toArray Ss)=true)
  (h:CC P l.toArray n H W ds (Q .normal) Ss (look E) L):G W n ds E L ((Code.region id l.toArray true).wpIn (FR r) m P Q):=by
 intro a w he hk hs
 refine wpIn_region_draw fun t=>Hv hQ (NE hnd) _ _ _ ?_
 simp only [Region.schedule,hm,Bool.true_or,if_true]
 exact wpAny_sound l.toArray.size t _ a _ (ACX (id:=id) H Ss hc h a w he hk hs)
/-! ### C9 is ranged over, and what it calls -/
def yV (l:Nat):Value:= .func (.yield l) #[] #[]
def SI (P:Program) (l:Nat) (args:Array Value) (pre:List HP) (post:Value→List HP→Prop):Prop:=
 ∀(F:List HP) (w:World),St (pre++F) w→∃fn tmps assign body,(Instr.yield l args).run P w= .ok (.round l fn tmps assign body) w∧
  RoundIn Fence.wide 0 P l fn tmps assign body w fun e w'=> ∃v L,post v L∧e= .returned v∧St (L++F) w'∧As w w'
def AHQ (P:Program) (g:Value) (N:Nat) (A:Nat→Array Value) (pre:List HP):Prop:=
 ∃(gf:FuncId) (lb:List Value) (fn:Func) (c:Code),g= .func (.func gf) #[] lb.toArray∧P.funcs[gf]?=some fn∧fn.body=some c∧(fn.name== "runtime.NumGoroutine")=false∧
  ∀(l:Nat) (J:Nat→HP),(∀i,i<N→SI P l (A i) [J i] fun v L=>v= .bool true∧L=[J (i+1)])→Fn P gf (yV l::lb).toArray (J 0::pre) fun _ L=>L=J N::pre
def AKC (J:HP) (F:List HP) (W:World):Exit→Act→World→Prop
 | .normal,_,w=>St (J::F) w∧As W w
 |_,_,_=>False
theorem G.rnd {J:HP} {F:List HP} (hL:A4 [J] L R) (hF:IX F R):G W n ds E L (AKC J F W .normal):=fun _ _ _ hk hs=>⟨hF.st (L:=[J]) (hs.picks hL),hk⟩
theorem St.swap {p q:HP} {w:World} (h:St (p::q::L) w):St (q::p::L) w:=h.perm (List.Perm.swap _ _ _)
theorem EL.par {a:Act} (h:EL n ds E a) {p:Nat} (hp:p<n) (v:Value):EL n ds ((p,v)::E) {a with tmps:=a.tmps.setIfInBounds p v}:=by
 have hd:CL (some p) n=true:=by simpa [CL,Nat.blt_eq] using hp
 have:=h.put hd v
 exact ⟨by simpa using h.size,h.defers,by simpa [Act.put,FL] using this.slots⟩
theorem AKy (p q:Nat) (x y:Value) (t:Array Value):(#[p,q].zip #[x,y]).foldl (fun tmps (t,a)=>tmps.setIfInBounds t a) t=(t.setIfInBounds p x).setIfInBounds q y:=by simp
theorem G.rangeFunc {g:Operand} {p q:Nat} {assign body:Code} {gv:Value} {N:Nat} (A:Nat→Value×Value) (J:Nat→HP) (Ep:Nat→Bi→Bi) {pre:List HP} (hg:ev E g=some gv) (hi:AHQ P gv N (fun i=> #[(A i).1,(A i).2]) pre) (hp:Nat.blt p n=true) (hq:Nat.blt q n=true) (hL:A4 (J 0::pre) L R)
  (hassign:∀(l i:Nat) (F:List HP) (W':World) (X:Act→World→Prop),i<N→G W' n [] (Ep i E) F X→G W' n [] ((q,(A i).2)::(p,(A i).1)::E) F (assign.wpIn (FR l) 0 P (Exit.then X fun _ _ _=>False)))
  (hround:∀(l i:Nat) (F:List HP) (W':World),i<N→G W' n [] (Ep i E) (J i::F) (body.wpIn (FR l) 0 P (AKC (J (i+1)) F W')))
  (hdone:∀D:Nat,G W n (⟨.collected D,#[]⟩::ds) E (J N::pt D (.deferred (some []))::(pre++R)) (Q .normal)):G W n ds E L ((Code.rangeFunc g #[p,q] assign body).wp P Q):=by
 intro a w he hk hs
 refine (wpIn_wide (n:=0)).1 (wpIn_rangeFunc ?_)
 intro fn _
 obtain ⟨gf,lb,gn,c,rfl,hgf,hgb,hgn,hit⟩:=hi
 have hge:a.eval g= .func (.func gf) #[] lb.toArray:=he.agrees _ _ hg
 obtain ⟨rec,hrec⟩:∃rec:LoopState→Option Code→Loop,rec=fun st pe=>{state:=st,pending:=pe,fn,tmps:=a.tmps,params:= #[p,q],assign,body,defers:=w.heap.size}:=⟨_,rfl⟩
 obtain ⟨W1,hW1⟩:∃W1,(w.alloc (.deferred (some []))).alloc (.loop (rec .ready none))=W1:=⟨_,rfl⟩
 have hs0:St (pt w.heap.size (.deferred (some []))::L) (w.alloc (.deferred (some []))):=hs.new _
 have hs1:St (pt (w.heap.size+1) (.loop (rec .ready none))::pt w.heap.size (.deferred (some []))::L) W1:=by
  rw [←hW1]
  have:=hs0.new (.loop (rec .ready none))
  rwa [show (w.alloc (.deferred (some []))).heap.size=w.heap.size+1 by simp] at this
 have hk1:As w W1:=by rw [←hW1];exact (As.new w _).trans (As.new _ _)
 refine ⟨w.heap.size+1,[{target:= .collected w.heap.size,args:= #[]}],W1,{target:= .fn (.func gf) lb.toArray,args:= #[yV (w.heap.size+1)]},W1,gf,#[yV (w.heap.size+1)]++lb.toArray,W1,?_,?_,fun _ _=>trivial,?_,(fun h=>by cases h),?_⟩
 ·rw [←hW1,hrec];exact run_enterLoop_outer _ _ _ _ _
 ·simp only [resolve,hge]
  simp [Deferred.ofValue,Bind.bind,Sem.bind,Pure.pure,Sem.run,yV,Act.eval]
 ·have hgn':¬gn.name= "runtime.NumGoroutine" :=by simpa using hgn
  simp [invoke,callFunc,program,Bind.bind,Sem.bind,Pure.pure,Sem.run,hgf,hgb,hgn']
 ·refine callsIn_wide.2 ?_
  obtain ⟨J',hJ'⟩:∃J':Nat→HP,J'=fun i=>CP [J i,pt (w.heap.size+1) (.loop (rec .ready none)),pt w.heap.size (.deferred (some []))]:=⟨_,rfl⟩
  have hs2:St ((J' 0::pre)++R) W1:=by
   have h2:=hs1.perm (List.Perm.cons _ (List.Perm.cons _ hL.perm))
   rw [hJ']
   exact Gq (L1:=[J 0,_,_]) (DG ((List.Perm.cons _ (List.Perm.swap _ _ _)).trans (List.Perm.swap _ _ _)) h2)
  have hy:∀i,i<N→SI P (w.heap.size+1) #[(A i).1,(A i).2] [J' i] fun v L=>v= .bool true∧L=[J' (i+1)]:=by
   intro i hiN F w2 hw2
   rw [hJ'] at hw2
   have hw3:St (J i::pt (w.heap.size+1) (.loop (rec .ready none))::pt w.heap.size (.deferred (some []))::F) w2:=Eu (L1:=[J i,_,_]) hw2
   have hl:=hw3.swap.pt
   have hyr:=run_yield (P:=P) (args:= #[(A i).1,(A i).2]) hl (by rw [hrec];rfl)
   rw [hrec] at hyr
   have h0:EL n [] E {tmps:=a.tmps,defers:=[]}:=⟨he.size,rfl,he.slots⟩
   have h1:=(h0.par (by simpa [Nat.blt_eq] using hp) (A i).1).par (by simpa [Nat.blt_eq] using hq) (A i).2
   refine ⟨fn,_,assign,body,hyr,roundIn_of_wpIn (F:=Fence.wide) trivial (hassign (w.heap.size+1) i _ w2 _ hiN ?_ _ _ (by simpa only [AKy] using h1) (As.refl _) hw3)⟩
   intro a2 wb he2 hkb hwb
   have hlb:=hwb.swap.pt
   refine ⟨_,run_beginRound hlb (by rw [hrec]),?_⟩
   have hw4:St (J i::pt (w.heap.size+1) (.loop {rec .ready none with state:= .busy})::pt w.heap.size (.deferred (some []))::F) (wb.putObj (w.heap.size+1) (.loop {rec .ready none with state:= .busy})):=(St.set hwb.swap).swap
   refine wpIn_mono (hround (w.heap.size+1) i _ _ hiN _ _ he2 (As.refl _) hw4) ?_
   ·rintro e a3 w3 hp3
    cases e with
    |normal=>
     obtain ⟨hw5,hk5⟩:=hp3
     have hl5:=hw5.swap.pt
     have hend:=run_endRound (P:=P) none hl5
     refine ⟨_,_,hend, .bool true,[J' (i+1)],⟨rfl,rfl⟩,rfl,?_,(hkb.trans ((As.set _ _ _).trans hk5)).trans (As.set _ _ _)⟩
     rw [hJ']
     refine Gq (L1:=[J (i+1),_,_]) ?_
     have h6:=(St.set (o':= .loop (rec .ready none)) hw5.swap).swap
     rw [hrec] at h6 ⊢
     exact h6
    |_=>exact hp3.elim
  have ea: #[yV (w.heap.size+1)]++lb.toArray=(yV (w.heap.size+1)::lb).toArray:=by simp
  rw [ea]
  refine (hit (w.heap.size+1) J' hy R W1 hs2).mono ?_
  rintro e w2 ⟨v,L',hL',rfl,hw2,hk2⟩
  subst hL'
  rw [hJ'] at hw2
  have hw3:St (J N::pt (w.heap.size+1) (.loop (rec .ready none))::pt w.heap.size (.deferred (some []))::(pre++R)) w2:=Eu (L1:=[J N,_,_]) hw2
  have hl:=hw3.swap.pt
  have hend:=run_endLoop (P:=P) hl (by rw [hrec];simp)
  rw [hrec] at hend
  refine ⟨none,_,hend,?_⟩
  refine hdone w.heap.size _ _ ⟨he.size,by show _::a.defers=_;rw [he.defers],he.slots⟩ ((hk.trans hk1).trans (hk2.trans (As.set _ _ _))) ?_
  exact (St.set hw3.swap).tail
/-! ### A function that holds one -/
def AJk (P:Program) (fn:Func) (post:Value→List HP→Prop) (F:List HP) (W:World):Exit→Act→World→Prop:=
 bodyPostM Fence.wide 0 P fn fun e w'=> ∃v L,post v L∧e= .returned v∧St (L++F) w'∧As W w'
theorem Fn.introM {f:FuncId} {fn:Func} {c:Code} {vs:List Value} {pre:List HP} {post:Value→List HP→Prop} {n:Nat}
    (hf:P.funcs[f]?=some fn) (hb:fn.body=some c) (hn:vs.length+(fn.ntmps-vs.length)=n)
    (h:∀F W,G W n [] (W0 0 vs) (pre++F) (c.wp P (AJk P fn post F W))):Fn P f vs.toArray pre post:=by
  intro F w hs
  refine (callsIn_wide (n:=0)).1 (callsIn_of_wp_marks hf hb trivial (wpIn_wide.2 (h F w _ w ⟨?_,Y,fun t v hl=>?_⟩ (.refl w) hs)) Y)
  · simp [←hn]
  obtain ⟨-,h2⟩:=Js _ _ _ _ hl
  have hlt:t<vs.length:=by
    rcases Nat.lt_or_ge t vs.length with h|h
    · exact h
    simp [List.getElem?_eq_none h] at h2
  simp only [Nat.sub_zero] at h2
  rw [List.getElem?_eq_getElem hlt] at h2
  simp only [Option.some.injEq] at h2
  simp [Array.getElem?_append,hlt,h2]
theorem G.doneM1 {fn:Func} {post:Value→List HP→Prop} {F:List HP} {L1 L':List HP} {v:Value} {r:ResultVar} {D:Nat} (hl:fn.results= #[r]) (hD:BJ (pt D (.deferred (some []))) L L1) (hr:KC P E L1 r v) (hp:post v L') (hL:A4 L' L1 R) (hF:IX F R):
  G W n [⟨.collected D,#[]⟩] E L (AJk P fn post F W .ret):=by
 intro a w he hk hs
 show LeavesInM Fence.wide 0 P fn a.tmps _ a.defers .returning w
 rw [he.defers]
 have hs1:=hs.pick hD
 refine ⟨by simp, .inl ⟨D,_,rfl,run_takeDeferred hs1.pt,?_⟩⟩
 have hs2:=(St.set (o':= .deferred none) hs1).tail
 exact ⟨v,Q2 hl (hr _ _ he.slots hs2),v,L',hp,rfl,hF.st (hs2.picks hL),hk.trans (As.set _ _ _)⟩
/-! ### C9 calls it -/
theorem GY.region {id:Nat} {os:List Oper} (h:G W n ds E L (wpListIn Fence.wide 0 P os.toArray Q os)):G W n ds E L ((Code.region id os.toArray false).wp P Q):=
 fun a w he hk hs=>(wpIn_wide (n:=0)).1 (wpIn_region_list (by simpa using h a w he hk hs))
theorem GY.nil {ops:Array Oper} (h:G W n ds E L (Q .normal)):G W n ds E L (wpListIn Fence.wide 0 P ops Q []):=h
theorem GY.q {ops:Array Oper} {d:Nat} {op:Op} {ty:TypeId} {pos:String} {aft:Array Edge} {rest:List Oper} {v:Value} (hnd:G5 ⟨some d,op,ty,pos,aft,none⟩=true)
  (hp:AE P ⟨none,op,ty, "",#[],none⟩ E L v) (hd:Nat.blt d n=true)
  (h:G W n ds ((d,v)::E) L (wpListIn Fence.wide 0 P ops Q rest)):G W n ds E L (wpListIn Fence.wide 0 P ops Q (⟨some d,op,ty,pos,aft,none⟩::rest)):=by
 intro a w he hk hs
 unfold wpListIn
 rw [if_pos (by simp [Region.wanted])]
 refine ⟨fun _ _=>trivial,?_⟩
 rw [Oper.semAt_eq _ _ _ (PB hnd)]
 have:=hp a.eval w he.agrees hs
 rw [show execOp a.eval ⟨some d,op,ty,pos,aft,none⟩=execOp a.eval ⟨none,op,ty, "",#[],none⟩ from rfl,this]
 exact h _ _ (he.put (dst:=some d) hd _) hk hs
theorem GY.yield {ops:Array Oper} {d l:Nat} {x:Operand} {xs:Array Operand} {ts:Array TypeId} {ty:TypeId} {pos:String} {aft:Array Edge} {rest:List Oper} {vs:List Value} {pre F:List HP} {post:Value→List HP→Prop}
  (hv:ev E x=some (yV l)) (hx:xs.toList.map (ev E)=vs.map some) (hy:SI P l vs.toArray pre post) (hL:A4 pre L F) (hd:Nat.blt d n=true)
  (h:∀v L',post v L'→G W n ds ((d,v)::E) (L'++F) (wpListIn Fence.wide 0 P ops Q rest)):G W n ds E L (wpListIn Fence.wide 0 P ops Q (⟨some d, .call {callee:= .value x,args:=xs,argTypes:=ts},ty,pos,aft,none⟩::rest)):=by
 intro a w he hk hs
 unfold wpListIn
 rw [if_pos (by simp [Region.wanted])]
 refine ⟨fun _ _=>trivial,?_⟩
 rw [Oper.semAt_eq _ _ _ (fun c e=>by cases e)]
 obtain ⟨fn,tmps,assign,body,hyr,hr⟩:=hy F w (hs.picks hL)
 have hvs:xs.map a.eval=vs.toArray:=by
  apply Array.ext'
  rw [Array.toList_map]
  exact IK he.agrees _ _ hx
 have hxv:a.eval x= .func (.yield l) #[] #[]:=he.agrees _ _ hv
 have hrun:(execOp a.eval ⟨some d, .call {callee:= .value x,args:=xs,argTypes:=ts},ty,pos,aft,none⟩).run P w= .ok (.round l fn tmps assign body) w:=by
  have e:(execOp a.eval ⟨some d, .call {callee:= .value x,args:=xs,argTypes:=ts},ty,pos,aft,none⟩).run P w=(Instr.yield l vs.toArray).run P w:=by
   simp [execOp,resolve,hxv,Deferred.ofValue,invoke,Bind.bind,Sem.bind,Pure.pure,Sem.run,hvs]
  rw [e];exact hyr
 rw [hrun]
 refine ⟨(fun hd=>by cases hd),hr.mono ?_⟩
 rintro e w' ⟨v,L',hv',rfl,hs',hk'⟩
 exact h v L' hv' _ _ (he.put (dst:=some d) hd _) (hk.trans hk') hs'
end
theorem Zz (a:Option Addr) (n c:Nat):Fn prog 174 #[.slice a n c] [] fun v L=> ∃b,v= .func (.func 224) #[] [AD b].toArray∧L=[AW b [.slice a n c] 63]:=by
 refine Fn.intro func174 Y Y fun F W=>?_
 refine .sr (.oq (.box Y) ?_)
 rintro v L' ⟨b,rfl,rfl⟩
 refine Z ?_
 refine .q (.func (us:=[]) (vs:=[_]) Y Y) Y (Z ?_)
 exact .dn Y Y ⟨b,Y,Y⟩
theorem AGa {xs:List Bs} {k:Nat} (hk:k<xs.length):(A1 xs)[((xs.length:Int)-1-k).toNat*1]?=some (AF (xs.reverse.getD k [])):=by
 have e:((xs.length:Int)-1-k).toNat*1=xs.length-1-k:=by omega
 rw [e,List.getElem?_map,←List.getElem?_reverse hk,getD_eq_getElem?_getD]
 rw [List.getElem?_eq_getElem (by simpa using hk)]
 rfl
theorem Ws (va:Value) (xs:List Bs) (b:Nat) (q:HP) (hq:∀h:Hp,q h→CA 1 h va xs.length (A1 xs)) (hl:xs.length≤1099511627776) (l:Nat) (J:Nat→HP) (hY:∀i,i<xs.length→SI prog l (#[AA ((xs.length:Int)-1-(i:Nat)),AF (xs.reverse.getD i [])]) [J i] fun v L=>v= .bool true∧L=[J (i+1)]):Fn prog 224 #[yV l,AD b] [J 0,AW b [va] 63,q] fun _ L=>L=[J xs.length,AW b [va] 63,q]:=by
 refine Fn.intro func224 Y Y fun F W=>?_
 refine .rdAny (p:=q) hq O fun aa ca ee _=>?_
 subst ee
 have hJ:∀i j:Nat,i=j→J i=J j:=fun i j e=>by rw [e]
 refine .sr (.u (.ld Y ACb) (.q (.slen Y underlying63 Y) Y (.q (.to (v':=AA ((xs.length:Int)-1-((0:Nat):Int))) (.sub Y Y om) (by congr 1;omega)) Y (.an Y (.block (.loopK (ι:=Nat) (fun q E=>(3,AA ((xs.length:Int)-1-q))::E) (fun q=>[J q]) (fun q=>q≤xs.length) (fun q=>xs.length-q) (0) (ts:=[0,1]) O (Nat.zero_le _) O O ?_))))))
 rintro k hk
 refine .seq (.sm Y (.ui Y Y Y (.nt (.condD Y (fun h8=>?_) (fun h8=>?_)))))
 ·have hkl:k<xs.length:=by omega
  refine .rdShape (p:=q) hq O om fun ba oa e=>?_
  subst e
  refine .sk (.seq (.block (.seq (GY.region (GY.q Y (.move Y) Y (GY.q Y (.move Y) Y (GY.q Y (.ld Y ACb) Y (GY.q Y (.move Y) Y (GY.q Y (.indexAddr Y Y Br om) Y (GY.q Y (.loadEl (p:=q) (i:=((xs.length:Int)-1-k).toNat*1) (v:=AF (xs.reverse.getD k [])) Y HL O hq (AGa hkl)) Y (GY.yield (vs:=[_,_]) Y Y (hY k hkl) O Y ?_)))))))))))
  rintro v L' ⟨rfl,rfl⟩
  refine GY.q Y (.not Y) Y (GY.nil (.then_n (.condF Y (.skip (.blk_n (.then_n (.region (.m Y (.q (.to (v':=AA ((xs.length:Int)-1-((k+1:Nat):Int))) (.sub Y Y om) (by congr 1;omega)) Y (.an Y ?_))))))))))
  exact .rk (k+1) om om O
 have hkl:k=xs.length:=by omega
 subst hkl
 refine .exit (.then_e (.then_e (.blk_e (.done_n ?_))))
 exact .dn Y Y Y
theorem AAZ (va:Value) (xs:List Bs) (b:Nat) (q:HP) (hq:∀h:Hp,q h→CA 1 h va xs.length (A1 xs)) (hl:xs.length≤1099511627776):AHQ prog (.func (.func 224) #[] [AD b].toArray) xs.length (fun i=> #[AA ((xs.length:Int)-1-(i:Nat)),AF (xs.reverse.getD i [])]) [AW b [va] 63,q]:=
 ⟨_,[AD b],_,_,rfl,func224,rfl,rfl,fun l J hY=>Ws va xs b q hq hl l J hY⟩
theorem Rj (t:Nat) (τ:Tr) (u:C9) (iv:Value) (r:Rq) (p:HP) (hA:E3 p u iv r) (N:Nat) (ho:τ.Ok N) (hN:N≤1099511627776) (hN2:N+N≤1099511627776):Fn prog 124 #[.agg (Cp t u iv r).toArray] [AV t τ,p] fun v L=>
    ∃(w:Value) (ys:List Pt),v= .agg (A0 ((DY τ u.ses).1.ws w)).toArray∧ys.map Pt.pl=(DY τ u.ses).2∧(∃a c,w= .slice a ys.length c)∧(∀y∈ys,AB y.aclV=true∧y.subsV=AR)∧L=[AV t τ,p,At 38 8 w ys.length (ys.flatMap A0),Am aclR ys]:=by
 refine Fn.introM (vs:=[.agg (Cp t u iv r).toArray]) func124 Y Y ?_
 intro F W
 refine .add (p:=AAz) ZU ?_
 have hlr:(AG τ u.ses).reverse.length=(AG τ u.ses).length:=length_reverse
 refine .sr (.oq (.box Y) ?_)
 rintro v L' ⟨b1,rfl,rfl⟩
 refine .oq (.allocA BM) ?_
 rintro v L' ⟨bx,rfl,rfl⟩
 refine .nil (.pc b1 (Cp t u iv r) ?_)
 refine .then_n (.sr (.fa Y ABv (.u (.ld Y Ih) (.oq (.c func173 [_] (Lh t τ N ho hN)) ?_))))
 rintro v L' ⟨c,rfl,rfl⟩
 refine .oq (.alloc AJv) ?_
 rintro v L' ⟨b3,rfl,rfl⟩
 refine .st Y Y Y AJb ?_
 refine .nt (.sr (.fa Y Vu (.u (.ld Y CT) (.q (.build (us:=[(0,_),(4,_)]) FV BM Y Y (by simp [AB])) Y (.oq (.allocA BM) ?_)))))
 rintro v L' ⟨b4,rfl,rfl⟩
 refine .sa Y Y BO (by (first|(simp [AB];done)|(simp [AB,AQ,Value.cells];done))) ?_
 refine .nil (.pc b4 (Fh u.ses (AR)) ?_)
 refine .then_n (.seq (.sr (.u (.ld Y Ih) (.fa Y Vu (.u (.ld Y CT) (.oq (.c func175 [_,_] (Lf c τ u.ses N ho hN)) ?_))))))
 rintro v L' ⟨⟨ao,co,rfl⟩,rfl⟩
 refine .oq (.c func174 [_] (Zz _ _ _)) ?_
 rintro v L' ⟨bb,rfl,rfl⟩
 refine .nt (.block (.add (AU 38 8) (.fold (p:=UI (AW b3 [AD c] 44) c b4 τ u.ses (AG τ u.ses).reverse 0) (q:=[AW b3 [AD c] 44,AV c τ,AW b4 (Fh u.ses AR) 38,At 38 8 AR 0 []]) O (fun h hp=>⟨AR,⟨none,0,Y⟩,hp⟩) (.rangeFunc (fun i=>(AA (((AG τ u.ses).length:Int)-1-(i:Nat)),AF ((AG τ u.ses).reverse.getD i []))) (fun i=>UI (AW b3 [AD c] 44) c b4 τ u.ses (AG τ u.ses).reverse i) (fun i E=>(6,AF ((AG τ u.ses).reverse.getD i []))::(22,AF ((AG τ u.ses).reverse.getD i []))::(21,AA (((AG τ u.ses).length:Int)-1-(i:Nat)))::E) (pre:=[AW bb [.slice ao (AG τ u.ses).length co] 63,At 9 1 (.slice ao (AG τ u.ses).length co) (AG τ u.ses).length (A1 (AG τ u.ses))]) (N:=(AG τ u.ses).length) Y (AAZ _ _ bb _ (fun _ hp=>Ad hp) (by have:=Fb τ u.ses;have:=ho.few;omega)) Y Y O (fun lr i F2 W2 X hi hX=>?_) (fun lr i F2 W2 hi=>?_) (fun D=>?_)))))
 ·refine GR.region (by rintro ⟨_,_,h⟩;exact h) Y (.a Y (.nil ?_))
  exact .then_n hX
 ·have hi2:i<(AG τ u.ses).reverse.length:=by rw [hlr];exact hi
  have hget:(AG τ u.ses).reverse.getD i []=(AG τ u.ses).reverse[i]:=by rw [getD_eq_getElem?_getD,List.getElem?_eq_getElem hi2];rfl
  rw [hget]
  have hshort:((AG τ u.ses).reverse[i]).length≤60:=Iz ho (mem_reverse.1 (getElem_mem hi2))
  have hok:(Ai ((AG τ u.ses).reverse.take i) τ).Ok (N+N):=(Qg ((AG τ u.ses).reverse.take i) ho).more (by rw [length_take];have:=Fb τ u.ses;have:=ho.few;omega)
  refine .open (q:=fun z:Value=>[AW b3 [AD c] 44,AV c (Ai ((AG τ u.ses).reverse.take i) τ),AW b4 (Fh u.ses z) 38,At 38 8 z i ((A8 ((AG τ u.ses).reverse.take i) τ).flatMap A0)]) (φ:=fun z:Value=> ∃a k,z= .slice a i k) (fun _ hp=>hp) ?_
  rintro z ⟨az,cz,rfl⟩
  refine .add (p:=AAz) ZU (GR.block (GR.seq (GR.draw (by rintro ⟨_,_,h⟩;exact h) Y [2,3,7,8] [[0,1,2,3,4,5,6,7,8],[9]] mixed kQ (.go [AW b3 _ _] O (.k Y (.ld Y Ih) (.k Y (.move Y) (.h2 (k:=7) Y Y kQ Y (.c func176 [_] (Dl ((AG τ u.ses).reverse[i]) om)) O (.allocA FU) O ?_ ?_)))))))
  ·rintro v L' ⟨rfl,rfl⟩
   refine D.h2 (k:=7) Y Y kQ Y (.c func171 [_,_] (CG c (Ai ((AG τ u.ses).reverse.take i) τ) (AK ((AG τ u.ses).reverse[i])) (N+N) hok hN2)) O (.allocA FU) O ?_ ?_
   ·rintro v L' ⟨rfl,rfl⟩
    refine D.k Y (.move Y) (.k Y (.extract Y Y) (.k Y (.extract Y Y) (.hh Y (.allocA FU) ?_)))
    rintro v L' ⟨b7,rfl,rfl⟩
    refine D.sa Y Y Y FW (by intro v hv;simp only [Ca,mem_cons,not_mem_nil,or_false] at hv;rcases hv with rfl|rfl|rfl|rfl|rfl|rfl|rfl|rfl|rfl<;>rfl) ?_
    refine D.ph (.g0 (.kv Y (.assign Y) (.ph (.fin (.pc b7 (Ca (A7 (Ai ((AG τ u.ses).reverse.take i) τ) (AK ((AG τ u.ses).reverse[i])))) ?_)))))
    refine .then_n (GR.seq (GR.region (by rintro ⟨_,_,h⟩;exact h) Y (.m Y (.fa Y SR (.u (.ld Y CT) (.u (.addW Y Y) (.q (.build (us:=[(0,_),(1,_),(5,_)]) FV BM Y Y (by simp [AB])) Y (.oq (.allocA BM) ?_))))))))
    rintro v L' ⟨b9,rfl,rfl⟩
    refine .sa Y Y BO (by (first|(simp [AB];done)|(simp [AB,AQ,Value.cells];done))) ?_
    refine .nil (.pc b9 (A0 (Cu (Ai ((AG τ u.ses).reverse.take i) τ) (AG τ u.ses).reverse[i])) ?_)
    refine .then_n (GR.seq (GR.draw (by rintro ⟨_,_,h⟩;exact h) Y [2,5] [[0,1,3,2,4],[5]] mixed kQ (.go [AW b3 _ _,AW b9 _ _] O (.k Y (.ld Y Ih) (.kv Y (.ld Y Ih) (.k Y (.to (v':= .agg (A0 (Cu (Ai ((AG τ u.ses).reverse.take i) τ) (AG τ u.ses).reverse[i])).toArray) (.loadA Y A3 O (by simp [A0])) (by rfl)) (.hh Y (.c func52 [_] (Dm c (Ai ((AG τ u.ses).reverse.take i) τ))) ?_)))))))
    rintro v L' ⟨rfl,rfl⟩
    refine D.kv Y (.buildN (pl:=[(0,1),(1,1),(2,1),(3,8)]) (us:=[(0,AA (Ai ((AG τ u.ses).reverse.take i) τ).zx),(3, .agg (A0 (Cu (Ai ((AG τ u.ses).reverse.take i) τ) (AG τ u.ses).reverse[i])).toArray)]) (cells:=[AA (Ai ((AG τ u.ses).reverse.take i) τ).zx,AA 0,AA 0]++A0 (Cu (Ai ((AG τ u.ses).reverse.take i) τ) (AG τ u.ses).reverse[i])) underlying40 kQ Cq Y (Hz _ _ _ _ _ _ _ _ _)) (.ph (.g0 (.hh Y (.call func30 Y Y (vs:=[_,_]) Y (C2 c (Ai ((AG τ u.ses).reverse.take i) τ) (Ai ((AG τ u.ses).reverse.take i) τ).zx 0 0 (Cu (Ai ((AG τ u.ses).reverse.take i) τ) (AG τ u.ses).reverse[i]) [] AAz (YL _ om) (N+N) hok (by show N+N+0≤_;omega))) ?_)))
    rintro v L' ⟨ue,ee,rfl,-,⟨ae,ce,rfl⟩,rfl⟩;rw [←JV hi2 τ]
    refine D.pf (GR.draw (by rintro ⟨_,_,h⟩;exact h) Y [4,5,7,9] [[0,1,2,3,4],[5],[6,8,7,9]] mixed kQ (.go [AW b9 _ _,AW b4 _ _] O (.k Y (.fieldAddr Y Fs) (.k Y (.ld Y O6) (.k Y (.to (v':= .agg (A0 (Cu (Ai ((AG τ u.ses).reverse.take i) τ) (AG τ u.ses).reverse[i])).toArray) (.loadA Y A3 O (by simp [A0])) (by rfl)) (.k Y (.slen Y underlying36 Y) (.hh Y (.buildSlice (vs:=[_]) FQ BM Y Y Y Y cQ dQ) ?_)))))))
    rintro v L' ⟨b10,rfl,rfl⟩
    refine D.ph (.g0 (.hh Y (.append1S Y Y Y FQ BM Y Y ?c75 ?c76 (Nat.le_refl _) ?c77 dQ dQ) ?_))
    case c75=>simp only [map_cons,map_nil,flatten_cons,flatten_nil,append_nil];simp only [Value.cells];intro z hz;simp at hz;rcases hz with rfl|rfl|rfl|rfl|rfl|rfl|rfl|rfl<;>rfl
    case c76=>rfl
    case c77=>have:=Fb τ u.ses;have:=ho.few;omega
    rintro v L' ⟨a8,c8,rfl,rfl⟩
    refine D.ph (.g0 (.k Y (.indexAddr Y Y FQ om) (.k Y (.fieldAddr Y Fs) (.h2 (k:=9) Y Y kQ Y (.storeRdA (sz:=8) (j:=i*8) (k:=8) (vs:=A0 (Cu (Ai ((AG τ u.ses).reverse.take i) τ) (AG τ u.ses).reverse[i])) Y Y (B9 Y Y) BO Y ?ho82 ?hi83) O (.store Y Y Y QI ?c84 (Bd _ _)) O ?_ ?_))))
    case ho82=>simp
    case hi83=>omega
    case c84=>simp [Fh]
    ·rintro v L' rfl
     refine D.hh Y (.store Y Y Y QI ?c88 (Bd _ _)) ?_
     case c88=>simp [Fh]
     rintro v L' rfl
     refine D.ph (.fin (.slCast (T:=38) (sz:=8) (m':=i+1) (xs':=(A8 ((AG τ u.ses).reverse.take (i+1)) τ).flatMap A0) O (by exact rfl) (by rw [Eo hi2 τ,flatMap_append];exact Ju (by rw [GS,C8,length_take,Nat.min_eq_left (Nat.le_of_lt hi2)]) rfl) (.pc b4 (Fh u.ses (.slice (some ⟨a8,0,none⟩) (i+1) c8)) ?_)))
     refine .blk_n (.fold (p:=UI (AW b3 [AD c] 44) c b4 τ u.ses (AG τ u.ses).reverse (i+1)) (q:=[AW b3 [AD c] 44,AV c (Ai ((AG τ u.ses).reverse.take (i+1)) τ),AW b4 (Fh u.ses (.slice (some ⟨a8,0,none⟩) (i+1) c8)) 38,At 38 8 (.slice (some ⟨a8,0,none⟩) (i+1) c8) (i+1) ((A8 ((AG τ u.ses).reverse.take (i+1)) τ).flatMap A0)]) O (fun h hp=>⟨_,⟨_,_,Y⟩,hp⟩) ?_)
     exact .rnd O O
    rintro v L' rfl
    refine D.hh Y (.storeRdA (sz:=8) (j:=i*8) (k:=8) (vs:=A0 (Cu (Ai ((AG τ u.ses).reverse.take i) τ) (AG τ u.ses).reverse[i])) Y Y (B9 Y Y) BO Y ?ho91 ?hi92) ?_
    case ho91=>simp
    case hi92=>omega
    rintro v L' rfl
    refine D.ph (.fin (.slCast (T:=38) (sz:=8) (m':=i+1) (xs':=(A8 ((AG τ u.ses).reverse.take (i+1)) τ).flatMap A0) O (by exact rfl) (by rw [Eo hi2 τ,flatMap_append];exact Ju (by rw [GS,C8,length_take,Nat.min_eq_left (Nat.le_of_lt hi2)]) rfl) (.pc b4 (Fh u.ses (.slice (some ⟨a8,0,none⟩) (i+1) c8)) ?_)))
    refine .blk_n (.fold (p:=UI (AW b3 [AD c] 44) c b4 τ u.ses (AG τ u.ses).reverse (i+1)) (q:=[AW b3 [AD c] 44,AV c (Ai ((AG τ u.ses).reverse.take (i+1)) τ),AW b4 (Fh u.ses (.slice (some ⟨a8,0,none⟩) (i+1) c8)) 38,At 38 8 (.slice (some ⟨a8,0,none⟩) (i+1) c8) (i+1) ((A8 ((AG τ u.ses).reverse.take (i+1)) τ).flatMap A0)]) O (fun h hp=>⟨_,⟨_,_,Y⟩,hp⟩) ?_)
    exact .rnd O O
   rintro v L' ⟨b7,rfl,rfl⟩
   refine D.hh Y (.c func171 [_,_] (CG c (Ai ((AG τ u.ses).reverse.take i) τ) (AK ((AG τ u.ses).reverse[i])) (N+N) hok hN2)) ?_
   rintro v L' ⟨rfl,rfl⟩
   refine D.mv Y Y (.kv Y (.extract Y Y) (.k Y (.extract Y Y) (.sa Y Y Y FW (by intro v hv;simp only [Ca,mem_cons,not_mem_nil,or_false] at hv;rcases hv with rfl|rfl|rfl|rfl|rfl|rfl|rfl|rfl|rfl<;>rfl) ?_)))
   refine D.ph (.g0 (.kv Y (.assign Y) (.ph (.fin (.pc b7 (Ca (A7 (Ai ((AG τ u.ses).reverse.take i) τ) (AK ((AG τ u.ses).reverse[i])))) ?_)))))
   refine .then_n (GR.seq (GR.region (by rintro ⟨_,_,h⟩;exact h) Y (.m Y (.fa Y SR (.u (.ld Y CT) (.u (.addW Y Y) (.q (.build (us:=[(0,_),(1,_),(5,_)]) FV BM Y Y (by simp [AB])) Y (.oq (.allocA BM) ?_))))))))
   rintro v L' ⟨b9,rfl,rfl⟩
   refine .sa Y Y BO (by (first|(simp [AB];done)|(simp [AB,AQ,Value.cells];done))) ?_
   refine .nil (.pc b9 (A0 (Cu (Ai ((AG τ u.ses).reverse.take i) τ) (AG τ u.ses).reverse[i])) ?_)
   refine .then_n (GR.seq (GR.draw (by rintro ⟨_,_,h⟩;exact h) Y [2,5] [[0,1,3,2,4],[5]] mixed kQ (.go [AW b3 _ _,AW b9 _ _] O (.k Y (.ld Y Ih) (.kv Y (.ld Y Ih) (.k Y (.to (v':= .agg (A0 (Cu (Ai ((AG τ u.ses).reverse.take i) τ) (AG τ u.ses).reverse[i])).toArray) (.loadA Y A3 O (by simp [A0])) (by rfl)) (.hh Y (.c func52 [_] (Dm c (Ai ((AG τ u.ses).reverse.take i) τ))) ?_)))))))
   rintro v L' ⟨rfl,rfl⟩
   refine D.kv Y (.buildN (pl:=[(0,1),(1,1),(2,1),(3,8)]) (us:=[(0,AA (Ai ((AG τ u.ses).reverse.take i) τ).zx),(3, .agg (A0 (Cu (Ai ((AG τ u.ses).reverse.take i) τ) (AG τ u.ses).reverse[i])).toArray)]) (cells:=[AA (Ai ((AG τ u.ses).reverse.take i) τ).zx,AA 0,AA 0]++A0 (Cu (Ai ((AG τ u.ses).reverse.take i) τ) (AG τ u.ses).reverse[i])) underlying40 kQ Cq Y (Hz _ _ _ _ _ _ _ _ _)) (.ph (.g0 (.hh Y (.call func30 Y Y (vs:=[_,_]) Y (C2 c (Ai ((AG τ u.ses).reverse.take i) τ) (Ai ((AG τ u.ses).reverse.take i) τ).zx 0 0 (Cu (Ai ((AG τ u.ses).reverse.take i) τ) (AG τ u.ses).reverse[i]) [] AAz (YL _ om) (N+N) hok (by show N+N+0≤_;omega))) ?_)))
   rintro v L' ⟨ue,ee,rfl,-,⟨ae,ce,rfl⟩,rfl⟩;rw [←JV hi2 τ]
   refine D.pf (GR.draw (by rintro ⟨_,_,h⟩;exact h) Y [4,5,7,9] [[0,1,2,3,4],[5],[6,8,7,9]] mixed kQ (.go [AW b9 _ _,AW b4 _ _] O (.k Y (.fieldAddr Y Fs) (.k Y (.ld Y O6) (.k Y (.to (v':= .agg (A0 (Cu (Ai ((AG τ u.ses).reverse.take i) τ) (AG τ u.ses).reverse[i])).toArray) (.loadA Y A3 O (by simp [A0])) (by rfl)) (.k Y (.slen Y underlying36 Y) (.hh Y (.buildSlice (vs:=[_]) FQ BM Y Y Y Y cQ dQ) ?_)))))))
   rintro v L' ⟨b10,rfl,rfl⟩
   refine D.ph (.g0 (.hh Y (.append1S Y Y Y FQ BM Y Y ?c130 ?c131 (Nat.le_refl _) ?c132 dQ dQ) ?_))
   case c130=>simp only [map_cons,map_nil,flatten_cons,flatten_nil,append_nil];simp only [Value.cells];intro z hz;simp at hz;rcases hz with rfl|rfl|rfl|rfl|rfl|rfl|rfl|rfl<;>rfl
   case c131=>rfl
   case c132=>have:=Fb τ u.ses;have:=ho.few;omega
   rintro v L' ⟨a8,c8,rfl,rfl⟩
   refine D.ph (.g0 (.k Y (.indexAddr Y Y FQ om) (.k Y (.fieldAddr Y Fs) (.h2 (k:=9) Y Y kQ Y (.storeRdA (sz:=8) (j:=i*8) (k:=8) (vs:=A0 (Cu (Ai ((AG τ u.ses).reverse.take i) τ) (AG τ u.ses).reverse[i])) Y Y (B9 Y Y) BO Y ?ho137 ?hi138) O (.store Y Y Y QI ?c139 (Bd _ _)) O ?_ ?_))))
   case ho137=>simp
   case hi138=>omega
   case c139=>simp [Fh]
   ·rintro v L' rfl
    refine D.hh Y (.store Y Y Y QI ?c143 (Bd _ _)) ?_
    case c143=>simp [Fh]
    rintro v L' rfl
    refine D.ph (.fin (.slCast (T:=38) (sz:=8) (m':=i+1) (xs':=(A8 ((AG τ u.ses).reverse.take (i+1)) τ).flatMap A0) O (by exact rfl) (by rw [Eo hi2 τ,flatMap_append];exact Ju (by rw [GS,C8,length_take,Nat.min_eq_left (Nat.le_of_lt hi2)]) rfl) (.pc b4 (Fh u.ses (.slice (some ⟨a8,0,none⟩) (i+1) c8)) ?_)))
    refine .blk_n (.fold (p:=UI (AW b3 [AD c] 44) c b4 τ u.ses (AG τ u.ses).reverse (i+1)) (q:=[AW b3 [AD c] 44,AV c (Ai ((AG τ u.ses).reverse.take (i+1)) τ),AW b4 (Fh u.ses (.slice (some ⟨a8,0,none⟩) (i+1) c8)) 38,At 38 8 (.slice (some ⟨a8,0,none⟩) (i+1) c8) (i+1) ((A8 ((AG τ u.ses).reverse.take (i+1)) τ).flatMap A0)]) O (fun h hp=>⟨_,⟨_,_,Y⟩,hp⟩) ?_)
    exact .rnd O O
   rintro v L' rfl
   refine D.hh Y (.storeRdA (sz:=8) (j:=i*8) (k:=8) (vs:=A0 (Cu (Ai ((AG τ u.ses).reverse.take i) τ) (AG τ u.ses).reverse[i])) Y Y (B9 Y Y) BO Y ?ho146 ?hi147) ?_
   case ho146=>simp
   case hi147=>omega
   rintro v L' rfl
   refine D.ph (.fin (.slCast (T:=38) (sz:=8) (m':=i+1) (xs':=(A8 ((AG τ u.ses).reverse.take (i+1)) τ).flatMap A0) O (by exact rfl) (by rw [Eo hi2 τ,flatMap_append];exact Ju (by rw [GS,C8,length_take,Nat.min_eq_left (Nat.le_of_lt hi2)]) rfl) (.pc b4 (Fh u.ses (.slice (some ⟨a8,0,none⟩) (i+1) c8)) ?_)))
   refine .blk_n (.fold (p:=UI (AW b3 [AD c] 44) c b4 τ u.ses (AG τ u.ses).reverse (i+1)) (q:=[AW b3 [AD c] 44,AV c (Ai ((AG τ u.ses).reverse.take (i+1)) τ),AW b4 (Fh u.ses (.slice (some ⟨a8,0,none⟩) (i+1) c8)) 38,At 38 8 (.slice (some ⟨a8,0,none⟩) (i+1) c8) (i+1) ((A8 ((AG τ u.ses).reverse.take (i+1)) τ).flatMap A0)]) O (fun h hp=>⟨_,⟨_,_,Y⟩,hp⟩) ?_)
   exact .rnd O O
  rintro v L' ⟨b7,rfl,rfl⟩
  refine D.hh Y (.c func176 [_] (Dl ((AG τ u.ses).reverse[i]) om)) ?_
  rintro v L' ⟨rfl,rfl⟩
  refine D.hh Y (.c func171 [_,_] (CG c (Ai ((AG τ u.ses).reverse.take i) τ) (AK ((AG τ u.ses).reverse[i])) (N+N) hok hN2)) ?_
  rintro v L' ⟨rfl,rfl⟩
  refine D.mv Y Y (.kv Y (.extract Y Y) (.k Y (.extract Y Y) (.sa Y Y Y FW (by intro v hv;simp only [Ca,mem_cons,not_mem_nil,or_false] at hv;rcases hv with rfl|rfl|rfl|rfl|rfl|rfl|rfl|rfl|rfl<;>rfl) ?_)))
  refine D.ph (.g0 (.kv Y (.assign Y) (.ph (.fin (.pc b7 (Ca (A7 (Ai ((AG τ u.ses).reverse.take i) τ) (AK ((AG τ u.ses).reverse[i])))) ?_)))))
  refine .then_n (GR.seq (GR.region (by rintro ⟨_,_,h⟩;exact h) Y (.m Y (.fa Y SR (.u (.ld Y CT) (.u (.addW Y Y) (.q (.build (us:=[(0,_),(1,_),(5,_)]) FV BM Y Y (by simp [AB])) Y (.oq (.allocA BM) ?_))))))))
  rintro v L' ⟨b9,rfl,rfl⟩
  refine .sa Y Y BO (by (first|(simp [AB];done)|(simp [AB,AQ,Value.cells];done))) ?_
  refine .nil (.pc b9 (A0 (Cu (Ai ((AG τ u.ses).reverse.take i) τ) (AG τ u.ses).reverse[i])) ?_)
  refine .then_n (GR.seq (GR.draw (by rintro ⟨_,_,h⟩;exact h) Y [2,5] [[0,1,3,2,4],[5]] mixed kQ (.go [AW b3 _ _,AW b9 _ _] O (.k Y (.ld Y Ih) (.kv Y (.ld Y Ih) (.k Y (.to (v':= .agg (A0 (Cu (Ai ((AG τ u.ses).reverse.take i) τ) (AG τ u.ses).reverse[i])).toArray) (.loadA Y A3 O (by simp [A0])) (by rfl)) (.hh Y (.c func52 [_] (Dm c (Ai ((AG τ u.ses).reverse.take i) τ))) ?_)))))))
  rintro v L' ⟨rfl,rfl⟩
  refine D.kv Y (.buildN (pl:=[(0,1),(1,1),(2,1),(3,8)]) (us:=[(0,AA (Ai ((AG τ u.ses).reverse.take i) τ).zx),(3, .agg (A0 (Cu (Ai ((AG τ u.ses).reverse.take i) τ) (AG τ u.ses).reverse[i])).toArray)]) (cells:=[AA (Ai ((AG τ u.ses).reverse.take i) τ).zx,AA 0,AA 0]++A0 (Cu (Ai ((AG τ u.ses).reverse.take i) τ) (AG τ u.ses).reverse[i])) underlying40 kQ Cq Y (Hz _ _ _ _ _ _ _ _ _)) (.ph (.g0 (.hh Y (.call func30 Y Y (vs:=[_,_]) Y (C2 c (Ai ((AG τ u.ses).reverse.take i) τ) (Ai ((AG τ u.ses).reverse.take i) τ).zx 0 0 (Cu (Ai ((AG τ u.ses).reverse.take i) τ) (AG τ u.ses).reverse[i]) [] AAz (YL _ om) (N+N) hok (by show N+N+0≤_;omega))) ?_)))
  rintro v L' ⟨ue,ee,rfl,-,⟨ae,ce,rfl⟩,rfl⟩;rw [←JV hi2 τ]
  refine D.pf (GR.draw (by rintro ⟨_,_,h⟩;exact h) Y [4,5,7,9] [[0,1,2,3,4],[5],[6,8,7,9]] mixed kQ (.go [AW b9 _ _,AW b4 _ _] O (.k Y (.fieldAddr Y Fs) (.k Y (.ld Y O6) (.k Y (.to (v':= .agg (A0 (Cu (Ai ((AG τ u.ses).reverse.take i) τ) (AG τ u.ses).reverse[i])).toArray) (.loadA Y A3 O (by simp [A0])) (by rfl)) (.k Y (.slen Y underlying36 Y) (.hh Y (.buildSlice (vs:=[_]) FQ BM Y Y Y Y cQ dQ) ?_)))))))
  rintro v L' ⟨b10,rfl,rfl⟩
  refine D.ph (.g0 (.hh Y (.append1S Y Y Y FQ BM Y Y ?c187 ?c188 (Nat.le_refl _) ?c189 dQ dQ) ?_))
  case c187=>simp only [map_cons,map_nil,flatten_cons,flatten_nil,append_nil];simp only [Value.cells];intro z hz;simp at hz;rcases hz with rfl|rfl|rfl|rfl|rfl|rfl|rfl|rfl<;>rfl
  case c188=>rfl
  case c189=>have:=Fb τ u.ses;have:=ho.few;omega
  rintro v L' ⟨a8,c8,rfl,rfl⟩
  refine D.ph (.g0 (.k Y (.indexAddr Y Y FQ om) (.k Y (.fieldAddr Y Fs) (.h2 (k:=9) Y Y kQ Y (.storeRdA (sz:=8) (j:=i*8) (k:=8) (vs:=A0 (Cu (Ai ((AG τ u.ses).reverse.take i) τ) (AG τ u.ses).reverse[i])) Y Y (B9 Y Y) BO Y ?ho194 ?hi195) O (.store Y Y Y QI ?c196 (Bd _ _)) O ?_ ?_))))
  case ho194=>simp
  case hi195=>omega
  case c196=>simp [Fh]
  ·rintro v L' rfl
   refine D.hh Y (.store Y Y Y QI ?c200 (Bd _ _)) ?_
   case c200=>simp [Fh]
   rintro v L' rfl
   refine D.ph (.fin (.slCast (T:=38) (sz:=8) (m':=i+1) (xs':=(A8 ((AG τ u.ses).reverse.take (i+1)) τ).flatMap A0) O (by exact rfl) (by rw [Eo hi2 τ,flatMap_append];exact Ju (by rw [GS,C8,length_take,Nat.min_eq_left (Nat.le_of_lt hi2)]) rfl) (.pc b4 (Fh u.ses (.slice (some ⟨a8,0,none⟩) (i+1) c8)) ?_)))
   refine .blk_n (.fold (p:=UI (AW b3 [AD c] 44) c b4 τ u.ses (AG τ u.ses).reverse (i+1)) (q:=[AW b3 [AD c] 44,AV c (Ai ((AG τ u.ses).reverse.take (i+1)) τ),AW b4 (Fh u.ses (.slice (some ⟨a8,0,none⟩) (i+1) c8)) 38,At 38 8 (.slice (some ⟨a8,0,none⟩) (i+1) c8) (i+1) ((A8 ((AG τ u.ses).reverse.take (i+1)) τ).flatMap A0)]) O (fun h hp=>⟨_,⟨_,_,Y⟩,hp⟩) ?_)
   exact .rnd O O
  rintro v L' rfl
  refine D.hh Y (.storeRdA (sz:=8) (j:=i*8) (k:=8) (vs:=A0 (Cu (Ai ((AG τ u.ses).reverse.take i) τ) (AG τ u.ses).reverse[i])) Y Y (B9 Y Y) BO Y ?ho203 ?hi204) ?_
  case ho203=>simp
  case hi204=>omega
  rintro v L' rfl
  refine D.ph (.fin (.slCast (T:=38) (sz:=8) (m':=i+1) (xs':=(A8 ((AG τ u.ses).reverse.take (i+1)) τ).flatMap A0) O (by exact rfl) (by rw [Eo hi2 τ,flatMap_append];exact Ju (by rw [GS,C8,length_take,Nat.min_eq_left (Nat.le_of_lt hi2)]) rfl) (.pc b4 (Fh u.ses (.slice (some ⟨a8,0,none⟩) (i+1) c8)) ?_)))
  refine .blk_n (.fold (p:=UI (AW b3 [AD c] 44) c b4 τ u.ses (AG τ u.ses).reverse (i+1)) (q:=[AW b3 [AD c] 44,AV c (Ai ((AG τ u.ses).reverse.take (i+1)) τ),AW b4 (Fh u.ses (.slice (some ⟨a8,0,none⟩) (i+1) c8)) 38,At 38 8 (.slice (some ⟨a8,0,none⟩) (i+1) c8) (i+1) ((A8 ((AG τ u.ses).reverse.take (i+1)) τ).flatMap A0)]) O (fun h hp=>⟨_,⟨_,_,Y⟩,hp⟩) ?_)
  exact .rnd O O
 refine .open (q:=fun z:Value=>[AW b3 [AD c] 44,AV c (Ai ((AG τ u.ses).reverse.take (AG τ u.ses).length) τ),AW b4 (Fh u.ses z) 38,At 38 8 z (AG τ u.ses).length ((A8 ((AG τ u.ses).reverse.take (AG τ u.ses).length) τ).flatMap A0)]) (φ:=fun z:Value=> ∃a k,z= .slice a (AG τ u.ses).length k) (fun _ hp=>hp) ?_
 rintro z ⟨az,cz,rfl⟩
 have htk:(AG τ u.ses).reverse.take (AG τ u.ses).length=(AG τ u.ses).reverse:=take_of_length_le om
 rw [htk]
 refine .blk_n (.then_n (.sr (.q (.la (Fh u.ses (.slice az (AG τ u.ses).length cz)) Y A3) Y (.sa Y Y BO (by simp [Fh,AB]) ?_))))
 refine .nil (.pc bx (Fh u.ses (.slice az (AG τ u.ses).length cz)) ?_)
 have hcl:(A8 (AG τ u.ses).reverse τ).length=(AG τ u.ses).length:=by rw [C8,hlr]
 refine .slCast (T:=38) (sz:=8) (m':=(A8 (AG τ u.ses).reverse τ).length) (xs':=(A8 (AG τ u.ses).reverse τ).flatMap A0) O om Y (.add (p:=Am aclR (A8 (AG τ u.ses).reverse τ)) (Uc fun y hy=>⟨(D4 _ _ y hy).1,(D4 _ _ y hy).2.1⟩) (.then_n (.ret ?_)))
 exact .doneM1 Y O (.cellA Y A3 O (by simp [Fh]) Y) ⟨.slice az (AG τ u.ses).length cz,A8 (AG τ u.ses).reverse τ,Y,AEJ fun y hy=>(D4 _ _ y hy).2.2.2,⟨az,cz,by rw [hcl]⟩,fun y hy=>⟨by rw [(D4 _ _ y hy).1];rfl,(D4 _ _ y hy).2.2.1⟩,rfl⟩ O O
theorem Ox (t:Nat) (τ:Tr) (u:C9) (iv:Value) (r:Rq) (p:HP) (hA:E3 p u iv r) (N:Nat) (ho:τ.Ok N) (hN:N≤1099511627776) (hw:Hx τ) (hN2:N+16≤1099511627776) (subs:List Rq) (hr:∀h:Hp,p h→CA 10 h r.subsV subs.length (subs.flatMap L8)) (hS:∀x∈subs,E3 p u iv x) (hSa:∀x∈subs,Hf x.acl) (hN3:N+N≤1099511627776):Fn prog 63 #[AD t,AA u.ses,iv, .agg (L8 r).toArray] [AV t τ,p] fun v L=>
    ∃(y:Pt) (ys:List Pt),v= .agg (A0 y).toArray∧y.pl=(FO τ u r subs).1∧ys.map Pt.pl=(FO τ u r subs).2∧(AB y.aclV=true∧∃a c,y.subsV= .slice a ys.length c)∧(∀z∈ys,AB z.aclV=true∧z.subsV=AR)∧L=[AV t τ,p,aclR y,At 38 8 y.subsV ys.length (ys.flatMap A0),Am aclR ys]:=by
 refine Fn.intro func63 Y Y fun F W=>?_
 have hcl:=hA.cells t
 refine .sr (.oq (.box Y) ?_)
 rintro v L' ⟨b7,rfl,rfl⟩
 refine .oq (.allocA BM) ?_
 rintro v L' ⟨b8,rfl,rfl⟩
 refine .nil (.pc b7 (L8 r) ?_)
 refine Z ?_
 refine .cv func67 [_,_] (FG t τ u.ses) ?_
 refine Z ?_
 refine .q (.la (L8 r) Y Vo) Y (.q (.to (v':= .agg (Cp t u iv r).toArray) (.buildN (pl:=[(0,1),(1,1),(2,1),(3,10)]) (us:=[(0,AD t),(1,AA u.ses),(2,iv),(3, .agg (L8 r).toArray)]) (cells:=Cp t u iv r) underlying215 kQ Xy Y (Q9 t u iv hA.shape r)) Y) Y (.oq (.allocA Xy) ?_))
 rintro v L' ⟨b1,rfl,rfl⟩
 refine .sa Y Y AIp (by exact fun v hv=>all_eq_true.1 hcl v hv) ?_
 refine .nil (.pc b1 (Cp t u iv r) ?_)
 refine Z ?_
 refine .cv func61 [_] (KM r.kind) ?_
 refine Z ?_
 refine .condB Y (fun h30=>?_) (fun h30=>?_)
 ·have hT:FO τ u r subs=(Az 110 (-1),[]):=if_pos (by simpa using h30)
  refine .sr (.cv func122 [_,_] (DX 110 (-1)) ?_)
  refine .sa Y Y BO (by simp [A0,Az,AB]) ?_
  refine .nil (.pc b8 ([AA ((Az 110 (-1))).kind,AF ((Az 110 (-1))).path,AF ((Az 110 (-1))).data,AR,AA ((Az 110 (-1))).own,AA ((Az 110 (-1))).num,AA ((Az 110 (-1))).err,AR]) ?_)
  refine .add (AU 133 2) (.add (AU 38 8) (.add (p:=Am aclR []) (fun h=>CH h) (Z ?_)))
  exact .d1 Y (.cellA Y A3 O (by simp [CX,AQ]) Y) ⟨Az 110 (-1),[],Y,by rw [hT];rfl,by rw [hT];rfl,⟨rfl,none,0,rfl⟩,(fun _ h=>by cases h),rfl⟩
 have hc:C0 r.kind=true:=by simpa using h30
 refine Z ?_
 refine .condN Y (fun h36=>?_) (fun h36=>?_)
 ·have hT:FO τ u r subs=(Az 67 (-1),[]):=by unfold FO;rw [if_neg (fun g=>g hc),if_pos h36]
  refine .sr (.cv func122 [_,_] (DX 67 (-1)) ?_)
  refine .sa Y Y BO (by simp [A0,Az,AB]) ?_
  refine .nil (.pc b8 ([AA ((Az 67 (-1))).kind,AF ((Az 67 (-1))).path,AF ((Az 67 (-1))).data,AR,AA ((Az 67 (-1))).own,AA ((Az 67 (-1))).num,AA ((Az 67 (-1))).err,AR]) ?_)
  refine .add (AU 133 2) (.add (AU 38 8) (.add (p:=Am aclR []) (fun h=>CH h) (Z ?_)))
  exact .d1 Y (.cellA Y A3 O (by simp [CX,AQ]) Y) ⟨Az 67 (-1),[],Y,by rw [hT];rfl,by rw [hT];rfl,⟨rfl,none,0,rfl⟩,(fun _ h=>by cases h),rfl⟩
 refine Z ?_
 refine .condD Y (fun h40=>?_) (fun h40=>?_)
 ·have hT:FO τ u r subs=BL τ u subs:=by unfold FO;rw [if_neg (fun g=>g hc),if_neg (fun g=>g h36),if_pos h40]
  refine .sr (.q (.la (Cp t u iv r) Y Gi) Y (.oq (.c func123 [_] (VC t τ u iv r p hA N ho hN hw hN2 subs hr hS hSa)) ?_))
  rintro v L' ⟨w,ys,rfl,hys,⟨aw,cw,rfl⟩,hyk,rfl⟩
  refine .sa Y Y BO (by exact ABp (by rw [(Jv τ u subs).1];rfl)) ?_
  refine .nil (.pc b8 ([AA ((BL τ u subs).1).kind,AF ((BL τ u subs).1).path,AF ((BL τ u subs).1).data,(BL τ u subs).1.aclV,AA ((BL τ u subs).1).own,AA ((BL τ u subs).1).num,AA ((BL τ u subs).1).err, .slice aw ys.length cw]) ?_)
  refine .add (AU 133 2) (.as (q:=aclR ((BL τ u subs).1.ws (.slice aw ys.length cw))) (p:=At 133 2 AR 0 []) O (by show _=At _ _ (BL τ u subs).1.aclV (BL τ u subs).1.acl.length ((BL τ u subs).1.acl.flatMap CJ);rw [(Jv τ u subs).1,(Jv τ u subs).2];rfl) (Z ?_))
  exact .d1 Y (.cellA Y A3 O (by simp [CX,AQ]) Y) ⟨(BL τ u subs).1.ws (.slice aw ys.length cw),ys,Y,by rw [hT];exact AC0 τ u subs _,by rw [hT];exact hys,⟨by show AB (BL τ u subs).1.aclV=true;rw [(Jv τ u subs).1];rfl,aw,cw,rfl⟩,hyk,rfl⟩
 refine Z ?_
 refine .condD Y (fun h46=>?_) (fun h46=>?_)
 ·have hT:FO τ u r subs=(F3,[]):=by unfold FO;rw [if_neg (fun g=>g hc),if_neg (fun g=>g h36),if_neg h40,if_pos h46]
  refine .sr (.q (.build (us:=[(0,_)]) FV BM Y Y (by simp [AB])) Y (.sa Y Y BO (by (first|(simp [AB];done)|(simp [AB,AQ,Value.cells];done))) ?_))
  refine .nil (.pc b8 ([AA (F3).kind,AF (F3).path,AF (F3).data,AR,AA (F3).own,AA (F3).num,AA (F3).err,AR]) ?_)
  refine .add (AU 133 2) (.add (AU 38 8) (.add (p:=Am aclR []) (fun h=>CH h) (Z ?_)))
  exact .d1 Y (.cellA Y A3 O (by simp [CX,AQ]) Y) ⟨F3,[],Y,by rw [hT];rfl,by rw [hT];rfl,⟨rfl,none,0,rfl⟩,(fun _ h=>by cases h),rfl⟩
 refine Z ?_
 refine .condD Y (fun h51=>?_) (fun h51=>?_)
 ·have hT:FO τ u r subs=DY τ u.ses:=by unfold FO;rw [if_neg (fun g=>g hc),if_neg (fun g=>g h36),if_neg h40,if_neg h46,if_pos h51]
  refine .sr (.q (.la (Cp t u iv r) Y Gi) Y (.oq (.c func124 [_] (Rj t τ u iv r p hA N ho hN hN3)) ?_))
  rintro v L' ⟨w,ys,rfl,hys,⟨aw,cw,rfl⟩,hyk,rfl⟩
  refine .sa Y Y BO (by exact ABp (by rfl)) ?_
  refine .nil (.pc b8 ([AA ((DY τ u.ses).1).kind,AF ((DY τ u.ses).1).path,AF ((DY τ u.ses).1).data,(DY τ u.ses).1.aclV,AA ((DY τ u.ses).1).own,AA ((DY τ u.ses).1).num,AA ((DY τ u.ses).1).err, .slice aw ys.length cw]) ?_)
  refine .add (AU 133 2) (.as (q:=aclR ((DY τ u.ses).1.ws (.slice aw ys.length cw))) (p:=At 133 2 AR 0 []) O Y (Z ?_))
  exact .d1 Y (.cellA Y A3 O (by simp [CX,AQ]) Y) ⟨(DY τ u.ses).1.ws (.slice aw ys.length cw),ys,Y,by rw [hT];rfl,by rw [hT];exact hys,⟨rfl,aw,cw,rfl⟩,hyk,rfl⟩
 have hk8:r.kind≠8:=h51
 refine Z ?_
 refine .q (.la (Cp t u iv r) Y Gi) Y (.oq (.c func125 [_] (Nx t τ u iv r p hA N ho hN (VZ hw _))) ?_)
 rintro v L' ⟨w,rfl,⟨aw,cw,rfl⟩,rfl⟩
 refine Z ?_
 refine .oq (.allocA BM) ?_
 rintro v L' ⟨b13,rfl,rfl⟩
 refine .sa Y Y BO (by exact fun v hv=>all_eq_true.1 (RS ⟨none,0,0,OM τ u r⟩) v hv) ?_
 refine Z ?_
 refine .pc b13 ([AA ((AY τ u r).1).kind,AF ((AY τ u r).1).path,AF ((AY τ u r).1).data, .slice aw (AY τ u r).1.acl.length cw,AA ((AY τ u r).1).own,AA ((AY τ u r).1).num,AA ((AY τ u r).1).err,(AY τ u r).1.subsV]) ?_
 refine Z ?_
 refine .condN Y (fun h63=>?_) (fun h63=>?_)
 ·have hT:FO τ u r subs=(Az (AY τ u r).2 (-1),[]):=by unfold FO;rw [if_neg (fun g=>g hc),if_neg (fun g=>g h36),if_neg h40,if_neg h46,if_neg hk8,if_pos h63]
  refine Z ?_
  refine .cv func122 [_,_] (DX (AY τ u r).2 (-1)) ?_
  refine .sa Y Y BO (by simp [A0,Az,AB]) ?_
  refine .nil (.pc b8 ([AA ((Az (AY τ u r).2 (-1))).kind,AF ((Az (AY τ u r).2 (-1))).path,AF ((Az (AY τ u r).2 (-1))).data,AR,AA ((Az (AY τ u r).2 (-1))).own,AA ((Az (AY τ u r).2 (-1))).num,AA ((Az (AY τ u r).2 (-1))).err,AR]) ?_)
  refine .add (AU 133 2) (.add (AU 38 8) (.add (p:=Am aclR []) (fun h=>CH h) (Z ?_)))
  exact .d1 Y (.cellA Y A3 O (by simp [CX,AQ]) Y) ⟨Az (AY τ u r).2 (-1),[],Y,by rw [hT];rfl,by rw [hT];rfl,⟨rfl,none,0,rfl⟩,(fun _ h=>by cases h),rfl⟩
 have hT:FO τ u r subs=((AY τ u r).1,[]):=by unfold FO;rw [if_neg (fun g=>g hc),if_neg (fun g=>g h36),if_neg h40,if_neg h46,if_neg hk8,if_neg (fun g=>g h63)]
 refine Z ?_
 refine .q (.to (v':= .agg ([AA ((AY τ u r).1).kind,AF ((AY τ u r).1).path,AF ((AY τ u r).1).data, .slice aw (AY τ u r).1.acl.length cw,AA ((AY τ u r).1).own,AA ((AY τ u r).1).num,AA ((AY τ u r).1).err,AR]).toArray) (.loadA Y A3 O (by simp)) (by rw [←OM τ u r];rfl)) Y (.sa Y Y BO (by simp [AB]) ?_)
 refine .nil (.pc b8 ([AA ((AY τ u r).1).kind,AF ((AY τ u r).1).path,AF ((AY τ u r).1).data, .slice aw (AY τ u r).1.acl.length cw,AA ((AY τ u r).1).own,AA ((AY τ u r).1).num,AA ((AY τ u r).1).err,AR]) ?_)
 refine .add (AU 38 8) (.add (p:=Am aclR []) (fun h=>CH h) (.then_n (.ret ?_)))
 exact .d1 Y (.cellA Y A3 O (by simp [CX,AQ]) Y) ⟨(CQ (AY τ u r).1 (.slice aw (AY τ u r).1.acl.length cw)).ws AR,[],Y,by rw [hT];exact ZY τ u r (.slice aw (AY τ u r).1.acl.length cw),by rw [hT];rfl,⟨rfl,none,0,rfl⟩,(fun _ h=>by cases h),rfl⟩
/-! ### What Txn answers -/
structure PT (y:Pt):Prop where
 r:ZF y
 n:PtN y
theorem PT.of {y z:Pt} (e:y.pl=z.pl) (h:PT z):PT y:=by
 refine ⟨ZF.of e h.r,?_⟩
 have hk:PtN z.pl:=⟨h.n.own,h.n.num,h.n.data,h.n.acl⟩
 rw [←e] at hk
 exact ⟨hk.own,hk.num,hk.data,hk.acl⟩
theorem Hk {e n:Int} (he:Aw e) (hn:Aw n):PT (Az e n):=⟨Mv he hn,Aw.zero,hn,by show 0≤_;decide,CZ⟩
theorem ACx {τ:Tr} {u:C9} {r:Rq} {p:HP} {iv:Value} (h:E3 p u iv r) (ha:Hf r.acl):PT (AY τ u r).1:=⟨AEo h ha,SH τ u h.ses (by have:=h.rq.data;omega) ha⟩
theorem UP {p:HP} {u:C9} {iv:Value}:∀{l:List Rq} {τ:Tr},(∀r∈l,E3 p u iv r∧Hf r.acl)→∀y∈(B3 u l τ).2.1,PtN y
 |[],_,_,_,h=>by cases h
 |r::l,τ,h,y,hy=>by
  rw [Eg] at hy
  split at hy
  ·cases hy
  ·rcases mem_cons.1 hy with rfl|hy
   ·exact (ACx (h r mem_cons_self).1 (h r mem_cons_self).2).n
   ·exact UP (fun x hx=>h x (mem_cons_of_mem _ hx)) y hy
theorem AFS {p:HP} {u:C9} {iv:Value} {l:List Rq} {τ:Tr} (h:∀r∈l,E3 p u iv r∧Hf r.acl):PtN (BL τ u l).1∧∀y∈(BL τ u l).2,PtN y:=by
 have hm:Aw (-1):=⟨by decide,by decide⟩
 unfold BL
 split
 ·exact ⟨(Hk ⟨by decide,by decide⟩ hm).n,fun _ g=>by cases g⟩
 ·rename_i hl
  split
  ·rename_i i e he
   have hie:i<8∧0≤e∧e≤110:=by
    have:=E5 he
    omega
   exact ⟨(Hk ⟨by omega,by omega⟩ ⟨by omega,by omega⟩).n,fun _ g=>by cases g⟩
  ·exact ⟨⟨Aw.zero,Aw.zero,Nat.zero_le _,CZ⟩,UP h⟩
theorem AJL {τ:Tr} {p:Bs}:PtN (Cu τ p):=⟨Aw.zero,wrap_i64 _,Nat.zero_le _,CZ⟩
theorem Lu:∀{l:List Bs} {τ:Tr},∀y∈A8 l τ,PtN y∧y.kind=2
 |[],_,_,h=>by cases h
 |p::l,τ,y,hy=>by
  rcases mem_cons.1 (show y∈Cu τ p::A8 l _ from hy) with rfl|hy
  ·exact ⟨AJL,rfl⟩
  ·exact Lu y hy
structure Gb (N:Nat) (y:Pt) (l:List Pt):Prop where
 x:PT y
 each:∀z∈l,PT z
 len:l.length≤8∨(y.kind=6∧l.length≤N∧∀z∈l,z.kind=2)
theorem AG9 {τ:Tr} {N:Nat} (ho:τ.Ok N) {u:C9} {r:Rq} {p:HP} {iv:Value} {subs:List Rq} (hd:WiD p u iv r subs):Gb N (FO τ u r subs).1 (FO τ u r subs).2:=by
 have hm:Aw (-1):=⟨by decide,by decide⟩
 have few:∀{x:Pt},PT x→Gb N x []:=fun h=>⟨h,(fun _ g=>by cases g), .inl (Nat.zero_le _)⟩
 unfold FO
 split
 ·exact few (Hk ⟨by decide,by decide⟩ hm)
 split
 ·exact few (Hk ⟨by decide,by decide⟩ hm)
 split
 ·have h1:=AG1 (τ:=τ) (u:=u) (l:=subs) (fun x hx=>⟨hd.each x hx,hd.acls x hx⟩)
  have h2:=AFS (τ:=τ) (u:=u) (l:=subs) (fun x hx=>⟨hd.each x hx,hd.acls x hx⟩)
  exact ⟨⟨h1.1,h2.1⟩,fun z hz=>⟨h1.2.1 z hz,h2.2 z hz⟩, .inl h1.2.2⟩
 split
 ·exact few ⟨⟨⟨Aw.zero,Aw.zero,Aw.zero,Aw.zero,by show 0<Ds;decide,by show 0<Ds;decide,by show 0<Ds;decide,fun a ha=>by cases ha⟩,CZ.long,Nat.zero_le _,Nat.zero_le _,Nat.zero_le _⟩,Aw.zero,Aw.zero,Nat.zero_le _,CZ⟩
 split
 ·have hcl:(A8 (AG τ u.ses).reverse τ).length=(AG τ u.ses).length:=by rw [C8,length_reverse]
  have hfew:=Fb τ u.ses
  have hon:=ho.few
  have hL:=Th (l:=(AG τ u.ses).reverse) (τ:=τ) (fun q hq=>Iz ho (mem_reverse.1 hq))
  refine ⟨⟨⟨⟨⟨by show (-9223372036854775808:Int)≤6;decide,by show (6:Int)≤9223372036854775807;decide⟩,hd.w.ses,Aw.zero,Aw.zero,by show 0<Ds;decide,by show 0<Ds;decide,by show 0<Ds;decide,fun a ha=>by cases ha⟩,CZ.long,Nat.zero_le _,Nat.zero_le _,Nat.zero_le _⟩,hd.w.ses,Aw.zero,Nat.zero_le _,CZ⟩,fun z hz=>⟨(hL z hz).1,(Lu z hz).1⟩, .inr ⟨rfl,?_,fun z hz=>(Lu z hz).2⟩⟩
  show (A8 (AG τ u.ses).reverse τ).length≤N
  omega
 split
 ·have:=Mb τ u r
  exact few (Hk ⟨by omega,by omega⟩ hm)
 ·exact few (ACx hd.w hd.a)
theorem Gb.of {N:Nat} {x y:Pt} {l ys:List Pt} (h:Gb N x l) (hy:y.pl=x) (hys:ys.map Pt.pl=l):Gb N y ys:=by
 subst hy;subst hys
 refine ⟨PT.of (z:=y.pl) rfl h.x,fun z hz=>PT.of (z:=z.pl) rfl (h.each _ (mem_map_of_mem hz)),?_⟩
 rcases h.len with h1|⟨h1,h2,h3⟩
 ·exact .inl (by rwa [length_map] at h1)
 ·exact .inr ⟨h1,by rwa [length_map] at h2,fun z hz=>h3 z.pl (mem_map_of_mem (f:=Pt.pl) hz)⟩
theorem Gb.few {N:Nat} {x:Pt} {l:List Pt} (h:Gb N x l) (hN:N≤1048576):l.length≤1048576:=by
 rcases h.len with h1|⟨-,h2,-⟩<;>omega
theorem Gb.tx {N:Nat} {y:Pt} {ys:List Pt} (h:Gb N y ys) (hN:N≤1048576) (z s i:Int) (hc:AB y.aclV=true∧∃a c,y.subsV= .slice a ys.length c) (hcs:∀z∈ys,AB z.aclV=true∧z.subsV=AR):TxA (entR ⟨z,s,i,y,ys⟩) y ys:=by
 refine ⟨⟨fun _ hp=>Lz hp,h.x.r.many,h.x.r.path,?_,hc.1⟩,fun _ hp=>Hu hp,h.few hN,fun w hw=>⟨fun _ hp=>JU hp hw,(h.each w hw).r.many,(h.each w hw).r.path,by rw [(hcs w hw).2];rfl,(hcs w hw).1⟩⟩
 obtain ⟨a,c,e⟩:=hc.2
 rw [e];rfl
theorem Gb.n {N:Nat} {y:Pt} {ys:List Pt} (h:Gb N y ys) {z s i:Int} (hz:Aw z):EnN ⟨z,s,i,y,ys⟩:=⟨hz,h.x.n,fun w hw=>(h.each w hw).n⟩
theorem Gb.w {N:Nat} {y:Pt} {ys:List Pt} (h:Gb N y ys) {τ:Tr} (hw:Hx τ) {z:Int} (hz:Aw z):Hx (AM τ z y ys).1:=hw.app (h.n (s:=0) (i:=0) hz)
theorem ACa {τ:Tr} {N:Nat} (h:τ.Ok N) {x:Pt} (hk:x.kind=2) (zx:Int):(AI τ x zx).1.Ok N:=by
 unfold AI
 rw [if_neg om,if_pos hk]
 unfold BS
 split
 ·exact (h.cut _).kid _ _ _
 ·exact h
theorem AAr {τ:Tr} {N:Nat} (h:τ.Ok N) (zx:Int) (l:List Pt) (hl:∀x∈l,x.kind=2):(AP τ zx l).1.Ok N:=by
 unfold AP
 have H:∀(l:List Pt) (r:Tr×List Ev),r.1.Ok N→(∀x∈l,x.kind=2)→(l.foldl (fun r x=>((AI r.1 x zx).1,r.2++(AI r.1 x zx).2)) r).1.Ok N:=by
  intro l
  induction l with
  |nil=>intro r h _;exact h
  |cons x l ih=>
   intro r h hl
   rw [foldl_cons]
   exact ih _ (ACa h (hl x mem_cons_self) zx) fun y hy=>hl y (mem_cons_of_mem _ hy)
 exact H l _ h hl
theorem Gb.ok {N:Nat} {y:Pt} {ys:List Pt} (h:Gb N y ys) {τ:Tr} {M:Nat} (ho:τ.Ok M) (z:Int):(AM τ z y ys).1.Ok (M+9):=by
 rcases h.len with h1|⟨h1,-,h3⟩
 ·exact (ho.apply z y ys h.x.r.many fun w hw=>(h.each w hw).r.many).more om
 ·unfold AM
  dsimp only
  rw [if_neg om,if_pos h1]
  exact ((AAr (ho.zx z) z _ fun w hw=>h3 w (mem_filter.1 hw).1).dropS _).more om
theorem Qq (τ:Tr) (zx:Int) (l:List Pt):AP τ zx (l.map Pt.pl)=AP τ zx l:=by
 unfold AP
 rw [foldl_map];rfl
theorem X9 (l:List Pt):(l.map Pt.pl).filter Bc=(l.filter Bc).map Pt.pl:=by
 rw [filter_map];rfl
theorem MU (τ:Tr) (zx:Int) (y:Pt) (ys:List Pt):AM τ zx y.pl (ys.map Pt.pl)=AM τ zx y ys:=by
 unfold AM
 dsimp only
 rw [X9,Qq,Qq];rfl
/-! ### Wishes of a list -/
def Gn (s:Int):Pt:=⟨5,[],[],AR,[],s,10,0,AR⟩
theorem AGA {s:Int} (hs:Aw s):PT (Gn s):=⟨⟨⟨⟨by show (-9223372036854775808:Int)≤5;decide,by show (5:Int)≤9223372036854775807;decide⟩,hs,⟨by show (-9223372036854775808:Int)≤10;decide,by show (10:Int)≤9223372036854775807;decide⟩,Aw.zero,by show 0<Ds;decide,by show 0<Ds;decide,by show 0<Ds;decide,fun a ha=>by cases ha⟩,CZ.long,Nat.zero_le _,Nat.zero_le _,Nat.zero_le _⟩,hs,⟨by show (-9223372036854775808:Int)≤10;decide,by show (10:Int)≤9223372036854775807;decide⟩,Nat.zero_le _,CZ⟩
theorem AFI {s:Int} (hs:Aw s) (N:Nat):Gb N (Gn s) []:=⟨AGA hs,(fun _ g=>by cases g), .inl (Nat.zero_le _)⟩
/-! ### A part alone -/
open Go Go.Sort
abbrev Id (l:List Int):List Int:=Lib.compact l
theorem WT {P:Program} {ρ:Go.Shelf.Ren} (LM:Lays2.n20 P ρ) (e:TypeId) (v:Value) (n:Nat) (xs:List Int) (hn:n<4611686018427387904):
  Fn P (ρ.f 20) #[v] [At e 1 v n (xs.map AA)] fun u L=>(∃a c,u= .slice a (Id xs).length c)∧L=[At e 1 u (Id xs).length ((Id xs).map AA)]:=by
 intro F w hs
 have hs':St ((fun h=> ∃y:List Value×(Nat×Nat)×(Option (Nat×Nat)),(y.2.2=none∧v= .slice none 0 0∧n=0∧xs=[])∨(∃b cap,y.2.2=some (b,cap)∧v= .slice (some ⟨b,0,none⟩) n cap∧h b=some (.cells (List.toArray (xs.map AA++y.1)) e y.2.1)∧xs.length=n∧cap≤xs.length+y.1.length∧n≤cap∧V5 y.2.1 0 cap))::F) w:=by
  refine B0 (fun h hp=>?_) hs
  rcases hp with ⟨h1,h2,h3⟩|⟨b,cap,rest,fr,h1,h2,h3,h4,h5,h6⟩
  ·exact ⟨([],(0,0),none), .inl ⟨rfl,h1,h2,by simpa using h3⟩⟩
  ·exact ⟨(rest,fr,some (b,cap)), .inr ⟨b,cap,rfl,h1,h2,by simpa using h3,by simpa using h4,h5,by simpa using h6⟩⟩
 obtain ⟨⟨rest,fr,o⟩,h1,h2,hd,a1,a2,hp,hF⟩:=MJ hs'
 rcases hp with ⟨-,rfl,rfl,rfl⟩|⟨b,cap,-,rfl,p1,p2,p3,p4,p5⟩
 ·refine (Any.slices_Compact_int_empty LM none 0 w).mono ?_
  rintro en w' ⟨rfl,rfl⟩
  have e0:Id []=[]:=rfl
  exact ⟨_,_,⟨⟨none,0,by rw [e0];rfl⟩,by rw [e0];rfl⟩,rfl,hs, .refl _⟩
 ·subst p2
  have hb:=a1 _ _ p1
  have hH:Holds (Value.int .i64) w b 0 xs.toArray:=by
   intro j hj
   have hj':j<xs.length:=by simpa using hj
   have hb':w.heap[b]?=some (.cells (xs.map AA++rest).toArray e fr):=hb
   refine ⟨?_,?_⟩
   ·simp only [World.cell?,hb',Nat.zero_add,Option.isSome_none,Bool.false_eq_true,if_false]
    rw [List.getElem?_toArray,List.getElem?_append_left (by simpa using hj')]
    simp [hj']
   ·have:=p5 j om (by dsimp only at p3 p4 ⊢;omega)
    simp only [World.frozen?,hb',Nat.zero_add]
    simpa using this
  refine (Any.slices_Compact_int LM b 0 cap xs w hH om p4).mono ?_
  rintro en w' ⟨rfl,k,rfl⟩
  have hle:=Lib.compact_length_le xs
  generalize hcs:Lib.compact xs=cs at hle
  have hcl:(cs++List.replicate (xs.length-cs.length) 0).length=xs.length:=by rw [length_append,length_replicate];omega
  refine ⟨_,_,⟨⟨_,_,by unfold Id;rw [hcs]⟩,rfl⟩,rfl,?_,?_⟩
  ·have h2b:h2 b=none:=(hd b).resolve_left (by rw [p1];simp)
   have hnew:(putRow (Value.int .i64) (Sort.ahead w k) b 0 (cs++List.replicate (xs.length-cs.length) 0).toArray).heap[b]?=some (.cells (putCells (Value.int .i64) 0 (cs++List.replicate (xs.length-cs.length) 0).toArray (xs.map AA++rest).toArray) e fr):=by
    have hb2:w.heap[b]?=some (.cells (xs.map AA++rest).toArray e fr):=hb
    simp [putRow,mapBlock,Sort.ahead,Array.getElem?_modify,hb2,onCells]
   have hrow:(putCells (Value.int .i64) 0 (cs++List.replicate (xs.length-cs.length) 0).toArray (xs.map AA++rest).toArray)=(cs.map AA++((List.replicate (xs.length-cs.length) (0:Int)).map AA++rest)).toArray:=by
    rw [←append_assoc,←map_append]
    generalize cs++List.replicate (xs.length-cs.length) 0=ts at hcl
    apply Array.ext_getElem?
    intro j
    simp only [putCells,Array.getElem?_mapIdx,List.getElem?_toArray,Nat.zero_le,true_and,Nat.zero_add,Nat.sub_zero,size_toArray]
    by_cases hj:j<xs.length
    ·rw [List.getElem?_append_left (by simpa using hj),List.getElem?_append_left (by simpa [hcl] using hj)]
     simp [hj,hcl]
    ·rw [List.getElem?_append_right (by simp;omega),List.getElem?_append_right (by simp [hcl];omega)]
     simp [hj,hcl]
   refine ⟨fun c=>if c=b then some (.cells (cs.map AA++((List.replicate (xs.length-cs.length) (0:Int)).map AA++rest)).toArray e fr) else none,h2,fun c=>?_,fun c o e=>?_,fun c o hc=>?_,?_,hF⟩
   ·by_cases e:c=b
    ·exact .inr (e▸h2b)
    ·exact .inl (if_neg e)
   ·by_cases hc:c=b
    ·subst hc
     dsimp only at e
     rw [if_pos rfl] at e
     obtain rfl:=Option.some.inj e
     rw [←hrow];exact hnew
    ·simp [hc] at e
   ·have hcb:c≠b:=by rintro rfl;rw [h2b] at hc;cases hc
    have hold:=a2 _ _ hc
    show (putRow (Value.int .i64) (Sort.ahead w k) b 0 _).heap[c]?=_
    have hold2:w.heap[c]?=some o:=hold
    simp [putRow,mapBlock,Sort.ahead,Array.getElem?_modify,Ne.symm hcb,hold2]
   ·unfold Id;rw [hcs]
    refine .inr ⟨b,cap,_,fr,rfl,if_pos rfl,by simp,?_,by omega,by simpa using p5⟩
    simp at p3 ⊢;omega
  ·refine ⟨rfl,rfl,rfl,?_⟩
   show w.heap.size≤(putRow (Value.int .i64) (Sort.ahead w k) b 0 _).heap.size
   simp [putRow,mapBlock,Sort.ahead]
abbrev FB:=Int×Bs
abbrev Wt:=Int×FB
def NC (s:FB):Value:= .agg #[AA s.1,AF s.2]
def DO (ω:List Wt) (s:Int):Nat:=(ω.filter fun w=>decide (w.1=s)).length
def rmW (ω:List Wt) (w:Wt):List Wt:=ω.filter fun x=>decide (x≠w)
def AKc (k:Int) (p:Bs):Prop:=1≤k∧k≤3∧BQ p=0
instance (k:Int) (p:Bs):Decidable (AKc k p):=inferInstanceAs (Decidable (_∧_))
def Ak (e:Int):List Int:=if e=1 then [2] else if e=2 then [1,2,3] else if e=3 then [1,2] else if e=4 then [3] else []
def Vz (k:Int) (p:Bs) (w:Wt):Bool:=decide (w.2.2=p)&&decide (w.2.1∈Ak k)
def DA (ω:List Wt) (k:Int) (p:Bs):List Int:=Id (Ce ((ω.filter (Vz k p)).map (·.1)))
def Y1 (ω:List Wt) (k:Int) (p:Bs):List Wt:=ω.filter fun w=> !Vz k p w
def VH (ω:List Wt) (s:Int):List Wt:=ω.filter fun w=>decide (w.1≠s)
theorem LQ (l:List Int):(Ce l).Pairwise (· ≤ ·):=by
 have:=pairwise_mergeSort (le:=fun x y:Int=>decide (x≤y)) (fun a b c h1 h2=>by simp only [decide_eq_true_eq] at *;omega) (fun a b=>by simp only [Bool.or_eq_true,decide_eq_true_eq];omega) l
 exact this.imp (fun h=>by simpa using h)
/-! ### What stands for it -/
abbrev By:=List (FB×(Nat×List (Int×Int)))
abbrev Xt (y:Int):Value:=AA y
def byV (x:Nat×List (Int×Int)):Value:= .map (some x.1)
def byM (by':By):List (Value×Value):=by'.map fun x=>(NC x.1,byV x.2)
def T4 (l:List (Int×Int)):List (Value×Value):=l.map fun x=>(AA x.1,Xt x.2)
def inW (x:FB×(Nat×List (Int×Int))):HP:=mapR x.2.1 (T4 x.2.2)
structure XW (ω:List Wt) (m:By) (n:List (Int×Int)):Prop where
 nod:ω.Nodup
 fit:∀w∈ω,1≤w.1∧w.1≤9223372036854775807∧1≤w.2.1∧w.2.1≤3
 few:∀s,DO ω s≤64
 keys:(m.map (·.1)).Nodup
 inn:∀sp y,AC m sp=some y→(y.2.map (·.1)).Nodup∧y.2≠[]∧∀z∈y.2,z.2=z.1
 mem:∀id sp,(id,sp)∈ω↔ ∃y,AC m sp=some y∧id∈y.2.map (·.1)
 nkeys:(n.map (·.1)).Nodup
 many:∀s,AC n s=if DO ω s=0 then none else some (DO ω s:Int)
def Px (t:Nat) (ω:List Wt):HP:=fun h=> ∃x:(Nat×Nat)×(By×List (Int×Int)),XW ω x.2.1 x.2.2∧CP [AW t [.map (some x.1.1), .map (some x.1.2)] 203,mapR x.1.1 (byM x.2.1),mapR x.1.2 (T4 x.2.2),Am inW x.2.1] h
section
variable {W:World} {n:Nat} {ds:List Deferred} {E:Bi} {L R:List HP} {X:Act→World→Prop}
theorem G.tbOpen {t:Nat} {ω:List Wt} (hL:BJ (Px t ω) L R) (h:∀rb rm m q,XW ω m q→G W n ds E (AW t [.map (some rb), .map (some rm)] 203::mapR rb (byM m)::mapR rm (T4 q)::Am inW m::R) X):G W n ds E L X:=
 G.focus hL (G.open (q:=fun x:(Nat×Nat)×(By×List (Int×Int))=>[AW t [.map (some x.1.1), .map (some x.1.2)] 203,mapR x.1.1 (byM x.2.1),mapR x.1.2 (T4 x.2.2),Am inW x.2.1]) (φ:=fun x:(Nat×Nat)×(By×List (Int×Int))=>XW ω x.2.1 x.2.2) (fun _ hp=>hp) fun x hx=>h x.1.1 x.1.2 x.2.1 x.2.2 hx)
theorem G.tbFold {t rb rm:Nat} {ω:List Wt} {m:By} {q:List (Int×Int)} {l:List Value} {e1 e2:List (Value×Value)} (hI:XW ω m q) (hL:A4 [AW t l 203,mapR rb e1,mapR rm e2,Am inW m] L R) (hl:l=[.map (some rb), .map (some rm)]) (h1:e1=byM m) (h2:e2=T4 q)
  (h:G W n ds E (Px t ω::R) X):G W n ds E L X:=by
 subst hl;subst h1;subst h2
 exact G.fold hL (fun _ hp=>⟨((rb,rm),(m,q)),hI,hp⟩) h
end
theorem Y5 {m:By} {d:FB} {y y':Nat×List (Int×Int)} (h:AC m d=some y) (hp:y'.1=y.1):byM (CF m d y')=byM m:=UG h (by simp [byV,hp])
theorem ZN {ω:List Wt} {m:By} {n:List (Int×Int)} (h:XW ω m n) (s:Int):∀b,AC n s=some b→Xt b=AA (DO ω s:Nat):=by
 intro b hb
 rw [h.many s] at hb
 split at hb
 ·cases hb
 ·cases hb;rfl
theorem Yq {ω:List Wt} {m:By} {n:List (Int×Int)} (h:XW ω m n) (s:Int):AC n s=none→Value.int .i64 0=AA (DO ω s:Nat):=by
 intro hb
 rw [h.many s] at hb
 split at hb
 ·rename_i h0;rw [h0];rfl
 ·cases hb
/-! ### C9 keeps it -/
theorem AFp {ω:List Wt} {s:Int} {sp:FB} (h:(s,sp)∈ω):0<DO ω s:=by
 unfold DO
 exact length_pos_of_mem (mem_filter.2 ⟨h,by simp⟩)
theorem AEr {ω:List Wt} {w x:Wt}:x∈rmW ω w↔x∈ω∧x≠w:=by
 unfold rmW;rw [mem_filter];simp
theorem ACf {ω:List Wt} (h:ω.Nodup) (w:Wt):rmW ω w=ω.erase w:=by
 rw [h.erase_eq_filter]
 unfold rmW
 refine filter_congr fun x _=>?_
 by_cases hx:x=w
 ·subst hx;rw [decide_eq_false (fun g=>g rfl)];exact (bne_self_eq_false x).symm
 ·rw [decide_eq_true hx];exact (bne_iff_ne.2 hx).symm
theorem AIi {ω:List Wt} (h:ω.Nodup) {w:Wt} (hm:w∈ω) (s:Int):DO ω s=DO (rmW ω w) s+if w.1=s then 1 else 0:=by
 have hp:=perm_cons_erase hm
 rw [ACf h]
 unfold DO
 rw [(hp.filter _).length_eq]
 by_cases hs:w.1=s
 ·simp [hs]
 ·simp [hs]
theorem Re {K β:Type} [DecidableEq K] {m:List (K×β)} (hn:(m.map (·.1)).Nodup) (k x:K):x∈(Bg m k).map (·.1)↔x≠k∧x∈m.map (·.1):=by
 rw [←Cw,←Cw,J7 hn]
 by_cases h:x=k
 ·simp [h]
 ·simp [h]
theorem XW.gone {ω:List Wt} {m m':By} {n n':List (Int×Int)} (h:XW ω m n) {id:Int} {sp:FB} (hm:(id,sp)∈ω) {p:Nat} {l:List (Int×Int)} (hb:AC m sp=some (p,l))
  (hm':m'=if Bg l id=[] then Bg m sp else CF m sp (p,Bg l id)) (hn':n'=if (DO ω id:Int)-1=0 then Bg (CF n id ((DO ω id:Int)-1)) id else CF n id ((DO ω id:Int)-1)):XW (rmW ω (id,sp)) m' n':=by
 obtain ⟨b1,b2,b3⟩:=h.inn sp _ hb
 dsimp only at b1 b2 b3
 have hpos:=AFp hm
 have hlook:∀x,AC m' x=if x=sp then (if Bg l id=[] then none else some (p,Bg l id)) else AC m x:=by
  intro x
  rw [hm']
  split
  ·rw [J7 h.keys]
  ·rw [Fr]
 have hc:=fun s=>AIi h.nod hm s
 have hlk:∀x,AC n' x=if x=id then (if (DO ω id:Int)-1=0 then none else some ((DO ω id:Int)-1)) else AC n x:=by
  intro x
  rw [hn']
  split
  ·rw [J7 (C6 h.nkeys _ _),Fr]
   by_cases hx:x=id<;>simp [hx]
  ·rw [Fr]
 refine ⟨h.nod.filter _,fun w hw=>h.fit w (AEr.1 hw).1,fun s=>by have:=hc s;have:=h.few s;omega,?_,fun s y hy=>?_,fun i s=>?_,?_,fun s=>?_⟩
 ·rw [hm'];split
  ·exact Ea h.keys _
  ·exact C6 h.keys _ _
 ·rw [hlook] at hy
  by_cases hs:s=sp
  ·rw [if_pos hs] at hy
   split at hy
   ·cases hy
   ·rename_i hne
    cases hy
    exact ⟨Ea b1 id,hne,fun z hz=>b3 z ((Vd l id).subset hz)⟩
  ·rw [if_neg hs] at hy;exact h.inn s y hy
 ·rw [AEr,h.mem i s,hlook]
  by_cases hs:s=sp
  ·subst hs
   rw [if_pos rfl]
   constructor
   ·rintro ⟨⟨y,hy,hi⟩,hne⟩
    rw [hb] at hy;cases hy
    have hii:i≠id:=fun e=>hne (by rw [e])
    have hin:=(Re b1 id i).2 ⟨hii,hi⟩
    refine ⟨(p,Bg l id),?_,hin⟩
    rw [if_neg (fun e=>by rw [e] at hin;simp at hin)]
   ·rintro ⟨y,hy,hi⟩
    split at hy
    ·cases hy
    ·cases hy
     have:=(Re b1 id i).1 hi
     exact ⟨⟨(p,l),hb,this.2⟩,fun e=>this.1 (by simpa using e)⟩
  ·rw [if_neg hs]
   constructor
   ·exact fun g=>g.1
   ·exact fun g=>⟨g,fun e=>hs (by simpa using congrArg Prod.snd e)⟩
 ·rw [hn'];split
  ·exact Ea (C6 h.nkeys _ _) _
  ·exact C6 h.nkeys _ _
 ·rw [hlk]
  have hcs:=hc s
  by_cases hs:s=id
  ·subst hs
   simp only [if_true] at hcs ⊢
   by_cases h0:DO (rmW ω (s,sp)) s=0
   ·rw [if_pos om,if_pos h0]
   ·rw [if_neg om,if_neg h0];congr 1;omega
  ·rw [if_neg hs,h.many s]
   rw [if_neg (fun e:id=s=>hs e.symm)] at hcs
   rw [hcs,Nat.add_zero]
abbrev Tld:=Int×Ev
def MX (x:Tld):List Value:=[AA x.1,AA x.2.1,AF x.2.2.1,AA x.2.2.2]
def RJ (s:FB):List Value:=[AA s.1,AF s.2]
def AZ (ω:List Wt) (es:List Ev):Nat→List Wt×List Tld
 |0=>(ω,[])
 |i+1=>(Y1 (AZ ω es i).1 (es.getD i (0,([],0))).1 (es.getD i (0,([],0))).2.1,(AZ ω es i).2++(DA (AZ ω es i).1 (es.getD i (0,([],0))).1 (es.getD i (0,([],0))).2.1).map fun j=>(j,es.getD i (0,([],0))))
def Bk (ω:List Wt) (es:List Ev):List Wt×List Tld:=AZ ω es es.length
def S6 (ω:List Wt) (p:Bs) (ks:List Int):List Int:=(ω.filter fun w=>decide (w.2.2=p)&&decide (w.2.1∈ks)).map (·.1)
def Ec (ω:List Wt) (p:Bs) (ks:List Int):List Wt:=ω.filter fun w=> !(decide (w.2.2=p)&&decide (w.2.1∈ks))
def HF (ω:List Wt) (sp:FB) (ids:List Int):List Wt:=ω.filter fun w=> !(decide (w.2=sp)&&decide (w.1∈ids))
theorem Qd (ω:List Wt) (sp:FB):HF ω sp []=ω:=by unfold HF;simp
theorem ADQ (ω:List Wt) (p:Bs):Ec ω p []=ω:=by unfold Ec;simp
theorem WG (ω:List Wt) (sp:FB) (ids:List Int) (i:Int):rmW (HF ω sp ids) (i,sp)=HF ω sp (ids++[i]):=by
 unfold rmW HF
 rw [filter_filter]
 refine filter_congr fun w _=>?_
 obtain ⟨a,s⟩:=w
 by_cases h1:s=sp
 ·by_cases h2:a=i
  ·simp [h1,h2]
  ·simp [h1,h2]
 ·simp [h1]
theorem AAd {ω:List Wt} {sp:FB} {ids:List Int} {i:Int} (h:(i,sp)∈ω) (hi:i∉ids):(i,sp)∈HF ω sp ids:=by
 unfold HF;exact mem_filter.2 ⟨h,by simp [hi]⟩
theorem Qf {ω:List Wt} {p:Bs} {ks:List Int} {k:Int} {ids:List Int} (h:∀i,(i,(k,p))∈Ec ω p ks→i∈ids):HF (Ec ω p ks) (k,p) ids=Ec ω p (ks++[k]):=by
 have e:Ec ω p (ks++[k])=(Ec ω p ks).filter fun w=> !decide (w.2=(k,p)):=by
  unfold Ec
  rw [filter_filter]
  refine filter_congr fun w _=>?_
  obtain ⟨a,b,c⟩:=w
  by_cases h1:c=p
  ·by_cases h2:b=k
   ·simp [h1,h2]
   ·simp [h1,h2]
  ·simp [h1]
 rw [e]
 unfold HF
 refine filter_congr fun w hw=>?_
 by_cases hs:w.2=(k,p)
 ·have:=h w.1 (by rw [←hs];exact hw)
  simp [hs,this]
 ·simp [hs]
theorem Ob {α:Type} (f g:α→Bool) (h:∀x,f x=true→g x=false) (l:List α):(l.filter fun x=>f x||g x).Perm (l.filter f++l.filter g):=by
 induction l with
 |nil=>simp
 |cons a l ih=>
  cases hf:f a with
  |true=>simp [hf,h a hf];exact ih
  |false=>
   cases hg:g a with
   |true=>
    simp [hf,hg]
    exact (List.Perm.cons a ih).trans perm_middle.symm
   |false=>simp [hf,hg];exact ih
theorem RZ (ω:List Wt) (p:Bs) {ks:List Int} {k:Int} (hk:k∉ks):(S6 ω p (ks++[k])).Perm (S6 ω p ks++((Ec ω p ks).filter fun w=>decide (w.2=(k,p))).map (·.1)):=by
 have e:((Ec ω p ks).filter fun w=>decide (w.2=(k,p)))=ω.filter fun w=>decide (w.2=(k,p)):=by
  unfold Ec
  rw [filter_filter]
  refine filter_congr fun w _=>?_
  obtain ⟨a,b,c⟩:=w
  by_cases h2:b=k
  ·simp [h2,hk]
  ·simp [h2]
 rw [e]
 unfold S6
 rw [←map_append]
 refine List.Perm.map _ (List.Perm.trans (List.Perm.of_eq ?_) (Ob (fun w:Wt=>decide (w.2.2=p)&&decide (w.2.1∈ks)) (fun w=>decide (w.2=(k,p))) ?_ ω))
 ·refine filter_congr fun w _=>?_
  obtain ⟨a,b,c⟩:=w
  by_cases h1:c=p
  ·by_cases h2:b=k
   ·simp [h1,h2]
   ·simp [h1,h2]
  ·simp [h1]
 ·rintro ⟨a,b,c⟩ h
  simp at h ⊢
  intro hb hc
  exact hk (hb▸h.2)
theorem AFJ (ω:List Wt) (k:Int) (p:Bs):Ec ω p (Ak k)=Y1 ω k p:=by
 unfold Ec Y1 Vz;rfl
theorem AGV (ω:List Wt) (k:Int) (p:Bs):S6 ω p (Ak k)=(ω.filter (Vz k p)).map (·.1):=by
 unfold S6 Vz;rfl
theorem VN (k:Int):(Ak k).Nodup:=by
 unfold Ak
 split
 ·simp
 ·split
  ·decide
  ·split
   ·decide
   ·split<;>simp
theorem ABB (k:Int):(Ak k).length≤3:=by
 unfold Ak
 split
 ·simp
 ·split
  ·simp
  ·split
   ·simp
   ·split<;>simp
theorem VA {ω:List Wt} {m:By} {n:List (Int×Int)} (h:XW ω m n) {sp:FB} {y:Nat×List (Int×Int)} (hy:AC m sp=some y):(y.2.map (·.1)).Perm ((ω.filter fun w=>decide (w.2=sp)).map (·.1)):=by
 refine (perm_ext_iff_of_nodup (h.inn sp y hy).1 ?_).2 fun i=>?_
 ·refine pairwise_map.2 (List.Pairwise.imp_of_mem ?_ (h.nod.filter _))
  intro a b ha hb hne e
  apply hne
  have h1:=(mem_filter.1 ha).2
  have h2:=(mem_filter.1 hb).2
  simp at h1 h2
  obtain ⟨a1,a2⟩:=a;obtain ⟨b1,b2⟩:=b
  dsimp only at *
  rw [e,h1,h2]
 ·constructor
  ·intro hi
   exact mem_map.2 ⟨(i,sp),mem_filter.2 ⟨(h.mem i sp).2 ⟨y,hy,hi⟩,by simp⟩,rfl⟩
  ·intro hi
   obtain ⟨w,hw,rfl⟩:=mem_map.1 hi
   obtain ⟨h1,h2⟩:=mem_filter.1 hw
   have h2:w.2=sp:=by simpa using h2
   obtain ⟨z,hz,hzi⟩:=(h.mem w.1 sp).1 (by rw [←h2];exact h1)
   rw [hy] at hz;cases hz
   exact hzi
theorem Zp {ω:List Wt} {m:By} {n:List (Int×Int)} (h:XW ω m n) {sp:FB} (hy:AC m sp=none):(ω.filter fun w=>decide (w.2=sp))=[]:=by
 rw [filter_eq_nil_iff]
 intro w hw
 simp only [decide_eq_true_eq]
 intro e
 obtain ⟨z,hz,-⟩:=(h.mem w.1 sp).1 (by rw [←e];exact hw)
 rw [hy] at hz;cases hz
def QB (s:Int) (x:FB×(Nat×List (Int×Int))):Bool:=decide (s∈x.2.2.map (·.1))
def Ig (ω:List Wt) (s:Int) (sps:List FB):List Wt:=ω.filter fun w=> !(decide (w.1=s)&&decide (w.2∈sps))
theorem Zw (ω:List Wt) (s:Int):Ig ω s []=ω:=by unfold Ig;simp
theorem WX (ω:List Wt) (s:Int) (sps:List FB) (sp:FB):rmW (Ig ω s sps) (s,sp)=Ig ω s (sps++[sp]):=by
 unfold rmW Ig
 rw [filter_filter]
 refine filter_congr fun w _=>?_
 obtain ⟨a,b⟩:=w
 by_cases h1:a=s
 ·by_cases h2:b=sp
  ·simp [h1,h2]
  ·simp [h1,h2]
 ·simp [h1]
theorem Zx {ω:List Wt} {s:Int} {sps:List FB} {sp:FB} (h:(s,sp)∈ω) (hi:sp∉sps):(s,sp)∈Ig ω s sps:=by
 unfold Ig;exact mem_filter.2 ⟨h,by simp [hi]⟩
theorem Zs {ω:List Wt} {s:Int} {sps:List FB} (h:∀sp,(s,sp)∈ω→sp∈sps):Ig ω s sps=VH ω s:=by
 unfold Ig VH
 refine filter_congr fun w hw=>?_
 obtain ⟨a,b⟩:=w
 by_cases h1:a=s
 ·subst h1;simp [h b hw]
 ·simp [h1]
theorem Zb {ω:List Wt} {m:By} {n:List (Int×Int)} (h:XW ω m n) {s:Int} {sp:FB}:(s,sp)∈ω↔sp∈(m.filter (QB s)).map (·.1):=by
 rw [h.mem]
 constructor
 ·rintro ⟨y,hy,hs⟩
  exact mem_map.2 ⟨(sp,y),mem_filter.2 ⟨De hy,by simpa [QB] using hs⟩,rfl⟩
 ·intro hm
  obtain ⟨x,hx,rfl⟩:=mem_map.1 hm
  obtain ⟨h1,h2⟩:=mem_filter.1 hx
  exact ⟨x.2,Bu h.keys h1,by simpa [QB] using h2⟩
theorem LX {α:Type} {l:List α} (h:l.Nodup) {i:Nat} (hi:i<l.length):l[i]∉l.take i:=by
 have e:l.take i++l[i]::l.drop (i+1)=l:=by rw [←drop_eq_getElem_cons hi];exact take_append_drop i l
 have h2:(l.take i++l[i]::l.drop (i+1)).Nodup:=by rw [e];exact h
 intro hm
 exact (nodup_append.1 h2).2.2 _ hm _ mem_cons_self rfl
theorem AGM {ω:List Wt} {m ss rest:By} {n:List (Int×Int)} (h:XW ω m n) (hp:m.Perm (ss++rest)) (s:Int):((ss.filter (QB s)).map (·.1)).length≤64∧((ss.filter (QB s)).map (·.1)).Nodup:=by
 have hk:((ss++rest).map (·.1)).Nodup:=((hp.map _).nodup_iff).1 h.keys
 have hn:((ss.filter (QB s)).map (·.1)).Nodup:=(((filter_sublist).trans (sublist_append_left ss rest)).map _).nodup hk
 refine ⟨?_,hn⟩
 have h1:(((ss.filter (QB s)).map (·.1)).map fun sp=>((s,sp):Wt)).length≤(ω.filter fun w=>decide (w.1=s)).length:=by
  refine Mw ?_ fun w hw=>?_
  ·exact pairwise_map.2 (hn.imp fun hne e=>hne (by simpa using e))
  ·obtain ⟨sp,hsp,rfl⟩:=mem_map.1 hw
   refine mem_filter.2 ⟨(Zb h).2 ?_,by simp⟩
   obtain ⟨x,hx,rfl⟩:=mem_map.1 hsp
   obtain ⟨x1,x2⟩:=mem_filter.1 hx
   exact mem_map.2 ⟨x,mem_filter.2 ⟨hp.mem_iff.2 (mem_append_left _ x1),x2⟩,rfl⟩
 rw [length_map] at h1
 exact Nat.le_trans h1 (h.few s)
theorem AFV (ω:List Wt) (p:Bs) (ks:List Int):(S6 ω p ks).length≤ω.length:=by unfold S6;rw [length_map];exact length_filter_le _ _
theorem ADM (l:List Int):(Id l).length≤l.length:=Lib.compact_length_le l
theorem Tq (ω:List Wt) (k:Int) (p:Bs):(DA ω k p).length≤ω.length:=by
 unfold DA
 refine Nat.le_trans (ADM _) ?_
 rw [H4,length_map];exact length_filter_le _ _
theorem P2 {l m:List Int} (h:l.Perm m):Ce l=Ce m:=
 List.Perm.eq_of_pairwise (le:=fun a b:Int=>a≤b) (fun a b _ _ h1 h2=>by omega) (LQ l) (LQ m) ((IJ l).trans (h.trans (IJ m).symm))
theorem GU {ω:List Wt} {es:List Ev} {i:Nat} {e:Ev} (h:es.getD i (0,([],0))=e):AZ ω es (i+1)=(Y1 (AZ ω es i).1 e.1 e.2.1,(AZ ω es i).2++(DA (AZ ω es i).1 e.1 e.2.1).map fun j=>(j,e)):=by
 rw [AZ,h]
theorem OO (ω:List Wt) (es:List Ev):∀i,(AZ ω es i).1.length≤ω.length∧(AZ ω es i).2.length≤i*ω.length:=by
 intro i
 induction i with
 |zero=>exact ⟨Nat.le_refl _,by simp [AZ]⟩
 |succ i ih=>
  rw [GU rfl]
  refine ⟨Nat.le_trans (length_filter_le _ _) ih.1,?_⟩
  have:=Tq (AZ ω es i).1 (es.getD i (0,([],0))).1 (es.getD i (0,([],0))).2.1
  dsimp only
  rw [length_append,length_map,Nat.add_mul,Nat.one_mul]
  omega
/-! ### Told of one session alone -/
/-! ### With others -/
theorem AFo (a b:FB):GA prog 10000 266 (NC a) (NC b) (decide (a=b)):=by
 have h:=GA.struct (d:=9999) (xs:=[AA a.1,AF a.2]) (ys:=[AA b.1,AF b.2]) underlying266 kQ
  (.cons (TH.cell dQ CT rfl rfl (GA.int underlying3 a.1 b.1)) (.cons (TH.cell dQ HL rfl rfl (GA.str underlying9 a.2 b.2)) .nil))
 have e:([decide (a.1=b.1),decide (a.2=b.2)].all id)=decide (a=b):=by
  obtain ⟨a1,a2⟩:=a;obtain ⟨b1,b2⟩:=b
  simp [Bool.decide_and]
 rw [←e];exact h
theorem UD:Aa prog 266 NC:=by
 refine Aa.struct underlying266 AFo (fun a e w=>?_) (fun a=>?_)
 ·refine R2 (d:=9999) underlying266 (xs:=[AA a.1,AF a.2].toArray) (fun f hf=>?_) w
  simp only [mem_cons,not_mem_nil,or_false] at hf
  rcases hf with rfl|rfl
  ·exact FCk.cell (d:=9998) dQ CT rfl underlying3 (.inr (.inl ⟨_,rfl⟩))
  ·exact FCk.cell (d:=9998) dQ HL rfl underlying9 (.inl rfl)
 ·rw [show (10000:Nat)=9999+1 from rfl]
  simp [NC,Instr.sameBits,TF]
theorem XQ (v:Value) (n:Nat) (xs:List Int) (hn:n<4611686018427387904):Fn prog 159 #[v] [At 3 1 v n (BZ xs)] fun u L=>u= .tuple #[]∧L=[At 3 1 v n (BZ (Ce xs))]:=
 AGE Tryz.sortA 3 v n xs hn
theorem YE (v:Value) (n:Nat) (xs:List Int) (hn:n<4611686018427387904):Fn prog 170 #[v] [At 3 1 v n (BZ xs)] fun u L=>(∃a c,u= .slice a (Id xs).length c)∧L=[At 3 1 u (Id xs).length (BZ (Id xs))]:=
 WT Tryz.compactA 3 v n xs hn
theorem Zh:Fn prog 57 #[] [] fun v L=> ∃t,v=AD t∧L=[Px t []]:=by
 refine Fn.intro func57 Y Y fun F W=>?_
 refine Z ?_
 refine .oq (.makeMap underlying200) ?_
 rintro v L' ⟨rb,rfl,rfl⟩
 refine .oq (.makeMap underlying201) ?_
 rintro v L' ⟨rm,rfl,rfl⟩
 refine .q (.build (us:=[(0,_),(1,_)]) AIj AIB Y Y (by simp [AB])) Y (.oq (.box Y) ?_)
 rintro v L' ⟨t,rfl,rfl⟩
 refine Z ?_
 refine .fold (p:=mapR rb []) (.cons (p:=pt rb (.map #[] 0)) O .nil) (fun h hp=>E8 (Gx hp)) (.fold (p:=mapR rm []) (.cons (p:=pt rm (.map #[] 0)) O .nil) (fun h hp=>E8 (Gx hp)) (.add (p:=Am inW []) CH ?_))
 have hI:XW [] [] []:=⟨by simp,by simp,fun s=>Nat.zero_le _,by simp,fun sp y h=>(by cases h),fun id sp=>⟨fun h=>(by cases h),fun ⟨y,h,_⟩=>(by cases h)⟩,by simp,fun s=>rfl⟩
 refine .tbFold hI O Y Y Y ?_
 exact .dn Y Y ⟨_,Y,Y⟩
theorem VK (k:Int):Fn prog 168 #[AA k] [] fun v L=>(∃a c,v= .slice a (Ak k).length c)∧L=[At 3 1 v (Ak k).length (BZ (Ak k))]:=by
 refine Fn.intro func168 Y Y fun F W=>?_
 refine Z ?_
 refine .condD Y (fun h4=>?_) (fun h4=>?_)
 ·refine .sr (.oq (.buildSlice1 (vs:=[_]) Bv FA Y Y Y Y Y dQ) ?_)
  rintro v L' ⟨bk,rfl,rfl⟩
  refine Z ?_
  refine .slMake (b:=bk) (n:=1) (c:=1) (xs:=BZ [2]) O (Nat.le_refl _) dQ Y (Z ?_)
  have e:Ak k=[2]:=by unfold Ak;rw [if_pos h4]
  rw [e]
  exact .dn Y Y ⟨⟨_,_,Y⟩,Y⟩
 refine Z ?_
 refine .condD Y (fun h7=>?_) (fun h7=>?_)
 ·refine .sr (.oq (.buildSlice1 (vs:=[_,_,_]) Bv FA Y Y Y Y Y dQ) ?_)
  rintro v L' ⟨bk,rfl,rfl⟩
  refine Z ?_
  refine .slMake (b:=bk) (n:=3) (c:=3) (xs:=BZ [1,2,3]) O (Nat.le_refl _) dQ Y (Z ?_)
  have e:Ak k=[1,2,3]:=by unfold Ak;rw [if_neg h4,if_pos h7]
  rw [e]
  exact .dn Y Y ⟨⟨_,_,Y⟩,Y⟩
 refine Z ?_
 refine .condD Y (fun h10=>?_) (fun h10=>?_)
 ·refine .sr (.oq (.buildSlice1 (vs:=[_,_]) Bv FA Y Y Y Y Y dQ) ?_)
  rintro v L' ⟨bk,rfl,rfl⟩
  refine Z ?_
  refine .slMake (b:=bk) (n:=2) (c:=2) (xs:=BZ [1,2]) O (Nat.le_refl _) dQ Y (Z ?_)
  have e:Ak k=[1,2]:=by unfold Ak;rw [if_neg h4,if_neg h7,if_pos h10]
  rw [e]
  exact .dn Y Y ⟨⟨_,_,Y⟩,Y⟩
 refine Z ?_
 refine .condD Y (fun h13=>?_) (fun h13=>?_)
 ·refine .sr (.oq (.buildSlice1 (vs:=[_]) Bv FA Y Y Y Y Y dQ) ?_)
  rintro v L' ⟨bk,rfl,rfl⟩
  refine Z ?_
  refine .slMake (b:=bk) (n:=1) (c:=1) (xs:=BZ [3]) O (Nat.le_refl _) dQ Y (Z ?_)
  have e:Ak k=[3]:=by unfold Ak;rw [if_neg h4,if_neg h7,if_neg h10,if_pos h13]
  rw [e]
  exact .dn Y Y ⟨⟨_,_,Y⟩,Y⟩
 refine Z ?_
 refine .add (AU 3 1) (Z ?_)
 have e:Ak k=[]:=by unfold Ak;rw [if_neg h4,if_neg h7,if_neg h10,if_neg h13]
 rw [e]
 exact .dn Y Y ⟨⟨_,_,Y⟩,Y⟩
/- not in this seat -/
theorem Oz (t:Nat) (ω:List Wt) (sp:FB) (id:Int) (hm:(id,sp)∈ω):Fn prog 169 #[AD t, .agg #[AA sp.1,AF sp.2],AA id] [Px t ω] fun v L=>v= .tuple #[]∧L=[Px t (rmW ω (id,sp))]:=by
 refine Fn.intro func169 Y Y fun F W=>?_
 refine .tbOpen (ω:=ω) O fun rb rm m q hI=>?_
 obtain ⟨⟨pb,l⟩,hb,hin⟩:=(hI.mem id sp).1 hm
 dsimp only at hin
 have hfew:=hI.few id
 refine .bigTake hb O (.sr (.oq (.box Y) ?_))
 rintro v L' ⟨bsp,rfl,rfl⟩
 refine .nil (.ptCast (b:=bsp) (l':=[AA sp.1,AF sp.2]) O Y ?_)
 refine .then_n (.seq (.draw [7] [[0,1,2,3,4,5,6,7]] mixed kQ (.g0 (Z ?_))))
 refine D.kv Y (.loadAs (vs:=[AA sp.1,AF sp.2]) Y IU O (by simp) Y) (.kv Y (.lookupY (m:=m) (enc:=byV) UD (hb) Y Y underlying200 Rm O Y) (Z ?_))
 refine D.hh Y (.mapDel (m:=l) (enc:=Xt) (k:=id) (Aa.int underlying3) Y Y Y underlying201 ?he10) ?_
 case he10=>rfl
 rintro v L' rfl
 refine Z ?_
 refine .draw [] [[0,1,2,3,4,5,6,7]] mixed kQ (.g0 (Z ?_))
 refine D.kv Y (.loadAs (vs:=[AA sp.1,AF sp.2]) Y IU O (by simp) Y) (.kv Y (.lookupY (m:=m) (enc:=byV) UD (hb) Y Y underlying200 Rm O Y) (.kv Y (.maplen Y underlying201 Y O) (Z ?_)))
 refine .condD Y (fun h20=>?_) (fun h20=>?_)
 ·refine .draw [5] [[0,1,2,3,4,5]] mixed kQ (.g0 (Z ?_))
  refine D.kv Y (.loadAs (vs:=[AA sp.1,AF sp.2]) Y IU O (by simp) Y) (.hh Y (.mapDel (m:=m) (enc:=byV) (k:=sp) UD Y Y Y underlying200 ?he25) ?_)
  case he25=>rfl
  rintro v L' rfl
  refine Z ?_
  refine .q (.lookupV (m:=q) (enc:=Xt) (Aa.int underlying3) (v:=AA (DO ω id:Nat)) (ZN hI id) (Yq hI id) Y Y underlying201 FA O Y) Y (Z ?_)
  refine .oq (.mapSet (m:=q) (enc:=Xt) (v:=((DO ω id:Nat):Int)-1) (k:=id) (Aa.int underlying3) Y Y Y underlying201 ?he34) ?_
  case he34=>rfl
  rintro v L' rfl
  refine Z ?_
  refine .q (.lookupY (m:=CF q id (((DO ω id:Nat):Int)-1)) (enc:=Xt) (Aa.int underlying3) (by rw [Fr,if_pos rfl]) Y Y underlying201 FA O Y) Y (Z ?_)
  refine .condD Y (fun h39=>?_) (fun h39=>?_)
  ·refine Z ?_
   refine .oq (.mapDel (m:=CF q id (((DO ω id:Nat):Int)-1)) (enc:=Xt) (k:=id) (Aa.int underlying3) Y Y Y underlying201 ?he48) ?_
   case he48=>rfl
   rintro v L' rfl
   refine .nil (.done_n ?_)
   have hnil:Bg l id=[]:=by exact length_eq_zero_iff.1 (by simpa using h20)
   have hI2:=hI.gone hm hb (m':=Bg m sp) (n':=Bg (CF q id (((DO ω id:Nat):Int)-1)) id) (by rw [if_pos hnil]) (by rw [if_pos om])
   refine .tbFold hI2 O Y Y Y ?_
   exact .vv
  refine .skip (.done_n ?_)
  have hnil:Bg l id=[]:=by exact length_eq_zero_iff.1 (by simpa using h20)
  have hI2:=hI.gone hm hb (m':=Bg m sp) (n':=CF q id (((DO ω id:Nat):Int)-1)) (by rw [if_pos hnil]) (by rw [if_neg om])
  refine .tbFold hI2 O Y Y Y ?_
  exact .vv
 refine Z ?_
 refine .q (.lookupV (m:=q) (enc:=Xt) (Aa.int underlying3) (v:=AA (DO ω id:Nat)) (ZN hI id) (Yq hI id) Y Y underlying201 FA O Y) Y (Z ?_)
 refine .oq (.mapSet (m:=q) (enc:=Xt) (v:=((DO ω id:Nat):Int)-1) (k:=id) (Aa.int underlying3) Y Y Y underlying201 ?he57) ?_
 case he57=>rfl
 rintro v L' rfl
 refine Z ?_
 refine .q (.lookupY (m:=CF q id (((DO ω id:Nat):Int)-1)) (enc:=Xt) (Aa.int underlying3) (by rw [Fr,if_pos rfl]) Y Y underlying201 FA O Y) Y (Z ?_)
 refine .condD Y (fun h39=>?_) (fun h39=>?_)
 ·refine Z ?_
  refine .oq (.mapDel (m:=CF q id (((DO ω id:Nat):Int)-1)) (enc:=Xt) (k:=id) (Aa.int underlying3) Y Y Y underlying201 ?he71) ?_
  case he71=>rfl
  rintro v L' rfl
  refine .nil (.done_n ?_)
  have hnil:¬Bg l id=[]:=by intro e;apply h20;rw [e];rfl
  have hI2:=hI.gone hm hb (m':=CF m sp (pb,Bg l id)) (n':=Bg (CF q id (((DO ω id:Nat):Int)-1)) id) (by rw [if_neg hnil]) (by rw [if_pos om])
  refine .bigPut (f:=inW) (m:=m) sp (pb,Bg l id) Y O (.tbFold hI2 O Y (Y5 (y':=(pb,Bg l id)) hb Y).symm Y ?_)
  exact .vv
 refine .skip (.done_n ?_)
 have hnil:¬Bg l id=[]:=by intro e;apply h20;rw [e];rfl
 have hI2:=hI.gone hm hb (m':=CF m sp (pb,Bg l id)) (n':=CF q id (((DO ω id:Nat):Int)-1)) (by rw [if_neg hnil]) (by rw [if_neg om])
 refine .bigPut (f:=inW) (m:=m) sp (pb,Bg l id) Y O (.tbFold hI2 O Y (Y5 (y':=(pb,Bg l id)) hb Y).symm Y ?_)
 exact .vv
theorem G.tbCast {W:World} {n:Nat} {ds:List Deferred} {E:Bi} {L R:List HP} {X:Act→World→Prop} {t:Nat} {ω ω':List Wt} (hL:BJ (Px t ω) L R) (hw:ω'=ω) (h:G W n ds E (Px t ω'::R) X):G W n ds E L X:=by
 subst hw;exact G.focus hL h
theorem Wc (t:Nat) (ω:List Wt) (s:Int) (hlen:ω.length≤1048576):Fn prog 119 #[AD t,AA s] [Px t ω] fun v L=>v= .tuple #[]∧L=[Px t (VH ω s)]:=by
 refine Fn.intro func119 Y Y fun F W=>?_
 refine .tbOpen (ω:=ω) O fun rb rm m q hI=>?_
 have hnd:=hI.keys
 refine Z ?_
 refine .add (AU 266 2) (Z ?_)
 refine .oq (.range (f:=fun x:FB×(Nat×List (Int×Int))=>(NC x.1,byV x.2)) (m:=m) Y underlying200 ?he6) ?_
 case he6=>rfl
 rintro v L' ⟨it,rfl,rfl⟩
 refine Z ?_
 refine .loopK (ι:=By×Value×(List FB)) (fun q E=>(4,q.2.1)::E) (fun q=>[EE (fun x:FB×(Nat×List (Int×Int))=>(NC x.1,byV x.2)) it rb m q.1,Am inW m,At 266 2 q.2.1 q.2.2.length (q.2.2.flatMap RJ)]) (fun q=>q.2.2=(q.1.filter (QB s)).map (·.1)∧(∃rest,m.Perm (q.1++rest))∧∃a c,q.2.1= .slice a q.2.2.length c) (fun q=>m.length-q.1.length) (([], .slice none 0 0,[])) (ts:=[0,1,13]) O (⟨Y,⟨m, .refl _⟩,none,0,Y⟩) O O ?_
 rintro ⟨ss,u,acc⟩ ⟨hacc,⟨rest,hm⟩,au,cu,hu⟩
 dsimp only
 dsimp only at hacc hm hu
 subst hu
 have hml:=hm.length_eq
 rw [length_append] at hml
 obtain ⟨hafew,hanod⟩:=AGM hI hm s
 rw [←hacc] at hafew hanod
 refine .sr (.oq (.next Y) ?_)
 rintro v L' (⟨rfl,hp2,rfl⟩|⟨x,rest2,rfl,hp2,rfl⟩)
 ·refine .rangeDone O (.tbFold hI O Y Y Y ?_)
  have hacc2:∀sp,(s,sp)∈ω↔sp∈acc:=fun sp=>by rw [Zb hI,hacc];exact ((hp2.filter _).map _).mem_iff
  refine Z ?_
  refine .tbCast (ω':=Ig ω s (acc.take 0)) O (by rw [take_zero,Zw]) (.loopK (ι:=Nat) (fun q E=>(29,AA q)::E) (fun q=>[Px t (Ig ω s (acc.take q))]) (fun q=>q≤acc.length) (fun q=>acc.length-q) (0) (ts:=[0,1,27,28]) O (Nat.zero_le _) O O ?_)
  rintro i hi
  refine Z ?_
  refine .condD Y (fun h30=>?_) (fun h30=>?_)
  ·have hi2:i<acc.length:=by omega
   refine .slShape (v:= .slice au _ cu) O om fun b4 c4' e m4 _=>?_
   simp only [Value.slice.injEq,true_and] at e
   obtain ⟨rfl,rfl⟩:=e
   have hnot:acc[i]∉acc.take i:=LX hanod hi2
   refine Z ?_
   refine .q (.indexAddr Y Y X3 om) Y (.q (.loadRdA (sz:=2) (j:=i*2) (k:=2) (p:=At 266 2 _ acc.length (acc.flatMap RJ)) (vs:=[AA acc[i].1,AF acc[i].2]) Y IU O (fun h hp=>Ad hp) (by simp) om om (BH (f:=RJ) (sz:=2) (fun _ _=>Y) hi2)) Y (.oq (.allocA MF) ?_))
   rintro v L' ⟨b8,rfl,rfl⟩
   refine .sa Y Y Wo (by (first|(simp [AB];done)|(simp [AB,AQ,Value.cells];done))) ?_
   refine .nil (.ptCast (b:=b8) (l':=[AA acc[i].1,AF acc[i].2]) O Y ?_)
   refine Z ?_
   refine .q (.loadAs (vs:=[AA acc[i].1,AF acc[i].2]) Y IU O (by simp) Y) Y (Z ?_)
   refine .cv func169 [_,_,_] (Oz t (Ig ω s (acc.take i)) acc[i] s (Zx ((hacc2 _).2 (getElem_mem hi2)) hnot)) ?_
   refine Z ?_
   rw [WX,←take_succ_eq_append_getElem hi2]
   exact .rk (i+1) om om O
  have hii:i=acc.length:=by omega
  rw [hii,take_length,Zs (fun sp h=>(hacc2 sp).1 h)]
  refine Z ?_
  refine .done_n ?_
  exact .vv
 refine Z ?_
 refine .q (.entryE (v:= .tuple #[NC x.1,byV x.2]) Y O Y) Y (Z ?_)
 refine .oq (.allocA MF) ?_
 rintro v L' ⟨bs5,rfl,rfl⟩
 refine .sa Y Y Wo (by (first|(simp [AB];done)|(simp [AB,AQ,Value.cells];done))) ?_
 refine Z ?_
 refine .ptCast (b:=bs5) (l':=[AA x.1.1,AF x.1.2]) O Y ?_
 have hxm:x∈m:=hp2.mem_iff.2 (by simp)
 have hxb:AC m x.1=some x.2:=Bu hnd hxm
 refine .bigTake hxb O (Z ?_)
 refine .q (.lookupV (m:=x.2.2) (enc:=Xt) (v:=AA (if s∈x.2.2.map (·.1) then s else 0)) (Aa.int underlying3) (fun b hb=>by rw [if_pos (Cw.1 (by rw [hb];rfl))];exact congrArg AA ((hI.inn _ _ hxb).2.2 _ (De hb))) (fun h0=>by rw [if_neg (Fl.1 h0)]) rfl rfl underlying201 FA O rfl) rfl (Z ?_)
 refine .condN Y (fun h22=>?_) (fun h22=>?_)
 ·have hin:s∈x.2.2.map (·.1):=Decidable.byContradiction fun e=>by rw [if_neg e] at h22;exact h22 rfl
  refine Z ?_
  refine .q (.loadAs (vs:=[AA x.1.1,AF x.1.2]) Y IU O (by simp) Y) Y (.oq (.buildSlice (vs:=[_]) X3 MF Y Y Y Y cQ dQ) ?_)
  rintro v L' ⟨b5_2,rfl,rfl⟩
  refine .oq (.append1 Y Y Y X3 MF Y Y ?c50 ?c51 (Nat.le_refl _) ?c52 dQ) ?_
  case c50=>(first|(simp [AB];done)|(simp [AB,AQ,Value.cells];done))
  case c51=>rfl
  case c52=>omega
  rintro v L' ⟨⟨a5_3,c5_3,rfl⟩,rfl⟩
  refine Z ?_
  have hl:=hp2.length_eq
  simp at hl
  refine .bigPut (f:=inW) (m:=m) x.1 x.2 (p:=mapR x.2.1 (T4 x.2.2)) Y O ?_
  rw [Cj hxb]
  rw [show acc.flatMap RJ++(List.map (fun v=>v.cells.toList) [Value.agg #[AA x.1.1,AF x.1.2]]).flatten=(acc++[x.1]).flatMap RJ by simp [RJ,Value.cells],show acc.length+1=(acc++[x.1]).length by simp]
  exact .rk ((ss++[x], .slice a5_3 (acc++[x.1]).length c5_3,acc++[x.1])) (⟨by dsimp only;rw [hacc,filter_append];simp [QB,hin],⟨_,by simpa using hp2⟩,_,_,rfl⟩) (by dsimp only;simp;omega) O
 have hin:¬s∈x.2.2.map (·.1):=fun e=>by rw [if_pos e] at h22;have:=(hI.fit (s,x.1) ((hI.mem _ _).2 ⟨_,hxb,e⟩)).1;dsimp only at this;omega
 refine Z ?_
 have hl:=hp2.length_eq
 simp at hl
 refine .bigPut (f:=inW) (m:=m) x.1 x.2 (p:=mapR x.2.1 (T4 x.2.2)) Y O ?_
 rw [Cj hxb]
 exact .rk ((ss++[x],_,acc)) (⟨by dsimp only;rw [hacc,filter_append];simp [QB,hin],⟨_,by simpa using hp2⟩,_,_,rfl⟩) (by dsimp only;simp;omega) O
theorem Vn (ω:List Wt) (sp:FB) (x:Int):(x,sp)∈ω↔x∈(ω.filter fun w=>decide (w.2=sp)).map (·.1):=by
 constructor
 ·intro h;exact mem_map.2 ⟨(x,sp),mem_filter.2 ⟨h,by simp⟩,rfl⟩
 ·intro h
  obtain ⟨w,hw,rfl⟩:=mem_map.1 h
  obtain ⟨h1,h2⟩:=mem_filter.1 hw
  have h2:w.2=sp:=by simpa using h2
  rw [←h2];exact h1
theorem O9 {ω:List Wt} {m:By} {n:List (Int×Int)} (h:XW ω m n) {sp:FB}:((ω.filter fun w=>decide (w.2=sp)).map (·.1)).Nodup:=by
 refine pairwise_map.2 (List.Pairwise.imp_of_mem ?_ (h.nod.filter _))
 intro a b ha hb hne e
 apply hne
 have h1:=(mem_filter.1 ha).2
 have h2:=(mem_filter.1 hb).2
 simp at h1 h2
 obtain ⟨a1,a2⟩:=a;obtain ⟨b1,b2⟩:=b
 dsimp only at *
 rw [e,h1,h2]
theorem WZ (t:Nat) (ω:List Wt) (va:Value) (es:List Ev) (p:HP) (hp:∀h:Hp,p h→CA 3 h va es.length (es.flatMap FP)) (hl:ω.length≤1048576) (hel:es.length≤3145728):Fn prog 118 #[AD t,va] [Px t ω,p] fun v L=> ∃a c,v= .slice a (Bk ω es).2.length c∧L=[Px t (Bk ω es).1,p,At 210 4 v (Bk ω es).2.length ((Bk ω es).2.flatMap MX)]:=by
 refine Fn.intro func118 Y Y fun F W=>?_
 refine .rdAny (p:=p) hp O fun aa ca e0 _=>?_
 subst e0
 refine Z ?_
 refine .add (AU 210 4) (Z ?_)
 refine .tbCast (ω':=(AZ ω es 0).1) O Y (.loopK (ι:=Nat×Value) (fun q E=>(20,AA q.1)::(5,q.2)::E) (fun q=>[Px t (AZ ω es q.1).1,At 210 4 q.2 (AZ ω es q.1).2.length ((AZ ω es q.1).2.flatMap MX)]) (fun q=>q.1≤es.length∧∃a c,q.2= .slice a (AZ ω es q.1).2.length c) (fun q=>es.length-q.1) (0, .slice none 0 0) (ts:=[0,4,18,19]) O (⟨Nat.zero_le _,none,0,Y⟩) O O ?_)
 rintro ⟨i,u⟩ ⟨hi,au,cu,hu⟩
 dsimp only
 dsimp only at hi hu
 subst hu
 obtain ⟨hwl,hol⟩:=OO ω es i
 have hol2:i*ω.length≤3145728*1048576:=Nat.mul_le_mul om hl
 refine Z ?_
 refine .condD Y (fun h21=>?_) (fun h21=>?_)
 ·have hi2:i<es.length:=by omega
  refine .rdShape (p:=p) hp O om fun ba oa e0=>?_
  subst e0
  have hes:es.getD i (0,([],0))=es[i]:=by simp [hi2]
  have hat:((es.flatMap FP).drop (i*3)).take 3=FP es[i]:=BH (f:=FP) (sz:=3) (fun _ _=>rfl) hi2
  generalize es[i]=e at hes hat
  have hat:((es.flatMap FP).drop (i*3)).take 3=[AA e.1,AF e.2.1,AA e.2.2]:=hat
  have hkn:=VN e.1
  have hkl:=ABB e.1
  refine Z ?_
  refine .q (.indexAddr Y Y JI om) Y (.q (.loadRdA (sz:=3) (j:=i*3) (k:=3) (p:=p) (vs:=[AA e.1,AF e.2.1,AA e.2.2]) Y YR O hp (by simp) om om hat) Y (.oq (.allocA Dc) ?_))
  rintro v L' ⟨be,rfl,rfl⟩
  refine .sa Y Y AIm (by (first|(simp [AB];done)|(simp [AB,AQ,Value.cells];done))) ?_
  refine .nil (.ptCast (b:=be) (l':=[AA e.1,AF e.2.1,AA e.2.2]) O Y ?_)
  refine .then_n (.seq (.add (AU 3 1) (Z ?_)))
  refine .oq (.c func168 [_] (VK e.1)) ?_
  rintro v L' ⟨⟨ak,ck,rfl⟩,rfl⟩
  refine Z ?_
  refine .tbCast (ω':=Ec (AZ ω es i).1 e.2.1 ((Ak e.1).take 0)) O (by rw [take_zero,ADQ]) (.loopK (ι:=Nat×Value×(List Int)) (fun q E=>(28,AA q.1)::(8,q.2.1)::E) (fun q=>[Px t (Ec (AZ ω es i).1 e.2.1 ((Ak e.1).take q.1)),At 3 1 q.2.1 q.2.2.length (BZ q.2.2)]) (fun q=>q.1≤(Ak e.1).length∧q.2.2.Perm (S6 (AZ ω es i).1 e.2.1 ((Ak e.1).take q.1))∧∃a c,q.2.1= .slice a q.2.2.length c) (fun q=>(Ak e.1).length-q.1) (0, .slice none 0 0,[]) (ts:=[0,4,5,7,18,19,20,21,22,23,24,25,26,27]) O (⟨Nat.zero_le _,by dsimp only;rw [take_zero];simp [S6],none,0,rfl⟩) O O ?_)
  rintro ⟨j,w,who⟩ ⟨hj,hwho,aw,cw,hw⟩
  dsimp only
  dsimp only at hj hwho hw
  subst hw
  have hwhl:=hwho.length_eq
  have hwhl2:=AFV (AZ ω es i).1 e.2.1 ((Ak e.1).take j)
  refine Z ?_
  refine .condD Y (fun h29=>?_) (fun h29=>?_)
  ·have hj2:j<(Ak e.1).length:=by omega
   refine .slShape (v:= .slice ak _ ck) O om fun bk ck' e0 mk _=>?_
   simp only [Value.slice.injEq,true_and] at e0
   obtain ⟨rfl,rfl⟩:=e0
   refine Z ?_
   refine .q (.indexAddr Y Y Bv om) Y (.q (.loadSl (v:=AA (Ak e.1)[j]) (i:=j*1) Y CT O (by simp [hj2])) Y (Z ?_))
   refine .q (.build (us:=[(0,_),(1,_)]) AIw MF Y Y (by simp [AB])) Y (.oq (.allocA MF) ?_)
   rintro v L' ⟨bs,rfl,rfl⟩
   refine .sa Y Y Wo (by (first|(simp [AB];done)|(simp [AB,AQ,Value.cells];done))) ?_
   refine .nil (.ptCast (b:=bs) (l':=[AA (Ak e.1)[j],AF e.2.1]) O Y ?_)
   refine .then_n (.seq (.add (AU 3 1) (.tbOpen (ω:=(Ec (AZ ω es i).1 e.2.1 ((Ak e.1).take j))) O fun rb rm m q hI=>(.region ?_))))
   rcases hal:AC m ((Ak e.1)[j],e.2.1) with _|⟨pb,l⟩
   ·refine Z ?_
    refine .draw [6] [[0,1,2,3,4,5,6]] mixed kQ (.g0 (Z ?_))
    refine D.kv Y (.loadAs (vs:=[AA (Ak e.1)[j],AF e.2.1]) Y IU O (by simp) Y) (.kv Y (.lookupN (m:=m) (enc:=byV) UD (hal) Y Y underlying200 Rm O Y) (.hh Y (.rangeNil Y underlying201) ?_))
    rintro v L' ⟨it,rfl,rfl⟩
    refine Z ?_
    refine .loopK (ι:=Unit) (fun q E=>(12, .slice none 0 0)::E) (fun q=>[AFl it]) (fun q=>True) (fun q=>0) (()) (ts:=[0,4,5,7,8,10,11,18,19,20,21,22,23,24,25,26,27,28,29,30,31,32,33,34,35,36,37,38,39,40,41,42]) O (trivial) O O ?_
    rintro u0-
    refine .sr (.oq (.nextNil Y) ?_)
    rintro v L' ⟨rfl,rfl⟩
    refine Z ?_
    refine .tbFold hI O Y Y Y ?_
    have hids:([]:List Int).Perm (((Ec (AZ ω es i).1 e.2.1 ((Ak e.1).take j)).filter fun w=>decide (w.2=((Ak e.1)[j],e.2.1))).map (·.1)):=by rw [Zp hI hal];exact .refl _
    have hand:([]:List Int).Nodup:=hids.nodup_iff.2 (O9 hI)
    have hamem:∀x,(x,((Ak e.1)[j],e.2.1))∈(Ec (AZ ω es i).1 e.2.1 ((Ak e.1).take j))↔x∈([]:List Int):=fun x=>(Vn _ _ _).trans hids.mem_iff.symm
    have halen:([]:List Int).length≤1048576:=by have h1:=hids.length_eq;have h2:=length_filter_le (fun w:Wt=>decide (w.2=((Ak e.1)[j],e.2.1))) (Ec (AZ ω es i).1 e.2.1 ((Ak e.1).take j));rw [length_map] at h1;have h3:(Ec (AZ ω es i).1 e.2.1 ((Ak e.1).take j)).length≤(AZ ω es i).1.length:=length_filter_le _ _;omega
    refine .tbCast (ω':=HF (Ec (AZ ω es i).1 e.2.1 ((Ak e.1).take j)) ((Ak e.1)[j],e.2.1) (([]:List Int).take 0)) O (by rw [take_zero,Qd]) (Z ?_)
    refine .loopK (ι:=Nat) (fun q E=>(53,AA q)::E) (fun q=>[Px t (HF (Ec (AZ ω es i).1 e.2.1 ((Ak e.1).take j)) ((Ak e.1)[j],e.2.1) (([]:List Int).take q))]) (fun q=>q≤([]:List Int).length) (fun q=>([]:List Int).length-q) (0) (ts:=[0,4,5,7,8,10,11,12,18,19,20,21,22,23,24,25,26,27,28,29,30,31,32,33,34,35,36,37,38,39,40,41,42,43,44,51,52]) O (Nat.zero_le _) O O ?_
    rintro i2 hi2b
    refine Z ?_
    refine .condD Y (fun h54=>?_) (fun h54=>?_)
    ·exfalso;simp at h54;omega
    have hii:i2=([]:List Int).length:=by simp at hi2b ⊢;omega
    rw [hii,take_length,Qf (fun x hx=>(hamem x).1 hx),←take_succ_eq_append_getElem hj2]
    refine Z ?_
    refine .oq (.append (n:=who.length) (m:=([]:List Int).length) (ys:=BZ ([]:List Int)) (p:=At 3 1 (.slice none 0 0) ([]:List Int).length (BZ ([]:List Int))) Y Y Y Bv (.inl ⟨_,underlying23⟩) FA Y Y ?hc54 ?hr55 ?hb56 dQ) ?_
    case hc54=>intro y hy;obtain ⟨c,-,rfl⟩:=mem_map.1 hy;rfl
    case hr55=>exact fun h hp=>Ad hp
    case hb56=>omega
    rintro v L' ⟨⟨a20,c20,rfl⟩,rfl⟩
    refine Z ?_
    rw [show BZ who++BZ ([]:List Int)=BZ (who++([]:List Int)) by simp [BZ],show who.length+([]:List Int).length=(who++([]:List Int)).length by simp]
    exact .rk ((j+1, .slice a20 (who++([]:List Int)).length c20,who++([]:List Int))) (⟨by dsimp only;omega,by dsimp only;rw [take_succ_eq_append_getElem hj2];exact (hwho.append hids).trans (RZ _ _ (LX hkn hj2)).symm,_,_,rfl⟩) (by dsimp only;omega) O
   refine .bigTake hal O (Z ?_)
   refine .draw [6] [[0,1,2,3,4,5,6]] mixed kQ (.g0 (Z ?_))
   refine D.kv Y (.loadAs (vs:=[AA (Ak e.1)[j],AF e.2.1]) Y IU O (by simp) Y) (.kv Y (.lookupY (m:=m) (enc:=byV) UD (hal) Y Y underlying200 Rm O Y) (.hh Y (.range (f:=fun x:Int×Int=>(AA x.1,Xt x.2)) (m:=l) Y underlying201 ?he67) ?_))
   case he67=>rfl
   rintro v L' ⟨it,rfl,rfl⟩
   refine Z ?_
   refine .loopK (ι:=(List (Int×Int))×Value×(List Int)) (fun q E=>(12,q.2.1)::E) (fun q=>[EE (fun x:Int×Int=>(AA x.1,Xt x.2)) it pb l q.1,At 3 1 q.2.1 q.2.2.length (BZ q.2.2)]) (fun q=>q.2.2=q.1.map (·.1)∧(∃rest,l.Perm (q.1++rest))∧∃a c,q.2.1= .slice a q.2.2.length c) (fun q=>l.length-q.1.length) ([], .slice none 0 0,[]) (ts:=[0,4,5,7,8,10,11,18,19,20,21,22,23,24,25,26,27,28,29,30,31,32,33,34,35,36,37,38,39,40,41,42]) O (⟨Y,⟨l, .refl _⟩,none,0,Y⟩) O O ?_
   rintro ⟨s,w2,acc⟩ ⟨hacc,⟨rest,hl⟩,av,cv,hw2⟩
   dsimp only
   dsimp only at hacc hl hw2
   subst hw2
   have hll:=hl.length_eq
   rw [length_append] at hll
   have hal2:acc.length=s.length:=by rw [hacc,length_map]
   refine .sr (.oq (.next Y) ?_)
   rintro v L' (⟨rfl,hp12,rfl⟩|⟨z,rest12,rfl,hp12,rfl⟩)
   ·refine .rangeDone O (.bigPut (f:=inW) (m:=m) ((Ak e.1)[j],e.2.1) (pb,l) (p:=mapR pb (T4 l)) Y O ?_)
    rw [Cj hal]
    refine .tbFold hI O Y Y Y ?_
    have hids:acc.Perm (((Ec (AZ ω es i).1 e.2.1 ((Ak e.1).take j)).filter fun w=>decide (w.2=((Ak e.1)[j],e.2.1))).map (·.1)):=by rw [hacc];exact (hp12.symm.map _).trans (VA hI hal)
    refine Z ?_
    have hand:acc.Nodup:=hids.nodup_iff.2 (O9 hI)
    have hamem:∀x,(x,((Ak e.1)[j],e.2.1))∈(Ec (AZ ω es i).1 e.2.1 ((Ak e.1).take j))↔x∈acc:=fun x=>(Vn _ _ _).trans hids.mem_iff.symm
    have halen:acc.length≤1048576:=by have h1:=hids.length_eq;have h2:=length_filter_le (fun w:Wt=>decide (w.2=((Ak e.1)[j],e.2.1))) (Ec (AZ ω es i).1 e.2.1 ((Ak e.1).take j));rw [length_map] at h1;have h3:(Ec (AZ ω es i).1 e.2.1 ((Ak e.1).take j)).length≤(AZ ω es i).1.length:=length_filter_le _ _;omega
    refine .tbCast (ω':=HF (Ec (AZ ω es i).1 e.2.1 ((Ak e.1).take j)) ((Ak e.1)[j],e.2.1) (acc.take 0)) O (by rw [take_zero,Qd]) (Z ?_)
    refine .loopK (ι:=Nat) (fun q E=>(53,AA q)::E) (fun q=>[Px t (HF (Ec (AZ ω es i).1 e.2.1 ((Ak e.1).take j)) ((Ak e.1)[j],e.2.1) (acc.take q))]) (fun q=>q≤acc.length) (fun q=>acc.length-q) (0) (ts:=[0,4,5,7,8,10,11,12,18,19,20,21,22,23,24,25,26,27,28,29,30,31,32,33,34,35,36,37,38,39,40,41,42,43,44,51,52]) O (Nat.zero_le _) O O ?_
    rintro i2 hi2b
    refine Z ?_
    refine .condD Y (fun h54=>?_) (fun h54=>?_)
    ·have hi3:i2<acc.length:=by omega
     refine .slShape (v:= .slice av _ cv) O om fun bl cl' e0 ml _=>?_
     simp only [Value.slice.injEq,true_and] at e0
     obtain ⟨rfl,rfl⟩:=e0
     refine Z ?_
     refine .q (.indexAddr Y Y Bv om) Y (.q (.loadSl (v:=AA acc[i2]) (i:=i2*1) Y CT O (by simp [hi3])) Y (Z ?_))
     refine .q (.loadAs (vs:=[AA (Ak e.1)[j],AF e.2.1]) Y IU O (by simp) Y) Y (Z ?_)
     refine .cv func169 [_,_,_] (Oz t (HF (Ec (AZ ω es i).1 e.2.1 ((Ak e.1).take j)) ((Ak e.1)[j],e.2.1) (acc.take i2)) ((Ak e.1)[j],e.2.1) acc[i2] (AAd ((hamem _).2 (getElem_mem hi3)) (LX hand hi3))) ?_
     refine Z ?_
     rw [WG,←take_succ_eq_append_getElem hi3]
     exact .rk (i2+1) om om O
    have hii:i2=acc.length:=by omega
    rw [hii,take_length,Qf (fun x hx=>(hamem x).1 hx),←take_succ_eq_append_getElem hj2]
    refine Z ?_
    refine .oq (.append (n:=who.length) (m:=acc.length) (ys:=BZ acc) (p:=At 3 1 (.slice av acc.length cv) acc.length (BZ acc)) Y Y Y Bv (.inl ⟨_,underlying23⟩) FA Y Y ?hc86 ?hr87 ?hb88 dQ) ?_
    case hc86=>intro y hy;obtain ⟨c,-,rfl⟩:=mem_map.1 hy;rfl
    case hr87=>exact fun h hp=>Ad hp
    case hb88=>omega
    rintro v L' ⟨⟨a20,c20,rfl⟩,rfl⟩
    refine Z ?_
    rw [show BZ who++BZ acc=BZ (who++acc) by simp [BZ],show who.length+acc.length=(who++acc).length by simp]
    exact .rk ((j+1, .slice a20 (who++acc).length c20,who++acc)) (⟨by dsimp only;omega,by dsimp only;rw [take_succ_eq_append_getElem hj2];exact (hwho.append hids).trans (RZ _ _ (LX hkn hj2)).symm,_,_,rfl⟩) (by dsimp only;omega) O
   have hzl:l.length≤1048576:=by have h1:=(VA hI hal).length_eq;dsimp only at h1;rw [length_map,length_map] at h1;have h2:=length_filter_le (fun w:Wt=>decide (w.2=((Ak e.1)[j],e.2.1))) (Ec (AZ ω es i).1 e.2.1 ((Ak e.1).take j));have h3:(Ec (AZ ω es i).1 e.2.1 ((Ak e.1).take j)).length≤(AZ ω es i).1.length:=length_filter_le _ _;omega
   refine Z ?_
   refine .q (.entryE (v:= .tuple #[AA z.1,Xt z.2]) Y O Y) Y (Z ?_)
   refine .oq (.buildSlice1 (vs:=[_]) Bv FA Y Y Y Y Y dQ) ?_
   rintro v L' ⟨b14_2,rfl,rfl⟩
   refine .oq (.append1 Y Y Y Bv FA Y Y ?c99 ?c100 (Nat.le_refl _) ?c101 dQ) ?_
   case c99=>(first|(simp [AB];done)|(simp [AB,AQ,Value.cells];done))
   case c100=>rfl
   case c101=>omega
   rintro v L' ⟨⟨a14_3,c14_3,rfl⟩,rfl⟩
   refine Z ?_
   have hl2:=hp12.length_eq
   simp at hl2
   rw [show BZ acc++[AA z.1]=BZ (acc++[z.1]) by simp [BZ],show acc.length+1=(acc++[z.1]).length by simp]
   exact .rk ((s++[z], .slice a14_3 (acc++[z.1]).length c14_3,acc++[z.1])) (⟨by dsimp only;simp [hacc],⟨_,by simpa using hp12⟩,_,_,rfl⟩) (by dsimp only;simp;omega) O
  have hjj:j=(Ak e.1).length:=by omega
  rw [hjj,take_length,AFJ]
  rw [hjj,take_length,AGV] at hwho
  have htw:Id (Ce who)=(DA (AZ ω es i).1 e.1 e.2.1):=by unfold DA;rw [P2 hwho]
  have htl:=Tq (AZ ω es i).1 e.1 e.2.1
  refine Z ?_
  refine .oq (.call func159 Y Y (vs:=[_]) Y (XQ _ who.length who om)) ?_
  rintro v L' ⟨rfl,rfl⟩
  refine Z ?_
  refine .oq (.call func170 Y Y (vs:=[_]) Y (YE _ who.length (Ce who) om)) ?_
  rintro v L' ⟨⟨ac,cc,rfl⟩,rfl⟩;rw [htw]
  refine Z ?_
  refine .slCast (T:=210) (sz:=4) (m':=((AZ ω es i).2++((DA (AZ ω es i).1 e.1 e.2.1).take 0).map fun x=>(x,e)).length) (xs':=((AZ ω es i).2++((DA (AZ ω es i).1 e.1 e.2.1).take 0).map fun x=>(x,e)).flatMap MX) O (by simp) (by simp) (.loopK (ι:=Nat×Value) (fun q E=>(71,AA q.1)::(5,q.2)::E) (fun q=>[At 210 4 q.2 ((AZ ω es i).2++((DA (AZ ω es i).1 e.1 e.2.1).take q.1).map fun x=>(x,e)).length (((AZ ω es i).2++((DA (AZ ω es i).1 e.1 e.2.1).take q.1).map fun x=>(x,e)).flatMap MX)]) (fun q=>q.1≤(DA (AZ ω es i).1 e.1 e.2.1).length∧∃a c,q.2= .slice a ((AZ ω es i).2++((DA (AZ ω es i).1 e.1 e.2.1).take q.1).map fun x=>(x,e)).length c) (fun q=>(DA (AZ ω es i).1 e.1 e.2.1).length-q.1) (0, .slice au (AZ ω es i).2.length cu) (ts:=[0,4,7,8,18,19,20,21,22,23,24,25,26,27,28,29,66,68,69,70]) O (⟨Nat.zero_le _,au,cu,by simp⟩) O O ?_)
  rintro ⟨k,u2⟩ ⟨hk,au2,cu2,hu2⟩
  dsimp only
  dsimp only at hk hu2
  subst hu2
  have hoal:((AZ ω es i).2++((DA (AZ ω es i).1 e.1 e.2.1).take k).map fun x=>(x,e)).length=(AZ ω es i).2.length+k:=by rw [length_append,length_map,length_take];omega
  refine Z ?_
  refine .condD Y (fun h72=>?_) (fun h72=>?_)
  ·have hk2:k<(DA (AZ ω es i).1 e.1 e.2.1).length:=by omega
   refine .slShape (v:= .slice ac _ cc) O om fun bc cc' e0 mc _=>?_
   simp only [Value.slice.injEq,true_and] at e0
   obtain ⟨rfl,rfl⟩:=e0
   refine Z ?_
   refine .q (.indexAddr Y Y Bv om) Y (.q (.loadSl (v:=AA (DA (AZ ω es i).1 e.1 e.2.1)[k]) (i:=k*1) Y CT O (by simp [hk2])) Y (Z ?_))
   refine .q (.loadAs (vs:=[AA e.1,AF e.2.1,AA e.2.2]) Y YR O (by simp) Y) Y (.q (.buildN (pl:=[(0,1),(1,3)]) (us:=[(0,AA (DA (AZ ω es i).1 e.1 e.2.1)[k]),(1, .agg ([AA e.1,AF e.2.1,AA e.2.2]:List Value).toArray)]) (cells:=[AA (DA (AZ ω es i).1 e.1 e.2.1)[k],AA e.1,AF e.2.1,AA e.2.2]) underlying210 kQ Sw Y Y) Y (.oq (.buildSlice (vs:=[_]) XZ Sw Y Y Y Y cQ dQ) ?_))
   rintro v L' ⟨b26_4,rfl,rfl⟩
   refine .oq (.append1 Y Y Y XZ Sw Y Y ?c120 ?c121 (Nat.le_refl _) ?c122 dQ) ?_
   case c120=>(first|(simp [AB];done)|(simp [AB,AQ,Value.cells];done))
   case c121=>rfl
   case c122=>omega
   rintro v L' ⟨⟨a26_5,c26_5,rfl⟩,rfl⟩
   refine Z ?_
   have hstep:((AZ ω es i).2++((DA (AZ ω es i).1 e.1 e.2.1).take (k+1)).map fun x=>(x,e))=((AZ ω es i).2++((DA (AZ ω es i).1 e.1 e.2.1).take k).map fun x=>(x,e))++[((DA (AZ ω es i).1 e.1 e.2.1)[k],e)]:=by rw [take_succ_eq_append_getElem hk2,map_append,←append_assoc];rfl
   rw [show ((AZ ω es i).2++((DA (AZ ω es i).1 e.1 e.2.1).take k).map fun x=>(x,e)).flatMap MX++(List.map (fun v=>v.cells.toList) [Value.agg [AA (DA (AZ ω es i).1 e.1 e.2.1)[k],AA e.1,AF e.2.1,AA e.2.2].toArray]).flatten=((AZ ω es i).2++((DA (AZ ω es i).1 e.1 e.2.1).take (k+1)).map fun x=>(x,e)).flatMap MX by rw [hstep];simp [MX,Value.cells],show ((AZ ω es i).2++((DA (AZ ω es i).1 e.1 e.2.1).take k).map fun x=>(x,e)).length+1=((AZ ω es i).2++((DA (AZ ω es i).1 e.1 e.2.1).take (k+1)).map fun x=>(x,e)).length by rw [hstep,length_append (bs:=[_])];rfl]
   exact .rk ((k+1, .slice a26_5 ((AZ ω es i).2++((DA (AZ ω es i).1 e.1 e.2.1).take (k+1)).map fun x=>(x,e)).length c26_5)) (⟨by dsimp only;omega,_,_,rfl⟩) (by dsimp only;omega) O
  have hkk:k=(DA (AZ ω es i).1 e.1 e.2.1).length:=by omega
  rw [hkk,take_length]
  refine .tbCast (ω':=(AZ ω es (i+1)).1) O (by rw [GU hes]) (.slCast (T:=210) (sz:=4) (m':=(AZ ω es (i+1)).2.length) (xs':=(AZ ω es (i+1)).2.flatMap MX) O (by rw [GU hes]) (by rw [GU hes]) (Z ?_))
  exact .rk ((i+1,_)) (⟨by dsimp only;omega,_,_,by rw [GU hes]⟩) (by dsimp only;omega) O
 have hii:i=es.length:=by omega
 subst hii
 refine Z ?_
 exact .dn Y Y ⟨_,_,Y,Y⟩
abbrev Arm:=Int×(Bs×(Int×(Int×Int)))
/-! ### Structs compared -/
/-! ### The first example -/
/-! ### Gone -/
/-! ### Once -/
/-! ### Apart -/
/-! ### Maps of slices -/
abbrev Sm (α:Type):=List (Int×(Value×List α))
def Bt {α:Type} (m:Sm α) (s:Int):Value×List α:=(AC m s).getD (AR,[])
def smE {α:Type} (x:Value×List α):Value:=x.1
def smM {α:Type} (m:Sm α):List (Value×Value):=m.map fun x=>(AA x.1,smE x.2)
theorem Ql {α:Type} {m:Sm α} {s:Int} (b:Value×List α) (h:AC m s=some b):smE b=(Bt m s).1:=by unfold Bt smE;rw [h];rfl
theorem QS {α:Type} {m:Sm α} {s:Int} (h:AC m s=none):Value.slice none 0 0=(Bt m s).1:=by unfold Bt;rw [h];rfl
theorem AC3 {α:Type} (m:Sm α) (s:Int) (w:Value×List α) (x:Int):Bt (CF m s w) x=if x=s then w else Bt m x:=by
 unfold Bt;rw [Fr];split<;>rfl
theorem AD7 {α:Type} {m:Sm α} (hn:(m.map (·.1)).Nodup) (s x:Int):Bt (Bg m s) x=if x=s then (AR,[]) else Bt m x:=by
 unfold Bt;rw [J7 hn];split<;>rfl
def I8 {β:Type} (f:Int→β) (s:Int) (v:β):Int→β:=fun x=>if x=s then v else f x
theorem ABe {α:Type} {m:Sm α} {f:Int→List α} (h:∀x,f x=(Bt m x).2) (s:Int) (w:Value×List α) (x:Int):I8 f s w.2 x=(Bt (CF m s w) x).2:=by
 unfold I8;rw [AC3];split
 ·rfl
 ·exact h x
theorem Qk {α:Type} {m:Sm α} (hn:(m.map (·.1)).Nodup) {f:Int→List α} (h:∀x,f x=(Bt m x).2) (s:Int) (x:Int):I8 f s [] x=(Bt (Bg m s) x).2:=by
 unfold I8;rw [AD7 hn];split
 ·rfl
 ·exact h x
def Va (x:Int×(Value×List Bs)):HP:=At 9 1 x.2.1 x.2.2.length (A1 x.2.2)
def XE (x:Int×(Value×List Ev)):HP:=At 208 3 x.2.1 x.2.2.length (x.2.2.flatMap FP)
theorem AG6 (s:Int) (h:Hp):Va (s,(AR,[])) h:=AU _ _ h
theorem AGr (s:Int) (h:Hp):XE (s,(AR,[])) h:=AU _ _ h
section
variable {P:Program} {W:World} {n:Nat} {ds:List Deferred} {E:Bi} {L R:List HP} {X:Act→World→Prop} {α:Type} {f:Int×(Value×List α)→HP} {m:Sm α}
theorem G.smTake (s:Int) (h0:∀h,f (s,(AR,[])) h) (hL:BJ (Am f m) L R) (h:G W n ds E (f (s,Bt m s)::Am f (Bg m s)::R) X):G W n ds E L X:=by
 rcases hb:AC m s with _|b
 ·have e:Bt m s=(AR,[]):=by unfold Bt;rw [hb];rfl
  rw [e,Eq hb] at h
  exact G.focus hL (G.add h0 h)
 ·have e:Bt m s=b:=by unfold Bt;rw [hb];rfl
  rw [e] at h
  exact G.bigTake hb hL h
theorem G.smBack (s:Int) {p:HP} (hp:p=f (s,Bt m s)) (hL:A4 [p,Am f (Bg m s)] L R) (h:G W n ds E (Am f m::R) X):G W n ds E L X:=by
 subst hp
 refine G.fold hL (fun w hw=>?_) h
 rcases hb:AC m s with _|b
 ·rw [Eq hb] at hw
  obtain ⟨h1,h2,hd,a1,a2,hq,g1,g2,gd,b1,b2,hr,-⟩:=hw
  exact Fu (Fu hr b1) a2
 ·have e:Bt m s=b:=by unfold Bt;rw [hb];rfl
  rw [e] at hw
  have:=Ye hw
  rwa [Cj hb] at this
end
section
variable {P:Program} {W:World} {n:Nat} {ds:List Deferred} {E:Bi} {L R:List HP} {X:Act→World→Prop}
theorem G.evTake {m:Sm Ev} (s:Int) (hL:BJ (Am XE m) L R) (h:G W n ds E (At 208 3 (Bt m s).1 (Bt m s).2.length ((Bt m s).2.flatMap FP)::Am XE (Bg m s)::R) X):G W n ds E L X:=G.smTake s (AGr s) hL h
theorem G.idTake {m:Sm Bs} (s:Int) (hL:BJ (Am Va m) L R) (h:G W n ds E (At 9 1 (Bt m s).1 (Bt m s).2.length (A1 (Bt m s).2)::Am Va (Bg m s)::R) X):G W n ds E L X:=G.smTake s (AG6 s) hL h
theorem G.idBack {m:Sm Bs} (s:Int) (hL:A4 [At 9 1 (Bt m s).1 (Bt m s).2.length (A1 (Bt m s).2),Am Va (Bg m s)] L R) (h:G W n ds E (Am Va m::R) X):G W n ds E L X:=G.smBack s rfl hL h
theorem G.evPut {m:Sm Ev} (s:Int) {v:Value} {k:Nat} {xs:List Value} (ys:List Ev) (hL:A4 [At 208 3 v k xs,Am XE (Bg m s)] L R) (hk:k=ys.length) (hx:xs=ys.flatMap FP) (h:G W n ds E (Am XE (CF m s (v,ys))::R) X):G W n ds E L X:=by
 subst hk;subst hx
 exact G.bigPut (f:=XE) (m:=m) s (v,ys) rfl hL h
end
/-! ### The service -/
theorem G.evTakeS {W:World} {n:Nat} {ds:List Deferred} {E:Bi} {L R:List HP} {X:Act→World→Prop} {m:Sm Ev} (s:Int) (hL:BJ (Am XE m) L R)
  (h:∀a c,(Bt m s).1= .slice a (Bt m s).2.length c→G W n ds E (At 208 3 (.slice a (Bt m s).2.length c) (Bt m s).2.length ((Bt m s).2.flatMap FP)::Am XE (Bg m s)::R) X):G W n ds E L X:=by
 refine G.evTake s hL (G.slAny .here fun a c e _=>?_)
 have:=h a c e
 rw [←e] at this
 exact this
theorem G.idTakeS {W:World} {n:Nat} {ds:List Deferred} {E:Bi} {L R:List HP} {X:Act→World→Prop} {m:Sm Bs} (s:Int) (hL:BJ (Am Va m) L R)
  (h:∀a c,(Bt m s).1= .slice a (Bt m s).2.length c→G W n ds E (At 9 1 (.slice a (Bt m s).2.length c) (Bt m s).2.length (A1 (Bt m s).2)::Am Va (Bg m s)::R) X):G W n ds E L X:=by
 refine G.idTake s hL (G.slAny .here fun a c e _=>?_)
 have:=h a c e
 rw [←e] at this
 exact this
theorem G.forget {W:World} {n:Nat} {ds:List Deferred} {E:Bi} {L:List HP} {X:Act→World→Prop} {p:HP} (h:G W n ds E L X):G W n ds E (p::L) X:=fun a w he hk hs=>h a w he hk hs.tail
theorem G.idPost {W:World} {n:Nat} {ds:List Deferred} {E:Bi} {L R:List HP} {X:Act→World→Prop} {m m':Sm Bs} {c:Prop} [Decidable c] {o:Int} (hm:m'=if c then Bg m o else m) (hL:BJ (Am Va m) L R) (h:G W n ds E (Am Va m'::R) X):G W n ds E L X:=by
 subst hm
 by_cases g:c
 ·rw [if_pos g] at h
  exact G.idTake o hL (G.forget h)
 ·rw [if_neg g] at h
  exact G.focus hL h
structure Pl where
 τ:Tr
 ω:List Wt
 ord:List En
 opened:Int
 ids:Int→List Bs
 ev:Int→List Ev
def U2:Pl:=⟨BV,[],[],0,fun _=>[],fun _=>[]⟩
structure Xx (π:Pl) (mi:Sm Bs) (me:Sm Ev):Prop where
 i1:(mi.map (·.1)).Nodup
 e1:(me.map (·.1)).Nodup
 i2:∀s,π.ids s=(Bt mi s).2
 e2:∀s,π.ev s=(Bt me s).2
structure PlK where
 t:Nat
 u:Nat
 rid:Nat
 rev:Nat
def plC (k:PlK) (ov:Value) (o:Int):List Value:=[AD k.t,AD k.u,ov,AA o, .map (some k.rid), .map (some k.rev)]
abbrev Vy (v:Value) (l:List En):HP:=At 40 11 v l.length (l.flatMap CB)
structure PlX where
 ov:Value
 mi:Sm Bs
 me:Sm Ev
def plL (b:Nat) (k:PlK) (π:Pl) (x:PlX):List HP:=[AW b (plC k x.ov π.opened) 142,AV k.t π.τ,Px k.u π.ω,Vy x.ov π.ord,Am entR π.ord,mapR k.rid (smM x.mi),Am Va x.mi,mapR k.rev (smM x.me),Am XE x.me]
def plR (b:Nat) (k:PlK) (π:Pl):HP:=fun h=> ∃x:PlX,Xx π x.mi x.me∧CP (plL b k π x) h
section
variable {P:Program} {W:World} {n:Nat} {ds:List Deferred} {E:Bi} {L R:List HP} {X:Act→World→Prop}
theorem G.plOpen {b:Nat} {k:PlK} {π:Pl} (hL:BJ (plR b k π) L R) (h:∀ov mi me,Xx π mi me→G W n ds E (AW b (plC k ov π.opened) 142::AV k.t π.τ::Px k.u π.ω::Vy ov π.ord::Am entR π.ord::mapR k.rid (smM mi)::Am Va mi::mapR k.rev (smM me)::Am XE me::R) X):G W n ds E L X:=
 G.focus hL (G.open (q:=fun x:PlX=>plL b k π x) (φ:=fun x:PlX=>Xx π x.mi x.me) (fun _ hp=>hp) fun x hI=>h x.ov x.mi x.me hI)
theorem G.plFold {b:Nat} {k:PlK} (π:Pl) {ov:Value} {mi:Sm Bs} {me:Sm Ev} {τ:Tr} {ω:List Wt} {ord:List En} {l:List Value} {e1 e2:List (Value×Value)} (hI:Xx π mi me)
  (hL:A4 [AW b l 142,AV k.t τ,Px k.u ω,Vy ov ord,Am entR ord,mapR k.rid e1,Am Va mi,mapR k.rev e2,Am XE me] L R) (hl:l=plC k ov π.opened) (h1:τ=π.τ) (h2:ω=π.ω) (h3:ord=π.ord) (h4:e1=smM mi) (h5:e2=smM me)
  (h:G W n ds E (plR b k π::R) X):G W n ds E L X:=by
 subst hl;subst h1;subst h2;subst h3;subst h4;subst h5
 exact G.fold hL (fun w hw=>⟨⟨ov,mi,me⟩,hI,hw⟩) h
end
def F4 (ev:Int→List Ev) (l:List Tld):Int→List Ev:=l.foldl (fun f x=>I8 f x.1 (f x.1++[x.2])) ev
theorem ABA (ev:Int→List Ev) {l:List Tld} {i:Nat} (h:i<l.length):F4 ev (l.take (i+1))=I8 (F4 ev (l.take i)) l[i].1 (F4 ev (l.take i) l[i].1++[l[i].2]):=by
 unfold F4
 rw [take_succ_eq_append_getElem h,foldl_append];rfl
theorem QN (ev:Int→List Ev) (l:List Tld) (s:Int):(F4 ev l s).length≤(ev s).length+l.length:=by
 have H:∀(l:List Tld) (f:Int→List Ev),((l.foldl (fun f x=>I8 f x.1 (f x.1++[x.2])) f) s).length≤(f s).length+l.length:=by
  intro l
  induction l with
  |nil=>intro f;exact Nat.le_refl _
  |cons x l ih=>
   intro f
   rw [foldl_cons]
   refine Nat.le_trans (ih _) ?_
   unfold I8
   split
   ·rename_i h;rw [h,length_append,length_cons,length_nil,length_cons];omega
   ·rw [length_cons];omega
 exact H l ev
def Eh (π:Pl):Int:=4294967296+(π.ord.length:Int)+1
def B7 (π:Pl) (s x:Int) (y:Pt) (ys:List Pt):En:=⟨Eh π,s,x,y,ys⟩
def B4 (π:Pl) (s x:Int) (y:Pt) (ys:List Pt):Pl where
 τ:=(AM π.τ (Eh π) y ys).1
 ω:=if y.kind=6 then VH (Bk π.ω (AM π.τ (Eh π) y ys).2.1).1 y.own else (Bk π.ω (AM π.τ (Eh π) y ys).2.1).1
 ord:=π.ord++[B7 π s x y ys]
 opened:=π.opened
 ids:=if y.kind=6 then I8 π.ids y.own [] else π.ids
 ev:=if y.kind=6 then I8 (F4 π.ev (Bk π.ω (AM π.τ (Eh π) y ys).2.1).2) y.own [] else F4 π.ev (Bk π.ω (AM π.τ (Eh π) y ys).2.1).2
theorem Xx.put {π:Pl} {mi:Sm Bs} {me0 me:Sm Ev} (h:Xx π mi me0) (s x:Int) (y:Pt) (ys:List Pt) (hn:(me.map (·.1)).Nodup) (hk:¬y.kind=6) (he:∀i,F4 π.ev (Bk π.ω (AM π.τ (Eh π) y ys).2.1).2 i=(Bt me i).2):Xx (B4 π s x y ys) mi me:=by
 refine ⟨h.i1,hn,fun i=>?_,fun i=>?_⟩
 ·show (if y.kind=6 then I8 π.ids y.own [] else π.ids) i=_
  rw [if_neg hk];exact h.i2 i
 ·show (if y.kind=6 then _ else F4 π.ev _) i=_
  rw [if_neg hk];exact he i
theorem Xx.put6 {π:Pl} {mi:Sm Bs} {me0 me:Sm Ev} (h:Xx π mi me0) (s x:Int) (y:Pt) (ys:List Pt) (hn:(me.map (·.1)).Nodup) (hk:y.kind=6) (he:∀i,F4 π.ev (Bk π.ω (AM π.τ (Eh π) y ys).2.1).2 i=(Bt me i).2):Xx (B4 π s x y ys) (Bg mi y.own) (Bg me y.own):=by
 refine ⟨Ea h.i1 _,Ea hn _,fun i=>?_,fun i=>?_⟩
 ·show (if y.kind=6 then I8 π.ids y.own [] else π.ids) i=_
  rw [if_pos hk];exact Qk h.i1 h.i2 _ i
 ·show (if y.kind=6 then I8 (F4 π.ev _) y.own [] else _) i=_
  rw [if_pos hk];exact Qk hn he _ i
theorem Xx.tell0 {π:Pl} {mi:Sm Bs} {me:Sm Ev} (h:Xx π mi me) (l:List Tld):(me.map (·.1)).Nodup∧∀i,F4 π.ev (l.take 0) i=(Bt me i).2:=⟨h.e1,fun i=>by rw [take_zero];exact h.e2 i⟩
theorem AGB {f:Int→List Ev} {me:Sm Ev} {l:List Tld} {i:Nat} (hi:i<l.length) (hn:(me.map (·.1)).Nodup) (h:∀s,F4 f (l.take i) s=(Bt me s).2) (v:Value):
  ((CF me l[i].1 (v,(Bt me l[i].1).2++[l[i].2])).map (·.1)).Nodup∧∀s,F4 f (l.take (i+1)) s=(Bt (CF me l[i].1 (v,(Bt me l[i].1).2++[l[i].2])) s).2:=by
 refine ⟨C6 hn _ _,fun s=>?_⟩
 rw [ABA f hi,h]
 exact ABe h _ (v,(Bt me l[i].1).2++[l[i].2]) s
theorem ACw (τ:Tr) (z:Int) (y:Pt) (ys:List Pt):(AM τ z y ys).2.1.length≤2*(1+ys.length):=by
 unfold AM
 dsimp only
 split
 ·exact Nat.zero_le _
 split
 ·have h1:=LU (zxT τ z) z (ys.filter Bc)
  have h2:=length_filter_le Bc ys
  show (AP (zxT τ z) z (ys.filter Bc)).2.length≤_
  omega
 split
 ·have h1:=LU (zxT τ z) z ys
  show (AP (zxT τ z) z ys).2.length≤_
  omega
 split
 ·exact Nat.zero_le _
 ·have h1:=Nl (zxT τ z) y z
  show (AI (zxT τ z) y z).2.length≤_
  omega
end Go.Proofs.YtbhkloaagkkioaaGreatDoor
