/- Own work, in part by program, for topShipped.proved. -/
import Derived.Test.YtbhkloaagkkioaaGreatDoorCTShipP1
import Derived.Test.YtbhkloaagkkioaaGreatDoorCTShipP3
import Derived.Test.YtbhkloaagkkioaaGreatDoorCTShipP0
import Derived.Shelf.Spec.TrailingZeros
import Derived.Ground.Names7Prog
import Derived.Test.YtbhkloaagkkioaaGreatDoorProg
import Derived.Test.YtbhkloaagkkioaaGreatDoorCTShipP2
set_option maxRecDepth 100000
namespace Go.Proofs.YtbhkloaagkkioaaGreatDoor
open Go List Go.Proofs.Tryz
theorem V8 (a b c:Int) (s0 s1 s2 s3 s4 s5 s6 s7:Value):Instr.fill (fun i=>[(0,1),(1,1),(2,1),(3,8)].toArray[i]?) (([.int .i64 0, .int .i64 0, .int .i64 0, .int .i64 0, .string (bs []), .string (bs []), .slice none 0 0, .int .i64 0, .int .i64 0, .int .i64 0, .slice none 0 0]:List Value).toArray) [(0,AA a),(1,AA b),(2,AA c),(3, .agg ([s0,s1,s2,s3,s4,s5,s6,s7]:List Value).toArray)]=some (([AA a,AA b,AA c]++[s0,s1,s2,s3,s4,s5,s6,s7]:List Value).toArray):=by kernel_rfl
theorem Jo {a b c:Int} {y:Pt} {l:List Pt} (h1:AB y.aclV=true) (h2:AB y.subsV=true):∀v∈CB ⟨a,b,c,y,l⟩,AB v=true:=by
 intro v hv
 simp only [CB,A0,cons_append,nil_append,mem_cons,not_mem_nil,or_false] at hv
 rcases hv with rfl|rfl|rfl|rfl|rfl|rfl|rfl|rfl|rfl|rfl|rfl<;>first|rfl|assumption
theorem X6:Fn prog 23 #[] [] fun v L=> ∃b k,v=AD b∧L=[plR b k U2]:=by
 refine Fn.intro func23 Y Y fun F W=>?_
 refine Z ?_
 refine .oq (.c func28 [] (IF)) ?_
 rintro v L' ⟨t,rfl,rfl⟩
 refine .oq (.c func57 [] (Zh)) ?_
 rintro v L' ⟨u,rfl,rfl⟩
 refine .q (.build (us:=[(0,_),(1,_)]) AII AID Y Y (by simp [AB])) Y (.oq (.makeMap underlying139) ?_)
 rintro v L' ⟨rid,rfl,rfl⟩
 refine .oq (.makeMap underlying140) ?_
 rintro v L' ⟨rev,rfl,rfl⟩
 refine .q (.to (v':= .agg (plC ⟨t,u,rid,rev⟩ AR 0).toArray) (.buildN (pl:=[(0,2),(2,1),(3,1),(4,1),(5,1)]) (us:=[(0, .agg #[AD t,AD u]),(3, .map (some rid)),(4, .map (some rev))]) (cells:=plC ⟨t,u,rid,rev⟩ AR 0) underlying142 kQ AIz Y Y) Y) Y (.oq (.box Y) ?_)
 rintro v L' ⟨b,rfl,rfl⟩
 refine Z ?_
 refine .pc b (plC ⟨t,u,rid,rev⟩ AR 0) ?_
 refine .fold (p:=mapR rid []) (.cons (p:=pt rid (.map #[] 0)) O .nil) (fun h hp=>E8 (Gx hp)) (.fold (p:=mapR rev []) (.cons (p:=pt rev (.map #[] 0)) O .nil) (fun h hp=>E8 (Gx hp)) (.add (p:=Vy AR []) (AU 40 11) (.add (p:=Am entR []) (fun h=>CH h) (.add (p:=Am Va []) (fun h=>CH h) (.add (p:=Am XE []) (fun h=>CH h) (.plFold (k:=⟨t,u,rid,rev⟩) (ov:=AR) U2 (mi:=[]) (me:=[]) ⟨nodup_nil,nodup_nil,fun _=>Y,fun _=>Y⟩ O (by rfl) (by rfl) (by rfl) (by rfl) (by rfl) (by rfl) (Z ?_)))))))
 exact .dn Y Y ⟨b,⟨t,u,rid,rev⟩,Y,Y⟩
theorem So (b:Nat) (k:PlK) (π:Pl) (id:Int):Fn prog 60 #[AD b,AA id] [plR b k π] fun v L=>v= .bool (decide (PE π.τ id))∧L=[plR b k π]:=by
 refine Fn.intro func60 Y Y fun F W=>?_
 refine .plOpen (π:=π) O fun ov mi me hI=>(Z ?_)
 refine .cv func67 [_,_] (FG k.t π.τ id) ?_
 refine Z ?_
 refine .plFold (π) hI O (by rfl) (by rfl) (by rfl) (by rfl) (by rfl) (by rfl) (Z ?_)
 exact .vv
theorem Oy (b:Nat) (k:PlK) (π:Pl) (ov:Value) (mi:Sm Bs) (me:Sm Ev) (hI:Xx π mi me) (s x:Int) (y:Pt) (ys:List Pt) {N0:Nat} (hG:Gb N0 y ys) (hN0:N0≤65536) (hc:AB y.aclV=true∧∃a c,y.subsV= .slice a ys.length c) (hcs:∀z∈ys,AB z.aclV=true∧z.subsV=AR) (hs:Aw s) (hx:Aw x) (N:Nat) (ho:π.τ.Ok N) (hN:N≤1048576) (hord:π.ord.length≤1048576) (hω:π.ω.length≤4096) (hev:∀i,(π.ev i).length≤1099511627776):Fn prog 59 #[AD b,AA s,AA x, .agg (A0 y).toArray] ([aclR y,At 38 8 y.subsV ys.length (ys.flatMap A0),Am aclR ys]++[AW b (plC k ov π.opened) 142,AV k.t π.τ,Px k.u π.ω,Vy ov π.ord,Am entR π.ord,mapR k.rid (smM mi),mapR k.rev (smM me),Am XE me]) fun v L=> ∃z:PlX,v= .agg (CB (B7 π s x y ys)).toArray∧Xx (B4 π s x y ys) z.mi z.me∧z.mi=(if y.kind=6 then Bg mi y.own else mi)∧L=[entR (B7 π s x y ys),AW b (plC k z.ov (B4 π s x y ys).opened) 142,AV k.t (B4 π s x y ys).τ,Px k.u (B4 π s x y ys).ω,Vy z.ov (B4 π s x y ys).ord,Am entR π.ord,mapR k.rid (smM z.mi),mapR k.rev (smM z.me),Am XE z.me]:=by
 refine Fn.intro func59 Y Y fun F W=>?_
 have hcv:AB y.subsV=true:=by obtain ⟨-,a,c,e⟩:=hc;rw [e];rfl
 refine .slAny (v:=ov) O fun ao co eo _=>?_
 subst eo
 have hys:=hG.few om
 have hys2:ys.length≤65544:=by rcases hG.len with h|⟨-,h,-⟩<;>omega
 refine .sr (.oq (.box Y) ?_)
 rintro v L' ⟨b7,rfl,rfl⟩
 refine .oq (.allocA Cq) ?_
 rintro v L' ⟨b8,rfl,rfl⟩
 refine .nil (.pc b7 (A0 y) ?_)
 refine .then_n (.seq (.draw [11,12] [[0,1,2,3,4,5,6,7,8,9,10,11],[12]] mixed kQ (.go [AW b _ _,AW b7 _ _] O (Z ?_))))
 refine D.k Y (.la (A0 y) Y A3) (.k Y (.to (v':= .agg (CB (B7 π s x y ys)).toArray) (.buildN (pl:=[(0,1),(1,1),(2,1),(3,8)]) (us:=[(0,AA (B7 π s x y ys).zx),(1,AA (B7 π s x y ys).ses),(2,AA (B7 π s x y ys).xid),(3, .agg (A0 (B7 π s x y ys).x).toArray)]) (cells:=CB (B7 π s x y ys)) underlying40 kQ Cq Y (V8 _ _ _ _ _ _ _ _ _ _ _)) Y) (.hh Y (.allocA Cq) ?_))
 rintro v L' ⟨b9,rfl,rfl⟩
 refine D.ph (.g0 (.sa Y Y Y GO (by exact Jo hc.1 hcv) ?_))
 refine D.ph (.fin (.pc b9 (CB (B7 π s x y ys)) ?_))
 refine .fold (p:=entR (B7 π s x y ys)) (q:=[aclR y,At 38 8 y.subsV ys.length (ys.flatMap A0),Am aclR ys]) O (fun _ h=>h) (.then_n (.seq (.draw [6,7,10] [[0,1,2,3,4,5,6,7],[8,9,10]] mixed kQ (.go [AW b _ _,AW b9 _ _] O (Z ?_)))))
 refine D.kv Y (.la (CB (B7 π s x y ys)) Y Cz) (.hh Y (.buildSlice (vs:=[_]) Ft Cq Y Y Y Y cQ dQ) ?_)
 rintro v L' ⟨bs,rfl,rfl⟩
 refine D.hh Y (.append1 Y Y Y Ft Cq Y Y ?c31 ?c32 (Nat.le_refl _) ?c33 dQ) ?_
 case c31=>simp only [map_cons,map_nil,flatten_cons,flatten_nil,append_nil];simp only [Value.cells];exact Jo hc.1 hcv
 case c32=>rfl
 case c33=>omega
 rintro v L' ⟨⟨an,cn,rfl⟩,rfl⟩
 refine D.ph (.g0 (Z ?_))
 refine D.hh Y (.store Y Y Y AKF ?c38 (Bd _ _)) ?_
 case c38=>simp [plC]
 rintro v L' rfl
 refine D.ph (.fin (.pc b (plC k (.slice an (π.ord.length+1) cn) π.opened) ?_))
 refine .slCast (T:=40) (sz:=11) (m':=(π.ord++[(B7 π s x y ys)]).length) (xs':=(π.ord++[(B7 π s x y ys)]).flatMap CB) O (by rw [length_append];rfl) (by rw [flatMap_append];simp [Value.cells]) ?_
 rw [show π.ord.length+1=(π.ord++[(B7 π s x y ys)]).length from by rw [length_append];rfl]
 refine .then_n (.seq (.draw [6] [[0,1,2,3,4,5,6],[7,8,9,10,11]] mixed kQ (.g0 (Z ?_))))
 refine D.kv Y (.la (CB (B7 π s x y ys)) Y Cz) (.hh Y (.call func30 Y Y (vs:=[_,_]) Y (C2 k.t π.τ (Eh π) s x y ys (entR (B7 π s x y ys)) (hG.tx om _ _ _ hc hcs) N ho om)) ?_)
 rintro v L' ⟨ue,ee,rfl,he,⟨aq,cq,hue⟩,rfl⟩
 refine D.ph (.g0 (Z ?_))
 subst hue
 have hel:=ACw π.τ (Eh π) y ys
 have hfl:=OO π.ω (AM π.τ (Eh π) y ys).2.1 (AM π.τ (Eh π) y ys).2.1.length
 have hfl2:(AM π.τ (Eh π) y ys).2.1.length*π.ω.length≤131090*4096:=Nat.mul_le_mul om hω
 have hfl3:(Bk π.ω (AM π.τ (Eh π) y ys).2.1).1.length≤π.ω.length∧(Bk π.ω (AM π.τ (Eh π) y ys).2.1).2.length≤(AM π.τ (Eh π) y ys).2.1.length*π.ω.length:=hfl
 refine Z ?_
 refine .oq (.call func118 Y Y (vs:=[_,_]) Y (WZ k.u π.ω _ (AM π.τ (Eh π) y ys).2.1 _ (fun h hp=>Ad hp) om om)) ?_
 rintro v L' ⟨af,cf,rfl,rfl⟩
 refine Z ?_
 have h0:=hI.tell0 (Bk π.ω (AM π.τ (Eh π) y ys).2.1).2
 refine .loopK (ι:=Nat×(Sm Ev)) (fun q E=>(53,AA q.1)::E) (fun q=>[mapR k.rev (smM q.2),Am XE q.2]) (fun q=>q.1≤(Bk π.ω (AM π.τ (Eh π) y ys).2.1).2.length∧(q.2.map (·.1)).Nodup∧∀j,F4 π.ev ((Bk π.ω (AM π.τ (Eh π) y ys).2.1).2.take q.1) j=(Bt q.2 j).2) (fun q=>(Bk π.ω (AM π.τ (Eh π) y ys).2.1).2.length-q.1) (0,me) (ts:=[0,7,8,9,51,52]) O (⟨Nat.zero_le _,h0.1,h0.2⟩) O O ?_
 rintro ⟨i,me2⟩ ⟨hi,hnd,htl⟩
 dsimp only
 dsimp only at hi hnd htl
 refine Z ?_
 refine .condD Y (fun h54=>?_) (fun h54=>?_)
 ·have hi2:i<(Bk π.ω (AM π.τ (Eh π) y ys).2.1).2.length:=by omega
  have hle:=QN π.ev ((Bk π.ω (AM π.τ (Eh π) y ys).2.1).2.take i) (Bk π.ω (AM π.τ (Eh π) y ys).2.1).2[i].1
  have hle2:=hev (Bk π.ω (AM π.τ (Eh π) y ys).2.1).2[i].1
  rw [htl,length_take] at hle
  refine .slShape (v:= .slice af _ cf) O om fun bf bf' e0 mbf _=>?_
  simp only [Value.slice.injEq,true_and] at e0
  obtain ⟨rfl,rfl⟩:=e0
  refine Z ?_
  refine .q (.indexAddr Y Y XZ om) Y (.q (.loadRdA (sz:=4) (j:=i*4) (k:=4) (p:=At 210 4 _ (Bk π.ω (AM π.τ (Eh π) y ys).2.1).2.length ((Bk π.ω (AM π.τ (Eh π) y ys).2.1).2.flatMap MX)) (vs:=MX (Bk π.ω (AM π.τ (Eh π) y ys).2.1).2[i]) Y AI1 O (fun h hp=>Ad hp) (by simp) om om (BH (f:=MX) (sz:=4) (fun _ _=>Y) om)) Y (.oq (.allocA Sw) ?_))
  rintro v L' ⟨b13,rfl,rfl⟩
  refine .sa Y Y AIb (by simp [MX,AB]) ?_
  refine .nil (.pc b13 (MX (Bk π.ω (AM π.τ (Eh π) y ys).2.1).2[i]) ?_)
  refine .evTakeS (m:=me2) (Bk π.ω (AM π.τ (Eh π) y ys).2.1).2[i].1 O fun ae ce hse=>(.then_n (.draw [15,16,17] [[0,1,2,3,4,5,6,7,8,9,10,11,12,13,14,15,16],[17]] mixed kQ (.go [AW b _ _,AW b13 _ _,mapR k.rev _] O (Z ?_))))
  refine D.k Y (.to (v':= .slice ae (Bt me2 (Bk π.ω (AM π.τ (Eh π) y ys).2.1).2[i].1).2.length ce) (.lookupV (m:=me2) (enc:=smE) (Aa.int underlying3) (v:=(Bt me2 (Bk π.ω (AM π.τ (Eh π) y ys).2.1).2[i].1).1) (fun b hb=>Ql b hb) (fun hb=>QS hb) Y Y underlying140 AJo O Y) hse) (Z ?_)
  refine D.kv Y (.la (FP (Bk π.ω (AM π.τ (Eh π) y ys).2.1).2[i].2) Y YR) (.hh Y (.buildSlice (vs:=[_]) JI Dc Y Y Y Y cQ dQ) ?_)
  rintro v L' ⟨bv,rfl,rfl⟩
  refine D.hh Y (.append1 Y Y Y JI Dc Y Y ?c87 ?c88 (Nat.le_refl _) ?c89 dQ) ?_
  case c87=>simp only [map_cons,map_nil,flatten_cons,flatten_nil,append_nil];simp [Value.cells,FP,AB]
  case c88=>rfl
  case c89=>omega
  rintro v L' ⟨⟨a7,c7,rfl⟩,rfl⟩
  refine D.ph (.g0 (.hh Y (.mapSet (m:=me2) (enc:=smE) (v:=(.slice a7 ((Bt me2 (Bk π.ω (AM π.τ (Eh π) y ys).2.1).2[i].1).2.length+1) c7,(Bt me2 (Bk π.ω (AM π.τ (Eh π) y ys).2.1).2[i].1).2++[(Bk π.ω (AM π.τ (Eh π) y ys).2.1).2[i].2])) (k:=(Bk π.ω (AM π.τ (Eh π) y ys).2.1).2[i].1) (Aa.int underlying3) Y Y Y underlying140 ?he92) ?_))
  case he92=>rfl
  rintro v L' rfl
  refine D.ph (.fin (.evPut (m:=me2) (Bk π.ω (AM π.τ (Eh π) y ys).2.1).2[i].1 (v:= .slice a7 ((Bt me2 (Bk π.ω (AM π.τ (Eh π) y ys).2.1).2[i].1).2.length+1) c7) ((Bt me2 (Bk π.ω (AM π.τ (Eh π) y ys).2.1).2[i].1).2++[(Bk π.ω (AM π.τ (Eh π) y ys).2.1).2[i].2]) O (by rw [length_append];rfl) (by rw [flatMap_append];simp [Value.cells]) (Z ?_)))
  have ht2:=AGB hi2 hnd htl (.slice a7 ((Bt me2 (Bk π.ω (AM π.τ (Eh π) y ys).2.1).2[i].1).2.length+1) c7)
  exact .rk ((i+1,CF me2 (Bk π.ω (AM π.τ (Eh π) y ys).2.1).2[i].1 (.slice a7 ((Bt me2 (Bk π.ω (AM π.τ (Eh π) y ys).2.1).2[i].1).2.length+1) c7,(Bt me2 (Bk π.ω (AM π.τ (Eh π) y ys).2.1).2[i].1).2++[(Bk π.ω (AM π.τ (Eh π) y ys).2.1).2[i].2]))) (⟨by dsimp only;omega,ht2.1,ht2.2⟩) (by dsimp only;omega) O
 have hie:i=(Bk π.ω (AM π.τ (Eh π) y ys).2.1).2.length:=by omega
 subst hie
 rw [take_length] at htl
 refine Z ?_
 refine .condD Y (fun h77=>?_) (fun h77=>?_)
 ·refine .seq (.tbCast (t:=k.u) (ω':=(Bk π.ω (AM π.τ (Eh π) y ys).2.1).1) O Y (.draw [7] [[0,1,2,3,4,5,6,7]] mixed kQ (.g0 (Z ?_))))
  refine D.hh Y (.c func119 [_,_] (Wc k.u (Bk π.ω (AM π.τ (Eh π) y ys).2.1).1 y.own om)) ?_
  rintro v L' ⟨rfl,rfl⟩
  refine Z ?_
  refine .draw [6] [[0,1,2,3,4,5,6]] mixed kQ (.g0 (Z ?_))
  refine D.hh Y (.mapDel (m:=mi) (enc:=smE) (k:=y.own) (Aa.int underlying3) Y Y Y underlying139 ?he113) ?_
  case he113=>rfl
  rintro v L' rfl
  refine Z ?_
  refine .draw [6] [[0,1,2,3,4,5,6]] mixed kQ (.g0 (Z ?_))
  refine D.hh Y (.mapDel (m:=me2) (enc:=smE) (k:=y.own) (Aa.int underlying3) Y Y Y underlying140 ?he121) ?_
  case he121=>rfl
  rintro v L' rfl
  refine D.ph (.fin (.evTake (m:=me2) y.own O (.then_n (.seq (.tbCast (t:=k.u) (ω':=(B4 π s x y ys).ω) O (by show (if y.kind=6 then _ else _)=_;rw [if_pos h77]) (.region (.q (.la (CB (B7 π s x y ys)) Y Cz) Y (.sa Y Y GO (by exact Jo hc.1 hcv) ?_))))))))
  refine .nil (.pc b8 (CB (B7 π s x y ys)) ?_)
  refine .then_n (.ret ?_)
  exact .d1 Y (.cellA Y Cz O (by simp [CX,AQ,CB,A0]) Y) ⟨⟨_,Bg mi y.own,Bg me2 y.own⟩,Y,hI.put6 s x y ys hnd h77 htl,(if_pos h77).symm,Y⟩
 refine Z ?_
 refine .tbCast (t:=k.u) (ω':=(B4 π s x y ys).ω) O (by show (if y.kind=6 then _ else _)=_;rw [if_neg h77]) (Z ?_)
 refine .q (.la (CB (B7 π s x y ys)) Y Cz) Y (.sa Y Y GO (by exact Jo hc.1 hcv) ?_)
 refine .nil (.pc b8 (CB (B7 π s x y ys)) ?_)
 refine .then_n (.ret ?_)
 exact .d1 Y (.cellA Y Cz O (by simp [CX,AQ,CB,A0]) Y) ⟨⟨_,mi,me2⟩,Y,hI.put s x y ys hnd h77 htl,(if_neg h77).symm,Y⟩
end Go.Proofs.YtbhkloaagkkioaaGreatDoor
/-
 DERIVED:THE SHELF's CONTRACTS AT THIS DUMP,IN PLAIN WORDS (tools/lay-plain.mjs out of 'YtbhkloaagkkioaaGreatDoorLayQ.lean',which tools/lay-shelf.mjs wrote):THE SAME DECLARATIONS UNDER THE SAME NAMES:'import','namespace','open','def','theorem' AND NOTHING ELSE:no command of the shelf's:FOR A HAND-IN. Each laying:the table of numbers ('.._ren') and one theorem,a field a fact of the dump's own or the kernel's comparison;each Gt:ONE APPLICATION.
-/
namespace Go.Proofs
open Go List Go.Proofs.Tryz Go.Shelf
end Go.Proofs
namespace Go.Proofs.YtbhkloaagkkioaaGreatDoor
open Go List Go.Proofs.Tryz Go.RowKit Go.Sort Go.Shelf
section
variable {P:Program} {E:Bi} {L R:List HP} {ty:TypeId} {w:World}
end
/-! ### Tables of watches, shrunk -/
theorem OW (ω:List Wt) (es:List Ev):∀i,(AZ ω es i).1.Sublist ω
 |0=>List.Sublist.refl _
 |i+1=>by
  rw [GU rfl]
  exact filter_sublist.trans (OW ω es i)
theorem UH (ω:List Wt) (es:List Ev):(Bk ω es).1.Sublist ω:=OW ω es es.length
theorem AC2 (ω:List Wt) (s:Int):(VH ω s).Sublist ω:=filter_sublist
theorem AFv {ω υ:List Wt} (h:υ.Sublist ω) (s:Int):DO υ s≤DO ω s:=(h.filter _).length_le
theorem ACP:∀{ω:List Wt},(∀w∈ω,1≤w.1∧w.1≤5)→ω.length≤DO ω 1+DO ω 2+DO ω 3+DO ω 4+DO ω 5
 |[],_=>Nat.zero_le _
 |w::ω,h=>by
  have ih:=ACP (ω:=ω) fun x hx=>h x (mem_cons_of_mem _ hx)
  have hw:=h w mem_cons_self
  have key:∀s:Int,DO (w::ω) s=(if w.1=s then 1 else 0)+DO ω s:=fun s=>by
   unfold DO
   rw [filter_cons]
   by_cases g:w.1=s
   ·rw [if_pos (decide_eq_true g),if_pos g,length_cons];omega
   ·rw [if_neg (by simpa using g),if_neg g];omega
  rw [key,key,key,key,key,length_cons]
  have:w.1=1∨w.1=2∨w.1=3∨w.1=4∨w.1=5:=by omega
  rcases this with e|e|e|e|e<;>(simp [e];omega)
/-! ### Transactions of a service -/
def Ij (o t:Int):Pt:=⟨5,[],[],AR,[],o,min (max t 4) 60,0,AR⟩
theorem SY {o t:Int} (ho:Aw o) (N:Nat):Gb N (Ij o t) []:=by
 have hn:Aw (min (max t 4) 60):=⟨by omega,by omega⟩
 exact ⟨⟨⟨⟨⟨by show (-9223372036854775808:Int)≤5;decide,by show (5:Int)≤9223372036854775807;decide⟩,ho,hn,Aw.zero,by show 0<Ds;decide,by show 0<Ds;decide,by show 0<Ds;decide,fun a ha=>by cases ha⟩,CZ.long,Nat.zero_le _,Nat.zero_le _,Nat.zero_le _⟩,ho,hn,Nat.zero_le _,CZ⟩,(fun _ h=>by cases h), .inl (Nat.zero_le _)⟩
def JS (π:Pl):Pl:=⟨π.τ,π.ω,π.ord,π.opened+1,π.ids,π.ev⟩
def Ut (π:Pl) (t:Int):Pl×(Int×Int):=if 16≤π.τ.sess.length then (π,(0,91)) else (B4 (JS π) (π.opened+1) 0 (Ij (π.opened+1) t) [],(π.opened+1,0))
/-! ### Bp of a service -/
/-! ### Bounds -/
structure RU (π:Pl) (n:Nat):Prop where
 ok:π.τ.Ok (1+9*n)
 w:Hx π.τ
 ord:π.ord.length≤n
 ws:∀w∈π.ω,1≤w.1∧w.1≤5
 wn:∀s,DO π.ω s≤64
 ev:∀i,(π.ev i).length≤n*67108864
 ids:∀s,(π.ids s).length≤16
 op:0≤π.opened∧π.opened≤n
 ses:∀x∈π.τ.sess,1≤x.1∧x.1≤π.opened
theorem RU.few {π:Pl} {n:Nat} (h:RU π n):π.ω.length≤320:=by
 have h1:=ACP h.ws
 have:=h.wn 1
 have:=h.wn 2
 have:=h.wn 3
 have:=h.wn 4
 have:=h.wn 5
 omega
theorem Yi:RU U2 0:=by
 refine ⟨Nn,Hx.new,Nat.le_refl _,(fun w hw=>by cases hw),fun s=>Nat.zero_le _,fun i=>Nat.zero_le _,fun s=>Nat.zero_le _,⟨Int.le_refl _,Int.le_refl _⟩,fun x hx=>by cases hx⟩
theorem RU.more {π:Pl} {n m:Nat} (h:RU π n) (hm:n≤m):RU π m:=by
 have:=h.op
 exact ⟨h.ok.more om,h.w,by have:=h.ord;omega,h.ws,h.wn,fun i=>Nat.le_trans (h.ev i) (Nat.mul_le_mul_right _ hm),h.ids,⟨by omega,by omega⟩,h.ses⟩
theorem ABG {τ:Tr} {z:Int} {y:Pt} {ys:List Pt}:∀x∈(AM τ z y ys).1.sess,x∈τ.sess∨(y.kind=5∧x.1=y.own∧0<y.own):=by
 have hp:∀l:List Pt,(AP (zxT τ z) z l).1.sess=τ.sess:=fun l=>by
  unfold AP
  have H:∀(l:List Pt) (r:Tr×List Ev),(l.foldl (fun r x=>((AI r.1 x z).1,r.2++(AI r.1 x z).2)) r).1.sess=r.1.sess:=by
   intro l
   induction l with
   |nil=>intro r;rfl
   |cons x l ih=>intro r;rw [foldl_cons,ih];exact GW _ _ _
  exact H l (zxT τ z,[])
 intro x hx
 unfold AM at hx
 dsimp only at hx
 split at hx
 ·rename_i h5
  split at hx
  ·rename_i h0
   rcases F6 (show x∈sset τ.sess y.own (y.num,y.data) from hx) with e|e
   ·exact .inr ⟨h5,by rw [e],h0⟩
   ·exact .inl e
  ·exact .inl hx
 split at hx
 ·have:=(mem_filter.1 (show x∈(AP (zxT τ z) z (ys.filter Bc)).1.sess.filter _ from hx)).1
  rw [hp] at this
  exact .inl this
 split at hx
 ·have hx:x∈(AP (zxT τ z) z ys).1.sess:=hx
  rw [hp] at hx
  exact .inl hx
 split at hx
 ·exact .inl hx
 ·have hx:x∈(AI (zxT τ z) y z).1.sess:=hx
  rw [GW] at hx
  exact .inl hx
theorem RU.put {π:Pl} {n:Nat} (h:RU π n) (hn:n≤65536) (s x:Int) {y:Pt} {ys:List Pt} {N0:Nat} (hG:Gb N0 y ys) (hN0:N0≤65536) (h5:y.kind=5→1≤y.own∧y.own≤π.opened):RU (B4 π s x y ys) (n+1):=by
 have hsub:(B4 π s x y ys).ω.Sublist π.ω:=by
  show (if y.kind=6 then _ else _:List Wt).Sublist _
  split
  ·exact (AC2 _ _).trans (UH _ _)
  ·exact UH _ _
 have hz:Aw (Eh π):=by
  have:=h.ord
  unfold Eh
  exact ⟨by omega,by omega⟩
 have hys:ys.length≤65544:=by rcases hG.len with g|⟨-,g,-⟩<;>omega
 have hel:=ACw π.τ (Eh π) y ys
 have hfl:(Bk π.ω (AM π.τ (Eh π) y ys).2.1).2.length≤(AM π.τ (Eh π) y ys).2.1.length*π.ω.length:=(OO π.ω (AM π.τ (Eh π) y ys).2.1 (AM π.τ (Eh π) y ys).2.1.length).2
 have hfl2:(AM π.τ (Eh π) y ys).2.1.length*π.ω.length≤131090*320:=Nat.mul_le_mul om h.few
 have hop:=h.op
 refine ⟨(hG.ok h.ok _).more om,hG.w h.w hz,?_,fun w hw=>h.ws w (hsub.subset hw),fun i=>Nat.le_trans (AFv hsub i) (h.wn i),fun i=>?_,fun i=>?_,⟨hop.1,by show π.opened≤_;omega⟩,fun z hz=>?_⟩
 ·show (π.ord++[_]).length≤n+1
  have:=h.ord
  rw [length_append,length_singleton];omega
 ·have h1:=QN π.ev (Bk π.ω (AM π.τ (Eh π) y ys).2.1).2 i
  have h2:=h.ev i
  have e:(n+1)*67108864=n*67108864+67108864:=by omega
  show ((if y.kind=6 then I8 (F4 π.ev _) y.own [] else F4 π.ev _) i).length≤_
  rw [e]
  split
  ·unfold I8
   split
   ·exact Nat.zero_le _
   ·omega
  ·omega
 ·show ((if y.kind=6 then I8 π.ids y.own [] else π.ids) i).length≤16
  have:=h.ids i
  split
  ·unfold I8
   split
   ·exact Nat.zero_le _
   ·omega
  ·exact this
 ·rcases ABG z hz with g|⟨g1,g2,-⟩
  ·exact h.ses z g
  ·have:=h5 g1
   show 1≤z.1∧z.1≤π.opened
   omega
theorem RU.opn {π:Pl} {n:Nat} (h:RU π n) (hn:n≤4096) (t:Int):RU (Ut π t).1 (n+1):=by
 unfold Ut
 split
 ·exact h.more om
 ·have hop:=h.op
  have hM:RU (JS π) (n+1):=⟨h.ok.more om,h.w,by have:=h.ord;show π.ord.length≤_;omega,h.ws,h.wn,fun i=>Nat.le_trans (h.ev i) (Nat.mul_le_mul_right _ om),h.ids,⟨by show 0≤π.opened+1;omega,by show π.opened+1≤((n+1:Nat):Int);omega⟩,fun x hx=>by have:=h.ses x hx;show 1≤x.1∧x.1≤π.opened+1;omega⟩
  have hP:=hM.put om (π.opened+1) 0 (SY (o:=π.opened+1) (t:=t) ⟨by omega,by omega⟩ 0) dQ (fun _=>⟨by show 1≤π.opened+1;omega,Int.le_refl _⟩)
  have hz:Aw (Eh π):=by
   have:=h.ord
   unfold Eh
   exact ⟨by omega,by omega⟩
  refine ⟨?_,hP.w,?_,hP.ws,hP.wn,?_,hP.ids,⟨hP.op.1,by show π.opened+1≤_;omega⟩,hP.ses⟩
  ·exact ((SY (o:=π.opened+1) (t:=t) ⟨by omega,by omega⟩ 0).ok (τ:=π.τ) h.ok _).more om
  ·show (π.ord++[_]).length≤n+1
   have:=h.ord
   rw [length_append,length_singleton];omega
  ·intro i
   have e2:(B4 (JS π) (π.opened+1) 0 (Ij (π.opened+1) t) []).ev=π.ev:=by
    unfold B4
    dsimp only
    rw [if_neg (by show ¬(5:Int)=6;decide)];rfl
   dsimp only
   rw [e2]
   exact Nat.le_trans (h.ev i) (Nat.mul_le_mul_right _ om)
theorem RU.pre {π:Pl} {n:Nat} (h:RU π n) (hn:n≤4097):π.τ.Ok 65536∧π.ord.length≤1048576∧π.ω.length≤4096∧∀i,(π.ev i).length≤1099511627776:=by
 have h1:=h.ord
 have h2:=h.few
 refine ⟨h.ok.more om,by omega,by omega,fun i=>?_⟩
 have h3:=h.ev i
 have h4:n*67108864≤4097*67108864:=Nat.mul_le_mul_right _ hn
 omega
theorem Mg {x:Rp} (h1:AB x.aclV=true) (h2:AB x.kidsV=true) (h3:AB x.subsV=true):∀v∈Ci x,AB v=true:=by
 intro v hv
 simp only [Ci,Ca,cons_append,nil_append,mem_cons,not_mem_nil,or_false] at hv
 rcases hv with rfl|rfl|rfl|rfl|rfl|rfl|rfl|rfl|rfl|rfl|rfl|rfl|rfl|rfl|rfl|rfl|rfl<;>first|rfl|assumption
theorem Vs (b:Nat) (k:PlK) (π:Pl) (t:Int) (n:Nat) (hB:RU π n) (hn:n≤4096):Fn prog 24 #[AD b,AA t] [plR b k π] fun v L=>v= .tuple #[AA (Ut π t).2.1,AA (Ut π t).2.2]∧L=[plR b k (Ut π t).1]:=by
 refine Fn.intro func24 Y Y fun F W=>?_
 refine .plOpen (π:=π) O fun ov mi me hI=>?_
 have hop:=hB.op
 have hiz:(NY π.τ).length=π.τ.sess.length:=length_map _
 have hP:=hB.pre om
 refine Z ?_
 refine .oq (.call func58 Y Y (vs:=[_]) Y (Io k.t π.τ _ hP.1 (fun x hx=>by have:=hB.ses x hx;omega) om)) ?_
 rintro v L' ⟨⟨as1,cs1,rfl⟩,rfl⟩;rw [hiz]
 refine Z ?_
 refine .condD Y (fun h13=>?_) (fun h13=>?_)
 ·have hp:Ut π t=(π,(0,91)):=if_pos om
  rw [hp]
  refine .plFold (π) hI O (by rfl) (by rfl) (by rfl) (by rfl) (by rfl) (by rfl) (Z ?_)
  exact .vv
 have hp:Ut π t=((B4 (JS π) (π.opened+1) 0 (Ij (π.opened+1) t) []),(π.opened+1,0)):=if_neg om
 rw [hp]
 refine Z ?_
 refine .pc b (plC k ov (JS π).opened) ?_
 refine .add (p:=aclR (Ij (π.opened+1) t)) (AU _ _) (.add (p:=At 38 8 (Ij (π.opened+1) t).subsV ([]:List Pt).length (([]:List Pt).flatMap A0)) (AU _ _) (.add (p:=Am aclR []) (fun h=>CH h) ?_))
 have hI0:Xx (JS π) mi me:=⟨hI.i1,hI.e1,hI.i2,hI.e2⟩
 have hs1:Aw (π.opened+1):=⟨by omega,by omega⟩
 refine Z ?_
 refine .draw [13] [[0,1,2,3,4,5,6,7,8,9,10,11,12,13]] mixed kQ (.g0 (Z ?_))
 refine D.kv Y (.max2 Y Y) (.kv Y (.min2 Y Y) (.kv Y (.to (v':= .agg (A0 (Ij (π.opened+1) t)).toArray) (.build (us:=[(0,_),(4,_),(5,_)]) FV BM Y Y (by simp [AB])) Y) (.hh Y (.call func59 Y Y (vs:=[_,_,_,_]) Y (Oy b k (JS π) ov mi me hI0 (π.opened+1) 0 (Ij (π.opened+1) t) [] (N0:=0) (SY hs1 0) dQ ⟨Y,none,0,Y⟩ (fun _ h=>by cases h) hs1 Aw.zero 65536 hP.1 dQ hP.2.1 hP.2.2.1 hP.2.2.2)) ?_)))
 rintro v L' ⟨z,rfl,hz,hzm,rfl⟩
 refine Z ?_
 refine .idPost hzm O (.bigAdd (f:=entR) (l:=(JS π).ord) (B7 (JS π) (π.opened+1) 0 (Ij (π.opened+1) t) []) (p:=entR (B7 (JS π) (π.opened+1) 0 (Ij (π.opened+1) t) [])) Y O (.plFold (k:=k) (B4 (JS π) (π.opened+1) 0 (Ij (π.opened+1) t) []) hz O (by rfl) (by rfl) (by rfl) (by rfl) (by rfl) (by rfl) (Z ?_)))
 exact .vv
/- not in this seat -/
section
variable {W:World} {n:Nat} {ds:List Deferred} {E:Bi} {L R:List HP} {X:Act→World→Prop}
theorem G.idTakeP {m:Sm Bs} (s:Int) {ids:List Bs} (hids:ids=(Bt m s).2) (hL:BJ (Am Va m) L R)
  (h:∀a c,(Bt m s).1= .slice a ids.length c→G W n ds E (At 9 1 (.slice a ids.length c) ids.length (A1 ids)::Am Va (Bg m s)::R) X):G W n ds E L X:=by
 subst hids;exact G.idTakeS s hL h
theorem G.idBackP {m:Sm Bs} (s:Int) {ids:List Bs} {v:Value} (hids:ids=(Bt m s).2) (hv:(Bt m s).1=v) (hL:A4 [At 9 1 v ids.length (A1 ids),Am Va (Bg m s)] L R)
  (h:G W n ds E (Am Va m::R) X):G W n ds E L X:=by
 subst hids;subst hv;exact G.idBack s hL h
end
theorem Sr (b:Nat) (k:PlK) (π:Pl) (s:Int) (r:Rq) (subs:List Rq) (q:HP) (hd:WiD q ⟨s,[]⟩ AR r subs) (hse:PE π.τ s) (hch:C0 r.kind=true) (n:Nat) (hB:RU π n) (hn:n≤4096):Fn prog 25 #[AD b,AA s, .agg (L8 r).toArray] [plR b k π,q] fun v L=> ∃y ys,y.pl=(FO π.τ ⟨s,π.ids s⟩ r subs).1∧ys.map Pt.pl=(FO π.τ ⟨s,π.ids s⟩ r subs).2∧(AB y.aclV=true∧∃a c,y.subsV= .slice a ys.length c)∧(∀z∈ys,AB z.aclV=true∧z.subsV=AR)∧(∃x:Rp,(x.err=(BE (B4 π s r.xid y ys).τ (B7 π s r.xid y ys)).err∧x.path=(BE (B4 π s r.xid y ys).τ (B7 π s r.xid y ys)).path∧∀v∈Ci x,AB v=true)∧v= .tuple #[.agg (Ci x).toArray,AA 0])∧L=[plR b k (B4 π s r.xid y ys),q]:=by
 refine Fn.intro func25 Y Y fun F W=>?_
 have hP:=hB.pre om
 have hrc:=hd.w.rqcells
 have hid16:=hB.ids s
 have hrq:=hd.w.rq
 refine .sr (.oq (.box Y) ?_)
 rintro v L' ⟨b5,rfl,rfl⟩
 refine .oq (.allocA Em) ?_
 rintro v L' ⟨b6,rfl,rfl⟩
 refine Z ?_
 refine .pc b5 (L8 r) ?_
 refine Z ?_
 refine .cv func60 [_,_] (So b k π s) ?_
 refine Z ?_
 refine .condN Y (fun h12=>?_) (fun h12=>?_)
 ·exact absurd hse h12
 refine Z ?_
 refine .oq (.allocA Em) ?_
 rintro v L' ⟨b8,rfl,rfl⟩
 refine .nil (.pc b8 (Ci rp0) ?_)
 refine Z ?_
 refine .cv func61 [_] (KM r.kind) ?_
 refine .nt (.condB Y (fun h16=>?_) (fun h16=>?_))
 ·refine .plOpen (π:=π) O fun ov mi me hI=>(.idTakeP s (hI.i2 s) O fun ai ci hsi=>(.fold (p:=(CP [At 9 1 (.slice ai (π.ids s).length ci) (π.ids s).length (A1 (π.ids s)),q])) (q:=[At 9 1 (.slice ai (π.ids s).length ci) (π.ids s).length (A1 (π.ids s)),q]) O (fun _ h=>h) ?_))
  have hW:WiD (CP [At 9 1 (.slice ai (π.ids s).length ci) (π.ids s).length (A1 (π.ids s)),q]) ⟨s,(π.ids s)⟩ (.slice ai (π.ids s).length ci) r subs:=hd.more (a:=At 9 1 (.slice ai (π.ids s).length ci) (π.ids s).length (A1 (π.ids s))) (fun _ hp=>Ad hp) om ⟨_,_,_,rfl⟩
  refine .draw [22,23,24,25] [[0,1,2,3,4,5,6,7,8,9,10,11,12,13,14,15,16,17,18,19,20,21,22,23],[24],[25]] mixed kQ (.goI (ADS b 142 0 (AD k.t)) [AW b5 _ _] O (Z ?_))
  refine D.stL Y kQ Y Ih O Y (Z ?_)
  refine D.kv Y (.to (v':= .slice ai (π.ids s).length ci) (.lookupV (m:=mi) (enc:=smE) (Aa.int underlying3) (v:=(Bt mi s).1) (fun b hb=>Ql b hb) (fun hb=>QS hb) Y Y underlying139 AJN O Y) hsi) (.kv Y (.la (L8 r) Y Vo) (.hI Y kQ (.call func63 Y Y (vs:=[_,_,_,_]) Y (Ox k.t π.τ ⟨s,(π.ids s)⟩ (.slice ai (π.ids s).length ci) r (CP [At 9 1 (.slice ai (π.ids s).length ci) (π.ids s).length (A1 (π.ids s)),q]) hW.w _ hP.1 om hB.w om subs hW.rd hW.each hW.acls om)) O ?ivnx39 ?_))
  case ivnx39=>rintro v L' ⟨y,ys,rfl,hy,hys,hc,hcs,rfl⟩;exact ⟨_,_,O,rfl⟩
  rintro v L' ⟨y,ys,rfl,hy,hys,hc,hcs,rfl⟩
  have hG:=(AG9 hB.ok hW).of hy hys
  have hys2:=hG.few om
  have hGo:=hG.ok hP.1 (Eh π)
  refine D.hI Y kQ (.c func59 [_,_,_,_] (Oy b k π ov mi me hI s r.xid y ys hG om hc hcs hd.w.ses hrq.xid 65536 hP.1 dQ hP.2.1 hP.2.2.1 hP.2.2.2)) O ?ivnx41 ?_
  case ivnx41=>rintro v L' ⟨z,rfl,hz,hzm,rfl⟩;exact ⟨_,_,O,rfl⟩
  rintro v L' ⟨z,rfl,hz,hzm,rfl⟩
  refine D.ph (.g0 (.hh Y (.call func62 Y Y (vs:=[_,_]) Y (Vr k.t (B4 π s r.xid y ys).τ (B7 π s r.xid y ys) _ hGo om (entR (B7 π s r.xid y ys)) (fun _ hp=>Hu hp) hys2 hc.1 (by obtain ⟨-,a,c,e⟩:=hc;show AB y.subsV=true;rw [e];rfl) (fun z hz=>⟨(hcs z hz).1,by rw [(hcs z hz).2];rfl⟩))) ?_))
  rintro v L' ⟨w,rfl,⟨aw,cw,hw⟩,rfl⟩
  refine D.ph (.g0 (.sa Y Y Y Gv (by exact Mg rfl rfl (by show AB w=true;rw [hw];rfl)) ?_))
  refine D.ph (.fin (.pc b8 (Ci ((BE (B4 π s r.xid y ys).τ (B7 π s r.xid y ys)).ws w)) ?_))
  refine .focus (p:=(CP [At 9 1 (.slice ai (π.ids s).length ci) (π.ids s).length (A1 (π.ids s)),q])) O (.unfold (q:=[At 9 1 (.slice ai (π.ids s).length ci) (π.ids s).length (A1 (π.ids s)),q]) (fun _ h=>h) (.idBackP s (hI.i2 s) hsi O (.idPost hzm O (.bigAdd (f:=entR) (l:=π.ord) (B7 π s r.xid y ys) (p:=entR (B7 π s r.xid y ys)) Y O (.plFold (k:=k) (B4 π s r.xid y ys) hz O (by rfl) (by rfl) (by rfl) (by rfl) (by rfl) (by rfl) (.add (p:=At 9 1 AR ([]:List Bs).length (A1 [])) (AU _ _) (.then_n (.seq (.plOpen (π:=(B4 π s r.xid y ys)) O fun ov2 mi2 me2 hI2=>(.draw [7,9,11] [[0,1,2,3,4,5,6,8,7],[9],[10,11]] mixed kQ (.go [AW b5 _ _] O ?_)))))))))))
  refine Z ?_
  refine D.hh Y (.c func52 [_] (Dm k.t (B4 π s r.xid y ys).τ)) ?_
  rintro v L' ⟨rfl,rfl⟩
  refine D.ph (.g0 (.hh Y (.store Y Y Y IV ?c60 (Bd _ _)) ?_))
  case c60=>simp
  rintro v L' rfl
  refine D.ph (.g0 (Z ?_))
  refine D.hh Y (.store Y Y Y IV ?c64 (Bd _ _)) ?_
  case c64=>simp
  rintro v L' rfl
  refine D.ph (.fin (.pc b8 (Ci (⟨r.xid,(B4 π s r.xid y ys).τ.zx,((BE (B4 π s r.xid y ys).τ (B7 π s r.xid y ys)).ws w).err,((BE (B4 π s r.xid y ys).τ (B7 π s r.xid y ys)).ws w).path,((BE (B4 π s r.xid y ys).τ (B7 π s r.xid y ys)).ws w).data,((BE (B4 π s r.xid y ys).τ (B7 π s r.xid y ys)).ws w).st,((BE (B4 π s r.xid y ys).τ (B7 π s r.xid y ys)).ws w).aclV,((BE (B4 π s r.xid y ys).τ (B7 π s r.xid y ys)).ws w).kidsV,((BE (B4 π s r.xid y ys).τ (B7 π s r.xid y ys)).ws w).subsV⟩:Rp)) ?_))
  refine .plFold (k:=k) (B4 π s r.xid y ys) hI2 O (by rfl) (by rfl) (by rfl) (by rfl) (by rfl) (by rfl) (Z ?_)
  refine .q (.to (v':= .agg (Ci (⟨r.xid,(B4 π s r.xid y ys).τ.zx,((BE (B4 π s r.xid y ys).τ (B7 π s r.xid y ys)).ws w).err,((BE (B4 π s r.xid y ys).τ (B7 π s r.xid y ys)).ws w).path,((BE (B4 π s r.xid y ys).τ (B7 π s r.xid y ys)).ws w).data,((BE (B4 π s r.xid y ys).τ (B7 π s r.xid y ys)).ws w).st,((BE (B4 π s r.xid y ys).τ (B7 π s r.xid y ys)).ws w).aclV,((BE (B4 π s r.xid y ys).τ (B7 π s r.xid y ys)).ws w).kidsV,((BE (B4 π s r.xid y ys).τ (B7 π s r.xid y ys)).ws w).subsV⟩:Rp)).toArray) (.loadA Y Dg O (by simp)) (by rfl)) Y (.sa Y Y Gv (by exact Mg rfl rfl (by show AB w=true;rw [hw];rfl)) ?_)
  refine Z ?_
  refine .pc b6 (Ci (⟨r.xid,(B4 π s r.xid y ys).τ.zx,((BE (B4 π s r.xid y ys).τ (B7 π s r.xid y ys)).ws w).err,((BE (B4 π s r.xid y ys).τ (B7 π s r.xid y ys)).ws w).path,((BE (B4 π s r.xid y ys).τ (B7 π s r.xid y ys)).ws w).data,((BE (B4 π s r.xid y ys).τ (B7 π s r.xid y ys)).ws w).st,((BE (B4 π s r.xid y ys).τ (B7 π s r.xid y ys)).ws w).aclV,((BE (B4 π s r.xid y ys).τ (B7 π s r.xid y ys)).ws w).kidsV,((BE (B4 π s r.xid y ys).τ (B7 π s r.xid y ys)).ws w).subsV⟩:Rp)) ?_
  refine Z ?_
  exact .d2 Y (.cellA Y Dg O (by simp) Y) (.tmp Y) ⟨y,ys,hy,hys,hc,hcs,⟨(⟨r.xid,(B4 π s r.xid y ys).τ.zx,((BE (B4 π s r.xid y ys).τ (B7 π s r.xid y ys)).ws w).err,((BE (B4 π s r.xid y ys).τ (B7 π s r.xid y ys)).ws w).path,((BE (B4 π s r.xid y ys).τ (B7 π s r.xid y ys)).ws w).data,((BE (B4 π s r.xid y ys).τ (B7 π s r.xid y ys)).ws w).st,((BE (B4 π s r.xid y ys).τ (B7 π s r.xid y ys)).ws w).aclV,((BE (B4 π s r.xid y ys).τ (B7 π s r.xid y ys)).ws w).kidsV,((BE (B4 π s r.xid y ys).τ (B7 π s r.xid y ys)).ws w).subsV⟩:Rp),⟨Y,Y,Mg Y Y (by show AB w=true;rw [hw];rfl)⟩,Y⟩,Y⟩
 rw [hch] at h16;cases h16
def P8 (m0 m1 m2:Int):List Value:=[AA m0,AA m1,AA m2,AA 0,AF [],AF [],AR,AA 0,AA 0,AA 0,AR]
def AED (b3:Nat) (n0 n1 n2:Int):Nat→HP
 |0=>AW b3 (P8 0 0 0) 40
 |1=>AW b3 (P8 n0 0 0) 40
 |2=>AW b3 (P8 n0 n1 0) 40
 |_=>AW b3 (P8 n0 n1 n2) 40
theorem ADz (b3:Nat) (st:Rs):
  ∀j (hj:j<[(b3,0),(b3,1),(b3,2)].length) (E:Bi) (x y:Operand) (ty:TypeId),ev E x=some (LD [(b3,0),(b3,1),(b3,2)][j])→ev E y=some (AA (AS (AJ AS j st).2).1)→
  AO prog ⟨none, .store 3 x y,ty, "",#[],none⟩ E [AED b3 (AS (AJ AS 0 st).2).1 (AS (AJ AS 1 st).2).1 (AS (AJ AS 2 st).2).1 j]
   fun _ L'=>L'=[AED b3 (AS (AJ AS 0 st).2).1 (AS (AJ AS 1 st).2).1 (AS (AJ AS 2 st).2).1 (j+1)]:=by
 intro j hj E x y ty hx hy
 match j,hj with
 |0,_=>exact AO.store (off:=0) hx hy rfl IV (by simp [P8]) (Bd _ _)
 |1,_=>exact AO.store (off:=1) hx hy rfl IV (by simp [P8]) (Bd _ _)
 |2,_=>exact AO.store (off:=2) hx hy rfl IV (by simp [P8]) (Bd _ _)
def Ln (v0:Int) (v1 v2:Bs) (v3:Value) (m0 m1:Int):List Value:=[AA v0,AF v1,AF v2,v3,AA m0,AA m1,AA 0,AR]
def Uw (b3 b4:Nat) (v0:Int) (v1 v2:Bs) (v3:Value) (n0 n1 n2:Int):Nat→HP
 |0=>CP [AW b3 (Ln v0 v1 v2 v3 0 0) 38,AW b4 [AA 0] 3]
 |1=>CP [AW b3 (Ln v0 v1 v2 v3 n0 0) 38,AW b4 [AA 0] 3]
 |2=>CP [AW b3 (Ln v0 v1 v2 v3 n0 n1) 38,AW b4 [AA 0] 3]
 |_=>CP [AW b3 (Ln v0 v1 v2 v3 n0 n1) 38,AW b4 [AA n2] 3]
theorem Z4 (b3 b4:Nat) (v0:Int) (v1 v2:Bs) (v3:Value) (st:Rs):
  ∀j (hj:j<[(b3,4),(b3,5),(b4,0)].length) (E:Bi) (x y:Operand) (ty:TypeId),ev E x=some (LD [(b3,4),(b3,5),(b4,0)][j])→ev E y=some (AA (AS (AJ AS j st).2).1)→
  AO prog ⟨none, .store 3 x y,ty, "",#[],none⟩ E [Uw b3 b4 v0 v1 v2 v3 (AS (AJ AS 0 st).2).1 (AS (AJ AS 1 st).2).1 (AS (AJ AS 2 st).2).1 j]
   fun _ L'=>L'=[Uw b3 b4 v0 v1 v2 v3 (AS (AJ AS 0 st).2).1 (AS (AJ AS 1 st).2).1 (AS (AJ AS 2 st).2).1 (j+1)]:=by
 intro j hj E x y ty hx hy
 match j,hj with
 |0,_=>exact AO.inL (AO.store (off:=4) hx hy rfl IV (by simp [Ln]) (Bd _ _))
 |1,_=>exact AO.inL (AO.store (off:=5) hx hy rfl IV (by simp [Ln]) (Bd _ _))
 |2,_=>exact AO.inR (AO.store (off:=0) hx hy rfl IV (by simp) (Bd _ _))
theorem XD (e:En) (p:HP) (he:EnL p e):Fn prog 132 #[.agg (CB e).toArray, .func (.func 133) #[] #[]] [p] fun v L=>v=AF (Cb e)∧L=[p]:=by
 refine Fn.intro func132 Y Y fun F W=>?_
 refine .sr (.oq (.box Y) ?_)
 rintro v L' ⟨b2,rfl,rfl⟩
 refine Z ?_
 refine .pc b2 (CB e) ?_
 refine Z ?_
 refine .oq (.c func79 [] (HV)) ?_
 rintro v L' ⟨cw,rfl,rfl⟩
 refine Z ?_
 refine .q (.loadAs (vs:=CB e) Y Cz O (by simp [CB,A0]) Y) Y (.oq (.callV func133 Y Y (us:=[]) (vs:=[_,_]) (ws:=[]) Y Y (Up cw e p he)) ?_)
 rintro v L' ⟨rfl,rfl⟩
 refine Z ?_
 refine .cv func82 [_] (Fx _ _) ?_
 refine Z ?_
 exact .vv
theorem Qr (e:En) (p:HP) (he:EnL p e):Fn prog 65 #[.agg (CB e).toArray] [p] fun v L=>v=AF (Cb e)∧L=[p]:=by
 refine Fn.intro func65 Y Y fun F W=>?_
 refine .sr (.oq (.box Y) ?_)
 rintro v L' ⟨b1,rfl,rfl⟩
 refine Z ?_
 refine .pc b1 (CB e) ?_
 refine Z ?_
 refine .q (.loadAs (vs:=CB e) Y Cz O (by simp [CB,A0]) Y) Y (.cv func132 [_,_] (XD e p he) ?_)
 refine Z ?_
 exact .vv
theorem Ko (r:Nat) (st:Rs):Fn prog 213 #[AD r] [FK r st] fun v L=>v=AF (Ag st).1∧L=[FK r (Ag st).2]:=by
 refine Fn.intro func213 Y Y fun F W=>?_
 refine Z ?_
 refine .cv func111 [_,_] (Kr r 4096 dQ st) ?_
 refine Z ?_
 exact .vv
theorem Jk (r:Nat) (st:Rs):Fn prog 108 #[AD r] [FK r st] fun v L=>v=AA (AS st).1∧L=[FK r (AS st).2]:=RK r st
theorem N2 (r:Nat) (st:Rs) (va:Value) (ad:List (Nat×Nat)) (q:HP) (hq:∀h:Hp,q h→CA 1 h va ad.length (ad.map LD)) (B:Nat→HP)
    (hB:∀j (hj:j<ad.length) (E:Bi) (x y:Operand) (ty:TypeId),ev E x=some (LD ad[j])→ev E y=some (AA (AS (AJ AS j st).2).1)→AO prog ⟨none, .store 3 x y,ty, "",#[],none⟩ E [B j] fun _ L'=>L'=[B (j+1)]) (hn:ad.length≤1048576):
    Fn prog 155 #[AD r,va] [FK r st,q,B 0] fun v L=>v= .tuple #[]∧L=[FK r (AJ AS ad.length st).2,q,B ad.length]:=by
 refine Fn.intro func155 Y Y fun F W=>?_
 refine .rdAny (p:=q) hq O fun aa ca e0 _=>?_
 subst e0
 refine Z ?_
 refine .loopK (ι:=Nat) (fun q E=>(8,AA q)::E) (fun q=>[FK r (AJ AS q st).2,B q]) (fun q=>q≤ad.length) (fun q=>ad.length-q) (0) (ts:=[0,6,7]) O (Nat.zero_le _) O O ?_
 rintro j hj
 refine Z ?_
 refine .condD Y (fun h9=>?_) (fun h9=>?_)
 ·have hj2:j<ad.length:=by omega
  refine .rdShape (p:=q) hq O om fun ba oa e=>?_
  subst e
  refine Z ?_
  refine .q (.indexAddr Y Y XF om) Y (.q (.loadEl (p:=q) (i:=j*1) (v:=LD ad[j]) Y ADF O hq (by simp [hj2])) Y (Z ?_))
  refine .cv func108 [_] (Jk r _) ?_
  refine Z ?_
  refine .oq (hB j hj2 _ _ _ _ Y Y) ?_
  rintro v L' rfl
  refine Z ?_
  exact .rk (j+1) om om O
 have hjj:j=ad.length:=by omega
 rw [hjj]
 refine Z ?_
 refine .done_n ?_
 exact .vv
theorem XH (r:Nat) (st:Rs):Fn prog 215 #[AD r] [FK r st] fun v L=>v= .agg (CJ (Et st).1).toArray∧L=[FK r (Et st).2]:=by
 refine Fn.intro func215 Y Y fun F W=>?_
 refine .sr (.oq (.allocA EI) ?_)
 rintro v L' ⟨b2,rfl,rfl⟩
 refine Z ?_
 refine .cv func108 [_] (Jk r st) ?_
 refine Z ?_
 refine .cv func213 [_] (Ko r _) ?_
 refine .q (.to (v':= .agg (CJ (Et st).1).toArray) (.build (us:=[(0,_),(1,_)]) SK EI Y Y (by simp [AB])) Y) Y (.sa Y Y S1 (by simp [CJ,AB]) ?_)
 refine Z ?_
 refine .pc b2 (CJ (Et st).1) ?_
 exact .d1 Y (.cellA Y JP O (by simp [CJ]) Y) ⟨Y,Y⟩
theorem XV (r:Nat) (st:Rs):Fn prog 214 #[AD r, .func (.func 215) #[] #[]] [FK r st] fun v L=> ∃a c,v= .slice a (CD Et st).1.length c∧L=[FK r (CD Et st).2,At 133 2 v (CD Et st).1.length ((CD Et st).1.flatMap CJ)]:=by
 refine Fn.intro func214 Y Y fun F W=>?_
 obtain ⟨m,hm⟩:∃m,m=(BU st).1:=⟨_,rfl⟩
 obtain ⟨st1,hst1⟩:∃s,s=(BU st).2:=⟨_,rfl⟩
 have hm2:=J1 st
 have hrow:CD Et st=AJ Et m st1:=by rw [hm,hst1];rfl
 have hml:=PI Et st1 m
 rw [hrow,hml]
 refine Z ?_
 refine .add (AU 133 2) (Z ?_)
 refine .oq (.c func109 [_,_] (G6 r 256 dQ st)) ?_
 rintro v L' ⟨rfl,rfl⟩;rw [show (runP 0 (EN 256) st).1=m from hm.symm,show (runP 0 (EN 256) st).2=st1 from hst1.symm]
 refine Z ?_
 refine .loopK (ι:=Nat×Value) (fun q E=>(8,AA q.1)::(5,q.2)::E) (fun q=>[FK r (AJ Et q.1 st1).2,At 133 2 q.2 q.1 ((AJ Et q.1 st1).1.flatMap CJ)]) (fun q=>q.1≤m∧∃a c,q.2= .slice a q.1 c) (fun q=>m-q.1) (0, .slice none 0 0) (ts:=[0,1,4,7]) O (⟨Nat.zero_le _,none,0,Y⟩) O O ?_
 rintro ⟨j,u⟩ ⟨hj,au,cu,hu⟩
 dsimp only
 dsimp only at hj hu
 subst hu
 refine Z ?_
 refine .condD Y (fun h9=>?_) (fun h9=>?_)
 ·have hj2:j<m:=by omega
  refine Z ?_
  refine .oq (.callV func215 Y Y (us:=[]) (vs:=[_]) (ws:=[]) Y Y (XH r _)) ?_
  rintro v L' ⟨rfl,rfl⟩
  refine .oq (.buildSlice (vs:=[_]) GN EI Y Y Y Y cQ dQ) ?_
  rintro v L' ⟨b4,rfl,rfl⟩
  refine .oq (.append1 Y Y Y GN EI Y Y ?c15 ?c16 (Nat.le_refl _) ?c17 dQ) ?_
  case c15=>simp only [map_cons,map_nil,flatten_cons,flatten_nil,append_nil];simp [Value.cells,CJ,AB]
  case c16=>rfl
  case c17=>omega
  rintro v L' ⟨⟨a5,c5,rfl⟩,rfl⟩
  refine Z ?_
  refine .slCast (T:=133) (sz:=2) (m':=j+1) (xs':=(AJ Et (j+1) st1).1.flatMap CJ) O (by exact rfl) (by show _=((AJ Et j st1).1++[_]).flatMap CJ;rw [flatMap_append];simp [Value.cells,CJ]) ?_
  exact .rk ((j+1, .slice a5 (j+1) c5)) (⟨by dsimp only;omega,_,_,rfl⟩) (by dsimp only;omega) O
 have hjj:j=m:=by omega
 subst hjj
 refine Z ?_
 exact .dn Y Y ⟨_,_,Y,Y⟩
theorem NA (r:Nat) (st:Rs):Fn prog 156 #[AD r] [FK r st] fun v L=> ∃aa ca,v= .agg (A0 ((NM st).1.wa (.slice aa (NM st).1.acl.length ca))).toArray∧L=[FK r (NM st).2,aclR ((NM st).1.wa (.slice aa (NM st).1.acl.length ca))]:=by
 refine Fn.intro func156 Y Y fun F W=>?_
 refine .sr (.oq (.allocA BM) ?_)
 rintro v L' ⟨b2,rfl,rfl⟩
 refine Z ?_
 refine .oq (.allocA BM) ?_
 rintro v L' ⟨b3,rfl,rfl⟩
 refine Z ?_
 refine .cv func108 [_] (Jk r st) ?_
 refine Z ?_
 refine .cv func213 [_] (Ko r _) ?_
 refine Z ?_
 refine .cv func213 [_] (Ko r _) ?_
 refine Z ?_
 refine .oq (.c func214 [_,_] (XV r _)) ?_
 rintro v L' ⟨aa,ca,rfl,rfl⟩
 refine Z ?_
 refine .oq (.alloc FA) ?_
 rintro v L' ⟨b4,rfl,rfl⟩
 refine Z ?_
 refine .oq (.buildSlice1 (vs:=[_,_,_]) XF AEZ Y Y Y Y Y dQ) ?_
 rintro v L' ⟨b5,rfl,rfl⟩
 refine .slMake (b:=b5) (n:=3) (c:=3) (xs:=[(b3,4),(b3,5),(b4,0)].map LD) O dQ (by simp) Y (.ptCast (b:=b3) (l':=Ln (AS st).1 (Ag (AS st).2).1 (Ag (Ag (AS st).2).2).1 (.slice aa (CD Et (Ag (Ag (AS st).2).2).2).1.length ca) 0 0) O (by exact rfl) ?_)
 refine .fold (p:=Uw b3 b4 (AS st).1 (Ag (AS st).2).1 (Ag (Ag (AS st).2).2).1 (.slice aa (CD Et (Ag (Ag (AS st).2).2).2).1.length ca) (AS (AJ AS 0 (CD Et (Ag (Ag (AS st).2).2).2).2).2).1 (AS (AJ AS 1 (CD Et (Ag (Ag (AS st).2).2).2).2).2).1 (AS (AJ AS 2 (CD Et (Ag (Ag (AS st).2).2).2).2).2).1 0) (q:=[AW b3 (Ln (AS st).1 (Ag (AS st).2).1 (Ag (Ag (AS st).2).2).1 (.slice aa (CD Et (Ag (Ag (AS st).2).2).2).1.length ca) 0 0) 38,AW b4 [AA 0] 3]) O (fun _ hp=>hp) (.oq (.call func155 Y Y (vs:=[_,_]) Y (N2 r (CD Et (Ag (Ag (AS st).2).2).2).2 _ [(b3,4),(b3,5),(b4,0)] (At 194 1 (.slice (some ⟨b5,0,none⟩) 3 3) 3 ([(b3,4),(b3,5),(b4,0)].map LD)) (fun h hp=>Ad hp) (Uw b3 b4 (AS st).1 (Ag (AS st).2).1 (Ag (Ag (AS st).2).2).1 (.slice aa (CD Et (Ag (Ag (AS st).2).2).2).1.length ca) (AS (AJ AS 0 (CD Et (Ag (Ag (AS st).2).2).2).2).2).1 (AS (AJ AS 1 (CD Et (Ag (Ag (AS st).2).2).2).2).2).1 (AS (AJ AS 2 (CD Et (Ag (Ag (AS st).2).2).2).2).2).1) ?hB40 (by simp))) ?_)
 case hB40=>exact Z4 b3 b4 _ _ _ _ _
 rintro v L' ⟨rfl,rfl⟩
 refine .nil (.focus (p:=Uw b3 b4 (AS st).1 (Ag (AS st).2).1 (Ag (Ag (AS st).2).2).1 (.slice aa (CD Et (Ag (Ag (AS st).2).2).2).1.length ca) (AS (AJ AS 0 (CD Et (Ag (Ag (AS st).2).2).2).2).2).1 (AS (AJ AS 1 (CD Et (Ag (Ag (AS st).2).2).2).2).2).1 (AS (AJ AS 2 (CD Et (Ag (Ag (AS st).2).2).2).2).2).1 3) O (.unfold (q:=[AW b3 (Ln (AS st).1 (Ag (AS st).2).1 (Ag (Ag (AS st).2).2).1 (.slice aa (CD Et (Ag (Ag (AS st).2).2).2).1.length ca) (AS (AJ AS 0 (CD Et (Ag (Ag (AS st).2).2).2).2).2).1 (AS (AJ AS 1 (CD Et (Ag (Ag (AS st).2).2).2).2).2).1) 38,AW b4 [AA (AS (AJ AS 2 (CD Et (Ag (Ag (AS st).2).2).2).2).2).1] 3]) (fun _ hp=>hp) ?_))
 simp only [cons_append,nil_append]
 refine Z ?_
 refine .ptCast (b:=b3) (l':=A0 ((NM st).1.wa (.slice aa (CD Et (Ag (Ag (AS st).2).2).2).1.length ca))) O (by exact rfl) ?_
 refine Z ?_
 refine .q (.loadAs (vs:=A0 ((NM st).1.wa (.slice aa (CD Et (Ag (Ag (AS st).2).2).2).1.length ca))) Y A3 O (by simp [A0]) Y) Y (.sa Y Y BO (by exact B9 rfl rfl) ?_)
 refine Z ?_
 refine .ptCast (b:=b2) (l':=A0 ((NM st).1.wa (.slice aa (CD Et (Ag (Ag (AS st).2).2).2).1.length ca))) O (by exact rfl) ?_
 exact .d1 Y (.cellA Y A3 O (by simp [A0]) Y) ⟨_,_,Y,Y⟩
structure Yu (e:En):Prop where
 x:AB e.x.aclV=true∧AB e.x.subsV=true
 subs:∀y∈e.subs,AB y.aclV=true∧y.subsV=AR
theorem Yu.cells {e:En} (h:Yu e):∀v∈CB e,AB v=true:=by
 intro v hv
 unfold CB at hv
 rcases mem_append.1 hv with hv|hv
 ·simp at hv;rcases hv with rfl|rfl|rfl<;>rfl
 ·exact B9 h.x.1 h.x.2 v hv
def pt0:Pt:=⟨0,[],[],AR,[],0,0,0,AR⟩
def en0:En:=⟨0,0,0,pt0,[]⟩
theorem AIt:∀h,entR en0 h:=fun h=>⟨fun _=>none,h,fun _=> .inl rfl,fun _ _ e=>(by cases e),fun _ _ e=>e,AU _ _ _,fun _=>none,h,fun _=> .inl rfl,fun _ _ e=>(by cases e),fun _ _ e=>e,AU _ _ _,fun _=>none,h,fun _=> .inl rfl,fun _ _ e=>(by cases e),fun _ _ e=>e,trivial,trivial⟩
def YH (s:Bs) (e:En) (er:Int):Prop:=(er=0∧Fg s=some e.pl∧Yu e)∨(er=120∧Fg s=none∧e=en0)
theorem Tf (r:Nat) (st:Rs):Fn prog 157 #[AD r, .func (.func 156) #[] #[]] [FK r st] fun v L=> ∃a c,∃ys:List Pt,ys.map Pt.pl=(CD NM st).1∧(∀y∈ys,AB y.aclV=true∧y.subsV=AR)∧v= .slice a ys.length c∧L=[FK r (CD NM st).2,At 38 8 v ys.length (ys.flatMap A0),Am aclR ys]:=by
 refine Fn.intro func157 Y Y fun F W=>?_
 obtain ⟨m,hm⟩:∃m,m=(BU st).1:=⟨_,rfl⟩
 obtain ⟨st1,hst1⟩:∃s,s=(BU st).2:=⟨_,rfl⟩
 have hm2:=J1 st
 have hrow:CD NM st=AJ NM m st1:=by rw [hm,hst1];rfl
 rw [hrow]
 refine Z ?_
 refine .add (AU 38 8) (.add (p:=Am aclR []) (fun h=>CH h) (Z ?_))
 refine .oq (.c func109 [_,_] (G6 r 256 dQ st)) ?_
 rintro v L' ⟨rfl,rfl⟩;rw [show (runP 0 (EN 256) st).1=m from hm.symm,show (runP 0 (EN 256) st).2=st1 from hst1.symm]
 refine Z ?_
 refine .loopK (ι:=Nat×Value×(List Pt)) (fun q E=>(8,AA q.1)::(5,q.2.1)::E) (fun q=>[FK r (AJ NM q.1 st1).2,At 38 8 q.2.1 q.1 (q.2.2.flatMap A0),Am aclR q.2.2]) (fun q=>q.1≤m∧(∃a c,q.2.1= .slice a q.1 c)∧q.2.2.map Pt.pl=(AJ NM q.1 st1).1∧∀y∈q.2.2,AB y.aclV=true∧y.subsV=AR) (fun q=>m-q.1) (0, .slice none 0 0,[]) (ts:=[0,1,4,7]) O (⟨Nat.zero_le _,⟨none,0,Y⟩,Y,fun y hy=>by cases hy⟩) O O ?_
 rintro ⟨j,u,ys⟩ ⟨hj,⟨au,cu,hu⟩,hys,hyc⟩
 dsimp only
 dsimp only at hj hu hys hyc
 subst hu
 refine Z ?_
 refine .condD Y (fun h9=>?_) (fun h9=>?_)
 ·have hj2:j<m:=by omega
  refine Z ?_
  refine .oq (.callV func156 Y Y (us:=[]) (vs:=[_]) (ws:=[]) Y Y (NA r _)) ?_
  rintro v L' ⟨ab,cb,rfl,rfl⟩;obtain ⟨y,hy⟩:∃y:Pt,y=((NM (AJ NM j st1).2).1.wa (.slice ab (NM (AJ NM j st1).2).1.acl.length cb)):=⟨_,rfl⟩;rw [←hy];have hyk:AB y.aclV=true∧y.subsV=AR:=by (rw [hy];exact ⟨rfl,rfl⟩)
  refine .oq (.buildSlice (vs:=[_]) FQ BM Y Y Y Y cQ dQ) ?_
  rintro v L' ⟨b4,rfl,rfl⟩
  refine .oq (.append1 Y Y Y FQ BM Y Y ?c15 ?c16 (Nat.le_refl _) ?c17 dQ) ?_
  case c15=>simp only [map_cons,map_nil,flatten_cons,flatten_nil,append_nil];simp only [Value.cells];intro z hz;exact B9 (y:=y) hyk.1 (by rw [hyk.2];rfl) z (by simpa using hz)
  case c16=>rfl
  case c17=>omega
  rintro v L' ⟨⟨a5,c5,rfl⟩,rfl⟩
  refine Z ?_
  refine .bigAdd (f:=aclR) (l:=ys) (p:=aclR y) y Y O (.slCast (T:=38) (sz:=8) (m':=j+1) (xs':=(ys++[y]).flatMap A0) O (by exact rfl) (by rw [flatMap_append];simp [Value.cells]) ?_)
  exact .rk ((j+1, .slice a5 (j+1) c5,ys++[y])) (⟨by dsimp only;omega,⟨_,_,rfl⟩,by show (ys++[y]).map Pt.pl=(AJ NM j st1).1++[_];rw [map_append,hys,hy];rfl,fun z hz=>by rcases mem_append.1 hz with hz|hz;exact hyc z hz;rw [mem_singleton] at hz;subst hz;rw [hy];exact ⟨rfl,rfl⟩⟩) (by dsimp only;omega) O
 have hjj:j=m:=by omega
 subst hjj
 have hyl:ys.length=j:=by have h:=congrArg List.length hys;rw [length_map,PI] at h;exact h
 refine .slCast (T:=38) (sz:=8) (m':=ys.length) (xs':=ys.flatMap A0) O (by rw [hyl]) Y (Z ?_)
 exact .dn Y Y ⟨au,cu,ys,hys,hyc,by rw [hyl],rfl⟩
theorem Xi (r:Nat) (st:Rs):Fn prog 98 #[AD r] [FK r st] fun v L=> ∃e:En,e.pl=(enR st).1∧Yu e∧v= .agg (CB e).toArray∧L=[FK r (enR st).2,entR e]:=by
 refine Fn.intro func98 Y Y fun F W=>?_
 refine .sr (.oq (.allocA Cq) ?_)
 rintro v L' ⟨b2,rfl,rfl⟩
 refine Z ?_
 refine .oq (.allocA Cq) ?_
 rintro v L' ⟨b3,rfl,rfl⟩
 refine .nil (.ptCast (b:=b3) (l':=P8 0 0 0) O Y ?_)
 refine .fold (p:=AED b3 (AS (AJ AS 0 st).2).1 (AS (AJ AS 1 st).2).1 (AS (AJ AS 2 st).2).1 0) (q:=[AW b3 (P8 0 0 0) 40]) O (fun _ hp=>(AGe hp)) (Z ?_)
 refine .oq (.buildSlice1 (vs:=[_,_,_]) XF AEZ Y Y Y Y Y dQ) ?_
 rintro v L' ⟨b5,rfl,rfl⟩
 refine .slMake (b:=b5) (n:=3) (c:=3) (xs:=[(b3,0),(b3,1),(b3,2)].map LD) O dQ (by simp) Y (.oq (.call func155 Y Y (vs:=[_,_]) Y (N2 r st _ [(b3,0),(b3,1),(b3,2)] (At 194 1 (.slice (some ⟨b5,0,none⟩) 3 3) 3 ([(b3,0),(b3,1),(b3,2)].map LD)) (fun h hp=>Ad hp) (AED b3 (AS (AJ AS 0 st).2).1 (AS (AJ AS 1 st).2).1 (AS (AJ AS 2 st).2).1) ?hB11 (by simp))) ?_)
 case hB11=>exact ADz b3 st
 rintro v L' ⟨rfl,rfl⟩
 refine .nil (.focus (p:=AED b3 (AS (AJ AS 0 st).2).1 (AS (AJ AS 1 st).2).1 (AS (AJ AS 2 st).2).1 3) O (.unfold (q:=[AW b3 (P8 (AS (AJ AS 0 st).2).1 (AS (AJ AS 1 st).2).1 (AS (AJ AS 2 st).2).1) 40]) (fun _ hp=>AFd hp) ?_))
 simp only [cons_append,nil_append]
 refine Z ?_
 refine .oq (.c func156 [_] (NA r (AJ AS 3 st).2)) ?_
 rintro v L' ⟨ab,cb,rfl,rfl⟩;obtain ⟨y,hy⟩:∃y:Pt,y=((NM (AJ AS 3 st).2).1.wa (.slice ab (NM (AJ AS 3 st).2).1.acl.length cb)):=⟨_,rfl⟩;rw [←hy];have hyk:AB y.aclV=true∧y.subsV=AR:=by (rw [hy];exact ⟨rfl,rfl⟩)
 refine Z ?_
 refine .sa Y Y BO (by exact B9 (y:=y) hyk.1 (by rw [hyk.2];rfl)) ?_
 refine .nil (.pc b3 ([AA (AS (AJ AS 0 st).2).1,AA (AS (AJ AS 1 st).2).1,AA (AS (AJ AS 2 st).2).1]++A0 y) ?_)
 refine Z ?_
 refine .oq (.c func157 [_,_] (Tf r _)) ?_
 rintro v L' ⟨sa,sc,ys,hys,hyc,rfl,rfl⟩
 refine Z ?_
 obtain ⟨e,he⟩:∃e:En,e=(⟨(AS (AJ AS 0 st).2).1,(AS (AJ AS 1 st).2).1,(AS (AJ AS 2 st).2).1,y.ws (.slice sa ys.length sc),ys⟩:En):=⟨_,rfl⟩
 have hek:Yu e:=by rw [he];exact ⟨⟨hyk.1,rfl⟩,hyc⟩
 refine .ptCast (b:=b3) (l':=CB e) O (by rw [he];rfl) ?_
 refine .fold (p:=entR e) (q:=[aclR y,At 38 8 (.slice sa ys.length sc) ys.length (ys.flatMap A0),Am aclR ys]) O (fun _ hp=>by rw [he];exact hp) (Z ?_)
 refine .q (.loadAs (vs:=CB e) Y Cz O (by simp [CB,A0]) Y) Y (.sa Y Y GO (by exact hek.cells) ?_)
 refine Z ?_
 refine .pc b2 (CB e) ?_
 exact .d1 Y (.cellA Y Cz O (by simp [CB,A0]) Y) ⟨e,by rw [he];unfold En.pl;dsimp only;rw [hys,hy];rfl,hek,rfl,rfl⟩
theorem AGp {s:Bs} (h:¬(enR (some s)).2=some []):Fg s=none:=by
 unfold Fg ADg
 split
 ·rename_i q hq;rw [hq] at h;exact absurd rfl h
 ·rfl
theorem AHr {s:Bs} (h:(enR (some s)).2=some []):Fg s=some (enR (some s)).1:=by
 unfold Fg ADg
 split
 ·rename_i q hq;rw [hq]
 ·rename_i h2;exact absurd (show enR (some s)=((enR (some s)).1,some []) by rw [←h]) (h2 _)
theorem WP (s:Bs) (hs:s.length≤2147483648):Fn prog 97 #[AF s, .func (.func 98) #[] #[]] [] fun v L=> ∃e er,YH s e er∧v= .tuple #[.agg (CB e).toArray,AA er]∧L=[entR e]:=by
 refine Fn.intro func97 Y Y fun F W=>?_
 refine .sr (.oq (.allocA Cq) ?_)
 rintro v L' ⟨b4,rfl,rfl⟩
 refine Z ?_
 refine .oq (.c func107 [_] (Kj s om)) ?_
 rintro v L' ⟨r,rfl,rfl⟩
 refine Z ?_
 refine .oq (.callV func98 Y Y (us:=[]) (vs:=[_]) (ws:=[]) Y Y (Xi r (some s))) ?_
 rintro v L' ⟨e,hpl,hek,rfl,rfl⟩
 refine .oq (.allocA Cq) ?_
 rintro v L' ⟨b7,rfl,rfl⟩
 refine .sa Y Y GO (by exact hek.cells) ?_
 refine .nil (.pc b7 (CB e) ?_)
 refine Z ?_
 refine .oq (.c func110 [_] (MG r _)) ?_
 rintro v L' ⟨e1,he1,rfl,st',rfl⟩
 refine Z ?_
 refine .condN Y (fun h16=>?_) (fun h16=>?_)
 ·refine .sr (.oq (.allocA Cq) ?_)
  rintro v L' ⟨b8,rfl,rfl⟩
  refine .nil (.pc b8 (CB en0) ?_)
  refine .add AIt (Z ?_)
  refine .q (.loadAs (vs:=CB en0) Y Cz O (by simp [CB,A0]) Y) Y (.sa Y Y GO dQ ?_)
  refine Z ?_
  refine .pc b4 (CB en0) ?_
  refine Z ?_
  exact .d2 Y (.cellA Y Cz O (by simp [CB,A0]) Y) (.tmp Y) ⟨en0,120, .inr ⟨Y,AGp (fun g=>h16 (he1.2 g)),Y⟩,Y,Y⟩
 refine Z ?_
 refine .q (.loadAs (vs:=CB e) Y Cz O (by simp [CB,A0]) Y) Y (.sa Y Y GO (by exact hek.cells) ?_)
 refine Z ?_
 refine .pc b4 (CB e) ?_
 refine Z ?_
 exact .d2 Y (.cellA Y Cz O (by simp [CB,A0]) Y) (.tmp Y) ⟨e,0, .inl ⟨Y,by rw [hpl];exact AHr (he1.1 h16),hek⟩,rfl,rfl⟩
theorem YH.cells {s:Bs} {e:En} {er:Int} (h:YH s e er):∀v∈CB e,AB v=true:=by
 rcases h with ⟨-,-,h⟩|⟨-,-,rfl⟩
 ·exact h.cells
 ·decide
theorem Jy (s:Bs) (hs:s.length≤2147483648):Fn prog 44 #[AF s] [] fun v L=> ∃e er,YH s e er∧v= .tuple #[.agg (CB e).toArray,AA er]∧L=[entR e]:=by
 refine Fn.intro func44 Y Y fun F W=>?_
 refine .sr (.oq (.allocA Cq) ?_)
 rintro v L' ⟨b2,rfl,rfl⟩
 refine Z ?_
 refine .oq (.c func97 [_,_] (WP s hs)) ?_
 rintro v L' ⟨e,er,hg,rfl,rfl⟩
 refine Z ?_
 refine .sa Y Y GO (by exact hg.cells) ?_
 refine Z ?_
 refine .pc b2 (CB e) ?_
 refine Z ?_
 exact .d2 Y (.cellA Y Cz O (by simp [CB,A0]) Y) (.tmp Y) ⟨e,er,hg,Y,Y⟩
/-! ### Numbered names -/
theorem ADe:∀(u:Nat),∀c∈Lib.decDigits u,c≠(47:UInt8):=by
 intro u
 induction u using Nat.strongRecOn with
 |ind u ih=>
  intro c hc
  rw [Lib.decDigits] at hc
  have key:∀k,k<10→UInt8.ofNat (48+k)≠(47:UInt8):=by decide
  split at hc
  ·rename_i h
   rw [mem_singleton] at hc
   subst hc;exact key u h
  ·rcases mem_append.1 hc with hc|hc
   ·exact ih (u/10) om c hc
   ·rw [mem_singleton] at hc
    subst hc;exact key _ om
theorem ACG (p:Bs) (n:Int):∃d:Bs,Gg p n=p++d∧(47:UInt8)∉d∧d≠[]:=by
 refine ⟨_,rfl,fun hm=>?_,fun h=>?_⟩
 ·have hm:=mem_of_mem_drop hm
  rcases mem_append.1 hm with hm|hm
  ·exact absurd (eq_of_mem_replicate hm) dQ
  ·unfold Lib.itoa at hm
   rw [if_neg om] at hm
   exact ADe _ _ hm rfl
 ·have:=congrArg List.length h
  simp only [length_drop,length_append,length_replicate,length_nil] at this
  omega
theorem Xu (a b:Bs):∀n,n≤a.length→Cm (a++b) n=Cm a n:=by
 intro n
 induction n with
 |zero=>intro _;rfl
 |succ n ih=>
  intro h
  unfold Cm
  rw [ih om]
  have:(a++b).getD n 0=a.getD n 0:=by
   rw [getD_eq_getElem?_getD,getD_eq_getElem?_getD,List.getElem?_append_left om]
  rw [this]
theorem UO {a b:Bs} (h:(47:UInt8)∉b):CI (a++b)=CI a:=by
 have key:∀k,k≤b.length→Cm (a++b) (a.length+k)=Cm (a++b) a.length:=by
  intro k
  induction k with
  |zero=>intro _;rfl
  |succ k ih=>
   intro hk
   show Cm (a++b) (a.length+k+1)=_
   rw [Cm]
   have:¬(a++b).getD (a.length+k) 0=47:=by
    rw [getD_eq_getElem?_getD,List.getElem?_append_right om,show a.length+k-a.length=k by omega,List.getElem?_eq_getElem om]
    intro e
    exact h (e▸getElem_mem _)
   rw [if_neg this,ih om]
 unfold CI
 rw [length_append,key _ (Nat.le_refl _),Xu a b _ (Nat.le_refl _)]
theorem WJ {p:Bs} (hp:p≠[47]) (n:Int):AK (Gg p n)=AK p:=by
 obtain ⟨d,e,hd,hne⟩:=ACG p n
 rw [e]
 have hr:=Gr p
 by_cases h0:CI p<0
 ·unfold AK
  rw [UO hd,if_pos (.inl h0),if_pos (.inl h0)]
 ·have h1:p++d≠[47]:=fun g=>by
   have h2:=congrArg List.length g
   have h3:0<d.length:=length_pos_iff.2 hne
   simp only [length_append,length_singleton] at h2
   have h4:p=[]:=eq_nil_of_length_eq_zero om
   subst h4
   simp at hr;omega
  have e1:AK (p++d)=if CI p=0 then [47] else (p++d).take (CI p).toNat:=by
   unfold AK
   rw [UO hd,if_neg (fun g=>g.elim h0 h1)]
  have e2:AK p=if CI p=0 then [47] else p.take (CI p).toNat:=by
   unfold AK
   rw [if_neg (fun g=>g.elim h0 hp)]
  rw [e1,e2]
  split
  ·rfl
  ·rw [take_append_of_le_length om]
/-! ### What wishes keep -/
structure WI (τ:Tr):Prop where
 ok:τ.Ok 64
 root:∃n,AC τ.nodes [47]=some n∧n.st.own=0
 closed:∀q,AL τ q→q≠[47]→AL τ (AK q)
 data:∀q n,AC τ.nodes q=some n→n.data.length≤100
 bare:∀q n,AC τ.nodes q=some n→n.st.own≠0→∀c,AL τ c→c≠[47]→AK c≠q
 few:∀s,(AG τ s).length≤32
 ids:∀i s,AC τ.sess i=some s→1≤i∧i≤5
theorem WI.able {τ:Tr} (h:WI τ) {q:Bs} (ht:AL τ q) (hq:q≠[47]):Bm q:=by
 obtain ⟨n,hn⟩:=BY.1 ht
 exact (h.ok.able _ (De hn)).resolve_left hq
theorem WI.rootT {τ:Tr} (h:WI τ):AL τ [47]:=by
 obtain ⟨n,hn,-⟩:=h.root
 exact BY.2 ⟨n,hn⟩
theorem WI.zx {τ:Tr} (h:WI τ) (z:Int):WI (zxT τ z):=⟨h.ok.zx z,h.root,h.closed,h.data,h.bare,h.few,h.ids⟩
theorem WI.new:WI BV:=by
 have key:∀q n,AC BV.nodes q=some n→q=[47]∧n=⟨[],[(31,AJ7)],st0⟩:=by
  intro q n h
  have:=De h
  simp only [BV,mem_singleton,Prod.mk.injEq] at this
  exact this
 refine ⟨Nn.more dQ,⟨_,rfl,rfl⟩,fun q hq hne=>?_,fun q n h=>?_,fun q n h hn=>?_,fun s=>?_,fun i s h=>by cases h⟩
 ·obtain ⟨n,hn⟩:=BY.1 hq
  exact absurd (key q n hn).1 hne
 ·obtain ⟨-,rfl⟩:=key q n h;decide
 ·obtain ⟨-,rfl⟩:=key q n h;exact absurd rfl hn
 ·have:=Fb BV s
  have h2:BV.nodes.length=1:=rfl
  omega
/-! ### How many are whose -/
def HR (s:Int) (y:PN):Bool:= !decide (s=0)&&decide (y.2.st.own=s)
theorem RM (τ:Tr) (s:Int):(AG τ s).length=(τ.nodes.filter (HR s)).length:=by
 unfold AG
 rw [length_map];rfl
theorem ACM (s:Int) (p:Bs) (n:Nd):∀l:List PN,((sset l p n).filter (HR s)).length≤(l.filter (HR s)).length+(if s≠0∧n.st.own=s then 1 else 0):=by
 have one:∀l:List PN,((p,n)::l).filter (HR s)|>.length|>(· ≤(l.filter (HR s)).length+(if s≠0∧n.st.own=s then 1 else 0)):=by
  intro l
  show (((p,n)::l).filter (HR s)).length≤_
  by_cases g:s≠0∧n.st.own=s
  ·rw [if_pos g]
   rw [filter_cons]
   split<;>simp
  ·rw [if_neg g,filter_cons,if_neg (by simp only [HR,Bool.and_eq_true,Bool.not_eq_true',decide_eq_false_iff_not,decide_eq_true_eq];exact g)]
   omega
 intro l
 induction l with
 |nil=>exact one []
 |cons y l ih=>
  have h1:=one l
  have hc:(l.filter (HR s)).length≤((y::l).filter (HR s)).length:=by
   rw [filter_cons];split<;>simp
  unfold sset
  split
  ·exact Nat.le_trans h1 om
  split
  ·exact one (y::l)
  ·rw [filter_cons,filter_cons]
   split
   ·rw [length_cons,length_cons];omega
   ·exact ih
theorem LL (s:Int) (p:Bs) {f:Nd→Nd} (hf:∀n,(f n).st.own=n.st.own) (l:List PN):((amod l p f).filter (HR s)).length=(l.filter (HR s)).length:=by
 unfold amod
 rw [filter_map,length_map]
 congr 1
 apply filter_congr
 intro y _
 show HR s (if y.1=p then (y.1,f y.2) else y)=HR s y
 split
 ·unfold HR
  rw [hf]
 ·rfl
theorem AGi (s:Int) (g:PN→Bool) (l:List PN):((l.filter g).filter (HR s)).length≤(l.filter (HR s)).length:=(filter_sublist.filter (HR s)).length_le
theorem ADH (τ:Tr) (y:Pt) (zx s:Int):(AG (AI τ y zx).1 s).length≤(AG τ s).length+(if y.kind=1∧s≠0∧y.own=s then 1 else 0):=by
 rw [RM,RM,Iy]
 split
 ·rename_i h1
  split
  ·show ((amod (sset τ.nodes y.path (EZ y zx)) (AK y.path) (kidN y.num zx)).filter (HR s)).length≤_
   rw [LL (f:=kidN y.num zx) s _ (fun n=>rfl)]
   refine Nat.le_trans (ACM s _ _ _) ?_
   have e:(EZ y zx).st.own=y.own:=rfl
   rw [e]
   by_cases g:s≠0∧y.own=s
   ·rw [if_pos g,if_pos ⟨h1,g⟩];exact Nat.le_refl _
   ·rw [if_neg g];omega
  ·omega
 split
 ·split
  ·show ((amod (IR τ y.path).nodes (AK y.path) (kidN y.num zx)).filter (HR s)).length≤_
   rw [LL (f:=kidN y.num zx) s _ (fun n=>rfl)]
   exact Nat.le_trans (AGi s _ _) om
  ·omega
 split
 ·show ((amod τ.nodes y.path (HQ y.data y.num zx)).filter (HR s)).length≤_
  rw [LL (f:=HQ y.data y.num zx) s _ (fun n=>rfl)];omega
 split
 ·show ((amod τ.nodes y.path (Gd y.acl y.num)).filter (HR s)).length≤_
  rw [LL (f:=Gd y.acl y.num) s _ (fun n=>rfl)];omega
 ·omega
/-! ### A part -/
structure TQ (τ:Tr) (y:Pt):Prop where
 kind:0≤y.kind∧y.kind≤4
 finds:y.kind=0∨B5 τ y=true
 data:y.data.length≤100
 acl:y.acl.length≤1048576
 room:y.kind=1→τ.nodes.length<64∧(y.own≠0→(AG τ y.own).length<32)∧∀n,AC τ.nodes (AK y.path)=some n→n.st.own=0
structure AKv (τ:Tr) (y:Pt) (zx:Int) (υ:Tr):Prop where
 nodes:∀q n,AC υ.nodes q=some n→∃n0,(AC τ.nodes q=some n0∨(n0=EZ y zx∧q=y.path∧y.kind=1))∧(n=n0∨n=kidN y.num zx n0∨n=HQ y.data y.num zx n0∨n=Gd y.acl y.num n0)
 root:AL υ [47]
 closed:∀q,AL υ q→q≠[47]→AL υ (AK q)
 there:∀q,AL υ q→AL τ q∨(q=y.path∧y.kind=1)
 len:υ.nodes.length≤τ.nodes.length+(if y.kind=1 then 1 else 0)
theorem WI.left {τ:Tr} (h:WI τ) {y:Pt} {zx:Int} (hs:B5 τ y=true):AKv τ y zx (AI τ y zx).1:=by
 unfold B5 at hs
 split at hs
 ·rename_i h1
  obtain ⟨ha,hnt,hu⟩:=of_decide_eq_true hs
  have hth:∀r,AL (AI τ y zx).1 r↔r=y.path∨AL τ r:=by
   intro r
   unfold AL
   rw [Cx h1 ha hu]
   by_cases e2:r=y.path
   ·rw [if_pos e2];split<;>simp [e2]
   ·rw [if_neg e2];split<;>simp [e2]
  refine ⟨fun q n hq=>?_,(hth _).2 (.inr h.rootT),fun q hq hne=>?_,fun q hq=>?_,?_⟩
  ·rw [Cx h1 ha hu] at hq
   by_cases e1:q=AK y.path
   ·rw [if_pos e1] at hq
    obtain ⟨n0,g,rfl⟩:=map_some hq
    by_cases e2:q=y.path
    ·rw [if_pos e2] at g;cases g
     exact ⟨_, .inr ⟨rfl,e2,h1⟩, .inr (.inl rfl)⟩
    ·rw [if_neg e2] at g
     exact ⟨_, .inl g, .inr (.inl rfl)⟩
   ·rw [if_neg e1] at hq
    by_cases e2:q=y.path
    ·rw [if_pos e2] at hq;cases hq
     exact ⟨_, .inr ⟨rfl,e2,h1⟩, .inl rfl⟩
    ·rw [if_neg e2] at hq
     exact ⟨_, .inl hq, .inl rfl⟩
  ·rw [hth] at hq ⊢
   right
   rcases hq with rfl|hq
   ·exact hu
   ·exact h.closed q hq hne
  ·rcases (hth q).1 hq with e|e
   ·exact .inr ⟨e,h1⟩
   ·exact .inl e
  ·rw [if_pos h1]
   unfold AI A5
   rw [if_pos h1]
   split
   ·show (amod (sset _ _ _) _ _).length≤_
    rw [E7]
    exact (Lv τ.nodes y.path (EZ y zx)).1
   ·show τ.nodes.length≤_
    omega
 ·rename_i h1
  split at hs
  ·rename_i h2
   obtain ⟨hr,ht,hk⟩:=of_decide_eq_true hs
   have ha:=h.able ht hr
   have hth:∀r,AL (AI τ y zx).1 r↔AL τ r∧B6 r y.path=false:=by
    intro r
    unfold AL
    rw [Dz h2 ha]
    cases e:B6 r y.path<;>split<;>simp
   refine ⟨fun q n hq=>?_,?_,fun q hq hne=>?_,fun q hq=> .inl ((hth q).1 hq).1,?_⟩
   ·rw [Dz h2 ha] at hq
    by_cases e1:q=AK y.path
    ·rw [if_pos e1] at hq
     obtain ⟨n0,g,rfl⟩:=map_some hq
     split at g
     ·cases g
     ·exact ⟨_, .inl g, .inr (.inl rfl)⟩
    ·rw [if_neg e1] at hq
     split at hq
     ·cases hq
     ·exact ⟨_, .inl hq, .inl rfl⟩
   ·rw [hth]
    refine ⟨h.rootT,?_⟩
    cases e:B6 [47] y.path with
    |false=>rfl
    |true=>
     obtain ⟨r,e2⟩:=Nr e
     have:=congrArg List.length e2
     simp at this
     cases hy:y.path with
     |nil=>exact absurd (h.able ht hr) (by rw [hy];decide)
     |cons c r2=>
      rw [hy] at e2
      simp at e2
      exact absurd (by rw [hy,←e2.1,e2.2.1]) hr
   ·rw [hth] at hq ⊢
    refine ⟨h.closed q hq.1 hne,?_⟩
    cases e:B6 (AK q) y.path with
    |false=>rfl
    |true=>rw [N4 (h.able hq.1 hne) hr e] at hq;exact absurd hq.2 dQ
   ·unfold AI BS
    rw [if_neg h1,if_pos h2,if_pos ha,if_neg h1]
    show (amod (IR τ y.path).nodes _ _).length≤_
    rw [E7]
    exact ZA τ y.path
  ·rename_i h2
   split at hs
   ·rename_i h3
    have ht:=of_decide_eq_true hs
    have hth:∀r,AL (AI τ y zx).1 r↔AL τ r:=by
     intro r
     unfold AL
     rcases h3 with h3|h4
     ·rw [IS h3 ht];split<;>simp
     ·rw [IM h4 ht];split<;>simp
    refine ⟨fun q n hq=>?_,(hth _).2 h.rootT,fun q hq hne=>(hth _).2 (h.closed q ((hth q).1 hq) hne),fun q hq=> .inl ((hth q).1 hq),?_⟩
    ·rcases h3 with h3|h4
     ·rw [IS h3 ht] at hq
      split at hq
      ·obtain ⟨n0,g,rfl⟩:=map_some hq
       exact ⟨_, .inl g, .inr (.inr (.inl rfl))⟩
      ·exact ⟨_, .inl hq, .inl rfl⟩
     ·rw [IM h4 ht] at hq
      split at hq
      ·obtain ⟨n0,g,rfl⟩:=map_some hq
       exact ⟨_, .inl g, .inr (.inr (.inr rfl))⟩
      ·exact ⟨_, .inl hq, .inl rfl⟩
    ·unfold AI
     rw [if_neg h1,if_neg h2,if_neg h1]
     split
     ·show (amod _ _ _).length≤_
      rw [E7];omega
     ·split
      ·show (amod _ _ _).length≤_
       rw [E7];omega
      ·show τ.nodes.length≤_
       omega
   ·cases hs
theorem WI.part {τ:Tr} (h:WI τ) {y:Pt} (zx:Int) (hp:TQ τ y):WI (AI τ y zx).1:=by
 rcases hp.finds with h0|hs
 ·rw [Fj h0];exact h
 have hL:=h.left (zx:=zx) hs
 have hok:=h.ok.part y zx hp.acl
 have hses:=GW τ y zx
 have hne:y.kind=1→y.path≠[47]:=fun h1=>by
  unfold B5 at hs
  rw [if_pos h1] at hs
  exact (of_decide_eq_true hs).1.1
 have hown:∀q n,AC (AI τ y zx).1.nodes q=some n→(∃n0,AC τ.nodes q=some n0∧n0.st.own=n.st.own∧(n.data=n0.data∨n.data=y.data))∨(q=y.path∧y.kind=1∧n.st.own=y.own∧n.data=y.data):=fun q n hq=>by
  obtain ⟨n0,g,e⟩:=hL.nodes q n hq
  have e2:n.st.own=n0.st.own∧(n.data=n0.data∨n.data=y.data):=by rcases e with rfl|rfl|rfl|rfl<;>first|exact ⟨rfl, .inl rfl⟩|exact ⟨rfl, .inr rfl⟩
  rcases g with g|⟨rfl,g,g'⟩
  ·exact .inl ⟨n0,g,e2.1.symm,e2.2⟩
  ·exact .inr ⟨g,g',e2.1,e2.2.elim id id⟩
 refine ⟨⟨hok.sorted,hok.ssorted,?_,hok.able,hok.ids,hok.acls,by rw [hses];exact h.ok.sfew⟩,?_,hL.closed,fun q n hq=>?_,fun q n hq hn c hc hcr hpc=>?_,fun s=>?_,by rw [hses];exact h.ids⟩
 ·have h1:=hL.len
  have h2:=h.ok.few
  split at h1
  ·rename_i h3
   have:=(hp.room h3).1
   omega
  ·omega
 ·obtain ⟨n,hn⟩:=BY.1 hL.root
  refine ⟨n,hn,?_⟩
  obtain ⟨r,hr,hr0⟩:=h.root
  rcases hown _ _ hn with ⟨n0,g,e,-⟩|⟨g,g',-⟩
  ·rw [hr] at g;cases g;exact e.symm.trans hr0
  ·exact absurd g.symm (hne g')
 ·rcases hown q n hq with ⟨n0,g,-,e|e⟩|⟨-,-,-,e⟩
  ·rw [e];exact h.data q n0 g
  ·rw [e];exact hp.data
  ·rw [e];exact hp.data
 ·
  rcases hown q n hq with ⟨n0,g,e,-⟩|⟨g,g',-,-⟩
  ·rcases hL.there c hc with hc0|⟨rfl,h1⟩
   ·exact h.bare q n0 g (by rw [e];exact hn) c hc0 hcr hpc
   ·have:=(hp.room h1).2.2 n0 (by rw [hpc];exact g)
    exact hn (e.symm.trans this)
  ·
   subst g
   unfold B5 at hs
   rw [if_pos g'] at hs
   obtain ⟨ha,hnt,hu⟩:=of_decide_eq_true hs
   rcases hL.there c hc with hc0|⟨rfl,-⟩
   ·exact hnt (hpc▸h.closed c hc0 hcr)
   ·rw [hpc] at hu;exact hnt hu
 ·have h1:=ADH τ y zx s
  have h2:=h.few s
  split at h1
  ·rename_i g
   obtain ⟨g1,g2,rfl⟩:=g
   have:=(hp.room g1).2.1 g2
   omega
  ·omega
theorem Di {b:Prop} [Decidable b] {e:Int} (h:Ay b e=0) (he:e≠0):¬b:=fun g=>by
 have h2:(if b then e else 0)=0:=h
 rw [if_pos g] at h2
 exact he h2
theorem QU:∀{s:Bs},(58:UInt8)∈s→s.length=(HS s).length+1+(GG s).length
 |[],h=>by cases h
 |c::s,h=>by
  unfold HS GG
  by_cases e:c=58
  ·rw [if_pos e,if_pos e];simp only [length_cons,length_nil];omega
  ·rw [if_neg e,if_neg e]
   have:=QU (s:=s) ((mem_cons.1 h).resolve_left (fun g=>e g.symm))
   simp only [length_cons];omega
theorem AHx {s:Bs} (h:RL s=true):s.length≤29:=by
 unfold RL at h
 rw [Bool.or_eq_true] at h
 rcases h with h|h
 ·rw [of_decide_eq_true h];decide
 ·simp only [Bool.and_eq_true,decide_eq_true_eq] at h
  obtain ⟨⟨⟨h1,h2⟩,h3⟩,-⟩:=h
  have h4:=QU h1
  unfold QO at h2
  simp only [Bool.and_eq_true,decide_eq_true_eq] at h2
  have h5:=h2.1.2
  omega
theorem Qi {l:List Ac} (h:GE l=true):l.length≤4∧∀a∈l,(1≤a.1∧a.1≤31)∧a.2.length≤29:=by
 unfold GE at h
 simp only [Bool.and_eq_true,decide_eq_true_eq,Bool.not_eq_true'] at h
 obtain ⟨⟨-,h1⟩,h2⟩:=h
 refine ⟨h1,fun a ha=>?_⟩
 have h3:=any_eq_false.1 h2 a ha
 unfold L6 at h3
 simp only [Bool.or_eq_true,decide_eq_true_eq,Bool.not_eq_true',not_or,Bool.not_eq_false] at h3
 exact ⟨by omega,AHx h3.2⟩
theorem EQ {n:Int} (h:Aw n):(Bl n).length≤10:=JQ h
theorem FZ {s:Bs} (h:s.length<128):(Bx s).length=s.length+1:=by
 unfold Bx BW
 rw [length_append,DU,if_pos h];simp;omega
theorem ADf {a:Ac} (h:(1≤a.1∧a.1≤31)∧a.2.length≤29):(Hw a).length≤40:=by
 unfold Hw
 have h1:=EQ (n:=a.1) ⟨by omega,by omega⟩
 rw [length_append,FZ om];omega
theorem QJ {l:List Ac} (h:l.length≤4) (h2:∀a∈l,(1≤a.1∧a.1≤31)∧a.2.length≤29):(EA l).length≤161:=by
 unfold EA BW
 have h3:=FF (f:=Hw) (c:=40) (l:=l) (fun a ha=>ADf (h2 a ha))
 rw [length_append,DU,if_pos om]
 simp only [length_singleton]
 have:l.length*40≤160:=by omega
 omega
structure PartB (y:Pt):Prop where
 kind:Aw y.kind
 own:Aw y.own
 num:Aw y.num
 err:Aw y.err
 path:y.path.length≤60
 data:y.data.length≤100
 acl:y.acl.length≤4∧∀a∈y.acl,(1≤a.1∧a.1≤31)∧a.2.length≤29
theorem PartB.len {y:Pt} (h:PartB y):(HT y).length≤42+y.path.length+y.data.length+(EA y.acl).length:=by
 have h1:=EQ h.kind
 have h2:=EQ h.own
 have h3:=EQ h.num
 have h4:=EQ h.err
 have h5:=FZ (s:=y.path) (by have:=h.path;omega)
 have h6:=FZ (s:=y.data) (by have:=h.data;omega)
 unfold HT
 simp only [flatMap_cons,flatMap_nil,length_append,length_nil]
 omega
theorem PartB.some {y:Pt} (h:PartB y):(HT y).length≤363:=by
 have:=h.len
 have:=h.path
 have:=h.data
 have:=QJ h.acl.1 h.acl.2
 omega
theorem Nk {p:Bs} (h:BQ p=0):p.length≤60:=by
 by_cases e:p=[47]
 ·rw [e];decide
 ·exact F0 (.inr ⟨e,h⟩)
theorem AEL {τ:Tr} (h:WI τ):¬AL τ []:=fun g=>by
 have:=h.able g dQ
 exact absurd this dQ
theorem Tv {τ:Tr} {p:Bs} {n:Nd} (h:AC τ.nodes p=some n):(A7 τ p).own=n.st.own∧(A7 τ p).kids=((Dv τ p).length:Int):=by
 unfold A7 NP
 rw [h];exact ⟨rfl,rfl⟩
theorem JM (n:Int):Aw (DB n):=wrap_i64 n
theorem Y9 {τ:Tr} (h:WI τ) {u:C9} (hu:1≤u.ses∧u.ses≤5) {r:Rq} (h0:(AY τ u r).2=0):TQ τ (AY τ u r).1∧PartB (AY τ u r).1:=by
 have I0:=Aw.zero
 have noop:TQ τ F3∧PartB F3:=⟨⟨⟨Int.le_refl _,by decide⟩, .inl rfl,Nat.zero_le _,Nat.zero_le _,fun g=>absurd g dQ⟩,⟨I0,I0,I0,I0,Nat.zero_le _,Nat.zero_le _,Nat.zero_le _,fun a ha=>by cases ha⟩⟩
 unfold AY at h0 ⊢
 by_cases k1:r.kind=1
 ·rw [if_pos k1] at h0 ⊢
  have all:=Gj _ h0
  dsimp only at all ⊢
  simp only [D8,mem_cons,forall_eq_or_imp,not_mem_nil,false_implies,implies_true,and_true] at all
  obtain ⟨a1,a2,a3,a4,a5,a6,a7,a8,a9,a10⟩:=all
  have b2:=Di a2 dQ
  have b3:=Qi (Decidable.not_not.1 (Di a3 dQ))
  have b4:=Decidable.not_not.1 (Di a4 dQ)
  have b5:=Di a5 dQ
  have b7:=Decidable.not_not.1 (Di a7 dQ)
  have b8:=Di a8 dQ
  have b9:=Di a9 dQ
  have b10:=Di a10 dQ
  have hne:CE τ r≠[47]:=fun e=>b8 (by rw [e];exact h.rootT)
  have hpr:r.path≠[47]:=fun e=>by
   rw [e] at b4
   exact AEL h b4
  have hpar:AK (CE τ r)=AK r.path:=by
   unfold CE
   split
   ·exact WJ hpr _
   ·rfl
  have hown:Aw (Aq τ u r).own:=by
   show Aw (if andI r.flags 1≠0 then u.ses else 0)
   split
   ·exact ⟨by omega,by omega⟩
   ·exact I0
  refine ⟨⟨⟨by show (0:Int)≤1;decide,by show (1:Int)≤4;decide⟩, .inr ?_,by show r.data.length≤100;omega,by show r.acl.length≤_;omega,fun _=>⟨?_,fun ho=>?_,fun n hn=>?_⟩⟩,⟨⟨by show (-9223372036854775808:Int)≤1;decide,by show (1:Int)≤9223372036854775807;decide⟩,hown,JM _,I0,Nk b7,by show r.data.length≤100;omega,b3⟩⟩
  ·unfold B5
   rw [if_pos (show (Aq τ u r).kind=1 from rfl)]
   exact decide_eq_true ⟨⟨hne,b7⟩,b8,by show AL τ (AK (CE τ r));rw [hpar];exact b4⟩
  ·have:(AX τ).length=τ.nodes.length:=by unfold AX;rw [length_map]
   omega
  ·have ho:(if andI r.flags 1≠0 then u.ses else 0)≠0:=ho
   by_cases hf:andI r.flags 1≠0
   ·show (AG τ (if andI r.flags 1≠0 then u.ses else 0)).length<32
    rw [if_pos hf]
    exact Nat.lt_of_not_le fun g=>b10 ⟨hf,g⟩
   ·rw [if_neg hf] at ho;exact absurd rfl ho
  ·have hn:AC τ.nodes (AK (CE τ r))=some n:=hn
   rw [hpar] at hn
   have:=(Tv hn).1
   unfold Kv at b5
   omega
 rw [if_neg k1] at h0 ⊢
 by_cases k2:r.kind=2
 ·rw [if_pos k2] at h0 ⊢
  have all:=Gj _ h0
  dsimp only at all ⊢
  simp only [HM,mem_cons,forall_eq_or_imp,not_mem_nil,false_implies,implies_true,and_true] at all
  obtain ⟨a1,a2,a3,a4,a5,a6⟩:=all
  have b2:=Di a2 dQ
  have b3:=Decidable.not_not.1 (Di a3 dQ)
  have b6:=Di a6 dQ
  refine ⟨⟨⟨by show (0:Int)≤2;decide,by show (2:Int)≤4;decide⟩, .inr ?_,Nat.zero_le _,Nat.zero_le _,fun g=>absurd g (by show ¬(2:Int)=1;decide)⟩,⟨⟨by show (-9223372036854775808:Int)≤2;decide,by show (2:Int)≤9223372036854775807;decide⟩,I0,JM _,I0,Nk a1,Nat.zero_le _,Nat.zero_le _,fun a ha=>by cases ha⟩⟩
  obtain ⟨n,hn⟩:=BY.1 b3
  have:=(Tv hn).2
  unfold B5
  rw [if_neg (by show ¬(2:Int)=1;decide),if_pos (show (Ed τ r).kind=2 from rfl)]
  exact decide_eq_true ⟨b2,b3,by show (Dv τ r.path).length=0;omega⟩
 rw [if_neg k2] at h0 ⊢
 by_cases k3:r.kind=3∨r.kind=4∨r.kind=5
 ·rw [if_pos k3] at h0 ⊢
  have all:=Gj _ h0
  dsimp only at all ⊢
  simp only [Lw,mem_cons,forall_eq_or_imp,not_mem_nil,false_implies,implies_true,and_true] at all
  obtain ⟨a1,a2,a3,a4,a5⟩:=all
  have b3:=Decidable.not_not.1 (Di a3 dQ)
  unfold GM
  split
  ·rename_i e
   have b2:¬r.data.length>100:=by
    unfold Ew at a2
    rw [if_pos e] at a2
    exact Di a2 dQ
   refine ⟨⟨⟨by show (0:Int)≤3;decide,by show (3:Int)≤4;decide⟩, .inr ?_,by show r.data.length≤100;omega,Nat.zero_le _,fun g=>absurd g (by show ¬(3:Int)=1;decide)⟩,⟨⟨by show (-9223372036854775808:Int)≤3;decide,by show (3:Int)≤9223372036854775807;decide⟩,I0,JM _,I0,Nk a1,by show r.data.length≤100;omega,Nat.zero_le _,fun a ha=>by cases ha⟩⟩
   unfold B5
   rw [if_neg (by show ¬(3:Int)=1;decide),if_neg (by show ¬(3:Int)=2;decide),if_pos (.inl rfl)]
   exact decide_eq_true b3
  ·split
   ·rename_i e' e
    have b2:GE r.acl=true:=by
     unfold Ew at a2
     rw [if_neg e',if_pos e] at a2
     exact Decidable.not_not.1 (Di a2 dQ)
    have b3':=Qi b2
    refine ⟨⟨⟨by show (0:Int)≤4;decide,by show (4:Int)≤4;decide⟩, .inr ?_,Nat.zero_le _,by show r.acl.length≤_;omega,fun g=>absurd g (by show ¬(4:Int)=1;decide)⟩,⟨⟨by show (-9223372036854775808:Int)≤4;decide,by show (4:Int)≤9223372036854775807;decide⟩,I0,JM _,I0,Nk a1,Nat.zero_le _,b3'⟩⟩
    unfold B5
    rw [if_neg (by show ¬(4:Int)=1;decide),if_neg (by show ¬(4:Int)=2;decide),if_pos (.inr rfl)]
    exact decide_eq_true b3
   ·exact noop
 ·rw [if_neg k3] at h0
  exact absurd h0 (by show ¬(110:Int)=0;decide)
/-! ### A multi -/
def GJ (y:Pt):Bool:= !decide (y.kind=0)
theorem Mz (zx:Int) (cl:Bool):∀(l:List Pt) (τ:Tr),Cc τ zx cl (l.filter GJ)=true↔ ∀i (hi:i<l.length),l[i].kind≠0→B5 (AP τ zx (l.take i)).1 l[i]=true∧(cl=true→l[i].kind=2)
 |[],τ=>⟨(fun _ i hi=>by simp at hi),fun _=>rfl⟩
 |x::l,τ=>by
  have ih:=Mz zx cl l (AI τ x zx).1
  have e:∀i,(AP τ zx ((x::l).take (i+1))).1=(AP (AI τ x zx).1 zx (l.take i)).1:=fun i=>by
   rw [take_succ_cons]
   unfold AP
   rw [foldl_cons]
   have H:∀(l:List Pt) (r r':Tr×List Ev),r.1=r'.1→(l.foldl (fun r x=>((AI r.1 x zx).1,r.2++(AI r.1 x zx).2)) r).1=(l.foldl (fun r x=>((AI r.1 x zx).1,r.2++(AI r.1 x zx).2)) r').1:=by
    intro l
    induction l with
    |nil=>intro r r' h;exact h
    |cons y l ih=>intro r r' h;rw [foldl_cons,foldl_cons];exact ih _ _ (by dsimp only;rw [h])
   exact H _ _ _ rfl
  constructor
  ·intro h i hi hk
   rw [filter_cons] at h
   cases i with
   |zero=>
    have hx:GJ x=true:=by simpa [GJ] using hk
    rw [if_pos hx,Cc,Bool.and_eq_true,Bool.and_eq_true] at h
    refine ⟨h.1.1,fun hc=>?_⟩
    have:=h.1.2
    rw [hc] at this
    simpa using this
   |succ i=>
    have h2:Cc (AI τ x zx).1 zx cl (l.filter GJ)=true:=by
     split at h
     ·rw [Cc,Bool.and_eq_true] at h;exact h.2
     ·rename_i g
      have h0:x.kind=0:=by simpa [GJ] using g
      rw [Fj h0];exact h
    rw [e i]
    exact ih.1 h2 i (by simpa using hi) hk
  ·intro h
   have h2:=ih.2 fun i hi hk=>by
    have:=h (i+1) (by simpa using hi) hk
    rw [e i] at this
    exact this
   rw [filter_cons]
   split
   ·rename_i g
    have h3:=h 0 (by simp) (by simpa [GJ] using g)
    rw [Cc,h2,Bool.and_true,Bool.and_eq_true]
    refine ⟨h3.1,?_⟩
    cases cl with
    |false=>rfl
    |true=>simpa using h3.2 rfl
   ·rename_i g
    have h0:x.kind=0:=by simpa [GJ] using g
    rw [Fj h0] at h2;exact h2
theorem RF (zx:Int):∀(l:List Pt) (r r':Tr×List Ev),r.1=r'.1→(l.foldl (fun r x=>((AI r.1 x zx).1,r.2++(AI r.1 x zx).2)) r).1=(l.foldl (fun r x=>((AI r.1 x zx).1,r.2++(AI r.1 x zx).2)) r').1
 |[],_,_,h=>h
 |y::l,r,r',h=>by rw [foldl_cons,foldl_cons];exact RF zx l _ _ (by dsimp only;rw [h])
theorem UE (τ:Tr) (zx:Int) (x:Pt) (l:List Pt):(AP τ zx (x::l)).1=(AP (AI τ x zx).1 zx l).1:=by
 unfold AP
 rw [foldl_cons]
 exact RF zx l _ _ rfl
theorem Kb {u:C9} (hu:1≤u.ses∧u.ses≤5) (zx:Int):∀{l:List Rq} {σ υ:Tr},zT σ=zT υ→WI υ→(B3 u l σ).2.2=none→Cc υ zx false ((B3 u l σ).2.1.filter GJ)=true∧WI (AP υ zx (B3 u l σ).2.1).1∧∀x∈(B3 u l σ).2.1,PartB x
 |[],σ,υ,_,hW,_=>⟨rfl,hW,fun _ h=>by cases h⟩
 |r::l,σ,υ,hz,hW,hn=>by
  rw [Eg] at hn ⊢
  have e:AY σ u r=AY υ u r:=by rw [←ZD σ,hz,ZD]
  split at hn
  ·cases hn
  ·rename_i g
   rw [if_neg g]
   dsimp only at hn ⊢
   have h0:(AY υ u r).2=0:=by rw [←e];exact Decidable.not_not.1 g
   obtain ⟨hP,hB⟩:=Y9 hW hu h0
   have hn2:=Option.map_eq_none_iff.1 hn
   have hz2:zT (AM σ σ.zx (AY σ u r).1 []).1=zT (AI υ (AY σ u r).1 zx).1:=by
    rw [Ow (Xk σ u r)]
    exact AEP (by rw [AJP];exact hz) _ _ _
   have hW2:WI (AI υ (AY σ u r).1 zx).1:=by rw [e];exact hW.part zx hP
   obtain ⟨i1,i2,i3⟩:=Kb hu zx (l:=l) hz2 hW2 hn2
   refine ⟨?_,by rw [UE];exact i2,fun x hx=>?_⟩
   ·rw [filter_cons]
    split
    ·rename_i hr
     have hk:(AY σ u r).1.kind≠0:=by simpa [GJ] using hr
     have hf:B5 υ (AY σ u r).1=true:=by rw [e] at hk ⊢;exact hP.finds.resolve_left hk
     rw [Cc,hf,i1];rfl
    ·rename_i hr
     have hk:(AY σ u r).1.kind=0:=by simpa [GJ] using hr
     rw [Fj hk] at i1;exact i1
   ·rcases mem_cons.1 hx with rfl|hx
    ·rw [e];exact hB
    ·exact i3 x hx
/-! ### A session's end -/
theorem Ls:∀(l:List Bs) (τ:Tr),(A8 l τ).map (·.path)=l
 |[],_=>rfl
 |p::l,τ=>by
  show (Cu τ p).path::(A8 l _).map (·.path)=p::l
  rw [Ls l];rfl
theorem PQ:∀{l:List Bs} {τ:Tr},(∀p∈l,p.length≤60)→∀y∈A8 l τ,PartB y∧y.data=[]∧y.acl=[]
 |[],_,_,_,h=>by cases h
 |p::l,τ,h,y,hy=>by
  rcases mem_cons.1 (show y∈Cu τ p::A8 l _ from hy) with rfl|hy
  ·exact ⟨⟨⟨by show (-9223372036854775808:Int)≤2;decide,by show (2:Int)≤9223372036854775807;decide⟩,Aw.zero,JM _,Aw.zero,h p mem_cons_self,Nat.zero_le _,Nat.zero_le _,fun a ha=>by cases ha⟩,rfl,rfl⟩
  ·exact PQ (fun x hx=>h x (mem_cons_of_mem _ hx)) y hy
structure Ke (τ:Tr) (s:Int) (l:List Pt):Prop where
 paths:l.map (·.path)=(AG τ s).reverse
 kinds:∀y∈l,y.kind=2
 acl:∀y∈l,y.acl=[]∧y.data=[]
theorem WI.owned {τ:Tr} (h:WI τ) {s:Int} {q:Bs} (hq:q∈AG τ s):Bm q∧AL τ q∧q≠[47]∧(s≠0∧∃n,AC τ.nodes q=some n∧n.st.own=s):=by
 have h1:=(Jq (h.ok.sorted.nodup CS)).1 hq
 obtain ⟨h0,n,h2,h3⟩:=h1
 have ht:AL τ q:=BY.2 ⟨n,h2⟩
 have hne:q≠[47]:=fun e=>by
  subst e
  obtain ⟨r,g1,g2⟩:=h.root
  rw [h2] at g1;cases g1
  exact h0 (h3.symm.trans g2)
 exact ⟨h.able ht hne,ht,hne,h0,n,h2,h3⟩
theorem Ke.at {τ:Tr} {s:Int} {l:List Pt} (h:Ke τ s l) {i:Nat} (hi:i<l.length):l[i].path∈AG τ s:=by
 have:l[i].path∈l.map (·.path):=mem_map_of_mem (getElem_mem hi)
 rw [h.paths] at this
 simpa using this
theorem Ke.lt {τ:Tr} {s:Int} {l:List Pt} (h:Ke τ s l) {N:Nat} (ho:τ.Ok N) {i j:Nat} (hi:i<l.length) (hj:j<i):l[i].path<l[j].path:=by
 have hs:=SQ ho s
 have hp:(l.map (·.path)).Pairwise (fun a b=>b<a):=by rw [h.paths];exact pairwise_reverse.2 hs
 have:=pairwise_iff_getElem.1 hp j i (by rw [length_map];omega) (by rw [length_map];exact hi) hj
 simpa using this
theorem Ke.able {τ:Tr} (hW:WI τ) {s:Int} {l:List Pt} (h:Ke τ s l):∀y∈l,y.kind=2∧Bm y.path:=fun y hy=>by
 obtain ⟨i,hi,rfl⟩:=mem_iff_getElem.1 hy
 exact ⟨h.kinds _ hy,(hW.owned (h.at hi)).1⟩
theorem Ke.finds {τ:Tr} (hW:WI τ) {s:Int} {l:List Pt} (h:Ke τ s l) (zx:Int) {i:Nat} (hi:i<l.length):B5 (AP τ zx (l.take i)).1 l[i]=true:=by
 obtain ⟨ha,ht,hne,h0,n,hn,ho⟩:=hW.owned (h.at hi)
 have hk:=h.kinds _ (getElem_mem hi)
 have hab:∀y∈l.take i,y.kind=2∧Bm y.path:=fun y hy=>h.able hW y (mem_of_mem_take hy)
 have hth:AL (AP τ zx (l.take i)).1 l[i].path:=by
  rw [Ou _ hab]
  refine ⟨ht,fun y hy=>?_⟩
  obtain ⟨j,hj,rfl⟩:=mem_iff_getElem.1 hy
  have hj2:j<i:=by rw [length_take] at hj;omega
  rw [getElem_take]
  cases e:B6 l[i].path l[j].path with
  |false=>rfl
  |true=>exact absurd (h.lt hW.ok hi hj2) (AEO e)
 have hkid:(Dv (AP τ zx (l.take i)).1 l[i].path).length=0:=by
  have:Dv (AP τ zx (l.take i)).1 l[i].path=[]:=by
   unfold Dv
   rw [map_eq_nil_iff,filter_eq_nil_iff]
   rintro ⟨c,m⟩ hm
   simp only [Bool.and_eq_true,Bool.not_eq_true',decide_eq_false_iff_not,decide_eq_true_eq,not_and]
   intro hc hp
   have hct:AL (AP τ zx (l.take i)).1 c:=(Cw).2 (mem_map_of_mem (f:=(·.1)) hm)
   have hct2:=((Ou _ hab).1 hct).1
   exact hW.bare _ n hn (by rw [ho];exact h0) c hct2 hc hp
  rw [this];rfl
 unfold B5
 rw [if_neg om,if_pos hk]
 exact decide_eq_true ⟨hne,hth,hkid⟩
theorem Ke.wi {τ:Tr} (hW:WI τ) {s:Int} {l:List Pt} (h:Ke τ s l) (zx:Int):∀i,i≤l.length→WI (AP τ zx (l.take i)).1:=by
 intro i
 induction i with
 |zero=>intro _;exact hW
 |succ i ih=>
  intro hi
  have hk:=h.kinds _ (getElem_mem (show i<l.length by omega))
  have ha:=h.acl _ (getElem_mem (show i<l.length by omega))
  rw [Ns om]
  exact (ih om).part zx ⟨by omega, .inr (h.finds hW zx om),by rw [ha.2];exact Nat.zero_le _,by rw [ha.1];exact Nat.zero_le _,fun g=>by omega⟩
theorem Ke.sound {τ:Tr} (hW:WI τ) {s:Int} {l:List Pt} (h:Ke τ s l) (zx:Int):Cc τ zx true (l.filter GJ)=true:=
 (Mz zx true l τ).2 fun i hi _=>⟨h.finds hW zx hi,fun _=>h.kinds _ (getElem_mem hi)⟩
theorem Ke.none {τ:Tr} (hW:WI τ) {s:Int} (h0:s≠0) {l:List Pt} (h:Ke τ s l) (zx:Int):∀q n,AC (AP τ zx l).1.nodes q=some n→n.st.own≠s:=by
 intro q n hq e
 have ha:∀j (hj:j<l.length),j<l.length→Bm l[j].path:=fun j hj _=>(h.able hW _ (getElem_mem hj)).2
 have hq':AC (AP τ zx (l.take l.length)).1.nodes q=some n:=by rw [take_length];exact hq
 obtain ⟨⟨n0,g1,g2⟩,g3⟩:=QP h.kinds l.length (Nat.le_refl _) ha q n hq'
 have hm:q∈AG τ s:=(Jq (hW.ok.sorted.nodup CS)).2 ⟨h0,n0,g1,g2.trans e⟩
 have hm2:q∈l.map (·.path):=by rw [h.paths];simpa using hm
 obtain ⟨y,hy,rfl⟩:=mem_map.1 hm2
 obtain ⟨j,hj,rfl⟩:=mem_iff_getElem.1 hy
 have:=g3 j hj hj
 rw [HY] at this;cases this
theorem WI.drop {τ:Tr} (h:WI τ) (id:Int):WI (dropS τ id):=by
 refine ⟨h.ok.dropS id,h.root,h.closed,h.data,h.bare,h.few,fun i s hi=>?_⟩
 have hm:=De hi
 have hm2:=(mem_filter.1 hm).1
 exact h.ids i s (Bu (h.ok.ssorted.nodup XL) hm2)
theorem WI.opens {τ:Tr} (h:WI τ) {id:Int} (hi:1≤id∧id≤5) (n:Int) (s:Bs):WI (openS τ id n s):=by
 have ho:=h.ok.openS (show 0<id by omega) n s
 have hids:∀i t,AC (openS τ id n s).sess i=some t→1≤i∧i≤5:=fun i t ht=>by
  have ht:AC (sset τ.sess id (n,s)) i=some t:=ht
  rw [J5] at ht
  split at ht
  ·rename_i e;subst e;exact hi
  ·exact h.ids i t ht
 have hf:=EB.sfew ho.ssorted hids
 exact ⟨⟨ho.sorted,ho.ssorted,h.ok.few,ho.able,ho.ids,ho.acls,by omega⟩,h.root,h.closed,h.data,h.bare,h.few,hids⟩
/-! ### An entry -/
theorem SB {τ:Tr} {N:Nat} (ho:τ.Ok N) {s:Int} (h:∀q n,AC τ.nodes q=some n→n.st.own≠s):AG τ s=[]:=by
 rw [eq_nil_iff_forall_not_mem]
 intro q hq
 obtain ⟨-,n,h1,h2⟩:=(Jq (ho.sorted.nodup CS)).1 hq
 exact h q n h1 h2
theorem PR {u:C9}:∀{l:List Rq} {τ:Tr},(B3 u l τ).2.1.length≤l.length
 |[],_=>Nat.le_refl _
 |r::l,τ=>by
  rw [Eg]
  split
  ·exact Nat.zero_le _
  ·exact Nat.succ_le_succ (PR (l:=l))
theorem Iv {z s i:Int} (hz:Aw z) (hs:Aw s) (hi:Aw i) {x:Pt} {l:List Pt} {c d:Nat} (hx:(HT x).length≤c) (hl:∀y∈l,(HT y).length≤d) (hn:l.length<128):(Cb ⟨z,s,i,x,l⟩).length≤31+c+l.length*d:=by
 have h1:=EQ hz
 have h2:=EQ hs
 have h3:=EQ hi
 have h4:=FF (f:=HT) (c:=d) (l:=l) hl
 rw [R1]
 unfold If BW
 rw [length_append,DU,if_pos hn]
 simp only [flatMap_cons,flatMap_nil,length_append,length_nil,length_singleton]
 omega
theorem R6 {k o n e:Int} (hk:Aw k) (ho:Aw o) (hn:Aw n) (he:Aw e):(HT ⟨k,[],[],AR,[],o,n,e,AR⟩).length≤43:=by
 have hB:PartB ⟨k,[],[],AR,[],o,n,e,AR⟩:=⟨hk,ho,hn,he,Nat.zero_le _,Nat.zero_le _,Nat.zero_le _,fun a ha=>by cases ha⟩
 have h1:=hB.len
 have h2:(EA ([]:List Ac)).length≤1:=by simp [EA,BW,DU]
 have h1:(HT ⟨k,[],[],AR,[],o,n,e,AR⟩).length≤42+0+0+(EA ([]:List Ac)).length:=h1
 omega
structure Rl (τ:Tr) (z s i:Int) (x:Pt) (l:List Pt):Prop where
 sound:FJ τ z x (l.filter GJ)=true
 wi:WI (AM τ z x l).1
 len:(Cb ⟨z,s,i,x,l⟩).length≤4000
 same:x.kind=8∨x.kind=0→(AM τ z x l).1=zxT τ z
 shut:x.kind=6→AG (AM τ z x l).1 s=[]
theorem ZK {τ:Tr} (h:WI τ) {z s i:Int} (hz:Aw z) (hs:Aw s) (hi:Aw i) {e n:Int} (he:Aw e) (hn:Aw n):Rl τ z s i (Az e n) []:=by
 have hb:=R6 (k:=8) ⟨by decide,by decide⟩ Aw.zero hn he
 have ha:(AM τ z (Az e n) []).1=zxT τ z:=by
  unfold AM
  dsimp only
  rw [if_neg (by show ¬(8:Int)=5;decide),if_neg (by show ¬(8:Int)=6;decide),if_neg (by show ¬(8:Int)=7;decide),if_pos (by rfl)]
 refine ⟨?_,by rw [ha];exact h.zx z,?_,fun _=>ha,fun g=>absurd g (by show ¬(8:Int)=6;decide)⟩
 ·unfold FJ
  rw [if_neg (by show ¬((8:Int)=1∨(8:Int)=2∨(8:Int)=3∨(8:Int)=4);decide),if_neg (by show ¬((8:Int)=6∨(8:Int)=7);decide)]
 ·have:=Iv (x:=Az e n) (l:=[]) (d:=0) hz hs hi hb (fun _ g=>by cases g) dQ
  simp only [length_nil] at this
  omega
theorem ABx {τ:Tr} (h:WI τ) {z s i:Int} (hz:Aw z) (hs:Aw s) (hi:Aw i) {x:Pt} (hW:TQ τ x) (hB:PartB x):Rl τ z s i x []:=by
 have hk:=hW.kind
 have hp:MY x:=by unfold MY;omega
 have ha:(AM τ z x []).1=zxT (AI τ x z).1 z:=by rw [Ow hp,TS]
 refine ⟨?_,by rw [ha];exact (h.part z hW).zx z,?_,fun g=>?_,fun g=>by omega⟩
 ·unfold FJ
  split
  ·rename_i g
   exact hW.finds.resolve_left om
  ·rw [if_neg om]
 ·have:=Iv (x:=x) (l:=[]) (d:=0) hz hs hi hB.some (fun _ g=>by cases g) dQ
  simp only [length_nil] at this
  omega
 ·rw [ha,Fj om]
theorem AGD {τ:Tr} (h:WI τ) {u:C9} (hu:1≤u.ses∧u.ses≤5) {z s i:Int} (hz:Aw z) (hs:Aw s) (hi:Aw i) (l:List Rq):Rl τ z s i (BL τ u l).1 (BL τ u l).2:=by
 have hm:Aw (-1):=⟨by decide,by decide⟩
 unfold BL
 split
 ·exact ZK h hz hs hi ⟨by decide,by decide⟩ hm
 ·rename_i hl
  split
  ·rename_i j e he
   have:=E5 he
   exact ZK h hz hs hi ⟨by omega,by omega⟩ ⟨by omega,by omega⟩
  ·rename_i hn
   obtain ⟨h1,h2,h3⟩:=Kb hu z (l:=l) (σ:=τ) (υ:=τ) rfl h hn
   have hlen:(B3 u l τ).2.1.length≤l.length:=PR
   have ha:(AM τ z ⟨7,[],[],AR,[],0,0,0,AR⟩ (B3 u l τ).2.1).1=zxT (AP τ z (B3 u l τ).2.1).1 z:=by
    unfold AM
    dsimp only
    rw [if_neg dQ,if_neg dQ,if_pos rfl,Qc]
   dsimp only
   refine ⟨?_,by rw [ha];exact h2.zx z,?_,fun g=>absurd g (by show ¬((7:Int)=8∨(7:Int)=0);decide),fun g=>absurd g (by show ¬(7:Int)=6;decide)⟩
   ·unfold FJ
    rw [if_neg (by show ¬((7:Int)=1∨(7:Int)=2∨(7:Int)=3∨(7:Int)=4);decide),if_pos (by show (7:Int)=6∨(7:Int)=7;decide)]
    exact h1
   ·have hb:=R6 (k:=7) (o:=0) (n:=0) (e:=0) ⟨by decide,by decide⟩ Aw.zero Aw.zero Aw.zero
    have:=Iv hz hs hi hb (fun y hy=>(h3 y hy).some) (l:=(B3 u l τ).2.1) om
    have h8:(B3 u l τ).2.1.length*363≤8*363:=Nat.mul_le_mul_right _ om
    omega
theorem AF0 {τ:Tr} (h:WI τ) {s:Int} (h0:1≤s∧s≤5) {z i:Int} (hz:Aw z) (hi:Aw i):Rl τ z s i (DY τ s).1 (DY τ s).2:=by
 have hs:Aw s:=⟨by omega,by omega⟩
 have hB:=PQ (l:=(AG τ s).reverse) (τ:=τ) (fun p hp=>Iz h.ok (mem_reverse.1 hp))
 have hN:=fun y hy=>(Lu (l:=(AG τ s).reverse) (τ:=τ) y hy).2
 have hD:Ke τ s (A8 (AG τ s).reverse τ):=⟨Ls _ _,hN,fun y hy=>⟨(hB y hy).2.2,(hB y hy).2.1⟩⟩
 have hlen:(A8 (AG τ s).reverse τ).length≤32:=by
  rw [C8,length_reverse];exact h.few s
 have hf:(A8 (AG τ s).reverse τ).filter Bc=A8 (AG τ s).reverse τ:=O0 hN
 have ha:(AM τ z (DY τ s).1 (DY τ s).2).1=dropS (zxT (AP τ z (A8 (AG τ s).reverse τ)).1 z) s:=by
  unfold AM DY
  dsimp only
  rw [if_neg dQ,if_pos rfl,hf,Qc]
 have hw:=hD.wi h z _ (Nat.le_refl _)
 rw [take_length] at hw
 refine ⟨?_,by rw [ha];exact (hw.zx z).drop s,?_,fun g=>absurd g (by show ¬((6:Int)=8∨(6:Int)=0);decide),fun _=>?_⟩
 ·unfold FJ
  rw [if_neg (by show ¬((6:Int)=1∨(6:Int)=2∨(6:Int)=3∨(6:Int)=4);decide),if_pos (by show (6:Int)=6∨(6:Int)=7;decide)]
  exact hD.sound h z
 ·have hb:=R6 (k:=6) (o:=s) (n:=0) (e:=0) ⟨by decide,by decide⟩ hs Aw.zero Aw.zero
  have:=Iv hz hs hi hb (d:=103) (fun y hy=>?_) (l:=A8 (AG τ s).reverse τ) om
  ·have h8:(A8 (AG τ s).reverse τ).length*103≤32*103:=Nat.mul_le_mul_right _ hlen
   show (Cb ⟨z,s,i,⟨6,[],[],AR,[],s,0,0,AR⟩,A8 (AG τ s).reverse τ⟩).length≤4000
   omega
  ·obtain ⟨h1,h2,h3⟩:=hB y hy
   have h4:=h1.len
   have h5:=h1.path
   have h6:(EA ([]:List Ac)).length≤1:=by simp [EA,BW,DU]
   rw [h2,h3] at h4
   simp only [length_nil] at h4
   omega
 ·rw [ha]
  have:=SB hw.ok (hD.none h om z)
  exact this
theorem AHe {τ:Tr} (h:WI τ) {s:Int} (h0:1≤s∧s≤5) {z i:Int} (hz:Aw z) (hi:Aw i):Rl τ z s i (Gn s) []:=by
 have hs:Aw s:=⟨by omega,by omega⟩
 have ha:(AM τ z (Gn s) []).1=openS (zxT τ z) s 10 []:=by
  unfold AM
  dsimp only
  rw [if_pos (show (Gn s).kind=5 from rfl),if_pos (show 0<(Gn s).own by show 0<s;omega)];rfl
 refine ⟨?_,by rw [ha];exact (h.zx z).opens h0 10 [],?_,fun g=>absurd g (by show ¬((5:Int)=8∨(5:Int)=0);decide),fun g=>absurd g (by show ¬(5:Int)=6;decide)⟩
 ·unfold FJ
  rw [if_neg (by show ¬((5:Int)=1∨(5:Int)=2∨(5:Int)=3∨(5:Int)=4);decide),if_neg (by show ¬((5:Int)=6∨(5:Int)=7);decide)]
 ·have hb:=R6 (k:=5) (o:=s) (n:=10) (e:=0) ⟨by decide,by decide⟩ hs ⟨by decide,by decide⟩ Aw.zero
  have:=Iv (x:=Gn s) (l:=[]) (d:=0) hz hs hi hb (fun _ g=>by cases g) dQ
  simp only [length_nil] at this
  omega
theorem Rl.of {τ:Tr} {z s i:Int} {x y:Pt} {l ys:List Pt} (h:Rl τ z s i x l) (hy:y.pl=x) (hys:ys.map Pt.pl=l):Rl τ z s i y ys:=by
 subst hy;subst hys
 have hf:(ys.map Pt.pl).filter GJ=(ys.filter GJ).map Pt.pl:=by rw [filter_map];rfl
 have hL:∀(cl:Bool) (l:List Pt) (τ:Tr),Cc τ z cl (l.map Pt.pl)=Cc τ z cl l:=by
  intro cl l
  induction l with
  |nil=>intro τ;rfl
  |cons x l ih=>
   intro τ
   rw [map_cons,Cc,Cc,ih];rfl
 have h1:=h.sound
 rw [hf] at h1
 have e1:FJ τ z y.pl ((ys.filter GJ).map Pt.pl)=FJ τ z y (ys.filter GJ):=by
  unfold FJ
  rw [hL];rfl
 have h2:=h.wi
 have h4:=h.same
 have h5:=h.shut
 rw [MU] at h2 h4 h5
 refine ⟨e1▸h1,h2,?_,h4,h5⟩
 have h3:=h.len
 rw [←Rr]
 exact h3
def PZ (a:Bs) (l:List PN):Nat:=(l.filter fun y=>decide (a<y.1)).length
theorem Tk {a:Bs} {y:PN}:∀{l:List PN},BK l→(l.find? fun y=>decide (a<y.1))=some y→PZ y.1 l+1≤PZ a l∧y∈l
 |[],_,h=>by cases h
 |x::l,hs,h=>by
  have hs':BK l:=(pairwise_cons.1 hs).2
  have hx:∀z∈l,x.1<z.1:=fun z hz=>(pairwise_cons.1 hs).1 _ (mem_map_of_mem hz)
  rw [List.find?_cons] at h
  by_cases e:a<x.1
  ·rw [decide_eq_true e] at h
   simp only [Option.some.injEq] at h
   subst h
   refine ⟨?_,mem_cons_self⟩
   unfold PZ
   rw [filter_cons,filter_cons,if_neg (by simp [CS.irr x.1]),if_pos (by simpa using e)]
   have e1:(l.filter fun z=>decide (x.1<z.1))=l:=filter_eq_self.2 fun z hz=>by simpa using hx z hz
   have e2:(l.filter fun z=>decide (a<z.1))=l:=filter_eq_self.2 fun z hz=>by simpa using CS.tr _ _ _ e (hx z hz)
   rw [e1,e2,length_cons];exact Nat.le_refl _
  ·rw [decide_eq_false e] at h
   obtain ⟨h1,h2⟩:=Tk hs' h
   refine ⟨?_,mem_cons_of_mem _ h2⟩
   unfold PZ at h1 ⊢
   have hxy:=hx y h2
   rw [filter_cons,filter_cons,if_neg (by simpa using fun g=>CS.irr _ (CS.tr _ _ _ g hxy)),if_neg (by simpa using e)]
   exact h1
structure R4 (τ:Tr) (φ:Fz) (M:Nat):Prop where
 many:φ.nds.length+PZ (Cs φ.nds) τ.nodes≤M
 nds:∀y∈φ.nds,PnW y
 ss:∀x∈φ.ss,SnW x
 sm:φ.ss.length≤M
 from':Aw φ.from'
 none':φ.all=false→φ.ss=[]
theorem AIU (a:Bs) (l:List PN):PZ a l≤l.length:=length_filter_le _ _
theorem R4.begin {τ:Tr} (h:Hx τ) {M:Nat} (hm:τ.nodes.length≤M):R4 τ (E1 τ) M:=
 ⟨by show 0+PZ _ _≤M;have:=AIU (Cs (E1 τ).nds) τ.nodes;omega,fun y hy=>(by cases hy),fun y hy=>(by cases hy),Nat.zero_le _,h.zx,fun _=>rfl⟩
theorem R4.next {τ:Tr} (hw:Hx τ) {N:Nat} (ho:τ.Ok N) {φ:Fz} {M:Nat} (hN:τ.sess.length≤M) (h:R4 τ φ M) (ha:φ.all=false):R4 τ (C5 τ φ) M:=by
 unfold C5
 rcases e:UQ τ φ with _|y
 ·dsimp only
  refine ⟨h.many,h.nds,fun x hx=>?_,?_,h.from',fun g=>(by cases g)⟩
  ·dsimp only at hx;rw [h.none' ha,nil_append] at hx;exact hw.ss x hx
  ·dsimp only;rw [h.none' ha,nil_append];exact hN
 ·obtain ⟨h1,h2⟩:=Tk ho.sorted e
  dsimp only
  refine ⟨?_,fun x hx=>?_,h.ss,h.sm,h.from',fun _=>h.none' ha⟩
  ·dsimp only
   rw [Dr,length_append,length_singleton]
   have:=h.many
   omega
  ·rcases mem_append.1 hx with hx|hx
   ·exact h.nds x hx
   ·rw [mem_singleton] at hx;rw [hx];exact hw.nd y h2
theorem R4.step {τ:Tr} (hw:Hx τ) {N:Nat} (ho:τ.Ok N) {M:Nat} (hN:τ.sess.length≤M):∀(n:Nat) {φ:Fz},R4 τ φ M→R4 τ (BT τ n φ) M
 |0,_,h=>h
 |n+1,φ,h=>by
  unfold BT
  split
  ·exact h
  ·rename_i g;exact R4.step hw ho hN n (h.next hw ho hN (by simpa using g))
/-! ### How many steps it takes -/
/-! ### A tree that stays -/
theorem TM {l:List PN} (hs:BK l) {k:Nat} (hk:k<l.length) (h0:∀y∈l,y.1≠[]):(l.find? fun y=>decide (Cs (l.take k)<y.1))=some l[k]:=by
 have hlt:∀i j (hi:i<l.length) (hj:j<l.length),i<j→l[i].1<l[j].1:=fun i j hi hj hij=>by
  have:=(pairwise_map.1 hs)
  exact (pairwise_iff_getElem.1 this) i j hi hj hij
 have hl:Cs (l.take k)<l[k].1:=by
  cases k with
  |zero=>
   show ([]:Bs)<_
   have:=h0 _ (getElem_mem hk)
   cases e:(l[0]).1 with
   |nil=>exact absurd e this
   |cons c r=>simp
  |succ k=>
   rw [take_succ_eq_append_getElem om,Dr]
   exact hlt k (k+1) om hk om
 rw [List.find?_eq_some_iff_getElem]
 refine ⟨by simpa using hl,k,hk,rfl,fun j hj=>?_⟩
 have hjl:j<l.length:=by omega
 have:¬Cs (l.take k)<l[j].1:=by
  cases k with
  |zero=>omega
  |succ k=>
   rw [take_succ_eq_append_getElem om,Dr]
   by_cases e:j=k
   ·subst e;exact CS.irr _
   ·exact fun g=>CS.irr _ (CS.tr _ _ _ g (hlt j k hjl om om))
 simpa using this
theorem Ol {τ:Tr} {N:Nat} (ho:τ.Ok N) (h0:∀y∈τ.nodes,y.1≠[]):∀k,k≤τ.nodes.length→BT τ k (E1 τ)=⟨τ.zx,τ.nodes.take k,[],false⟩
 |0,_=>by rw [take_zero];rfl
 |k+1,hk=>by
  rw [Jw,Ol ho h0 k om,if_neg (by simp)]
  unfold C5 UQ
  dsimp only
  rw [TM ho.sorted om h0]
  dsimp only
  rw [take_succ_eq_append_getElem om]
theorem QW {τ:Tr} {N:Nat} (ho:τ.Ok N) (h0:∀y∈τ.nodes,y.1≠[]) {k:Nat} (hk:τ.nodes.length<k):BT τ k (E1 τ)=⟨τ.zx,τ.nodes,τ.sess,true⟩:=by
 have h1:BT τ (τ.nodes.length+1) (E1 τ)=⟨τ.zx,τ.nodes,τ.sess,true⟩:=by
  rw [Jw,Ol ho h0 _ (Nat.le_refl _),if_neg (by simp),take_length]
  unfold C5 UQ
  dsimp only
  have:(τ.nodes.find? fun y=>decide (Cs τ.nodes<y.1))=none:=by
   rw [List.find?_eq_none]
   intro y hy
   rcases eq_nil_or_concat τ.nodes with e|⟨l,z,e⟩
   ·rw [e] at hy;cases hy
   ·rw [concat_eq_append] at e
    rw [e,Dr]
    have hs:=ho.sorted
    rw [e] at hs hy
    have hp:=pairwise_append.1 (pairwise_map.1 hs)
    rcases mem_append.1 hy with hy|hy
    ·have:=hp.2.2 y hy z (mem_singleton_self _)
     simpa using fun g=>CS.irr _ (CS.tr _ _ _ g this)
    ·rw [mem_singleton] at hy;subst hy
     simp [CS.irr y.1]
  rw [this]
  rfl
 have:k=(τ.nodes.length+1)+(k-(τ.nodes.length+1)):=by omega
 rw [this,K8,h1,GZ _ _ rfl]
theorem XA {τ:Tr} {N:Nat} (ho:τ.Ok N) (h0:∀y∈τ.nodes,y.1≠[]) {k:Nat} (hk:τ.nodes.length<k):Nw (BT τ k (E1 τ))=EX τ:=by
 rw [QW ho h0 hk];rfl
theorem SM {τ:Tr} {N:Nat} (ho:τ.Ok N):∀y∈τ.nodes,y.1≠[]:=fun y hy e=>by
 rcases ho.able y hy with g|⟨-,g⟩
 ·rw [e] at g;cases g
 ·rw [e] at g;exact absurd g dQ
/-! ### Paths: who is above -/
theorem Lt {q:Bs} (h:Bm q):(47:UInt8)∉DL q:=by
 obtain ⟨h0,-,-,-⟩:=Gw h
 have h2:=(VI h0).2
 unfold DL
 rw [show (CI q+1).toNat=(CI q).toNat+1 by omega]
 exact h2
theorem WF {p:Bs} (hp:Bm (p++[47])):False:=by
 have h1:=Gs hp
 have hb:=Ng hp
 have hs:=Lt hp
 unfold Ip at h1
 rcases append_eq_append_iff.1 h1 with ⟨a,e1,e2⟩|⟨a,e1,e2⟩
 ·cases a with
  |nil=>rw [nil_append] at e2;exact hs (by rw [←e2];simp)
  |cons c a=>
   have:=congrArg List.length e2
   rw [length_append] at this
   simp only [length_cons,length_nil] at this
   exact hb (eq_nil_of_length_eq_zero om)
 ·exact hs (by rw [e2];simp)
theorem AHk {q p:Bs} (hq:Bm q) (hp:Bm p) (hu:AK q=[47]∨Bm (AK q)) (h:B6 q p=true) (hne:q≠p):B6 (AK q) p=true:=by
 unfold B6 at h
 rw [Bool.or_eq_true,decide_eq_true_iff,decide_eq_true_iff] at h
 obtain ⟨d,hd,e1⟩:=MO (h.resolve_left hne)
 rw [GC hp.1,append_assoc,cons_append,nil_append] at e1
 have hb:=Lt hq
 have e2:=Gs hq
 by_cases hr:AK q=[47]
 ·rw [hr,Hd] at e2
  rw [e2] at e1
  cases p with
  |nil=>exact absurd hp dQ
  |cons c p'=>
   rw [cons_append] at e1
   injection e1 with _ e3
   exact absurd (by rw [e3];simp) hb
 ·rw [GC hr] at e2
  rw [e2] at e1
  rcases append_eq_append_iff.1 e1 with ⟨a,h1,h2⟩|⟨a,h1,h2⟩
  ·
   cases a with
   |nil=>rw [append_nil] at h1;rw [h1];exact HY _
   |cons c a=>
    rw [cons_append] at h2
    injection h2 with _ h3
    exact absurd (by rw [h3];simp) hb
  ·cases a with
   |nil=>rw [append_nil] at h1;rw [h1];exact HY _
   |cons c a=>
    rw [cons_append] at h2
    injection h2 with h3 h4
    subst h3
    refine MN (d:=a) (fun e=>?_) (by rw [GC hp.1,append_assoc];exact h1)
    subst e
    exact WF (by rw [←h1];exact hu.resolve_left hr)
/-! ### Parts, run and run UY -/
abbrev Pz:=Pt×Int
def EY:Tr→List Pz→Tr
 |τ,[]=>τ
 |τ,x::l=>EY (AI τ x.1 x.2).1 l
def EH:Tr→List Pz→Prop
 |_,[]=>True
 |τ,x::l=>B5 τ x.1=true∧EH (AI τ x.1 x.2).1 l
structure Cl (τ:Tr):Prop where
 able:∀q,AL τ q→q≠[47]→Bm q
 closed:∀q,AL τ q→q≠[47]→AL τ (AK q)
theorem Cl.up {τ:Tr} (h:Cl τ) {q:Bs} (ht:AL τ q) (hq:q≠[47]):AK q=[47]∨Bm (AK q):=by
 by_cases e:AK q=[47]
 ·exact .inl e
 ·exact .inr (h.able _ (h.closed q ht hq) e)
theorem Sl {τ:Tr} {q:Bs} (ht:AL τ q) (hq:q≠[47]):(Dv τ (AK q)).length≠0:=by
 obtain ⟨n,hn⟩:=BY.1 ht
 have hm:=De hn
 intro e
 have:DL q∈Dv τ (AK q):=by
  unfold Dv
  exact mem_map.2 ⟨(q,n),mem_filter.2 ⟨hm,by simp [hq]⟩,rfl⟩
 rw [eq_nil_of_length_eq_zero e] at this;cases this
theorem AC8 {p:Bs} (hp:Bm p):B6 [47] p=false:=by
 cases e:B6 [47] p with
 |false=>rfl
 |true=>
  obtain ⟨r,e2⟩:=Nr e
  cases hy:p with
  |nil=>exact absurd hp (by rw [hy];decide)
  |cons c r2=>
   rw [hy] at e2
   simp at e2
   exact absurd (by rw [hy,←e2.1,e2.2.1]) hp.1
theorem OJ {τ:Tr} (hc:Cl τ) {p:Bs} (hp:Bm p) (hk:(Dv τ p).length=0):∀(n:Nat) (q:Bs),q.length≤n→AL τ q→B6 q p=true→q=p:=by
 intro n
 induction n with
 |zero=>
  intro q hl ht hh
  have:q=[]:=eq_nil_of_length_eq_zero om
  subst this
  exact absurd (hc.able _ ht dQ) dQ
 |succ n ih=>
  intro q hl ht hh
  apply Decidable.byContradiction
  intro hne
  have hqr:q≠[47]:=fun e=>by subst e;rw [AC8 hp] at hh;cases hh
  have ha:=hc.able q ht hqr
  have hup:=AHk ha hp (hc.up ht hqr) hh hne
  obtain ⟨r,hr,e⟩:=KW ha
  have hlen:(AK q).length≤n:=by
   have:=congrArg List.length e
   rw [length_append] at this
   have:=length_pos_iff.2 hr
   omega
  have:=ih (AK q) hlen (hc.closed q ht hqr) hup
  exact Sl ht hqr (by rw [this];exact hk)
theorem Ga {τ:Tr} {x:Pt} (h:B5 τ x=true):x.kind=1∧(Bm x.path∧¬AL τ x.path∧AL τ (AK x.path))∨x.kind=2∧(x.path≠[47]∧AL τ x.path∧(Dv τ x.path).length=0)∨(x.kind=3∨x.kind=4)∧AL τ x.path:=by
 unfold B5 at h
 split at h
 ·rename_i h1;exact .inl ⟨h1,of_decide_eq_true h⟩
 split at h
 ·rename_i h2;exact .inr (.inl ⟨h2,of_decide_eq_true h⟩)
 split at h
 ·rename_i h3;exact .inr (.inr ⟨h3,of_decide_eq_true h⟩)
 ·cases h
theorem Kh {τ:Tr} (hc:Cl τ) {x:Pt} {z:Int} (h:B5 τ x=true) (q:Bs):AL (AI τ x z).1 q↔(if x.kind=1 then q=x.path∨AL τ q else if x.kind=2 then AL τ q∧q≠x.path else AL τ q):=by
 rcases Ga h with ⟨h1,ha,hn,hu⟩|⟨h2,hr,ht,hk⟩|⟨h3,ht⟩
 ·rw [if_pos h1]
  unfold AL
  rw [Cx h1 ha hu]
  by_cases e2:q=x.path
  ·rw [if_pos e2];split<;>simp [e2]
  ·rw [if_neg e2];split<;>simp [e2]
 ·rw [if_neg om,if_pos h2]
  have ha:=hc.able _ ht hr
  have e:AL (AI τ x z).1 q↔AL τ q∧B6 q x.path=false:=by
   unfold AL
   rw [Dz h2 ha]
   cases B6 q x.path<;>split<;>simp
  rw [e]
  constructor
  ·rintro ⟨g1,g2⟩
   exact ⟨g1,fun e=>by rw [e,HY] at g2;cases g2⟩
  ·rintro ⟨g1,g2⟩
   refine ⟨g1,?_⟩
   cases e:B6 q x.path with
   |false=>rfl
   |true=>exact absurd (OJ hc ha hk _ q (Nat.le_refl _) g1 e) g2
 ·rw [if_neg om,if_neg om]
  unfold AL
  rcases h3 with h3|h4
  ·rw [IS h3 ht];split<;>simp
  ·rw [IM h4 ht];split<;>simp
theorem Cl.part {τ:Tr} (hc:Cl τ) {x:Pt} {z:Int} (h:B5 τ x=true):Cl (AI τ x z).1:=by
 have hth:=Kh hc (z:=z) h
 rcases Ga h with ⟨h1,ha,hn,hu⟩|⟨h2,hr,ht,hk⟩|⟨h3,ht⟩
 ·simp only [if_pos h1] at hth
  refine ⟨fun q hq hne=>?_,fun q hq hne=>?_⟩
  ·rcases (hth q).1 hq with rfl|hq
   ·exact ha
   ·exact hc.able q hq hne
  ·rw [hth];right
   rcases (hth q).1 hq with rfl|hq
   ·exact hu
   ·exact hc.closed q hq hne
 ·have hk1:¬x.kind=1:=by omega
  simp only [if_neg hk1,if_pos h2] at hth
  refine ⟨fun q hq hne=>hc.able q ((hth q).1 hq).1 hne,fun q hq hne=>?_⟩
  rw [hth]
  have hq2:=((hth q).1 hq).1
  refine ⟨hc.closed q hq2 hne,fun e=>?_⟩
  exact Sl hq2 hne (by rw [e];exact hk)
 ·have hk1:¬x.kind=1:=by omega
  have hk2:¬x.kind=2:=by omega
  simp only [if_neg hk1,if_neg hk2] at hth
  exact ⟨fun q hq hne=>hc.able q ((hth q).1 hq) hne,fun q hq hne=>(hth _).2 (hc.closed q ((hth q).1 hq) hne)⟩
def Ek (p:Bs) (l:List Pz):Prop:= ∃x∈l,x.1.kind=2∧x.1.path=p
def Tj (p:Bs) (l:List Pz):Prop:= ∃x∈l,x.1.kind=1∧x.1.path=p
theorem Yc {p:Bs} {x:Pz} {l:List Pz} (h:¬Ek p (x::l)):¬Ek p l:=fun ⟨y,hy,e⟩=>h ⟨y,mem_cons_of_mem _ hy,e⟩
theorem Of {p:Bs} {x:Pz} {l:List Pz} (h:Ek p (x::l)):(x.1.kind=2∧x.1.path=p)∨Ek p l:=by
 obtain ⟨y,hy,e⟩:=h
 rcases mem_cons.1 hy with rfl|hy
 ·exact .inl e
 ·exact .inr ⟨y,hy,e⟩
theorem ST {p:Bs} {x:Pz} {l:List Pz} (h:Tj p (x::l)):(x.1.kind=1∧x.1.path=p)∨Tj p l:=by
 obtain ⟨y,hy,e⟩:=h
 rcases mem_cons.1 hy with rfl|hy
 ·exact .inl e
 ·exact .inr ⟨y,hy,e⟩
def SO (n:Nd):Int×Int×Int×Int:=(n.st.cz,n.st.own,n.st.len,n.st.kids)
def gD (n:Nd):Bs×Int×Int:=(n.data,n.st.ver,n.st.mz)
def gA (n:Nd):List Ac×Int:=(n.acl,n.st.av)
def gK (n:Nd):Int×Int:=(n.st.cver,n.st.pz)
theorem AFZ {a b:Nd} (h1:gD a=gD b) (h2:gA a=gA b) (h3:gK a=gK b) (h4:SO a=SO b):a=b:=by
 obtain ⟨d,l,⟨cz,mz,pz,ver,cver,av,own,len,kids⟩⟩:=a
 obtain ⟨d',l',⟨cz',mz',pz',ver',cver',av',own',len',kids'⟩⟩:=b
 simp [gD,gA,gK,SO] at h1 h2 h3 h4
 simp [h1,h2,h3,h4]
theorem O5 {τ:Tr} (hc:Cl τ) {x:Pt} {z:Int} (h:B5 τ x=true) {p:Bs} {n:Nd} (hp:AC τ.nodes p=some n) (hd:¬(x.kind=2∧x.path=p)):∃m,AC (AI τ x z).1.nodes p=some m∧SO m=SO n:=by
 rcases Ga h with ⟨h1,ha,hn,hu⟩|⟨h2,hr,ht,hk⟩|⟨h3,ht⟩
 ·rw [Cx h1 ha hu]
  have hne:¬p=x.path:=fun e=>hn (by rw [←e];exact BY.2 ⟨n,hp⟩)
  rw [if_neg hne,hp]
  split
  ·exact ⟨_,rfl,rfl⟩
  ·exact ⟨_,rfl,rfl⟩
 ·have ha:=hc.able _ ht hr
  rw [Dz h2 ha]
  have hne:B6 p x.path=false:=by
   cases e:B6 p x.path with
   |false=>rfl
   |true=>exact absurd ⟨h2,(OJ hc ha hk _ p (Nat.le_refl _) (BY.2 ⟨n,hp⟩) e).symm⟩ hd
  rw [hne,hp]
  split
  ·exact ⟨_,rfl,rfl⟩
  ·exact ⟨_,rfl,rfl⟩
 ·rcases h3 with h3|h4
  ·rw [IS h3 ht,hp]
   split
   ·exact ⟨_,rfl,rfl⟩
   ·exact ⟨_,rfl,rfl⟩
  ·rw [IM h4 ht,hp]
   split
   ·exact ⟨_,rfl,rfl⟩
   ·exact ⟨_,rfl,rfl⟩
theorem Md:∀{l:List Pz} {τ:Tr},Cl τ→EH τ l→∀{p:Bs} {n:Nd},AC τ.nodes p=some n→¬Ek p l→∃m,AC (EY τ l).nodes p=some m∧SO m=SO n
 |[],_,_,_,_,n,hp,_=>⟨n,hp,rfl⟩
 |x::l,τ,hc,hs,p,n,hp,hd=>by
  obtain ⟨m,h1,h2⟩:=O5 (z:=x.2) hc hs.1 hp (fun e=>hd ⟨x,mem_cons_self,e⟩)
  obtain ⟨k,h3,h4⟩:=Md (hc.part hs.1) hs.2 h1 (Yc hd)
  exact ⟨k,h3,h4.trans h2⟩
theorem VM:∀{l:List Pz} {τ:Tr},Cl τ→EH τ l→∀{p:Bs},AL (EY τ l) p→¬Tj p l→AL τ p
 |[],_,_,_,_,h,_=>h
 |x::l,τ,hc,hs,p,h,hn=>by
  have h1:=VM (hc.part (z:=x.2) hs.1) hs.2 h (fun ⟨y,hy,e⟩=>hn ⟨y,mem_cons_of_mem _ hy,e⟩)
  rw [Kh hc hs.1] at h1
  split at h1
  ·rename_i hk
   rcases h1 with rfl|h1
   ·exact absurd ⟨x,mem_cons_self,hk,rfl⟩ hn
   ·exact h1
  ·split at h1
   ·exact h1.1
   ·exact h1
theorem Um:∀{l:List Pz} {τ:Tr},Cl τ→EH τ l→∀{p:Bs},AL τ p→p≠[47]→Ek (AK p) l→Ek p l
 |[],_,_,_,_,_,_,⟨_,hy,_⟩=>by cases hy
 |x::l,τ,hc,hs,p,ht,hr,hd=>by
  by_cases hx:x.1.kind=2∧x.1.path=p
  ·exact ⟨x,mem_cons_self,hx⟩
  ·have h1:AL (AI τ x.1 x.2).1 p:=by
    obtain ⟨n,hn⟩:=BY.1 ht
    obtain ⟨m,hm,-⟩:=O5 (z:=x.2) hc hs.1 hn hx
    exact BY.2 ⟨m,hm⟩
   rcases Of hd with ⟨k,e⟩|hd
   ·rcases Ga hs.1 with ⟨g,-⟩|⟨-,-,-,hk⟩|⟨g,-⟩
    ·omega
    ·rw [e] at hk;exact absurd hk (Sl ht hr)
    ·omega
   ·obtain ⟨y,hy,e⟩:=Um (hc.part hs.1) hs.2 h1 hr hd
    exact ⟨y,mem_cons_of_mem _ hy,e⟩
/-! ### The two runs side by side -/
def Zn (g s f:Nd):Prop:=(gD g=gD s∨gD g=gD f)∧(gA g=gA s∨gA g=gA f)∧(gK g=gK s∨gK g=gK f)∧SO g=SO f
structure Pq (S G F:Tr) (l:List Pz):Prop where
 a:∀p s,AC S.nodes p=some s→¬Ek p l→∃g f,AC G.nodes p=some g∧AC F.nodes p=some f∧Zn g s f
 b:∀p,AL G p→(AL S p∧¬Ek p l)∨Tj p l∨Ek p l
theorem Pq.init {S:Tr} (hc:Cl S) {l:List Pz} (hs:EH S l):Pq S (EY S l) (EY S l) l:=by
 refine ⟨fun p s hp hd=>?_,fun p hp=>?_⟩
 ·obtain ⟨m,h1,-⟩:=Md hc hs hp hd
  exact ⟨m,m,h1,h1, .inr rfl, .inr rfl, .inr rfl,rfl⟩
 ·by_cases h1:Tj p l
  ·exact .inr (.inl h1)
  ·by_cases h2:Ek p l
   ·exact .inr (.inr h2)
   ·exact .inl ⟨VM hc hs hp h1,h2⟩
theorem Zn.kid {g s f:Nd} (h:Zn g s f) (num z:Int):Zn (kidN num z g) (kidN num z s) f:=⟨h.1,h.2.1, .inl rfl,h.2.2.2⟩
theorem Zn.set {g s f:Nd} (h:Zn g s f) (d:Bs) (num z:Int):Zn (HQ d num z g) (HQ d num z s) f:=⟨.inl rfl,h.2.1,h.2.2.1,h.2.2.2⟩
theorem Zn.acl {g s f:Nd} (h:Zn g s f) (l:List Ac) (num:Int):Zn (Gd l num g) (Gd l num s) f:=⟨h.1, .inl rfl,h.2.2.1,h.2.2.2⟩
theorem Pq.step {S G F:Tr} (hc:Cl S) {x:Pz} {l:List Pz} (hf:B5 S x.1=true) (hs:EH (AI S x.1 x.2).1 l) (hF:F=EY (AI S x.1 x.2).1 l) (h:Pq S G F (x::l)):Pq (AI S x.1 x.2).1 (AI G x.1 x.2).1 F l:=by
 have hth:=Kh hc (z:=x.2) hf
 have hc':=hc.part (z:=x.2) hf
 rcases Ga hf with ⟨h1,ha,hn,hu⟩|⟨h2,hr,ht,hk⟩|⟨h3,ht⟩
 ·
  simp only [if_pos h1] at hth
  have hnd:∀q,Ek q (x::l)↔Ek q l:=fun q=>⟨fun g=>(Of g).resolve_left (by rintro ⟨g,-⟩;omega),fun ⟨y,hy,e⟩=>⟨y,mem_cons_of_mem _ hy,e⟩⟩
  by_cases hG:AL G (AK x.1.path)
  ·refine ⟨fun p s hp hd=>?_,fun p hp=>?_⟩
   ·rw [Cx h1 ha hu] at hp
    rw [Cx h1 ha hG]
    by_cases e2:p=x.1.path
    ·
     have hpu:¬p=AK x.1.path:=fun e=>by
      have:=Z3 ha
      rw [←e,←e2] at this;exact CS.irr _ this
     rw [if_neg hpu,if_pos e2] at hp ⊢
     cases hp
     have hp2:AC (AI S x.1 x.2).1.nodes p=some (EZ x.1 x.2):=by rw [Cx h1 ha hu,if_neg hpu,if_pos e2]
     obtain ⟨f,hf1,hf2⟩:=Md hc' hs hp2 hd
     rw [←hF] at hf1
     exact ⟨_,f,rfl,hf1, .inl rfl, .inl rfl, .inl rfl,hf2.symm⟩
    ·rw [if_neg e2] at hp ⊢
     by_cases e1:p=AK x.1.path
     ·rw [if_pos e1] at hp ⊢
      obtain ⟨s0,hs0,rfl⟩:=map_some hp
      obtain ⟨g,f,k1,k2,k3⟩:=h.a p s0 hs0 (fun g=>hd ((hnd p).1 g))
      rw [k1]
      exact ⟨_,f,rfl,k2,k3.kid _ _⟩
     ·rw [if_neg e1] at hp ⊢
      exact h.a p s hp (fun g=>hd ((hnd p).1 g))
   ·have hp':p=x.1.path∨AL G p:=by
     by_cases e2:p=x.1.path
     ·exact .inl e2
     ·right
      unfold AL at hp ⊢
      rw [Cx h1 ha hG,if_neg e2] at hp
      split at hp
      ·simpa using hp
      ·exact hp
    by_cases e2:p=x.1.path
    ·by_cases hd:Ek p l
     ·exact .inr (.inr hd)
     ·exact .inl ⟨(hth p).2 (.inl e2),hd⟩
    ·rcases h.b p (hp'.resolve_left e2) with ⟨k1,k2⟩|k|k
     ·exact .inl ⟨(hth p).2 (.inr k1),fun g=>k2 ((hnd p).2 g)⟩
     ·exact .inr (.inl ((ST k).resolve_left (fun g=>e2 g.2.symm)))
     ·exact .inr (.inr ((hnd p).1 k))
  ·
   have hsame:(AI G x.1 x.2).1=G:=by
    unfold AI A5
    rw [if_pos h1,if_neg (fun g=>hG g.2)]
   have hdu:Ek (AK x.1.path) l:=by
    apply Classical.byContradiction
    intro g
    obtain ⟨n,hn2⟩:=BY.1 hu
    obtain ⟨g0,f,k1,-,-⟩:=h.a _ n hn2 (fun k=>g ((hnd _).1 k))
    exact hG (BY.2 ⟨g0,k1⟩)
   have hdp:Ek x.1.path l:=Um hc' hs ((hth _).2 (.inl rfl)) ha.1 hdu
   rw [hsame]
   refine ⟨fun p s hp hd=>?_,fun p hp=>?_⟩
   ·rw [Cx h1 ha hu] at hp
    by_cases e2:p=x.1.path
    ·exact absurd (by rw [e2];exact hdp) hd
    ·rw [if_neg e2] at hp
     by_cases e1:p=AK x.1.path
     ·exact absurd (by rw [e1];exact hdu) hd
     ·rw [if_neg e1] at hp
      exact h.a p s hp (fun g=>hd ((hnd p).1 g))
   ·rcases h.b p hp with ⟨k1,k2⟩|k|k
    ·exact .inl ⟨(hth p).2 (.inr k1),fun g=>k2 ((hnd p).2 g)⟩
    ·rcases ST k with ⟨-,e⟩|k
     ·exact .inr (.inr (by rw [←e];exact hdp))
     ·exact .inr (.inl k)
    ·exact .inr (.inr ((hnd p).1 k))
 ·
  have hk1:¬x.1.kind=1:=by omega
  simp only [if_neg hk1,if_pos h2] at hth
  have ha:=hc.able _ ht hr
  refine ⟨fun p s hp hd=>?_,fun p hp=>?_⟩
  ·have hpt:AL (AI S x.1 x.2).1 p:=BY.2 ⟨s,hp⟩
   obtain ⟨hpS,hpne⟩:=(hth p).1 hpt
   have hhit:B6 p x.1.path=false:=by
    cases e:B6 p x.1.path with
    |false=>rfl
    |true=>exact absurd (OJ hc ha hk _ p (Nat.le_refl _) hpS e) hpne
   have hd2:¬Ek p (x::l):=fun g=>(Of g).elim (fun g=>hpne g.2.symm) hd
   rw [Dz h2 ha,hhit] at hp
   rw [Dz h2 ha,hhit]
   by_cases e1:p=AK x.1.path
   ·rw [if_pos e1] at hp ⊢
    obtain ⟨s0,hs0,rfl⟩:=map_some hp
    obtain ⟨g,f,k1,k2,k3⟩:=h.a p s0 hs0 hd2
    refine ⟨_,f,?_,k2,k3.kid _ _⟩
    rw [if_neg dQ,k1];rfl
   ·rw [if_neg e1] at hp ⊢
    obtain ⟨g,f,k1,k2,k3⟩:=h.a p s hp hd2
    exact ⟨g,f,k1,k2,k3⟩
  ·have hp':AL G p∧B6 p x.1.path=false:=by
    unfold AL at hp ⊢
    rw [Dz h2 ha] at hp
    cases e:B6 p x.1.path with
    |false=>rw [e] at hp;split at hp<;>simpa using hp
    |true=>rw [e] at hp;split at hp<;>simp at hp
   have hpne:p≠x.1.path:=fun e=>by rw [e,HY] at hp';exact absurd hp'.2 dQ
   rcases h.b p hp'.1 with ⟨k1,k2⟩|k|k
   ·exact .inl ⟨(hth p).2 ⟨k1,hpne⟩,Yc k2⟩
   ·exact .inr (.inl ((ST k).resolve_left (fun g=>hpne g.2.symm)))
   ·exact .inr (.inr ((Of k).resolve_left (fun g=>hpne g.2.symm)))
 ·
  have hk1:¬x.1.kind=1:=by omega
  have hk2:¬x.1.kind=2:=by omega
  simp only [if_neg hk1,if_neg hk2] at hth
  have hnd:∀q,Ek q (x::l)↔Ek q l:=fun q=>⟨fun g=>(Of g).resolve_left (by rintro ⟨g,-⟩;omega),fun ⟨y,hy,e⟩=>⟨y,mem_cons_of_mem _ hy,e⟩⟩
  have hthG:∀q,AL (AI G x.1 x.2).1 q↔AL G q:=by
   intro q
   by_cases hG:AL G x.1.path
   ·unfold AL
    rcases h3 with h3|h4
    ·rw [IS h3 hG];split<;>simp
    ·rw [IM h4 hG];split<;>simp
   ·have:(AI G x.1 x.2).1=G:=by
     unfold AI
     rw [if_neg hk1,if_neg hk2,if_neg (fun g=>hG g.2),if_neg (fun g=>hG g.2)]
    rw [this]
  refine ⟨fun p s hp hd=>?_,fun p hp=>?_⟩
  ·have hd2:¬Ek p (x::l):=fun g=>hd ((hnd p).1 g)
   have key:∀(F1:Nd→Nd),(∀q,AC (AI S x.1 x.2).1.nodes q=if q=x.1.path then (AC S.nodes q).map F1 else AC S.nodes q)→(AL G x.1.path→∀q,AC (AI G x.1 x.2).1.nodes q=if q=x.1.path then (AC G.nodes q).map F1 else AC G.nodes q)→(∀g s f,Zn g s f→Zn (F1 g) (F1 s) f)→∃g f,AC (AI G x.1 x.2).1.nodes p=some g∧AC F.nodes p=some f∧Zn g s f:=by
    intro F1 kS kG kF
    rw [kS] at hp
    by_cases e:p=x.1.path
    ·rw [if_pos e] at hp
     obtain ⟨s0,hs0,rfl⟩:=map_some hp
     obtain ⟨g,f,k1,k2,k3⟩:=h.a p s0 hs0 hd2
     refine ⟨F1 g,f,?_,k2,kF _ _ _ k3⟩
     rw [kG (BY.2 ⟨g,by rw [←e];exact k1⟩),if_pos e,k1];rfl
    ·rw [if_neg e] at hp
     obtain ⟨g,f,k1,k2,k3⟩:=h.a p s hp hd2
     refine ⟨g,f,?_,k2,k3⟩
     by_cases hG:AL G x.1.path
     ·rw [kG hG,if_neg e];exact k1
     ·have:(AI G x.1 x.2).1=G:=by
       unfold AI
       rw [if_neg hk1,if_neg hk2,if_neg (fun g=>hG g.2),if_neg (fun g=>hG g.2)]
      rw [this];exact k1
   rcases h3 with h3|h4
   ·exact key _ (fun q=>IS h3 ht q) (fun hG q=>IS h3 hG q) (fun g s f k=>k.set _ _ _)
   ·exact key _ (fun q=>IM h4 ht q) (fun hG q=>IM h4 hG q) (fun g s f k=>k.acl _ _)
  ·rcases h.b p ((hthG p).1 hp) with ⟨k1,k2⟩|k|k
   ·exact .inl ⟨(hth p).2 k1,fun g=>k2 ((hnd p).2 g)⟩
   ·exact .inr (.inl ((ST k).resolve_left (by rintro ⟨g,-⟩;exact hk1 g)))
   ·exact .inr (.inr ((hnd p).1 k))
theorem Pq.run:∀{l:List Pz} {S G F:Tr},Cl S→EH S l→F=EY S l→Pq S G F l→∀p,AC (EY G l).nodes p=AC F.nodes p
 |[],S,G,F,_,_,hF,h,p=>by
  have hF:F=S:=hF
  rw [hF] at h ⊢
  rcases e:AC S.nodes p with _|s
  ·rcases e2:AC G.nodes p with _|g
   ·exact e2
   ·rcases h.b p (BY.2 ⟨g,e2⟩) with ⟨k,-⟩|⟨_,hy,-⟩|⟨_,hy,-⟩
    ·obtain ⟨n,hn⟩:=BY.1 k
     rw [e] at hn;cases hn
    ·cases hy
    ·cases hy
  ·obtain ⟨g,f,k1,k2,k3,k4,k5,k6⟩:=h.a p s e (fun ⟨_,hy,_⟩=>by cases hy)
   have k3':=k2
   rw [e] at k3'
   cases k3'
   have:g=s:=AFZ (k3.elim id id) (k4.elim id id) (k5.elim id id) k6
   subst this
   exact k1
 |x::l,S,G,F,hc,hs,hF,h,p=>Pq.run (hc.part hs.1) hs.2 hF (h.step hc hs.1 hs.2 hF) p
/-! ### Entries as parts -/
def PO (e:En):List Pz:=
 if e.x.kind=6∨e.x.kind=7 then e.subs.map fun y=>(y,e.zx)
 else if 1≤e.x.kind∧e.x.kind≤4 then [(e.x,e.zx)] else []
theorem OX (τ:Tr) (z:Int) (l:List Pt):EY τ (l.map fun y=>(y,z))=(AP τ z l).1:=by
 have:∀(l:List Pt) (r:Tr×List Ev),EY r.1 (l.map fun y=>(y,z))=(l.foldl (fun r x=>((AI r.1 x z).1,r.2++(AI r.1 x z).2)) r).1:=by
  intro l
  induction l with
  |nil=>intro r;rfl
  |cons x l ih=>intro r;rw [map_cons,foldl_cons];exact ih ((AI r.1 x z).1,r.2++(AI r.1 x z).2)
 exact this l (τ,[])
theorem AEA (τ:Tr) (l m:List Pz):EY τ (l++m)=EY (EY τ l) m:=by
 induction l generalizing τ with
 |nil=>rfl
 |cons x l ih=>exact ih _
theorem AGL (τ:Tr) (z:Int) (l:List Pz):(EY (zxT τ z) l).nodes=(EY τ l).nodes:=by
 have:EY (zxT τ z) l=zxT (EY τ l) z:=by
  induction l generalizing τ with
  |nil=>rfl
  |cons x l ih=>show EY (AI (zxT τ z) x.1 x.2).1 l=_;rw [T6];exact ih _
 rw [this];rfl
theorem AFU (τ:Tr) (s:List (Int×(Int×Bs))) (l:List Pz):(EY (Rg τ s) l).nodes=(EY τ l).nodes:=by
 have:EY (Rg τ s) l=Rg (EY τ l) s:=by
  induction l generalizing τ with
  |nil=>rfl
  |cons x l ih=>show EY (AI (Rg τ s) x.1 x.2).1 l=_;rw [AGI];exact ih _
 rw [this];rfl
theorem Kg {τ υ:Tr} (h:τ.nodes=υ.nodes) (l:List Pz):(EY τ l).nodes=(EY υ l).nodes:=by
 have:υ=zxT (Rg τ υ.sess) υ.zx:=Tr.ext' h.symm rfl rfl
 rw [this,AGL,AFU]
theorem TN {σ:Tr} {K:Int} {e:En} (he:UX σ e K) (τ:Tr):(DS τ e).nodes=(EY τ (PO e)).nodes:=by
 unfold PO
 rcases he.shape with ⟨hs,hp⟩|⟨hk,-⟩|⟨hk,hc,-⟩|⟨hk,-⟩|⟨hk,-⟩
 ·have hkk:=hp.kind
  rw [Vk (.inl hkk.2),if_neg om]
  by_cases h0:e.x.kind=0
  ·rw [if_neg om,Fj h0];rfl
  ·rw [if_pos om];rfl
 ·rw [if_neg om,if_neg om]
  show (DS τ e).nodes=τ.nodes
  unfold DS AM;dsimp only;rw [if_pos hk];split<;>rfl
 ·rw [QE hk hc.kinds,if_pos (.inl hk),OX];rfl
 ·rw [RB hk,if_pos (.inr hk),OX];rfl
 ·rw [Y2 hk,if_neg om,if_neg om];rfl
theorem Q6 {zx:Int} {cl:Bool}:∀{l:List Pt} {τ:Tr},Cc τ zx cl l=true→EH τ (l.map fun y=>(y,zx))
 |[],_,_=>trivial
 |x::l,τ,h=>by
  unfold Cc at h
  simp only [Bool.and_eq_true] at h
  exact ⟨h.1.1,Q6 h.2⟩
theorem Wu {τ:Tr} {K:Int} {e:En} (he:UX τ e K):EH τ (PO e):=by
 unfold PO
 split
 ·rename_i hk
  exact Q6 (I6 he.sound hk)
 split
 ·rename_i h1 h2
  have:=he.sound
  unfold FJ at this
  rw [if_pos om] at this
  exact ⟨this,trivial⟩
 ·trivial
theorem EB.cl {τ:Tr} {K:Int} (h:EB τ K):Cl τ:=⟨fun _ ht hq=>h.able ht hq,h.closed⟩
theorem Pj:∀{l m:List Pz} {τ:Tr},EH τ l→EH (EY τ l) m→EH τ (l++m)
 |[],_,_,_,h=>h
 |_::_,_,_,h1,h2=>⟨h1.1,Pj h1.2 h2⟩
theorem U8 {τ υ:Tr} (h:τ.nodes=υ.nodes) (x:Pt):B5 τ x=B5 υ x:=by
 have:υ=zxT (Rg τ υ.sess) υ.zx:=Tr.ext' h.symm rfl rfl
 rw [this];rfl
theorem LR:∀{l:List Pz} {τ υ:Tr},τ.nodes=υ.nodes→EH τ l→EH υ l
 |[],_,_,_,_=>trivial
 |x::l,τ,υ,h,hs=>⟨by rw [←U8 h];exact hs.1,LR (Kg h [x]) hs.2⟩
structure ACg (S:Tr) (l:List En):Prop where
 K:∃K,EB S K
 each:∀i (hi:i<l.length),∃K,UX (Bb S (l.take i)) l[i] K
theorem ACg.tail {S:Tr} {e:En} {l:List En} (h:ACg S (e::l)):ACg (DS S e) l:=by
 obtain ⟨K0,h0⟩:=h.K
 obtain ⟨K1,h1⟩:=h.each 0 (by simp)
 refine ⟨⟨max K0 K1+60,?_⟩,fun i hi=>?_⟩
 ·have h1':UX S e (max K0 K1):=by
   have h2:UX S e K1:=h1
   refine ⟨h2.sound,?_,h2.ses,h2.cells⟩
   rcases h2.shape with ⟨a,b⟩|⟨a,b,c,d,f,g,i⟩|⟨a,b,c,d,f,g,i⟩|⟨a,b,c,d,f,g⟩|⟨a,b,c,d,f,g,i⟩
   ·exact .part a (b.more om)
   ·exact .opens a b c d f g i
   ·exact .close a b (fun j hj=>(c j hj).more om) d f g i
   ·exact .multi a (fun j hj=>(b j hj).more om) c d f g
   ·exact .error a b c d f g i
  exact (h0.more om).app h1'
 ·obtain ⟨K,hK⟩:=h.each (i+1) (by simpa using hi)
  exact ⟨K,hK⟩
def Qp (l:List En):List Pz:=l.flatMap PO
theorem Qv:∀{l:List En} {S:Tr},ACg S l→EH S (Qp l)∧(Bb S l).nodes=(EY S (Qp l)).nodes∧∀G:Tr,(Bb G l).nodes=(EY G (Qp l)).nodes
 |[],_,_=>⟨trivial,rfl,fun _=>rfl⟩
 |e::l,S,h=>by
  obtain ⟨K,hK⟩:=h.each 0 (by simp)
  have hK':UX S e K:=hK
  obtain ⟨h1,h2,h3⟩:=Qv h.tail
  have hall:∀G:Tr,(Bb G (e::l)).nodes=(EY G (Qp (e::l))).nodes:=fun G=>by
   show (Bb (DS G e) l).nodes=(EY G (PO e++Qp l)).nodes
   rw [h3 (DS G e),AEA]
   exact Kg (TN hK' G) _
  refine ⟨?_,hall S,hall⟩
  show EH S (PO e++Qp l)
  exact Pj (Wu hK') (LR (TN hK' S) h1)
/-! ### Sessions -/
def Tx (s:List (Int×(Int×Bs))) (l:List En):List (Int×(Int×Bs)):=l.foldl S3 s
theorem Mr:∀(l:List En) (τ:Tr),(Bb τ l).sess=Tx τ.sess l
 |[],_=>rfl
 |e::l,τ=>by
  show (Bb (DS τ e) l).sess=Tx (S3 τ.sess e) l
  rw [Mr l,AB0]
theorem Yt:∀(l:List En) (i:Int),(∀s,AC (Tx s l) i=AC s i)∨∃r,∀s,AC (Tx s l) i=r
 |[],i=> .inl fun _=>rfl
 |e::l,i=>by
  rcases Yt l i with h|⟨r,h⟩
  ·have key:∀s,AC (Tx s (e::l)) i=AC (S3 s e) i:=fun s=>h (S3 s e)
   by_cases h5:e.x.kind=5∧0<e.x.own∧i=e.x.own
   ·exact .inr ⟨some (e.x.num,e.x.data),fun s=>by rw [key,SC,if_pos h5]⟩
   ·by_cases h6:e.x.kind=6∧i=e.x.own
    ·exact .inr ⟨none,fun s=>by rw [key,SC,if_neg h5,if_pos h6]⟩
    ·exact .inl fun s=>by rw [key,SC,if_neg h5,if_neg h6]
  ·exact .inr ⟨r,fun s=>h (S3 s e)⟩
theorem Wf (s:List (Int×(Int×Bs))) (l:List En) (i:Int):AC (Tx (Tx s l) l) i=AC (Tx s l) i:=by
 rcases Yt l i with h|⟨r,h⟩
 ·rw [h]
 ·rw [h,h]
theorem Yr:∀(l:List En) (τ:Tr),(Bb τ l).zx=(l.getLast?.map (·.zx)).getD τ.zx:=by
 intro l
 induction l using HA with
 |h0=>intro τ;rfl
 |h1 l e _=>intro τ;rw [Jn,ACF];simp
theorem AFG.ok {τ:Tr} {N:Nat} (h:τ.Ok N) {e:En} (he:AFG e):(DS τ e).Ok (N+61):=
 (h.apply e.zx e.x e.subs (by have:=he.acl;omega) (fun y hy=>by have:=(he.each y hy).1;omega)).more (by have:=he.few;omega)
theorem WY:∀{l:List En} {τ:Tr} {N:Nat},τ.Ok N→(∀e∈l,AFG e)→(Bb τ l).Ok (N+61*l.length)
 |[],_,_,h,_=>h
 |e::l,τ,N,h,hl=>(WY ((hl e mem_cons_self).ok h) (fun x hx=>hl x (mem_cons_of_mem _ hx))).more (by rw [length_cons];omega)
theorem UY {S:Tr} {l:List En} (h:ACg S l) (hsz:∀e∈l,AFG e):Bb (Bb S l) l=Bb S l:=by
 obtain ⟨K,hK⟩:=h.K
 obtain ⟨h1,h2,h3⟩:=Qv h
 have hF:=WY hK.ok hsz
 have hG:=WY hF hsz
 refine Tr.ext' (GB CS hG.sorted hF.sorted fun p=>?_) (GB XL hG.ssorted hF.ssorted fun i=>?_) ?_
 ·rw [h3,h2,Kg h2]
  exact Pq.run hK.cl h1 rfl (Pq.init hK.cl h1) p
 ·rw [Mr,Mr]
  exact Wf _ _ _
 ·rw [Yr,Yr]
  cases l.getLast?<;>rfl
/-! ### Histories -/
/-! ### While it is laid -/
theorem Us {l:List PN} {y:PN} (h:BK l) (hl:∀x∈l,x.1<y.1):BK (l++[y]):=by
 unfold BK at h ⊢
 rw [map_append,pairwise_append]
 refine ⟨h,by simp,fun a ha b hb=>?_⟩
 obtain ⟨x,hx,rfl⟩:=mem_map.1 ha
 simp at hb;subst hb
 exact hl x hx
theorem Yl {q:Bs} (h:Bm q):([47]:Bs)<q:=by
 rcases CS.tri [47] q with g|g|g
 ·exact g
 ·exact absurd g.symm h.1
 ·exact absurd g (AEO (Wj h))
theorem AB7 {q:Bs} (h:q=[47]∨Bm q):BQ q=0:=by
 rcases h with rfl|h
 ·decide
 ·exact h.2
theorem Yj {l:List PN} (hs:BK l) {i:Nat} (hi:i<l.length) (h0:0<i):Cs (l.take i)=l[i-1].1∧l[i-1].1<l[i].1:=by
 obtain ⟨k,rfl⟩:∃k,i=k+1:=⟨i-1,by omega⟩
 rw [take_succ_eq_append_getElem om,Dr]
 exact ⟨rfl,(pairwise_iff_getElem.1 (pairwise_map.1 hs)) k (k+1) om hi om⟩
theorem AIR {τ:Tr} {N:Nat} (ho:τ.Ok N) (hr:AL τ [47]):ZC τ.nodes:=by
 intro i hi
 have ha:=ho.able _ (getElem_mem hi)
 refine ⟨AB7 ha,?_,?_⟩
 ·rcases Nat.eq_zero_or_pos i with rfl|h0
  ·show ([]:Bs)<_
   cases e:(τ.nodes[0]).1 with
   |nil=>exact absurd e (SM ho _ (getElem_mem hi))
   |cons c r=>simp
  ·obtain ⟨h1,h2⟩:=Yj ho.sorted hi h0
   rw [h1];exact h2
 ·obtain ⟨n,hn⟩:=BY.1 hr
  obtain ⟨j,hj,e⟩:=mem_iff_getElem.1 (De hn)
  have e1:(τ.nodes[j]).1=[47]:=by rw [e]
  rcases Nat.eq_zero_or_pos i with rfl|h0
  ·refine ⟨fun _=>?_,fun _=>rfl⟩
   rcases ha with g|g
   ·exact g
   ·have h1:=Yl g
    rcases Nat.eq_zero_or_pos j with h2|h2
    ·subst h2;exact e1
    ·have:=(pairwise_iff_getElem.1 (pairwise_map.1 ho.sorted)) 0 j hi hj h2
     rw [e1] at this
     exact absurd (CS.tr _ _ _ h1 this) (CS.irr _)
  ·obtain ⟨h1,h2⟩:=Yj ho.sorted hi h0
   rw [h1]
   refine ⟨fun g=>absurd g (SM ho _ (getElem_mem om)),fun g=>?_⟩
   rw [g] at h2
   have hb:=ho.able _ (getElem_mem (l:=τ.nodes) (n:=i-1) om)
   rcases hb with k|k
   ·rw [k] at h2;exact absurd h2 (CS.irr _)
   ·exact absurd (CS.tr _ _ _ h2 (Yl k)) (CS.irr _)
theorem AHi {τ:Tr} {N:Nat} (ho:τ.Ok N):okS τ.sess:=by
 intro i hi
 unfold nextS
 rcases Nat.eq_zero_or_pos i with rfl|h0
 ·have:=ho.ids _ (getElem_mem hi)
  show (0:Int)<_
  omega
 ·obtain ⟨k,rfl⟩:∃k,i=k+1:=⟨i-1,by omega⟩
  rw [take_succ_eq_append_getElem om,IT]
  exact (pairwise_iff_getElem.1 (pairwise_map.1 ho.ssorted)) k (k+1) om hi om
/-! ### Restored -/
def DT (z:Int) (τ:Tr) (e:En):Tr:=if z<e.zx then DS τ e else τ
def KQ (τ:Tr) (l:List En):Tr:=l.foldl (DT τ.zx) τ
theorem Qn (τ:Tr) {l:List En} {i:Nat} (hi:i<l.length):KQ τ (l.take (i+1))=DT τ.zx (KQ τ (l.take i)) l[i]:=by
 unfold KQ
 rw [take_succ_eq_append_getElem hi,foldl_append];rfl
theorem YZ {z:Int} {p:HP}:∀{l:List En} {τ:Tr} {N:Nat},τ.Ok N→(∀e∈l,TxA p e.x e.subs)→(l.foldl (DT z) τ).Ok (N+Y7 l)
 |[],_,_,h,_=>h
 |e::l,τ,N,h,hl=>by
  have hs:(DT z τ e).Ok (N+(1+e.subs.length)):=by
   unfold DT
   split
   ·exact Un h (hl e mem_cons_self)
   ·exact h.more om
  exact (YZ (l:=l) hs (fun x hx=>hl x (mem_cons_of_mem _ hx))).more (by unfold Y7;rw [map_cons,sum_cons];omega)
theorem TL {z:Int}:∀{l:List En} {τ:Tr},(∀e∈l,z<e.zx)→l.foldl (DT z) τ=Bb τ l
 |[],_,_=>rfl
 |e::l,τ,h=>by
  show l.foldl (DT z) (DT z τ e)=Bb (DS τ e) l
  unfold DT
  rw [if_pos (h e mem_cons_self)]
  exact TL fun x hx=>h x (mem_cons_of_mem _ hx)
def zs:List UInt8:=List.replicate 64 0
theorem AHu:zs.length=64:=rfl
structure Dk where
 now:List (List UInt8)
 old:List (Int×List UInt8)
 acts:Int
 left:Int
 dead:Bool
structure Dk.Ok (δ:Dk):Prop where
 sec:∀s∈δ.now,s.length=64
 olds:∀x∈δ.old,x.2.length=64∧0≤x.1∧x.1<δ.now.length
 nodup:(δ.old.map (·.1)).Nodup
 big:δ.now.length≤32768
 acts0:0≤δ.acts
 left0:0≤δ.left∧δ.left≤9223372036854775807
abbrev Jd (s:List UInt8):List Value:=s.map Co
def AE5 (s:List UInt8):Value:= .agg (Jd s).toArray
def DK (l:List (List UInt8)):List Value:=l.flatMap Jd
def M4 (m:List (Int×List UInt8)):List (Value×Value):=m.map fun x=>(AA x.1,AE5 x.2)
theorem Fy (s:List UInt8):∀v∈Jd s,AB v=true:=by simp [AB]
theorem H6 {l:List (List UInt8)} (h:∀s∈l,s.length=64):(DK l).length=l.length*64:=by
 induction l with
 |nil=>rfl
 |cons s l ih=>simp [DK] at *;rw [ih h.2,h.1];omega
theorem PV {l:List (List UInt8)} (h:∀s∈l,s.length=64) {n:Nat} (hn:n<l.length):((DK l).drop (n*64)).take 64=Jd l[n]:=by
 induction l generalizing n with
 |nil=>simp at hn
 |cons s l ih=>
  have hs:=h s (by simp)
  have hl:∀t∈l,t.length=64:=fun t ht=>h t (mem_cons_of_mem _ ht)
  cases n with
  |zero=>simp [DK,take_append,hs]
  |succ n=>
   have:(n+1)*64=s.length+n*64:=by omega
   rw [show DK (s::l)=Jd s++DK l from by simp [DK],this]
   rw [drop_append,drop_eq_nil_of_le (by simp),nil_append]
   simp only [length_map,Nat.add_sub_cancel_left]
   exact ih hl (by simpa using hn)
theorem Jf {l:List (List UInt8)} (h:∀s∈l,s.length=64) {n:Nat} (hn:n<l.length) {t:List UInt8} (ht:t.length=64):CX (DK l) (n*64) (Jd t)=DK (l.set n t):=by
 induction l generalizing n with
 |nil=>simp at hn
 |cons s l ih=>
  have hs:=h s (by simp)
  have hl:∀t∈l,t.length=64:=fun t ht=>h t (mem_cons_of_mem _ ht)
  cases n with
  |zero=>
   simp only [Nat.zero_mul,set_cons_zero]
   simp [CX,DK,ht,hs,drop_append]
  |succ n=>
   have e:(n+1)*64=s.length+n*64:=by omega
   have:=ih hl (n:=n) (by simpa using hn)
   simp only [set_cons_succ]
   rw [show DK (s::l)=Jd s++DK l from by simp [DK],show DK (s::l.set n t)=Jd s++DK (l.set n t) from by simp [DK],←this,e]
   simp [CX,take_append,drop_append,take_of_length_le,drop_eq_nil_of_le,Nat.add_sub_cancel_left,Nat.add_assoc]
def DQ (d:Nat) (δ:Dk):HP:=fun h=> ∃x:Nat×Nat,δ.Ok∧
 CP [AW d [.slice (some ⟨x.1,0,none⟩) δ.now.length δ.now.length, .map (some x.2),AA δ.acts,AA δ.left, .bool δ.dead] 86,
  AW x.1 (DK δ.now) 110,mapR x.2 (M4 δ.old)] h
section
variable {W:World} {n:Nat} {ds:List Deferred} {E:Bi} {L R:List HP} {X:Act→World→Prop}
theorem G.dkOpen {d:Nat} {δ:Dk} (hL:BJ (DQ d δ) L R) (h:∀nb ob,δ.Ok→G W n ds E (AW d [.slice (some ⟨nb,0,none⟩) δ.now.length δ.now.length, .map (some ob),AA δ.acts,AA δ.left, .bool δ.dead] 86::
  AW nb (DK δ.now) 110::mapR ob (M4 δ.old)::R) X):G W n ds E L X:=
 G.focus hL (G.open (q:=fun x:Nat×Nat=>[AW d [.slice (some ⟨x.1,0,none⟩) δ.now.length δ.now.length, .map (some x.2),AA δ.acts,AA δ.left, .bool δ.dead] 86,
  AW x.1 (DK δ.now) 110,mapR x.2 (M4 δ.old)]) (φ:=fun _=>δ.Ok) (fun _ hp=>hp) fun x hx=>h x.1 x.2 hx)
theorem G.dkFold {d nb ob:Nat} {δ:Dk} {l l1:List Value} {ents:List (Value×Value)} (hL:A4 [AW d l 86,AW nb l1 110,mapR ob ents] L R)
  (h1:l=[.slice (some ⟨nb,0,none⟩) δ.now.length δ.now.length, .map (some ob),AA δ.acts,AA δ.left, .bool δ.dead]) (h2:l1=DK δ.now) (h3:ents=M4 δ.old) (hok:δ.Ok)
  (h:G W n ds E (DQ d δ::R) X):G W n ds E L X:=by
 subst h1;subst h2;subst h3
 exact G.fold hL (fun _ hp=>⟨(nb,ob),hok,hp⟩) h
end
def Dk.new (n:Int):Dk:=⟨List.replicate n.toNat zs,[],0,0,false⟩
def TB (left:Int):Int:=if left=0 then 0 else if left-1>0 then 0 else 2
def Pv (left:Int):Int:=if left=0 then 0 else left-1
def R5 (left:Int) (dead:Bool):Bool:=if left=0 then dead else if left-1>0 then dead else true
def Dk.act (δ:Dk):Dk×Int:=({δ with acts:=δ.acts+1,left:=Pv δ.left,dead:=R5 δ.left δ.dead},TB δ.left)
def Dk.has (δ:Dk) (n:Int):Bool:=decide (0≤n)&&decide (n<δ.now.length)
def Dk.read (δ:Dk) (n:Int):List UInt8×Int:=
 if δ.dead then ([],2) else if δ.has n=false then ([],20) else (δ.now.getD n.toNat [],0)
def Dk.put (δ:Dk) (n:Int) (s:List UInt8):Dk:=
 {δ with now:=δ.now.set n.toNat s,old:=if (AC δ.old n).isSome then δ.old else CF δ.old n (δ.now.getD n.toNat [])}
def Dk.write (δ:Dk) (n:Int) (s:List UInt8):Dk×Int:=
 if δ.dead then (δ,2) else if δ.has n=false∨s.length≠64 then (δ,20) else (δ.put n s).act
def Dk.sync (δ:Dk):Dk×Int:=
 if δ.dead then (δ,2) else if δ.act.2=0 then ({δ.act.1 with old:=[]},0) else (δ.act.1,δ.act.2)
theorem Dk.Ok.acted {δ:Dk} (h:δ.Ok):δ.act.1.Ok:=by
 obtain ⟨a,b,c,d,e,f⟩:=h
 refine ⟨a,b,c,d,by simp [Dk.act];omega,?_⟩
 simp only [Dk.act,Pv]
 split<;>omega
theorem QY {β:Type} {m:List (Int×β)} {k:Int} {b:β} (h:AC m k=some b):(k,b)∈m:=by
 induction m with
 |nil=>cases h
 |cons x m ih=>
  obtain ⟨a,c⟩:=x
  by_cases hk:k=a
  ·subst hk;simp [AC] at h;simp [h]
  ·simp [AC,hk] at h;exact mem_cons_of_mem _ (ih h)
theorem Pe {β:Type} {m:List (Int×β)} {k:Int} (h:AC m k=none):k∉m.map (·.1):=by
 induction m with
 |nil=>simp
 |cons x m ih=>
  obtain ⟨a,c⟩:=x
  by_cases hk:k=a
  ·subst hk;simp [AC] at h
  ·simp [AC,hk] at h;simp [hk,ih h]
theorem SE {δ:Dk} {n:Int} (h:δ.has n=true):0≤n∧n<δ.now.length∧n.toNat<δ.now.length:=by
 simp [Dk.has] at h;omega
theorem Dk.Ok.putOk {δ:Dk} (h:δ.Ok) {n:Int} {s:List UInt8} (hn:δ.has n=true) (hs:s.length=64):(δ.put n s).Ok:=by
 obtain ⟨a,b,c,d,e,f⟩:=h
 obtain ⟨h0,h1,h2⟩:=SE hn
 have hget:δ.now.getD n.toNat []=δ.now[n.toNat]:=by simp [h2]
 refine ⟨fun t ht=>?_,fun x hx=>?_,?_,by simpa [Dk.put] using d,e,f⟩
 ·simp only [Dk.put] at ht
  rcases mem_or_eq_of_mem_set ht with ht|rfl
  ·exact a t ht
  ·exact hs
 ·simp only [Dk.put,length_set] at hx ⊢
  split at hx
  ·exact b x hx
  ·rename_i hn'
   rw [Jh (by simpa using hn')] at hx
   simp only [mem_append,mem_singleton] at hx
   rcases hx with hx|rfl
   ·exact b x hx
   ·exact ⟨by rw [hget];exact a _ (getElem_mem _),h0,h1⟩
 ·simp only [Dk.put]
  split
  ·exact c
  ·rename_i hn'
   have hn':AC δ.old n=none:=by simpa using hn'
   rw [Jh hn',map_append]
   refine nodup_append.2 ⟨c,by simp,fun a ha b hb=>?_⟩
   simp at hb;subst hb
   exact fun hab=>Pe hn' (hab▸ha)
theorem Dk.Ok.cleared {δ:Dk} (h:δ.Ok):({δ with old:=[]}:Dk).Ok:=⟨h.sec,by simp,by simp,h.big,h.acts0,h.left0⟩
def LC (x:Int):UInt8:=UInt8.ofNat (x%256).toNat
def CU (n:Int):Nat→Bs
 |0=>[]
 |k+1=>CU (n/256) k++[LC n]
theorem Av (k:Nat):∀n,(CU n k).length=k:=by
 induction k with
 |zero=>intro n;rfl
 |succ k ih=>intro n;simp [CU,ih]
theorem AIK (k:Nat):∀(n:Int) (i:Nat),i<k→(CU n k)[k-1-i]?=some (LC (n/256^i)):=by
 induction k with
 |zero=>intro n i h;omega
 |succ k ih=>
  intro n i h
  simp only [CU]
  cases i with
  |zero=>
   rw [List.getElem?_append_right (by rw [Av];omega),Av]
   simp
  |succ i=>
   have:=ih (n/256) i om
   rw [List.getElem?_append_left (by rw [Av];omega),show k+1-1-(i+1)=k-1-i by omega,this,Int.ediv_ediv_of_nonneg om]
   congr 3
   rw [Int.pow_succ];exact Int.mul_comm _ _
theorem AIr (x:Int):Co (LC x)= .int .u8 (IntKind.u8.wrap x):=by
 show Value.int .u8 _=Value.int .u8 (x%256)
 congr 1
 simp [LC];omega
def Ja (l:List Value) (off:Nat) (n:Int) (k i:Nat):List Value:=l.take (off+(k-i))++Bf ((CU n k).drop (k-i))++l.drop (off+k)
theorem AFj (l:List Value) (off:Nat) (n:Int) (k:Nat):Ja l off n k 0=l:=by
 simp [Ja,Bf,drop_eq_nil_of_le,Av]
theorem AFa (l:List Value) (off:Nat) (n:Int) (k:Nat):Ja l off n k k=CX l off (Bf (CU n k)):=by
 simp [Ja,CX,Bf,Av]
theorem WB {l:List Value} {off:Nat} {n:Int} {k i:Nat} (hi:i<k) (hl:off+k≤l.length):(Ja l off n k i).set (off+(k-1-i)) (Co (LC (n/256^i)))=Ja l off n k (i+1):=by
 have h1:=AIK k n i hi
 have hlen:(CU n k).length=k:=Av k n
 unfold Ja
 have e1:l.take (off+(k-i))=l.take (off+(k-1-i))++[l[off+(k-1-i)]'om]:=by
  rw [show off+(k-i)=off+(k-1-i)+1 by omega,take_succ_eq_append_getElem om]
 have e2:(CU n k).drop (k-(i+1))=LC (n/256^i)::(CU n k).drop (k-i):=by
  have:k-(i+1)=k-1-i:=by omega
  rw [this,drop_eq_getElem_cons om]
  have h3:(CU n k)[k-1-i]'om=LC (n/256^i):=by
   rw [List.getElem?_eq_getElem om] at h1;exact Option.some.inj h1
  rw [h3,show k-1-i+1=k-i by omega]
 rw [e1,e2,show off+(k-(i+1))=off+(k-1-i) by omega]
 rw [append_assoc,append_assoc,append_assoc,set_append_right _ _ (by simp;omega)]
 have:(l.take (off+(k-1-i))).length=off+(k-1-i):=by rw [length_take];omega
 rw [this,Nat.sub_self]
 simp [Bf]
theorem ABZ {l:List Value} {off:Nat} {n:Int} {k i:Nat} (hi:i≤k) (hl:off+k≤l.length):(Ja l off n k i).length=l.length:=by
 simp [Ja,Bf,Av];omega
theorem AJA (i:Nat):(2:Int)^(8*i)=256^i:=by rw [Int.pow_mul];rfl
theorem AHy {n:Int} {i:Nat} (hi:i≤7):IntKind.u8.wrap (n.fdiv (2^min (8*(i:Int)).toNat IntKind.i64.bits))=IntKind.u8.wrap (n/256^i):=by
 have e:min (8*(i:Int)).toNat IntKind.i64.bits=8*i:=by
  have:IntKind.i64.bits=64:=rfl
  omega
 rw [e,AJA,Int.fdiv_eq_ediv_of_nonneg _ (Int.le_of_lt (Int.pow_pos dQ))]
def Ba (s:Bs):Int:=IntKind.i64.wrap (P0 s 0)
theorem N9 (s t:Bs):∀n,P0 (s++t) n=P0 t (P0 s n):=by
 induction s with
 |nil=>intro n;rfl
 |cons c s ih=>intro n;simp [P0,ih]
theorem WQ {s:Bs} {i:Nat} (hi:i<s.length):IntKind.i64.wrap (BitVec.ofInt IntKind.i64.bits (IntKind.i64.wrap (IntKind.i64.wrap (P0 (s.take i) 0)*2^min (8:Int).toNat IntKind.i64.bits)) ||| BitVec.ofInt IntKind.i64.bits (IntKind.i64.wrap (s[i].toNat:Int))).toNat=IntKind.i64.wrap (P0 (s.take (i+1)) 0):=by
 rw [take_succ_eq_append_getElem hi,N9]
 have e:IntKind.i64.wrap (IntKind.i64.wrap (P0 (s.take i) 0)*2^min (8:Int).toNat IntKind.i64.bits)=IntKind.i64.wrap (P0 (s.take i) 0*256):=by
  have:(2:Int)^min (8:Int).toNat IntKind.i64.bits=256:=rfl
  rw [this,HO,HO,HO];omega
 rw [e]
 exact YG _ _
/-! ### The sum -/
def Sg (h:Int) (c:UInt8):Int:=IntKind.u32.wrap (IntKind.u32.wrap (BitVec.ofInt 32 h^^^BitVec.ofInt 32 (IntKind.u32.wrap c.toNat)).toNat*16777619)
def Km (s:Bs):Int:=s.foldl Sg 2166136261
theorem Z2 {s:Bs} {i:Nat} (hi:i<s.length):Km (s.take (i+1))=Sg (Km (s.take i)) s[i]:=by
 rw [take_succ_eq_append_getElem hi,Km,foldl_append];rfl
theorem AGX (x:Int):IntKind.u32.wrap x=x%4294967296:=rfl
theorem WM (s:Bs):0≤Km s∧Km s<4294967296:=by
 rcases eq_nil_or_concat s with rfl|⟨t,c,rfl⟩
 ·exact ⟨by decide,by decide⟩
 ·rw [Km,concat_eq_append,foldl_append]
  simp only [foldl_cons,foldl_nil]
  rw [Sg,AGX];omega
/-! ### Records, marks -/
def EM (s:Bs):Bs:=CU s.length 2++s
def Bo (s:Bs):Bs:=EM s++CU (Km (EM s)) 4
theorem E9 (s:Bs):(Bo s).length=s.length+6:=by simp [Bo,EM,Av];omega
def AH (l:List Bs):Bs:=l.flatMap Bo
theorem Cy (l m:List Bs):AH (l++m)=AH l++AH m:=by simp [AH]
theorem AEB {l:List Bs} {s:Bs} (h:s∈l):s.length+6≤(AH l).length:=by
 induction l with
 |nil=>simp at h
 |cons x l ih=>
  have e:AH (x::l)=Bo x++AH l:=by simp [AH]
  rw [e,length_append,E9]
  rcases mem_cons.1 h with rfl|h
  ·omega
  ·have:=ih h;omega
theorem D0 (l:List Bs):l.length≤(AH l).length:=by
 induction l with
 |nil=>simp
 |cons x l ih=>
  have e:AH (x::l)=Bo x++AH l:=by simp [AH]
  rw [e,length_append,E9,length_cons];omega
theorem It (l:List Bs) (i:Nat):(AH (l.take i)).length≤(AH l).length:=by
 have e:AH l=AH (l.take i)++AH (l.drop i):=by rw [←Cy,take_append_drop]
 rw [e,length_append];omega
theorem KU {l:List Bs} {i:Nat} (hi:i<l.length):AH (l.take (i+1))=AH (l.take i)++Bo l[i]:=by
 rw [take_succ_eq_append_getElem hi,Cy];simp [AH]
theorem Vx {p q:Bs} {k off:Nat} {z:Value} (ho:off=p.length) (hq:q.length≤k):CX (Bf p++List.replicate k z) off (Bf q)=Bf (p++q)++List.replicate (k-q.length) z:=by
 subst ho
 rw [←CK p,C4]
 simp [CX,drop_append,CK]
structure Mk where
 count:Int
 area:Int
 len:Int
 num:Int
 a:Int
 b:Int
def D7 (m:Mk):List Value:=[AA m.count,AA m.area,AA m.len,AA m.num,AA m.a,AA m.b]
def Mk.sec (m:Mk):Bs:=[87,77]++CU m.count 4++CU m.area 1++CU m.len 4++CU m.num 4++CU m.a 8++CU m.b 8++List.replicate 29 0++CU m.count 4
def Mk.part (m:Mk):Nat→Bs
 |0=>[87,77]
 |1=>CU m.count 4
 |2=>CU m.area 1
 |3=>CU m.len 4
 |4=>CU m.num 4
 |5=>CU m.a 8
 |_=>CU m.b 8
def Mk.pre (m:Mk) (j:Nat):Bs:=(List.range (j+1)).flatMap m.part
theorem Mk.pre_succ (m:Mk) (j:Nat):m.pre (j+1)=m.pre j++m.part (j+1):=by
 unfold Mk.pre;rw [range_succ,flatMap_append];simp
theorem Mk.pre_len (m:Mk):(m.pre 0).length=2∧(m.pre 1).length=6∧(m.pre 2).length=7∧(m.pre 3).length=11∧(m.pre 4).length=15∧(m.pre 5).length=23∧(m.pre 6).length=31:=by
 simp [Mk.pre,range_succ,Mk.part,Av]
abbrev zB:Value:= .int .u8 0
def Mk.at (m:Mk) (j k:Nat):List Value:=Bf (m.pre j)++List.replicate k zB
theorem Mk.at_step (m:Mk) {j k off:Nat} {q:Bs} (ho:off=(m.pre j).length) (hq:q=m.part (j+1)) (hl:q.length≤k):CX (m.at j k) off (Bf q)=m.at (j+1) (k-q.length):=by
 unfold Mk.at;rw [Vx ho hl,m.pre_succ,hq]
theorem Mk.at_end (m:Mk):CX (m.at 6 33) 60 (Bf (CU m.count 4))=Bf m.sec:=by
 have e:m.at 6 33=Bf (m.pre 6++List.replicate 29 0)++List.replicate 4 zB:=by
  unfold Mk.at
  rw [C4,append_assoc]
  rfl
 rw [e,Vx (by rw [length_append,m.pre_len.2.2.2.2.2.2,length_replicate]) (by simp [Av]),Av]
 unfold Mk.sec
 generalize List.replicate 29 (0:UInt8)=z29
 simp [Mk.pre,range_succ,Mk.part]
theorem Mk.sec_len (m:Mk):m.sec.length=64:=by simp [Mk.sec,Av]
def Af (δ:Dk):Int:=((δ.now.length:Int)-2)/2
theorem FC (b off k c:Nat) (n:Int) (l:List Value) (T:TypeId) (hk:k≤8) (hl:off+k≤l.length):Fn prog 139 #[.slice (some ⟨b,off,none⟩) k c,AA n] [AW b l T] fun v L=>v= .tuple #[]∧L=[AW b (CX l off (Bf (CU n k))) T]:=by
 refine Fn.intro func139 Y Y fun F W=>?_
 refine Z ?_
 refine .ptCast O (AFj l off n k).symm ?_
 refine .loopK (ι:=Nat) (fun q E=>(7,AA q)::E) (fun q=>[AW b (Ja l off n k q) T]) (fun q=>q≤k) (fun q=>k-q) (0) (ts:=[0,1,6]) O (Nat.zero_le _) O O ?_
 rintro i hi
 refine Z ?_
 refine .condD Y (fun h8=>?_) (fun h8=>?_)
 ·have hi2:i<k:=by omega
  refine Z ?_
  refine .q (.mul Y Y om) Y (.q (.shr Y Y (by first|decide|omega)) Y (.q (.conv Y underlying3 underlying5) Y (.q (.indexAddr Y Y Bw om) Y (.oq (.store Y Y Y AKf ?c16 (Bd _ _)) ?_))))
  case c16=>rw [ABZ om hl];omega
  rintro v L' rfl
  refine Z ?_
  refine .ptCast (l':=Ja l off n k (i+1)) O (by rw [AHy om,←AIr,show off+((k:Int)-1-i).toNat*1=off+(k-1-i) by omega];exact WB om hl) ?_
  exact .rk (i+1) om om O
 refine Z ?_
 refine .done_n ?_
 have hi3:i=k:=by omega
 subst hi3
 refine .ptCast O (AFa l off n i) ?_
 exact .vv
theorem Eb (s:Bs) (hs:s.length≤9223372036854775807):Fn prog 161 #[AF s] [] fun v L=>v=AA (Ba s)∧L=[]:=by
 refine Fn.intro func161 Y Y fun F W=>?_
 refine Z ?_
 refine .loopK (ι:=Nat) (fun q E=>(7,AA q)::(3,AA (IntKind.i64.wrap (P0 (s.take q) 0)))::E) (fun q=>[]) (fun q=>q≤s.length) (fun q=>s.length-q) (0) (ts:=[0,2,6]) O (Nat.zero_le _) O O ?_
 rintro i hi
 refine Z ?_
 refine .condD Y (fun h8=>?_) (fun h8=>?_)
 ·have hi2:i<s.length:=by simpa [Bz] using h8
  refine Z ?_
  refine .q (.shl Y Y (by first|decide|omega)) Y (Z ?_)
  refine .q (.strIndex (c:=s[i]) Y Y underlying9 om (by simp)) Y (.q (.conv Y underlying5 underlying3) Y (.q (.as (v':=AA (IntKind.i64.wrap (P0 (s.take (i+1)) 0))) (by exact congrArg (Value.int .i64) (WQ hi2)) (.or Y Y)) Y (Z ?_)))
  exact .rk (i+1) om om O
 refine Z ?_
 exact .dn Y Y ⟨by have hi3:i=s.length:=(by have h9:¬(i:Int)<s.length:=(by simpa [Bz] using h8);omega);rw [hi3,take_length];rfl,rfl⟩
theorem ADx (s:Bs) (hs:s.length≤9223372036854775807):Fn prog 140 #[AF s] [] fun v L=>v= .int .u32 (Km s)∧L=[]:=by
 refine Fn.intro func140 Y Y fun F W=>?_
 refine Z ?_
 refine .loopK (ι:=Nat) (fun q E=>(7,AA q)::(3, .int .u32 (Km (s.take q)))::E) (fun q=>[]) (fun q=>q≤s.length) (fun q=>s.length-q) (0) (ts:=[0,2,6]) O (Nat.zero_le _) O O ?_
 rintro i hi
 refine Z ?_
 refine .condD Y (fun h8=>?_) (fun h8=>?_)
 ·have hi2:i<s.length:=by simpa [Bz] using h8
  refine Z ?_
  refine .q (.strIndex (c:=s[i]) Y Y underlying9 om (by simp)) Y (.q (.conv Y underlying5 underlying230) Y (.u (.xor Y Y) (.q (.as (v':= .int .u32 (Km (s.take (i+1)))) (by rw [Z2 hi2];rfl) (.int Y Y Y)) Y (Z ?_))))
  exact .rk (i+1) om om O
 refine Z ?_
 exact .dn Y Y ⟨by have hi3:i=s.length:=(by have h9:¬(i:Int)<s.length:=(by simpa [Bz] using h8);omega);rw [hi3,take_length],rfl⟩
/- not in this seat -/
theorem O1 (d:Nat) (now old:Value) (acts left:Int) (dead:Bool) (hA:0≤acts∧acts<4611686018427387904) (hl:0≤left∧left≤9223372036854775807):Fn prog 138 #[AD d] [AW d [now,old,AA acts,AA left, .bool dead] 86] fun v L=>v=AA (TB left)∧L=[AW d [now,old,AA (acts+1),AA (Pv left), .bool (R5 left dead)] 86]:=by
 refine Fn.intro func138 Y Y fun F W=>?_
 refine Z ?_
 refine .condD Y (fun h14=>?_) (fun h14=>?_)
 ·refine Z ?_
  have e1:TB left=0:=by unfold TB;rw [if_pos h14]
  have e2:Pv left=left:=by unfold Pv;rw [if_pos h14,h14]
  have e3:R5 left dead=dead:=by unfold R5;rw [if_pos h14]
  rw [e1,e2,e3]
  exact .vv
 refine Z ?_
 refine .condD Y (fun h26=>?_) (fun h26=>?_)
 ·refine Z ?_
  have e1:TB left=0:=by unfold TB;rw [if_neg h14,if_pos h26]
  have e2:Pv left=left-1:=by unfold Pv;rw [if_neg h14]
  have e3:R5 left dead=dead:=by unfold R5;rw [if_neg h14,if_pos h26]
  rw [e1,e2,e3]
  exact .vv
 refine Z ?_
 have e1:TB left=2:=by unfold TB;rw [if_neg h14,if_neg h26]
 have e2:Pv left=left-1:=by unfold Pv;rw [if_neg h14]
 have e3:R5 left dead=true:=by unfold R5;rw [if_neg h14,if_neg h26]
 rw [e1,e2,e3]
 exact .vv
theorem T7 (d:Nat) (a:Option Addr) (k c:Nat) (x y z u:Value) (n:Int):Fn prog 137 #[AD d,AA n] [AW d [.slice a k c,x,y,z,u] 86] fun v L=>v= .bool (decide (0≤n)&&decide (n<k))∧L=[AW d [.slice a k c,x,y,z,u] 86]:=by
 refine Fn.intro func137 Y Y fun F W=>?_
 refine Z ?_
 refine .dec (t:=7) Y (fun h1_7=>?_) (fun h1_7=>?_)
 ·refine .kDT (t:=6) Y h1_7 (Z ?_)
  exact .dn Y Y ⟨by simp;omega,rfl⟩
 refine .kDF (t:=6) Y h1_7 (Z ?_)
 exact .dn Y Y ⟨by simp;omega,rfl⟩
theorem AAu (d:Nat) (δ:Dk):Fn prog 144 #[AD d] [DQ d δ] fun v L=>v=AA δ.now.length∧L=[DQ d δ]:=by
 refine Fn.intro func144 Y Y fun F W=>?_
 refine .dkOpen .here fun nb ob hok=>(Z ?_)
 refine .dkFold (δ:=δ) O Y Y Y hok ?_
 exact .vv
theorem Zr (d:Nat) (δ:Dk):Fn prog 101 #[AD d] [DQ d δ] fun v L=>v= .bool δ.dead∧L=[DQ d δ]:=by
 refine Fn.intro func101 Y Y fun F W=>?_
 refine .dkOpen .here fun nb ob hok=>(Z ?_)
 refine .dkFold (δ:=δ) O Y Y Y hok ?_
 exact .vv
/- not in this seat -/
/- not in this seat -/
theorem MW (d:Nat) (δ:Dk) (hA:δ.acts<4611686018427387904):Fn prog 73 #[AD d] [DQ d δ] fun v L=>v=AA δ.sync.2∧L=[DQ d δ.sync.1]:=by
 refine Fn.intro func73 Y Y fun F W=>?_
 refine .dkOpen .here fun nb ob hok=>?_
 have hl0:=hok.left0
 have ha0:=hok.acts0
 refine Z ?_
 refine .condB Y (fun h7=>?_) (fun h7=>?_)
 ·refine Z ?_
  have e:δ.sync=(δ,2):=by unfold Dk.sync;simp only [h7,if_true]
  rw [e]
  refine .dkFold (δ:=δ) O Y Y Y hok ?_
  exact .vv
 refine Z ?_
 refine .oq (.c func138 [_] (O1 _ _ _ _ _ _ ?hA8 ?hl9)) ?_
 case hA8=>omega
 case hl9=>omega
 rintro v L' ⟨rfl,rfl⟩
 refine Z ?_
 refine .condD Y (fun h11=>?_) (fun h11=>?_)
 ·refine Z ?_
  refine .oq (.mapClear Y Y underlying84) ?_
  rintro v L' rfl
  refine Z ?_
  have e:δ.sync=({δ.act.1 with old:=[]},0):=by unfold Dk.sync Dk.act;simp only [h7,h11,if_true,if_false,Bool.false_eq_true]
  rw [e,h11]
  refine .dkFold (δ:={δ.act.1 with old:=[]}) O Y Y Y hok.acted.cleared ?_
  exact .vv
 refine Z ?_
 have e:δ.sync=(δ.act.1,δ.act.2):=by unfold Dk.sync Dk.act;simp only [h7,h11,if_false,Bool.false_eq_true]
 rw [e]
 refine .dkFold (δ:=δ.act.1) O Y Y Y hok.acted ?_
 exact .vv
theorem RD (d:Nat) (δ:Dk) (n:Int):Fn prog 103 #[AD d,AA n] [DQ d δ] fun v L=>v= .tuple #[AF (δ.read n).1,AA (δ.read n).2]∧L=[DQ d δ]:=by
 refine Fn.intro func103 Y Y fun F W=>?_
 refine .dkOpen .here fun nb ob hok=>(Z ?_)
 refine .condB Y (fun h7=>?_) (fun h7=>?_)
 ·refine Z ?_
  have e:δ.read n=([],2):=by unfold Dk.read;simp only [h7,if_true]
  rw [e]
  refine .dkFold (δ:=δ) O Y Y Y hok ?_
  exact .vv
 refine Z ?_
 refine .cv func137 [_,_] (T7 _ _ _ _ _ _ _ _ _) ?_
 refine Z ?_
 refine .condB Y (fun h12=>?_) (fun h12=>?_)
 ·refine Z ?_
  have e:δ.read n=([],20):=by unfold Dk.read;have hh:δ.has n=false:=(by have:=h12;simp only [Bool.not_eq_true'] at this;exact this);simp only [h7,hh,if_true,if_false,Bool.false_eq_true]
  rw [e]
  refine .dkFold (δ:=δ) O Y Y Y hok ?_
  exact .vv
 have hh:δ.has n=true:=by simpa [Dk.has] using h12
 obtain ⟨q0,q1,q2⟩:=SE hh
 have q3:(Jd δ.now[n.toNat]).length=64:=by simpa using hok.sec _ (getElem_mem q2)
 have q4:=H6 hok.sec
 refine Z ?_
 refine .q (.indexAddr Y Y NH om) Y (.q (.loadAs (vs:=Jd δ.now[n.toNat]) Y MT O om (by rw [Nat.zero_add];exact PV hok.sec q2)) Y (.oq (.allocA Kl) ?_))
 rintro v L' ⟨b5_7,rfl,rfl⟩
 refine .oq (.storeA Y Y ?c25 Ix ?c28 ?c26 (Bd _ _)) ?_
 case c25=>exact Fy _
 case c28=>exact q3
 case c26=>rw [q3];decide
 rintro v L' rfl
 refine Z ?_
 rw [S9 (vs:=Jd δ.now[n.toNat]) (by rw [q3];rfl)]
 refine Z ?_
 refine .q (.arrSlice Y Oq (by first|exact rfl|rfl) (by first|exact rfl|rfl) om) Y (.q (.bytesPt (cs:=δ.now[n.toNat]) Y underlying111 underlying5 underlying9 O (by show (List.drop 0 _).take 64=_;rw [drop_zero];exact take_of_length_le (by rw [q3];decide)) (by rw [q3];decide) dQ) Y (Z ?_))
 have e:δ.read n=(δ.now[n.toNat],0):=by unfold Dk.read;simp [h7,hh,q2]
 rw [e]
 refine .dkFold (δ:=δ) O Y Y Y hok ?_
 exact .vv
theorem H0 (d:Nat) (δ:Dk) (n:Int) (s:List UInt8) (hA:δ.acts<4611686018427387904):Fn prog 70 #[AD d,AA n,AF s] [DQ d δ] fun v L=>v=AA (δ.write n s).2∧L=[DQ d (δ.write n s).1]:=by
 refine Fn.intro func70 Y Y fun F W=>?_
 refine .dkOpen .here fun nb ob hok=>?_
 have hl0:=hok.left0
 have ha0:=hok.acts0
 refine .sr (.an Y (.seq (.block (.sm Y (.nf Y AFt (.u (.ld Y Wr) (.an Y (.condB Y (fun h9=>?_) (fun h9=>?_)))))))))
 ·refine .sr (.an Y (.ret (.blk_r (.then_r ?_))))
  have e:δ.write n s=(δ,2):=by unfold Dk.write;simp only [h9,if_true]
  rw [e]
  refine .dkFold (δ:=δ) O Y Y Y hok ?_
  exact .vv
 refine .sm Y (.m Y (.cv func137 [_,_] (T7 _ _ _ _ _ _ _ _ _) ?_))
 refine .u (.not Y) (.m Y (.bool (t:=19) Y (fun h3_19=>?_) (fun h3_19=>?_)))
 ·refine .kB (t:=18) Y h3_19 (.gk (.gk (.gk (.pT Y Y (.an Y (.condT Y (.sr (.an Y (.ret (.blk_r (.then_r ?_)))))))))))
  have e:δ.write n s=(δ,20):=by unfold Dk.write;have hh:δ.has n=false:=(by have:=h3_19;simp only [Bool.not_eq_true'] at this;exact this);simp [h9,hh]
  rw [e]
  refine .dkFold (δ:=δ) O Y Y Y hok ?_
  exact .vv
 have hh:δ.has n=true:=by simpa [Dk.has] using h3_19
 obtain ⟨q0,q1,q2⟩:=SE hh
 have q3:(Jd δ.now[n.toNat]).length=64:=by simpa using hok.sec _ (getElem_mem q2)
 have q4:=H6 hok.sec
 refine .kB (t:=18) Y h3_19 (.gr (.m Y (.gr (.q (.strlen Y underlying9 Y) Y (.gr (.ui Y Y Y (.pF Y Y (.an Y (.condN Y (fun h14=>?_) (fun h14=>?_))))))))))
 ·refine .sr (.an Y (.ret (.blk_r (.then_r ?_))))
  have e:δ.write n s=(δ,20):=by unfold Dk.write;have q6:s.length≠64:=om;simp [h9,q6]
  rw [e]
  refine .dkFold (δ:=δ) O Y Y Y hok ?_
  exact .vv
 refine .skip (.blk_n (.then_n (.seq (.sm Y (.nf Y ZB (.u (.ld Y AHW) (.m Y (.q (.lookupOk (m:=δ.old) (enc:=AE5) (Aa.int underlying3) Y Y underlying84 Kl O Y) Y ?_))))))))
 rcases hq:AC δ.old n with _|s0
 ·refine .m Y (.ex Y Y (.ex Y Y (.oq (.allocA Kl) ?_)))
  rintro v L' ⟨b5_9,rfl,rfl⟩
  refine .oq (.storeA Y Y ?c28 Ix ?c31 ?c29 (Bd _ _)) ?_
  case c28=>(first|(simp [AB];done)|(simp [AB,AQ,Value.cells];done))
  case c31=>rfl
  case c29=>decide
  rintro v L' rfl
  refine .an Y (.sm Y (.u (.not Y) (.nt (.condT Y (.draw [12] [[0,1,2,3,4,5,6,7,8,9,10,11,12]] mixed kQ (.g0 (.mv Y Y (.nf Y Y Y ZB (.kv Y (.ld Y AHW) (.mv Y Y (.mv Y Y (.nf Y Y Y TD (.kv Y (.ld Y AB3) (.mv Y Y (.kv Y (.indexAddr Y Y NH om) (.kv Y (.loadAs (vs:=Jd δ.now[n.toNat]) Y MT O om (by rw [Nat.zero_add];exact PV hok.sec q2)) (.hh Y (.mapSet (m:=δ.old) (enc:=AE5) (Aa.int underlying3) Y Y (v:=δ.now[n.toNat]) Y underlying84 Y) ?_)))))))))))))))))
  rintro v L' rfl
  refine D.pf (.seq ?_)
  have q6:s.length=64:=by omega
  have q7:(Jd s).length=64:=by simpa using q6
  refine .draw [6,10] [[0,1,2,3,4,5,6,7,8],[9,10]] mixed kQ (.go [AW d _ 86] O (.k Y (.move Y) (.k Y (.nilp Y) (.k Y (.fieldAddr Y TD) (.k Y (.ld Y AB3) (.k Y (.move Y) (.mv Y Y (.hh Y (.strBytes Y underlying9 underlying111 underlying5) ?_))))))))
  rintro v L' ⟨rfl,b8,c8,rfl⟩
  refine D.kv Y (.toArr Y Oq om) (.kv Y (.loadAr (vs:=Jd s) (m:=s.length) (sz:=1) Y MT O (fun h hp=>Ad hp) om (by rw [take_of_length_le (by simp;omega)])) (.ph (.g0 (.kv Y (.indexAddr Y Y NH om) (.hh Y (.storeA Y Y ?c58 Ix ?c61 ?c59 (Bd _ _)) ?_)))))
  case c58=>exact Fy _
  case c61=>exact q7
  case c59=>rw [q7,q4];omega
  rintro v L' rfl
  refine D.ph (.fin ?_)
  rw [Nat.zero_add,Jf hok.sec q2 q6]
  refine .then_n (.sm Y (.oq (.c func138 [_] (O1 _ _ _ _ _ _ ?hA64 ?hl65)) ?_))
  case hA64=>omega
  case hl65=>omega
  rintro v L' ⟨rfl,rfl⟩
  refine .an Y (.ret ?_)
  have e:δ.write n s=(δ.put n s).act:=by unfold Dk.write;simp [h9,hh,q6]
  rw [e]
  refine .dkFold (δ:=(δ.put n s).act.1) O (by simp [Dk.act,Dk.put]) Y (by simp [Dk.act,Dk.put,hq,q2,M4]) (hok.putOk hh q6).acted ?_
  exact .vv
 have q5:(Jd s0).length=64:=by simpa using (hok.olds _ (QY hq)).1
 refine .m Y (.ex Y Y (.ex Y Y (.oq (.allocA Kl) ?_)))
 rintro v L' ⟨b5_9,rfl,rfl⟩
 refine .oq (.storeA Y Y ?c72 Ix ?c75 ?c73 (Bd _ _)) ?_
 case c72=>exact Fy _
 case c75=>exact q5
 case c73=>rw [q5];decide
 rintro v L' rfl
 refine .an Y (.sm Y (.u (.not Y) (.nt (.condF Y (.sk (.seq ?_))))))
 have q6:s.length=64:=by omega
 have q7:(Jd s).length=64:=by simpa using q6
 refine .draw [6,10] [[0,1,2,3,4,5,6,7,8],[9,10]] mixed kQ (.go [AW d _ 86] O (.k Y (.move Y) (.k Y (.nilp Y) (.k Y (.fieldAddr Y TD) (.k Y (.ld Y AB3) (.k Y (.move Y) (.mv Y Y (.hh Y (.strBytes Y underlying9 underlying111 underlying5) ?_))))))))
 rintro v L' ⟨rfl,b8,c8,rfl⟩
 refine D.kv Y (.toArr Y Oq om) (.kv Y (.loadAr (vs:=Jd s) (m:=s.length) (sz:=1) Y MT O (fun h hp=>Ad hp) om (by rw [take_of_length_le (by simp;omega)])) (.ph (.g0 (.kv Y (.indexAddr Y Y NH om) (.hh Y (.storeA Y Y ?c89 Ix ?c92 ?c90 (Bd _ _)) ?_)))))
 case c89=>exact Fy _
 case c92=>exact q7
 case c90=>rw [q7,q4];omega
 rintro v L' rfl
 refine D.ph (.fin ?_)
 rw [Nat.zero_add,Jf hok.sec q2 q6]
 refine .then_n (.sm Y (.oq (.c func138 [_] (O1 _ _ _ _ _ _ ?hA95 ?hl96)) ?_))
 case hA95=>omega
 case hl96=>omega
 rintro v L' ⟨rfl,rfl⟩
 refine .an Y (.ret ?_)
 have e:δ.write n s=(δ.put n s).act:=by unfold Dk.write;simp [h9,hh,q6]
 rw [e]
 refine .dkFold (δ:=(δ.put n s).act.1) O (by simp [Dk.act,Dk.put]) Y (by simp [Dk.act,Dk.put,hq,q2,M4]) (hok.putOk hh q6).acted ?_
 exact .vv
theorem I5 (s:Bs) (hs:s.length≤2147483648):Fn prog 77 #[AF s] [] fun v L=>(∃a c,v= .slice a (Bo s).length c)∧L=[Ex v (Bo s)]:=by
 refine Fn.intro func77 Y Y fun F W=>?_
 have hsum:=WM (EM s)
 have hh:(EM s).length=s.length+2:=by simp [EM,Av];omega
 refine Z ?_
 refine .oq (.make Y Y Bw K2 Y ⟨by simp,by simp;rfl⟩ ?hc5) ?_
 case hc5=>omega
 rintro v L' ⟨b,rfl,rfl⟩;rw [show ((s.length:Int)+6).toNat=s.length+6 by omega,show (2:Int).toNat=2 from rfl]
 refine Z ?_
 refine .oq (.call func139 Y Y (vs:=[_,_]) Y (FC b 0 2 (s.length+6) s.length _ _ dQ ?hl10)) ?_
 case hl10=>simp
 rintro v L' ⟨rfl,rfl⟩
 refine .nil (.slMake (n:=2) (c:=s.length+6) (xs:=Bf (CU s.length 2)) O om (by simp [CX,CK,Av];omega) (by simp [CX,CK,Av]) (Z ?_))
 refine .oq (.appendS Y Y Y Bw underlying9 K2 Y Y ?hb14 dQ) ?_
 case hb14=>omega
 rintro v L' ⟨⟨a1,c1,rfl⟩,rfl⟩;rw [show 2+s.length=(EM s).length by omega,show Bf (CU (s.length:Int) 2)++s.map Co=Bf (EM s) from (C4 _ _).symm]
 refine Z ?_
 refine .oq (.make Y Y Bw K2 Y ⟨by simp,by simp;rfl⟩ ?hc17) ?_
 case hc17=>omega
 rintro v L' ⟨b2,rfl,rfl⟩;rw [show (4:Int).toNat=4 from rfl]
 refine Z ?_
 refine .q (.bytesBy (cs:=EM s) (n:=(EM s).length) (p:=Ex (.slice a1 (EM s).length c1) (EM s)) Y underlying111 underlying5 underlying9 (fun h hp=>Ad hp) O) Y (.cv func140 [_] (ADx (EM s) om) ?_)
 refine .q (.as (v':=AA (Km (EM s))) (by rw [JA om]) (.conv Y underlying230 underlying3)) Y (.oq (.call func139 Y Y (vs:=[_,_]) Y (FC b2 0 4 4 (Km (EM s)) _ _ dQ ?hl24)) ?_)
 case hl24=>simp
 rintro v L' ⟨rfl,rfl⟩
 refine .nil (.ptCast (l':=Bf (CU (Km (EM s)) 4)) O (S9 (by simp [CK,Av])) ?_)
 refine Z ?_
 refine .oq (.append1 (m:=4) Y Y Y Bw K2 Y Y ?c127 ?c228 (Nat.le_refl _) ?c329 dQ) ?_
 case c127=>exact Fe _
 case c228=>simp [CK,Av]
 case c329=>omega
 rintro v L' ⟨⟨a2,c2,rfl⟩,rfl⟩;rw [show (EM s).length+4=(Bo s).length by rw [E9];omega,show Bf (EM s)++Bf (CU (Km (EM s)) 4)=Bf (Bo s) from (C4 _ _).symm]
 refine Z ?_
 exact .dn Y Y ⟨⟨_,_,Y⟩,Y⟩
theorem AA7 (v:Value) (l:List Bs) (p:HP) (hr:∀h:Hp,p h→CA 1 h v l.length (A1 l)) (hl:(AH l).length≤2147483648):Fn prog 154 #[v] [p] fun u L=>(∃a c,u= .slice a (AH l).length c)∧L=[Ex u (AH l),p]:=by
 refine Fn.intro func154 Y Y fun F W=>?_
 have hll:l.length≤(AH l).length:=D0 l
 refine .rdAny (p:=p) hr O fun aa ca e _=>?_
 subst e
 refine Z ?_
 refine .add (AU 5 1) (Z ?_)
 refine .loopK (ι:=Nat×Value) (fun q E=>(8,AA q.1)::(3,q.2)::E) (fun q=>[Ex q.2 (AH (l.take q.1))]) (fun q=>q.1≤l.length∧∃a c,q.2= .slice a (AH (l.take q.1)).length c) (fun q=>l.length-q.1) (0, .slice none 0 0) (ts:=[2,6,7]) O (⟨Nat.zero_le _,_,_,Y⟩) O O ?_
 rintro ⟨i,u⟩ ⟨hi,au,cu,hu⟩
 dsimp only
 dsimp only at hi hu
 subst hu
 refine Z ?_
 refine .condD Y (fun h9=>?_) (fun h9=>?_)
 ·have hi2:i<l.length:=by omega
  refine .rdShape (p:=p) hr O om fun ba oa e=>?_
  subst e
  have hm:=AEB (getElem_mem hi2)
  have ht:=It l (i+1)
  rw [KU hi2,length_append] at ht
  have hrl:=E9 l[i]
  refine Z ?_
  refine .q (.indexAddr Y Y Br om) Y (.q (.loadRd (sz:=1) (j:=i) (p:=p) (v:=AF l[i]) Y HL O hr (by simp) (by simp [hi2])) Y (Z ?_))
  refine .oq (.c func77 [_] (I5 l[i] om)) ?_
  rintro v L' ⟨⟨ar,cr,rfl⟩,rfl⟩
  refine .oq (.append (n:=(AH (l.take i)).length) (m:=(Bo l[i]).length) (ys:=Bf (Bo l[i])) (p:=Ex (.slice ar (Bo l[i]).length cr) (Bo l[i])) Y Y Y Bw (.inl ⟨_,underlying111⟩) K2 Y Y ?hc12 ?hr13 ?hb14 dQ) ?_
  case hc12=>exact Fe _
  case hr13=>exact fun h hp=>Ad hp
  case hb14=>omega
  rintro v L' ⟨⟨a5,c5,rfl⟩,rfl⟩
  refine Z ?_
  rw [show (AH (l.take i)).length+(Bo l[i]).length=(AH (l.take (i+1))).length by rw [KU hi2,length_append],show Bf (AH (l.take i))++Bf (Bo l[i])=Bf (AH (l.take (i+1))) by rw [KU hi2,C4]]
  exact .rk ((i+1, .slice a5 (AH (l.take (i+1))).length c5)) (⟨by dsimp only;omega,_,_,rfl⟩) (by dsimp only;omega) O
 have hi3:i=l.length:=by omega
 subst hi3
 rw [take_length]
 refine Z ?_
 exact .dn Y Y ⟨⟨_,_,Y⟩,Y⟩
theorem I3 (m:Mk):Fn prog 72 #[.agg (D7 m).toArray] [] fun v L=>v=AF m.sec∧L=[]:=by
 refine Fn.intro func72 Y Y fun F W=>?_
 obtain ⟨p0,p1,p2,p3,p4,p5,p6⟩:=m.pre_len
 refine .sr (.oq (.box Y) ?_)
 rintro v L' ⟨bm,rfl,rfl⟩
 refine Z ?_
 refine .oq (.make Y Y Bw K2 Y ⟨by simp,by simp;rfl⟩ ?hc4) ?_
 case hc4=>omega
 rintro v L' ⟨b,rfl,rfl⟩;rw [show (64:Int).toNat=64 from rfl]
 refine Z ?_
 refine .oq (.copyS (s:=[87,77]) Y Y Y Bw ?h17 ?h28) ?_
 case h17=>simp
 case h28=>exact Bd _ _
 rintro v L' ⟨rfl,rfl⟩
 refine .nil (.ptCast (l':=m.at 0 62) O Y ?_)
 refine .then_n (.seq (.draw [4] [[0,1,2,3,4]] mixed kQ (.g0 (Z ?_))))
 refine D.kv Y (.to (v':= .slice (some ⟨b,2,none⟩) 4 62) (.slSlice (i:=2) (j:=6) Y Bw (by exact rfl) (by exact rfl) dQ) Y) (Z ?_)
 refine D.hh Y (.call func139 Y Y (vs:=[_,_]) Y (FC b 2 4 62 m.count (m.at 0 62) _ dQ (by simp [Mk.at,CK,p0]))) ?_
 rintro v L' ⟨rfl,rfl⟩
 refine D.ph (.fin (.ptCast (l':=m.at 1 58) O (by have:=m.at_step (j:=0) (k:=62) (off:=2) (q:=CU m.count 4) p0.symm rfl (by simp [Av]);rw [Av] at this;exact this) ?_))
 refine .then_n (.seq (.draw [4] [[0,1,2,3,4]] mixed kQ (.g0 (Z ?_))))
 refine D.kv Y (.to (v':= .slice (some ⟨b,6,none⟩) 1 58) (.slSlice (i:=6) (j:=7) Y Bw (by exact rfl) (by exact rfl) dQ) Y) (Z ?_)
 refine D.hh Y (.call func139 Y Y (vs:=[_,_]) Y (FC b 6 1 58 m.area (m.at 1 58) _ dQ (by simp [Mk.at,CK,p1]))) ?_
 rintro v L' ⟨rfl,rfl⟩
 refine D.ph (.fin (.ptCast (l':=m.at 2 57) O (by have:=m.at_step (j:=1) (k:=58) (off:=6) (q:=CU m.area 1) p1.symm rfl (by simp [Av]);rw [Av] at this;exact this) ?_))
 refine .then_n (.seq (.draw [4] [[0,1,2,3,4]] mixed kQ (.g0 (Z ?_))))
 refine D.kv Y (.to (v':= .slice (some ⟨b,7,none⟩) 4 57) (.slSlice (i:=7) (j:=11) Y Bw (by exact rfl) (by exact rfl) dQ) Y) (Z ?_)
 refine D.hh Y (.call func139 Y Y (vs:=[_,_]) Y (FC b 7 4 57 m.len (m.at 2 57) _ dQ (by simp [Mk.at,CK,p2]))) ?_
 rintro v L' ⟨rfl,rfl⟩
 refine D.ph (.fin (.ptCast (l':=m.at 3 53) O (by have:=m.at_step (j:=2) (k:=57) (off:=7) (q:=CU m.len 4) p2.symm rfl (by simp [Av]);rw [Av] at this;exact this) ?_))
 refine .then_n (.seq (.draw [4] [[0,1,2,3,4]] mixed kQ (.g0 (Z ?_))))
 refine D.kv Y (.to (v':= .slice (some ⟨b,11,none⟩) 4 53) (.slSlice (i:=11) (j:=15) Y Bw (by exact rfl) (by exact rfl) dQ) Y) (Z ?_)
 refine D.hh Y (.call func139 Y Y (vs:=[_,_]) Y (FC b 11 4 53 m.num (m.at 3 53) _ dQ (by simp [Mk.at,CK,p3]))) ?_
 rintro v L' ⟨rfl,rfl⟩
 refine D.ph (.fin (.ptCast (l':=m.at 4 49) O (by have:=m.at_step (j:=3) (k:=53) (off:=11) (q:=CU m.num 4) p3.symm rfl (by simp [Av]);rw [Av] at this;exact this) ?_))
 refine .then_n (.seq (.draw [4] [[0,1,2,3,4]] mixed kQ (.g0 (Z ?_))))
 refine D.kv Y (.to (v':= .slice (some ⟨b,15,none⟩) 8 49) (.slSlice (i:=15) (j:=23) Y Bw (by exact rfl) (by exact rfl) dQ) Y) (Z ?_)
 refine D.hh Y (.call func139 Y Y (vs:=[_,_]) Y (FC b 15 8 49 m.a (m.at 4 49) _ dQ (by simp [Mk.at,CK,p4]))) ?_
 rintro v L' ⟨rfl,rfl⟩
 refine D.ph (.fin (.ptCast (l':=m.at 5 41) O (by have:=m.at_step (j:=4) (k:=49) (off:=15) (q:=CU m.a 8) p4.symm rfl (by simp [Av]);rw [Av] at this;exact this) ?_))
 refine .then_n (.seq (.draw [4] [[0,1,2,3,4]] mixed kQ (.g0 (Z ?_))))
 refine D.kv Y (.to (v':= .slice (some ⟨b,23,none⟩) 8 41) (.slSlice (i:=23) (j:=31) Y Bw (by exact rfl) (by exact rfl) dQ) Y) (Z ?_)
 refine D.hh Y (.call func139 Y Y (vs:=[_,_]) Y (FC b 23 8 41 m.b (m.at 5 41) _ dQ (by simp [Mk.at,CK,p5]))) ?_
 rintro v L' ⟨rfl,rfl⟩
 refine D.ph (.fin (.ptCast (l':=m.at 6 33) O (by have:=m.at_step (j:=5) (k:=41) (off:=23) (q:=CU m.b 8) p5.symm rfl (by simp [Av]);rw [Av] at this;exact this) ?_))
 refine .then_n (.seq (.draw [4] [[0,1,2,3,4]] mixed kQ (.g0 (Z ?_))))
 refine D.kv Y (.to (v':= .slice (some ⟨b,60,none⟩) 4 4) (.slSlice (i:=60) (j:=64) Y Bw (by exact rfl) (by exact rfl) dQ) Y) (Z ?_)
 refine D.hh Y (.call func139 Y Y (vs:=[_,_]) Y (FC b 60 4 4 m.count (m.at 6 33) _ dQ (by simp [Mk.at,CK,p6]))) ?_
 rintro v L' ⟨rfl,rfl⟩
 refine D.ph (.fin (.ptCast (l':=Bf m.sec) O m.at_end ?_))
 refine Z ?_
 refine .q (.bytesPt (cs:=m.sec) Y underlying111 underlying5 underlying9 O (by rw [drop_zero];exact take_of_length_le (by simp [CK,m.sec_len])) (by simp [CK,m.sec_len]) dQ) Y (Z ?_)
 exact .vv
theorem Hc (d:Nat) (δ:Dk) (hn:2≤δ.now.length∧δ.now.length≤32768):Fn prog 86 #[AD d] [DQ d δ] fun v L=>v=AA (Af δ)∧L=[DQ d δ]:=by
 refine Fn.intro func86 Y Y fun F W=>?_
 refine Z ?_
 refine .cv func144 [_] (AAu d δ) ?_
 refine Z ?_
 refine .q (.quoE Y Y om om) Y (Z ?_)
 exact .vv
def sub (s:Bs) (i j:Nat):Bs:=(s.take j).drop i
def I9 (s:Bs):Mk:=⟨Ba (sub s 2 6),Ba (sub s 6 7),Ba (sub s 7 11),Ba (sub s 11 15),Ba (sub s 15 23),Ba (sub s 23 31)⟩
def mk0:Mk:=⟨0,0,0,0,0,0⟩
def Hm (δ:Dk) (n:Int) (s:Bs) (m:Mk):Prop:=m.count<1∨m.count%2≠n∨m.area>1∨m.len>64*Af δ∨m.a<0∨m.b<0∨s≠m.sec
instance (δ:Dk) (n:Int) (s:Bs) (m:Mk):Decidable (Hm δ n s m):=inferInstanceAs (Decidable (_∨_))
def BI (δ:Dk) (n:Int):Option Mk:=if (δ.read n).2≠0 then none else if Hm δ n (δ.read n).1 (I9 (δ.read n).1) then none else some (I9 (δ.read n).1)
def AJh (o:Option Mk):Value:= .tuple #[.agg (D7 (o.getD mk0)).toArray, .bool o.isSome]
theorem Uu {δ:Dk} (h:δ.Ok) {n:Int} (he:(δ.read n).2=0):(δ.read n).1.length=64:=by
 unfold Dk.read at he ⊢
 split
 ·rename_i hd;rw [if_pos hd] at he;cases he
 ·rename_i hd
  rw [if_neg hd] at he
  split
  ·rename_i hh;rw [if_pos hh] at he;cases he
  ·rename_i hh
   have hh':δ.has n=true:=by simpa using hh
   obtain ⟨h0,h1,h2⟩:=SE hh'
   have e:δ.now.getD n.toNat []=δ.now[n.toNat]:=by simp [h2]
   rw [e];exact h.sec _ (getElem_mem _)
theorem NI {l:List (List UInt8)} (h:∀s∈l,s.length=64) {i:Nat} (hi:i<l.length):(l.getD i []).length=64:=by
 have:l.getD i []=l[i]:=by simp [hi]
 rw [this];exact h _ (getElem_mem _)
def KO:Nat→Bs→List Bs→Int→Option (List Bs)
 |0,_,_,_=>none
 |f+1,s,out,num=>
  if s=[] then (if (out.length:Int)=num then some out else none)
  else if (out.length:Int)=num∨s.length<6 then none
  else if Ba (s.take 2)>4000∨Ba (s.take 2)+6>s.length then none
  else if s.take ((Ba (s.take 2)).toNat+6)≠Bo (sub s 2 ((Ba (s.take 2)).toNat+2)) then none
  else KO f (s.drop ((Ba (s.take 2)).toNat+6)) (out++[sub s 2 ((Ba (s.take 2)).toNat+2)]) num
def M0 (s:Bs) (num:Int):Option (List Bs):=KO (s.length+1) s [] num
theorem Xp:∀(s:Bs) (n:Int),0≤n→0≤P0 s n:=by
 intro s
 induction s with
 |nil=>intro n h;exact h
 |cons c s ih=>intro n h;exact ih _ om
theorem AIX:∀(s:Bs) (n:Int),0≤n→P0 s n<(n+1)*256^s.length:=by
 intro s
 induction s with
 |nil=>intro n h;simp [P0];omega
 |cons c s ih=>
  intro n h
  have hc:c.toNat<256:=c.toNat_lt
  have h1:=ih (n*256+c.toNat) om
  simp only [P0,length_cons]
  refine Int.lt_of_lt_of_le h1 ?_
  rw [Int.pow_succ,Int.mul_comm (256^s.length) 256,←Int.mul_assoc]
  exact Int.mul_le_mul_of_nonneg_right om (Int.le_of_lt (Int.pow_pos dQ))
theorem Fo {s:Bs} (h:s.length≤7):0≤Ba s∧Ba s<256^s.length∧Ba s=P0 s 0:=by
 have h0:=Xp s 0 om
 have h1:=AIX s 0 om
 have h2:∀k,k≤7→(256:Int)^k≤72057594037927936:=by decide
 have h2:=h2 _ h
 have e:Ba s=P0 s 0:=JA om
 rw [e];omega
theorem Fm {s:Bs} {i j:Nat} (h:j≤s.length):(sub s i j).length=j-i:=by simp [sub];omega
structure Wl where
 recs:List Bs
 synced:Int
 area:Int
 count:Int
 a:Int
 b:Int
 doubt:Bool
def E6 (δ:Dk) (area:Int) (n:Nat):Bs:=(List.range n).flatMap fun i:Nat=>δ.now.getD (2+area*Af δ+(i:Int)).toNat []
def Ht (δ:Dk):Option Mk:=
 match BI δ 0,BI δ 1 with
 |some m,some k=>some (if k.count>m.count then k else m)
 |some m,none=>some m
 |none,o=>o
def Ff (δ:Dk) (m:Mk):Bs:=(E6 δ m.area ((m.len.toNat+63)/64)).take m.len.toNat
def Hb (δ:Dk):Option Wl:=
  match Ht δ with
  |none=>none
  |some m=>match M0 (Ff δ m) m.num with
    |none=>none
    |some l=>some ⟨l,l.length,m.area,m.count,m.a,m.b,false⟩
def LW (x d:Nat) (ω:Wl):HP:=fun h=> ∃v:Value×Value,CP [AW x [AD d,v.1,AA ω.synced,v.2,AA ω.area,AA ω.count,AA ω.a,AA ω.b, .bool ω.doubt] 156,ET v.1 ω.recs,Ex v.2 (AH ω.recs)] h
structure MkI (δ:Dk) (m:Mk):Prop where
 count:1≤m.count∧m.count≤4294967295
 area:0≤m.area∧m.area≤1
 len:0≤m.len∧m.len≤64*Af δ
 num:0≤m.num∧m.num≤4294967295
 a:0≤m.a∧m.a≤9223372036854775807
 b:0≤m.b∧m.b≤9223372036854775807
theorem Xg {s:Bs} {i j:Nat} (h:j≤s.length) (hk:j-i=4):0≤Ba (sub s i j)∧Ba (sub s i j)≤4294967295:=by
 have hl:=Fm (i:=i) h
 obtain ⟨h1,h2,-⟩:=Fo (s:=sub s i j) om
 rw [hl,hk] at h2
 have e:(256:Int)^4=4294967296:=rfl
 omega
theorem Oi (s:Bs): -9223372036854775808≤Ba s∧Ba s≤9223372036854775807:=by unfold Ba;rw [HO];omega
theorem Fv {δ:Dk} (hok:δ.Ok) {n:Int} {m:Mk} (h:BI δ n=some m):MkI δ m∧m.count%2=n∧(δ.read n).1=m.sec∧(δ.read n).2=0:=by
 unfold BI at h
 by_cases h0:(δ.read n).2≠0
 ·rw [if_pos h0] at h;cases h
 ·rw [if_neg h0] at h
  have h0':(δ.read n).2=0:=by simpa using h0
  by_cases hb:Hm δ n (δ.read n).1 (I9 (δ.read n).1)
  ·rw [if_pos hb] at h;cases h
  ·rw [if_neg hb] at h
   have hl:=Uu hok h0'
   generalize (δ.read n).1=s at *
   have h:=Option.some.inj h
   unfold Hm at hb
   simp only [not_or] at hb
   obtain ⟨b1,b2,b3,b4,b5,b6,b7⟩:=hb
   have q1:=Xg (s:=s) (i:=2) (j:=6) om rfl
   have q3:=Xg (s:=s) (i:=7) (j:=11) om rfl
   have q4:=Xg (s:=s) (i:=11) (j:=15) om rfl
   have q2:=(Fo (s:=sub s 6 7) (by rw [Fm om];decide)).1
   have q5:=Oi (sub s 15 23)
   have q6:=Oi (sub s 23 31)
   subst h
   simp only [I9] at *
   have c1:Ba (sub s 6 7)≤1:=by omega
   have c2:Ba (sub s 7 11)≤64*Af δ:=by omega
   have c3:1≤Ba (sub s 2 6):=by omega
   have c4:0≤Ba (sub s 15 23):=by omega
   have c5:0≤Ba (sub s 23 31):=by omega
   have c6:Ba (sub s 2 6)%2=n:=by omega
   exact ⟨⟨⟨c3,q1.2⟩,⟨q2,c1⟩,⟨q3.1,c2⟩,q4,⟨c4,q5.2⟩,⟨c5,q6.2⟩⟩,c6,by simpa using b7,h0'⟩
theorem XP {δ:Dk} (hok:δ.Ok) {m:Mk} (h:Ht δ=some m):MkI δ m:=by
 unfold Ht at h
 rcases h0:BI δ 0 with _|m0<;>rcases h1:BI δ 1 with _|m1<;>rw [h0,h1] at h
 ·cases h
 ·cases h;exact (Fv hok h1).1
 ·cases h;exact (Fv hok h0).1
 ·simp only [Option.some.injEq] at h
  split at h
  ·subst h;exact (Fv hok h1).1
  ·subst h;exact (Fv hok h0).1
theorem IB (δ:Dk) (area:Int) (i:Nat):E6 δ area (i+1)=E6 δ area i++δ.now.getD (2+area*Af δ+(i:Int)).toNat []:=by
 unfold E6;rw [range_succ,flatMap_append];simp
theorem OV {δ:Dk} (hn:2≤δ.now.length) {area:Int} (ha:0≤area∧area≤1) {i:Nat} (hi:(i:Int)<Af δ):0≤2+area*Af δ+i∧2+area*Af δ+i<δ.now.length:=by
 unfold Af at *
 rcases (by omega:area=0∨area=1) with rfl|rfl<;>omega
theorem MP {δ:Dk} (hok:δ.Ok) (hn:2≤δ.now.length) {area:Int} (ha:0≤area∧area≤1):∀i:Nat,(i:Int)≤Af δ→(E6 δ area i).length=64*i:=by
 intro i
 induction i with
 |zero=>intro _;rfl
 |succ i ih=>
  intro hi
  have h1:=OV hn ha (i:=i) om
  rw [IB,length_append,ih om,NI hok.sec om];omega
theorem AA4 {δ:Dk} (hd:δ.dead=false) (hn:2≤δ.now.length) {area:Int} (ha:0≤area∧area≤1) {i:Nat} (hi:(i:Int)<Af δ):δ.read (2+area*Af δ+i)=(δ.now.getD (2+area*Af δ+(i:Int)).toNat [],0):=by
 have h1:=OV hn ha hi
 have h2:δ.has (2+area*Af δ+i)=true:=by simp only [Dk.has,Bool.and_eq_true,decide_eq_true_eq];exact h1
 unfold Dk.read
 rw [hd,h2];rfl
def Ia (m:Mk):Nat:=(m.len.toNat+63)/64
def Yn (δ:Dk) (m:Mk):Option Wl:=match M0 (Ff δ m) m.num with
 |none=>none
 |some l=>some ⟨l,l.length,m.area,m.count,m.a,m.b,false⟩
theorem XT {δ:Dk} (h:Ht δ=none):Hb δ=none:=by unfold Hb;rw [h]
theorem KS {δ:Dk} {m:Mk} (h:Ht δ=some m):Hb δ=Yn δ m:=by unfold Hb;rw [h];rfl
theorem XB {δ:Dk} (hok:δ.Ok) (hn:2≤δ.now.length) {m:Mk} (hm:MkI δ m):(E6 δ m.area (Ia m)).length=64*Ia m∧m.len.toNat≤64*Ia m∧(Ff δ m).length=m.len.toNat∧(Ia m:Int)≤Af δ:=by
 have h1:=hm.len
 have hs:(Ia m:Int)≤Af δ:=by unfold Ia;omega
 have h2:=MP hok hn hm.area (Ia m) hs
 have h3:m.len.toNat≤64*Ia m:=by unfold Ia;omega
 refine ⟨h2,h3,?_,hs⟩
 show ((E6 δ m.area (Ia m)).take m.len.toNat).length=_
 rw [length_take,h2];omega
theorem Wh:∀(f:Nat) (s:Bs) (out:List Bs) (num:Int) (l:List Bs),KO f s out num=some l→AH l=AH out++s∧(l.length:Int)=num:=by
 intro f
 induction f with
 |zero=>intro s out num l h;cases h
 |succ f ih=>
  intro s out num l h
  simp only [KO] at h
  by_cases h0:s=[]
  ·subst h0
   simp only [if_true] at h
   split at h
   ·rename_i hq;cases h;exact ⟨by simp,hq⟩
   ·cases h
  ·rw [if_neg h0] at h
   by_cases h1:(out.length:Int)=num∨s.length<6
   ·rw [if_pos h1] at h;cases h
   ·rw [if_neg h1] at h
    by_cases h2:Ba (s.take 2)>4000∨Ba (s.take 2)+6>s.length
    ·rw [if_pos h2] at h;cases h
    ·rw [if_neg h2] at h
     by_cases h3:s.take ((Ba (s.take 2)).toNat+6)≠Bo (sub s 2 ((Ba (s.take 2)).toNat+2))
     ·rw [if_pos h3] at h;cases h
     ·rw [if_neg h3] at h
      have h3:=Decidable.not_not.1 h3
      obtain ⟨q1,q2⟩:=ih _ _ _ _ h
      refine ⟨?_,q2⟩
      rw [q1,Cy]
      have e:AH [sub s 2 ((Ba (s.take 2)).toNat+2)]=Bo (sub s 2 ((Ba (s.take 2)).toNat+2)):=by simp [AH]
      rw [e,←h3,append_assoc,take_append_drop]
theorem Xq {s:Bs} {num:Int} {l:List Bs} (h:M0 s num=some l):AH l=s∧(l.length:Int)=num:=by
 have:=Wh _ _ _ _ _ h
 simpa [AH] using this
section
variable {W:World} {n:Nat} {ds:List Deferred} {E:Bi} {L R:List HP} {X:Act→World→Prop}
theorem G.wlOpen {x d:Nat} {ω:Wl} (hL:BJ (LW x d ω) L R) (h:∀vr vb,G W n ds E (AW x [AD d,vr,AA ω.synced,vb,AA ω.area,AA ω.count,AA ω.a,AA ω.b, .bool ω.doubt] 156::ET vr ω.recs::Ex vb (AH ω.recs)::R) X):G W n ds E L X:=
 G.focus hL (G.open (q:=fun v:Value×Value=>[AW x [AD d,v.1,AA ω.synced,v.2,AA ω.area,AA ω.count,AA ω.a,AA ω.b, .bool ω.doubt] 156,ET v.1 ω.recs,Ex v.2 (AH ω.recs)]) (φ:=fun _=>True) (fun h hp=>by obtain ⟨v,hv⟩:=hp;exact ⟨v,trivial,hv⟩) fun v _=>h v.1 v.2)
theorem G.wlFold {x d m k:Nat} {ω:Wl} {vr vb:Value} {l ys zs:List Value} (hL:A4 [AW x l 156,At 9 1 vr m ys,At 5 1 vb k zs] L R) (h0:l=[AD d,vr,AA ω.synced,vb,AA ω.area,AA ω.count,AA ω.a,AA ω.b, .bool ω.doubt])
  (h1:m=ω.recs.length) (h2:ys=A1 ω.recs) (h3:k=(AH ω.recs).length) (h4:zs=Bf (AH ω.recs)) (h:G W n ds E (LW x d ω::R) X):G W n ds E L X:=by
 subst h0;subst h1;subst h2;subst h3;subst h4
 exact G.fold hL (fun _ hp=>⟨(vr,vb),hp⟩) h
end
theorem Kc (d:Nat) (δ:Dk) (n:Int) (hn:2≤δ.now.length∧δ.now.length≤32768) (hok:δ.Ok):Fn prog 102 #[AD d,AA n] [DQ d δ] fun v L=>v=AJh (BI δ n)∧L=[DQ d δ]:=by
 refine Fn.intro func102 Y Y fun F W=>?_
 generalize hrd:δ.read n=rd
 refine .sr (.oq (.allocA Db) ?_)
 rintro v L' ⟨bm,rfl,rfl⟩
 refine Z ?_
 refine .oq (.c func103 [_,_] (RD d δ n)) ?_
 rintro v L' ⟨rfl,rfl⟩;rw [hrd]
 refine Z ?_
 refine .condN Y (fun h16=>?_) (fun h16=>?_)
 ·refine .sr (.q (.build (us:=[]) Gm Db Y Y (by simp [AB])) Y (.sa Y Y Dq (by (first|(simp [AB];done)|(simp [AB,AQ,Value.cells];done))) ?_))
  refine Z ?_
  have e:BI δ n=none:=by unfold BI;rw [if_pos (by rw [hrd];simpa using h16)]
  rw [e]
  exact .d2 Y (.cellA Y FI O (by simp [CX,AQ,D7]) Y) (.tmp Y) ⟨Y,Y⟩
 refine Z ?_
 have hl:rd.1.length=64:=by rw [←hrd];exact Uu hok (by rw [hrd];simpa using h16)
 generalize hs:rd.1=s at *
 refine .draw [19,20] [[0,1,2,3,4,5,6,7,8,9,10,11,12,13,14,15,16,17,18,19],[20]] mixed kQ (.g0 (Z ?_))
 refine D.k Y (.to (v':=AF (sub s 2 6)) (.strMid (i:=2) (j:=6) Y Y Y underlying9 om) Y) (.m Y kQ (.c func161 [_] (Eb (sub s 2 6) ?hs19)) O ?_)
 case hs19=>rw [Fm om];decide
 refine Z ?_
 refine D.k Y (.to (v':=AF (sub s 6 7)) (.strMid (i:=6) (j:=7) Y Y Y underlying9 om) Y) (.m Y kQ (.c func161 [_] (Eb (sub s 6 7) ?hs23)) O ?_)
 case hs23=>rw [Fm om];decide
 refine Z ?_
 refine D.k Y (.to (v':=AF (sub s 7 11)) (.strMid (i:=7) (j:=11) Y Y Y underlying9 om) Y) (.m Y kQ (.c func161 [_] (Eb (sub s 7 11) ?hs27)) O ?_)
 case hs27=>rw [Fm om];decide
 refine Z ?_
 refine D.k Y (.to (v':=AF (sub s 11 15)) (.strMid (i:=11) (j:=15) Y Y Y underlying9 om) Y) (.m Y kQ (.c func161 [_] (Eb (sub s 11 15) ?hs31)) O ?_)
 case hs31=>rw [Fm om];decide
 refine Z ?_
 refine D.k Y (.to (v':=AF (sub s 15 23)) (.strMid (i:=15) (j:=23) Y Y Y underlying9 om) Y) (.m Y kQ (.c func161 [_] (Eb (sub s 15 23) ?hs35)) O ?_)
 case hs35=>rw [Fm om];decide
 refine Z ?_
 refine D.k Y (.to (v':=AF (sub s 23 31)) (.strMid (i:=23) (j:=31) Y Y Y underlying9 om) Y) (.m Y kQ (.c func161 [_] (Eb (sub s 23 31) ?hs39)) O ?_)
 case hs39=>rw [Fm om];decide
 refine D.k Y (.build (us:=[(0,_),(1,_),(2,_),(3,_),(4,_),(5,_)]) Gm Db Y Y (by simp [AB])) (.hh Y (.allocA Db) ?_)
 rintro v L' ⟨b8,rfl,rfl⟩
 refine D.ph (.g0 (.sa Y Y Y Dq (by (first|(simp [AB];done)|(simp [AB,AQ,Value.cells];done))) ?_))
 refine D.ph (.fin (.ptCast (l':=D7 (I9 s)) O Y ?_))
 have hu0:=Fo (s:=sub s 7 11) (by rw [Fm om];decide)
 generalize hm:I9 s=m
 have hln:0≤m.len:=by rw [←hm];exact hu0.1
 refine Z ?_
 refine .draw [] [[0,1,2,3,4,5,6,7,8,9,10,11,12,13,14,15,16,17,18,19,20,21,22,23,24,25,26,27,28,29,30,31,32,33,34,35,36,37,38]] mixed kQ (.go [AW b8 _ _,DQ d δ] O (Z ?_))
 refine D.dec (t:=40) Y (fun h5_40=>?_) (fun h5_40=>?_)
 ·refine D.kDT (t:=39) Y h5_40 (Z ?_)
  refine .q (.build (us:=[]) Gm Db Y Y (by simp [AB])) Y (.sa Y Y Dq (by (first|(simp [AB];done)|(simp [AB,AQ,Value.cells];done))) ?_)
  refine Z ?_
  have e:BI δ n=none:=by unfold BI;rw [if_neg (by rw [hrd];simpa using h16),if_pos (by rw [hrd,hs,hm];unfold Hm;first|exact .inl h5_40|(refine .inr ?_;first|exact .inl (by simpa using h5_47)|(refine .inr ?_;first|exact .inl h5_52|(refine .inr ?_;first|exact .inl h5_60|(refine .inr ?_;first|exact .inl h5_65|(refine .inr ?_;first|exact .inl h5_70|exact .inr (by simpa using h75)))))))]
  rw [e]
  exact .d2 Y (.cellA Y FI O (by simp [CX,AQ,D7]) Y) (.tmp Y) ⟨Y,Y⟩
 refine D.kDF (t:=39) Y h5_40 (Z ?_)
 refine D.gv Y (.remE Y Y om dQ) (Z ?_)
 refine D.ndec (t:=47) Y (fun h5_47=>?_) (fun h5_47=>?_)
 ·refine D.kNT (t:=45) Y h5_47 (.kNT (t:=46) Y h5_47 (Z ?_))
  refine .q (.build (us:=[]) Gm Db Y Y (by simp [AB])) Y (.sa Y Y Dq (by (first|(simp [AB];done)|(simp [AB,AQ,Value.cells];done))) ?_)
  refine Z ?_
  have e:BI δ n=none:=by unfold BI;rw [if_neg (by rw [hrd];simpa using h16),if_pos (by rw [hrd,hs,hm];unfold Hm;first|exact .inl h5_40|(refine .inr ?_;first|exact .inl (by simpa using h5_47)|(refine .inr ?_;first|exact .inl h5_52|(refine .inr ?_;first|exact .inl h5_60|(refine .inr ?_;first|exact .inl h5_65|(refine .inr ?_;first|exact .inl h5_70|exact .inr (by simpa using h75)))))))]
  rw [e]
  exact .d2 Y (.cellA Y FI O (by simp [CX,AQ,D7]) Y) (.tmp Y) ⟨Y,Y⟩
 refine D.kNF (t:=45) Y h5_47 (.kNF (t:=46) Y h5_47 (Z ?_))
 refine D.dec (t:=52) Y (fun h5_52=>?_) (fun h5_52=>?_)
 ·refine D.kDT (t:=50) Y h5_52 (.kDT (t:=51) Y h5_52 (Z ?_))
  refine .q (.build (us:=[]) Gm Db Y Y (by simp [AB])) Y (.sa Y Y Dq (by (first|(simp [AB];done)|(simp [AB,AQ,Value.cells];done))) ?_)
  refine Z ?_
  have e:BI δ n=none:=by unfold BI;rw [if_neg (by rw [hrd];simpa using h16),if_pos (by rw [hrd,hs,hm];unfold Hm;first|exact .inl h5_40|(refine .inr ?_;first|exact .inl (by simpa using h5_47)|(refine .inr ?_;first|exact .inl h5_52|(refine .inr ?_;first|exact .inl h5_60|(refine .inr ?_;first|exact .inl h5_65|(refine .inr ?_;first|exact .inl h5_70|exact .inr (by simpa using h75)))))))]
  rw [e]
  exact .d2 Y (.cellA Y FI O (by simp [CX,AQ,D7]) Y) (.tmp Y) ⟨Y,Y⟩
 refine D.kDF (t:=50) Y h5_52 (.kDF (t:=51) Y h5_52 (Z ?_))
 refine D.gm (t:=52) Y Y Y kQ (.c func86 [_] (Hc d δ hn)) O ?_
 refine D.gv Y (.mul Y Y (by unfold Af;omega)) (Z ?_)
 refine D.dec (t:=60) Y (fun h5_60=>?_) (fun h5_60=>?_)
 ·refine D.kDT (t:=58) Y h5_60 (.kDT (t:=59) Y h5_60 (Z ?_))
  refine .q (.build (us:=[]) Gm Db Y Y (by simp [AB])) Y (.sa Y Y Dq (by (first|(simp [AB];done)|(simp [AB,AQ,Value.cells];done))) ?_)
  refine Z ?_
  have e:BI δ n=none:=by unfold BI;rw [if_neg (by rw [hrd];simpa using h16),if_pos (by rw [hrd,hs,hm];unfold Hm;first|exact .inl h5_40|(refine .inr ?_;first|exact .inl (by simpa using h5_47)|(refine .inr ?_;first|exact .inl h5_52|(refine .inr ?_;first|exact .inl h5_60|(refine .inr ?_;first|exact .inl h5_65|(refine .inr ?_;first|exact .inl h5_70|exact .inr (by simpa using h75)))))))]
  rw [e]
  exact .d2 Y (.cellA Y FI O (by simp [CX,AQ,D7]) Y) (.tmp Y) ⟨Y,Y⟩
 refine D.kDF (t:=58) Y h5_60 (.kDF (t:=59) Y h5_60 (Z ?_))
 refine D.dec (t:=65) Y (fun h5_65=>?_) (fun h5_65=>?_)
 ·refine D.kDT (t:=63) Y h5_65 (.kDT (t:=64) Y h5_65 (Z ?_))
  refine .q (.build (us:=[]) Gm Db Y Y (by simp [AB])) Y (.sa Y Y Dq (by (first|(simp [AB];done)|(simp [AB,AQ,Value.cells];done))) ?_)
  refine Z ?_
  have e:BI δ n=none:=by unfold BI;rw [if_neg (by rw [hrd];simpa using h16),if_pos (by rw [hrd,hs,hm];unfold Hm;first|exact .inl h5_40|(refine .inr ?_;first|exact .inl (by simpa using h5_47)|(refine .inr ?_;first|exact .inl h5_52|(refine .inr ?_;first|exact .inl h5_60|(refine .inr ?_;first|exact .inl h5_65|(refine .inr ?_;first|exact .inl h5_70|exact .inr (by simpa using h75)))))))]
  rw [e]
  exact .d2 Y (.cellA Y FI O (by simp [CX,AQ,D7]) Y) (.tmp Y) ⟨Y,Y⟩
 refine D.kDF (t:=63) Y h5_65 (.kDF (t:=64) Y h5_65 (Z ?_))
 refine D.dec (t:=70) Y (fun h5_70=>?_) (fun h5_70=>?_)
 ·refine D.kDT (t:=68) Y h5_70 (.kDT (t:=69) Y h5_70 (Z ?_))
  refine .q (.build (us:=[]) Gm Db Y Y (by simp [AB])) Y (.sa Y Y Dq (by (first|(simp [AB];done)|(simp [AB,AQ,Value.cells];done))) ?_)
  refine Z ?_
  have e:BI δ n=none:=by unfold BI;rw [if_neg (by rw [hrd];simpa using h16),if_pos (by rw [hrd,hs,hm];unfold Hm;first|exact .inl h5_40|(refine .inr ?_;first|exact .inl (by simpa using h5_47)|(refine .inr ?_;first|exact .inl h5_52|(refine .inr ?_;first|exact .inl h5_60|(refine .inr ?_;first|exact .inl h5_65|(refine .inr ?_;first|exact .inl h5_70|exact .inr (by simpa using h75)))))))]
  rw [e]
  exact .d2 Y (.cellA Y FI O (by simp [CX,AQ,D7]) Y) (.tmp Y) ⟨Y,Y⟩
 refine D.kDF (t:=68) Y h5_70 (.kDF (t:=69) Y h5_70 (Z ?_))
 refine D.gv Y (.loadAs (vs:=D7 m) Y FI O (by simp [D7]) Y) (.gm (t:=70) Y Y Y kQ (.c func72 [_] (I3 m)) O ?_)
 refine Z ?_
 refine .condN Y (fun h75=>?_) (fun h75=>?_)
 ·refine .sr (.q (.build (us:=[]) Gm Db Y Y (by simp [AB])) Y (.sa Y Y Dq (by (first|(simp [AB];done)|(simp [AB,AQ,Value.cells];done))) ?_))
  refine Z ?_
  have e:BI δ n=none:=by unfold BI;rw [if_neg (by rw [hrd];simpa using h16),if_pos (by rw [hrd,hs,hm];unfold Hm;first|exact .inl h5_40|(refine .inr ?_;first|exact .inl (by simpa using h5_47)|(refine .inr ?_;first|exact .inl h5_52|(refine .inr ?_;first|exact .inl h5_60|(refine .inr ?_;first|exact .inl h5_65|(refine .inr ?_;first|exact .inl h5_70|exact .inr (by simpa using h75)))))))]
  rw [e]
  exact .d2 Y (.cellA Y FI O (by simp [CX,AQ,D7]) Y) (.tmp Y) ⟨Y,Y⟩
 refine Z ?_
 refine .q (.loadAs (vs:=D7 m) Y FI O (by simp [D7]) Y) Y (.oq (.storeA Y Y ?c149 Dq ?c152 ?c150 (Bd _ _)) ?_)
 case c149=>simp [D7,AB]
 case c152=>simp [D7]
 case c150=>simp [D7]
 rintro v L' rfl
 refine Z ?_
 have e:BI δ n=some m:=by unfold BI;rw [if_neg (by rw [hrd];simpa using h16),if_neg (by rw [hrd,hs,hm];unfold Hm;simp only [not_or];refine ⟨?_,?_,?_,?_,?_,?_,?_⟩<;>first|omega|simpa using h75)];rw [hrd,hs,hm]
 rw [e]
 exact .d2 Y (.cellA Y FI O (by simp [CX,AQ,D7]) Y) (.tmp Y) ⟨Y,Y⟩
theorem Uf (s:Bs) (num:Int) (hs:s.length≤2147483648):Fn prog 105 #[AF s,AA num] [] fun v L=>(∃l,M0 s num=some l∧(∃a c,v= .tuple #[.slice a l.length c, .bool true]∧L=[ET (.slice a l.length c) l]))∨(M0 s num=none∧(∃w,v= .tuple #[w, .bool false])∧L=[]):=by
 refine Fn.intro func105 Y Y fun F W=>?_
 refine Z ?_
 refine .add (AU 9 1) (.loopK (ι:=Bs×(List Bs)×Nat×Value) (fun q E=>(0,AF q.1)::(6,q.2.2.2)::E) (fun q=>[ET q.2.2.2 q.2.1]) (fun q=>q.1.length<q.2.2.1∧KO q.2.2.1 q.1 q.2.1 num=M0 s num∧q.2.1.length+q.1.length≤s.length∧∃a c,q.2.2.2= .slice a q.2.1.length c) (fun q=>q.1.length) (s,[],s.length+1, .slice none 0 0) (ts:=[1]) O (⟨Nat.lt_succ_self _,Y,by simp,_,_,rfl⟩) O O ?_)
 rintro ⟨s2,out,f,u⟩ ⟨hf,hp,hle,au,cu,hu⟩
 dsimp only
 dsimp only at hf hp hle hu
 subst hu
 refine Z ?_
 refine .condN Y (fun h10=>?_) (fun h10=>?_)
 ·obtain ⟨f,rfl⟩:∃k,f=k+1:=⟨f-1,by omega⟩
  simp only [KO] at hp
  rw [if_neg h10] at hp
  refine Z ?_
  refine .dec (t:=15) Y (fun h3_15=>?_) (fun h3_15=>?_)
  ·refine .kDT (t:=14) Y h3_15 (Z ?_)
   rw [if_pos (by first|exact .inl h3_15|exact .inr om)] at hp
   exact .dn Y Y (.inr ⟨hp.symm,⟨_,Y⟩,Y⟩)
  refine .kDF (t:=14) Y h3_15 (Z ?_)
  refine .condD Y (fun h19=>?_) (fun h19=>?_)
  ·refine Z ?_
   rw [if_pos (by first|exact .inl h3_15|exact .inr om)] at hp
   exact .dn Y Y (.inr ⟨hp.symm,⟨_,Y⟩,Y⟩)
  refine Z ?_
  have h6:6≤s2.length:=by omega
  rw [if_neg (by rintro (h|h)<;>omega)] at hp
  refine Z ?_
  refine .q (.to (v':=AF (s2.take 2)) (.strTo (j:=2) Y Y underlying9 om) Y) Y (.oq (.c func161 [_] (Eb (s2.take 2) ?hs20)) ?_)
  case hs20=>rw [length_take];omega
  rintro v L' ⟨rfl,rfl⟩
  refine Z ?_
  obtain ⟨hn0,hn1,-⟩:=Fo (s:=s2.take 2) (by rw [length_take];omega)
  generalize Ba (s2.take 2)=n at *
  obtain ⟨k,rfl⟩:=Int.eq_ofNat_of_zero_le hn0
  simp only [Int.toNat_natCast] at hp
  have hn1:k<65536:=by rw [length_take,Nat.min_eq_left om] at hn1;have e:(256:Int)^2=65536:=rfl;omega
  refine Z ?_
  refine .dec (t:=25) Y (fun h6_25=>?_) (fun h6_25=>?_)
  ·refine .kDT (t:=24) Y h6_25 (Z ?_)
   rw [if_pos (by first|exact .inl h6_25|exact .inr om)] at hp
   exact .dn Y Y (.inr ⟨hp.symm,⟨_,Y⟩,Y⟩)
  refine .kDF (t:=24) Y h6_25 (Z ?_)
  refine .condD Y (fun h31=>?_) (fun h31=>?_)
  ·refine Z ?_
   rw [if_pos (by first|exact .inl h6_25|exact .inr om)] at hp
   exact .dn Y Y (.inr ⟨hp.symm,⟨_,Y⟩,Y⟩)
  refine Z ?_
  have hk4:k≤4000:=by omega
  have hk6:k+6≤s2.length:=by omega
  rw [if_neg (by rintro (h|h)<;>omega)] at hp
  refine Z ?_
  refine .q (.to (v':=AF (sub s2 2 (k+2))) (.strMid (i:=2) (j:=(k:Int)+2) Y Y Y underlying9 om) (by rw [show ((k:Int)+2).toNat=k+2 by omega];rfl)) Y (Z ?_)
  refine .draw [5] [[0,1,2,3,4,5,6],[7]] mixed kQ (.g0 (Z ?_))
  refine D.k Y (.to (v':=AF (s2.take (k+6))) (.strTo (j:=(k:Int)+6) Y Y underlying9 om) (by rw [show ((k:Int)+6).toNat=k+6 by omega])) (Z ?_)
  refine D.hh Y (.c func77 [_] (I5 (sub s2 2 (k+2)) (by rw [Fm om];omega))) ?_
  rintro v L' ⟨⟨ar,cr,rfl⟩,rfl⟩
  refine D.kv Y (.bytesBy (cs:=Bo (sub s2 2 (k+2))) (n:=(Bo (sub s2 2 (k+2))).length) (p:=Ex (.slice ar (Bo (sub s2 2 (k+2))).length cr) (Bo (sub s2 2 (k+2)))) Y underlying111 underlying5 underlying9 (fun h hp=>Ad hp) O) (.ph (.g0 (Z ?_)))
  refine .condN Y (fun h43=>?_) (fun h43=>?_)
  ·refine Z ?_
   rw [if_pos h43] at hp
   exact .dn Y Y (.inr ⟨hp.symm,⟨_,Y⟩,Y⟩)
  refine Z ?_
  rw [if_neg (fun hc=>hc h43)] at hp
  refine Z ?_
  refine .oq (.buildSlice1 (vs:=[_]) Br Gf Y Y Y Y Y dQ) ?_
  rintro v L' ⟨b11_2,rfl,rfl⟩
  refine .oq (.append1 Y Y Y Br Gf Y Y ?c48 ?c49 (Nat.le_refl _) ?c50 dQ) ?_
  case c48=>(first|(simp [AB];done)|(simp [AB,AQ,Value.cells];done))
  case c49=>rfl
  case c50=>omega
  rintro v L' ⟨⟨a11_3,c11_3,rfl⟩,rfl⟩
  refine Z ?_
  refine .slCast (m':=(out++[sub s2 2 (k+2)]).length) (xs':=A1 (out++[sub s2 2 (k+2)])) O (by simp) (by simp [A1]) (Z ?_)
  refine .q (.to (v':=AF (s2.drop (k+6))) (.strFrom (i:=(k:Int)+6) Y Y underlying9 om) (by rw [show ((k:Int)+6).toNat=k+6 by omega])) Y (Z ?_)
  exact .rk ((s2.drop (k+6),out++[sub s2 2 (k+2)],f, .slice a11_3 (out.length+1) c11_3)) (⟨by dsimp only;rw [length_drop];omega,hp,by dsimp only;rw [length_drop,length_append,length_singleton];omega,_,_,by rw [length_append,length_singleton]⟩) (by dsimp only;rw [length_drop];omega) O
 have h10:s2=[]:=by simpa using h10
 subst h10
 obtain ⟨f,rfl⟩:∃k,f=k+1:=⟨f-1,by simp at hf;omega⟩
 simp only [KO,eq_self,if_true] at hp
 refine Z ?_
 split at hp
 · rename_i hq
   exact .dn Y Y (.inl ⟨out,hp.symm,_,_,by rw [decide_eq_true hq],rfl⟩)
 rename_i hq
 exact .dn Y Y (.inr ⟨hp.symm,⟨_,by rw [decide_eq_false hq]⟩,rfl⟩)
theorem G.nilEmpty {W:World} {k:Nat} {ds:List Deferred} {E:Bi} {L R:List HP} {X:Act→World→Prop} {p:HP} {sz n c:Nat} {xs:List Value} (hr:∀h:Hp,p h→CA sz h (.slice none n c) n xs) (hL:BJ p L R)
  (h:n=0→xs=[]→G W k ds E L X):G W k ds E L X:=by
 intro a w he hk hs
 obtain ⟨g1,-,hp⟩:=Ae (hs.pick hL)
 rcases hr _ hp with ⟨h1,h2,-⟩|⟨b,off,cap,l,T,fr,hv,-⟩
 ·exact h h1 h2 a w he hk hs
 ·simp at hv
theorem VS:Fn prog 104 #[.slice none 0 0] [At 5 1 (.slice none 0 0) 0 []] fun u L=>u= .slice none 0 0∧L=[At 5 1 u 0 []]:=by
 refine Fn.intro func104 Y Y fun F W=>?_
 refine Z ?_
 refine .q (.clip (n:=0) Y Bw Y Y (Nat.le_refl _) (.inl Y)) Y (Z ?_)
 exact .dn Y Y ⟨Y,Y⟩
theorem TT (b n c:Nat) (hc:n≤c) (xs:List Value):Fn prog 104 #[.slice (some ⟨b,0,none⟩) n c] [At 5 1 (.slice (some ⟨b,0,none⟩) n c) n xs] fun u L=>u= .slice (some ⟨b,0,none⟩) n n∧L=[At 5 1 u n xs]:=by
 refine Fn.intro func104 Y Y fun F W=>?_
 refine Z ?_
 refine .q (.clip (n:=n) Y Bw Y Y hc (.inr ⟨_,_,Y⟩)) Y (Z ?_)
 refine .slClip O ?_
 exact .dn Y Y ⟨Y,Y⟩
theorem WH (v:Value) (n:Nat) (xs:List Value):Fn prog 104 #[v] [At 5 1 v n xs] fun u L=>(∃a c,u= .slice a n c)∧L=[At 5 1 u n xs]:=by
 intro F w hs
 obtain ⟨g1,-,hp⟩:=Ae hs
 rcases hp with ⟨rfl,rfl,rfl⟩|⟨b,cap,rest,fr,rfl,-,-,-,h4,-⟩
 ·exact (VS F w hs).mono fun e w' ⟨u,L,⟨h1,h2⟩,h3⟩=>⟨u,L,⟨⟨_,_,h1⟩,h2⟩,h3⟩
 ·exact (TT b n cap h4 xs F w hs).mono fun e w' ⟨u,L,⟨h1,h2⟩,h3⟩=>⟨u,L,⟨⟨_,_,h1⟩,h2⟩,h3⟩
theorem Vt:Fn prog 106 #[.slice none 0 0] [At 9 1 (.slice none 0 0) 0 []] fun u L=>u= .slice none 0 0∧L=[At 9 1 u 0 []]:=by
 refine Fn.intro func106 Y Y fun F W=>?_
 refine Z ?_
 refine .q (.clip (n:=0) Y Br Y Y (Nat.le_refl _) (.inl Y)) Y (Z ?_)
 exact .dn Y Y ⟨Y,Y⟩
theorem Td (b n c:Nat) (hc:n≤c) (xs:List Value):Fn prog 106 #[.slice (some ⟨b,0,none⟩) n c] [At 9 1 (.slice (some ⟨b,0,none⟩) n c) n xs] fun u L=>u= .slice (some ⟨b,0,none⟩) n n∧L=[At 9 1 u n xs]:=by
 refine Fn.intro func106 Y Y fun F W=>?_
 refine Z ?_
 refine .q (.clip (n:=n) Y Br Y Y hc (.inr ⟨_,_,Y⟩)) Y (Z ?_)
 refine .slClip O ?_
 exact .dn Y Y ⟨Y,Y⟩
theorem XI (v:Value) (n:Nat) (xs:List Value):Fn prog 106 #[v] [At 9 1 v n xs] fun u L=>(∃a c,u= .slice a n c)∧L=[At 9 1 u n xs]:=by
 intro F w hs
 obtain ⟨g1,-,hp⟩:=Ae hs
 rcases hp with ⟨rfl,rfl,rfl⟩|⟨b,cap,rest,fr,rfl,-,-,-,h4,-⟩
 ·exact (Vt F w hs).mono fun e w' ⟨u,L,⟨h1,h2⟩,h3⟩=>⟨u,L,⟨⟨_,_,h1⟩,h2⟩,h3⟩
 ·exact (Td b n cap h4 xs F w hs).mono fun e w' ⟨u,L,⟨h1,h2⟩,h3⟩=>⟨u,L,⟨⟨_,_,h1⟩,h2⟩,h3⟩
theorem NK (v:Value) (n:Nat) (xs:List Value) (p:HP) (hr:∀h:Hp,p h→CA 1 h v n xs) (hc:∀y∈xs,AB y=true) (hb:n≤4294967296):Fn prog 76 #[v] [p] fun u L=>(∃a c,u= .slice a n c)∧L=[At 5 1 u n xs,p]:=by
 refine Fn.intro func76 Y Y fun F W=>?_
 refine .rdAny (p:=p) hr O fun aa ca e hlen=>?_
 subst e
 refine Z ?_
 rcases aa with _|aa
 ·refine .q (.sleq Y Y underlying111) Y (Z ?_)
  refine .nilEmpty (p:=p) hr O fun e1 e2=>?_
  subst e1;subst e2
  refine .add (AU 5 1) ?_
  exact .dn Y Y ⟨⟨_,_,Y⟩,Y⟩
 refine .q (.sleq Y Y underlying111) Y (Z ?_)
 refine .oq (.buildSlice1 (vs:=[]) Bw K2 Y Y Y Y Y dQ) ?_
 rintro v L' ⟨b0,rfl,rfl⟩
 refine Z ?_
 refine .slMake (n:=0) (c:=0) (xs:=[]) (b:=b0) O (Nat.le_refl _) (Nat.zero_le _) Y (.oq (.append (n:=0) (m:=n) (xs:=[]) (ys:=xs) (p:=p) Y Y Y Bw (.inl ⟨_,underlying111⟩) K2 Y Y ?hc9 ?hr10 ?hb11 dQ) ?_)
 case hc9=>exact hc
 case hr10=>exact hr
 case hb11=>omega
 rintro v L' ⟨⟨a1,c1,rfl⟩,rfl⟩;rw [Nat.zero_add,nil_append]
 refine Z ?_
 exact .dn Y Y ⟨⟨_,_,Y⟩,Y⟩
theorem JE (v:Value) (n:Nat) (xs:List Value) (p:HP) (hr:∀h:Hp,p h→CA 1 h v n xs) (hc:∀y∈xs,AB y=true) (hb:n≤4294967296):Fn prog 95 #[v] [p] fun u L=>(∃a c,u= .slice a n c)∧L=[At 9 1 u n xs,p]:=by
 refine Fn.intro func95 Y Y fun F W=>?_
 refine .rdAny (p:=p) hr O fun aa ca e hlen=>?_
 subst e
 refine Z ?_
 rcases aa with _|aa
 ·refine .q (.sleq Y Y underlying63) Y (Z ?_)
  refine .nilEmpty (p:=p) hr O fun e1 e2=>?_
  subst e1;subst e2
  refine .add (AU 9 1) ?_
  exact .dn Y Y ⟨⟨_,_,Y⟩,Y⟩
 refine .q (.sleq Y Y underlying63) Y (Z ?_)
 refine .oq (.buildSlice1 (vs:=[]) Br Gf Y Y Y Y Y dQ) ?_
 rintro v L' ⟨b0,rfl,rfl⟩
 refine Z ?_
 refine .slMake (n:=0) (c:=0) (xs:=[]) (b:=b0) O (Nat.le_refl _) (Nat.zero_le _) Y (.oq (.append (n:=0) (m:=n) (xs:=[]) (ys:=xs) (p:=p) Y Y Y Br (.inl ⟨_,underlying63⟩) Gf Y Y ?hc9 ?hr10 ?hb11 dQ) ?_)
 case hc9=>exact hc
 case hr10=>exact hr
 case hb11=>omega
 rintro v L' ⟨⟨a1,c1,rfl⟩,rfl⟩;rw [Nat.zero_add,nil_append]
 refine Z ?_
 exact .dn Y Y ⟨⟨_,_,Y⟩,Y⟩
theorem AA3 (d:Nat) (δ:Dk) (hn:2≤δ.now.length∧δ.now.length≤32768) (hok:δ.Ok):Fn prog 46 #[AD d] [DQ d δ] fun v L=>(δ.dead=true∧v= .tuple #[.pointer none,AA 2]∧L=[DQ d δ])∨
    (δ.dead=false∧Hb δ=none∧v= .tuple #[.pointer none,AA 31]∧L=[DQ d δ])∨(δ.dead=false∧∃ω,Hb δ=some ω∧∃x,v= .tuple #[AD x,AA 0]∧L=[DQ d δ,LW x d ω]):=by
 refine Fn.intro func46 Y Y fun F W=>?_
 have hn2:=hn.1
 refine .sr (.a Y (.an Y (.seq (.block (.sm Y (.q (.ptreq Y Y underlying27) Y (.an Y (.condF Y (.sm Y (.cv func101 [_] (Zr d δ) ?_))))))))))
 refine .an Y (.condB Y (fun h17=>?_) (fun h17=>?_))
 ·refine .sr (.a Y (.an Y (.ret (.blk_r (.then_r ?_)))))
  exact .dn Y Y (.inl ⟨by simpa using h17,rfl,rfl⟩)
 have hd:δ.dead=false:=by simpa using h17
 refine .skip (.blk_n (.then_n (.sm Y (.cv func102 [_,_] (Kc d δ 0 hn hok) ?_))))
 refine .m Y (.q (.extract (vs:=[.agg (D7 ((BI δ 0).getD mk0)).toArray, .bool (BI δ 0).isSome]) Y Y) Y (.q (.extract (vs:=[.agg (D7 ((BI δ 0).getD mk0)).toArray, .bool (BI δ 0).isSome]) Y Y) Y (.oq (.allocA Db) ?_)))
 rintro v L' ⟨b4,rfl,rfl⟩
 refine .oq (.storeA Y Y ?c17 Dq ?c20 ?c18 (Bd _ _)) ?_
 case c17=>simp [D7,AB]
 case c20=>simp [D7]
 case c18=>simp [D7]
 rintro v L' rfl
 refine .a Y (.nil (.ptCast (b:=b4) (l':=D7 ((BI δ 0).getD mk0)) O Y ?_))
 refine .then_n (.seq (.joinK (ι:=Option Mk) (fun q E=>(5, .bool q.isSome)::E) (fun q=>[AW b4 (D7 (q.getD mk0)) 153,DQ d δ]) (fun q=>Ht δ=q) (pre:=[AW b4 (D7 ((BI δ 0).getD mk0)) 153,DQ d δ]) (ts:=[0,2,3,4]) O O ?_ ?_))
 ·refine .sr ?_
  rcases hf0:BI δ 0 with _|m0
  ·refine .m Y (.cv func102 [_,_] (Kc d δ 1 hn hok) ?_)
   rcases hf1:BI δ 1 with _|m1
   ·refine .m Y (.q (.extract (vs:=[.agg (D7 mk0).toArray, .bool false]) Y Y) Y (.q (.extract (vs:=[.agg (D7 mk0).toArray, .bool false]) Y Y) Y (.oq (.allocA Db) ?_)))
    rintro v L' ⟨b6,rfl,rfl⟩
    refine .oq (.storeA Y Y ?c29 Dq ?c32 ?c30 (Bd _ _)) ?_
    case c29=>simp [D7,AB]
    case c32=>simp [D7]
    case c30=>simp [D7]
    rintro v L' rfl
    refine .a Y (.nil (.ptCast (b:=b6) (l':=D7 mk0) O Y ?_))
    refine .then_n (.sm Y (.m Y (.gk (.gk (.gk (.gn (.gn (.gn (.gn (.gn (.gk (.pF Y Y (.nt (.condF Y (.sk ?_)))))))))))))))
    exact .mk (none) (by unfold Ht;rw [hf0,hf1]) O
   refine .m Y (.q (.extract (vs:=[.agg (D7 m1).toArray, .bool true]) Y Y) Y (.q (.extract (vs:=[.agg (D7 m1).toArray, .bool true]) Y Y) Y (.oq (.allocA Db) ?_)))
   rintro v L' ⟨b6,rfl,rfl⟩
   refine .oq (.storeA Y Y ?c39 Dq ?c42 ?c40 (Bd _ _)) ?_
   case c39=>simp [D7,AB]
   case c42=>simp [D7]
   case c40=>simp [D7]
   rintro v L' rfl
   refine .a Y (.nil (.ptCast (b:=b6) (l':=D7 m1) O Y ?_))
   refine .then_n (.sm Y (.m Y (.gr (.m Y (.gr (.u (.not Y) (.gr (.m Y (.gk (.gk (.gk (.gk (.gk (.gr (.pT Y Y (.pT Y Y (.nt (.condT Y (.region (.q (.loadAs (vs:=D7 m1) Y FI O (by simp [D7]) Y) Y (.oq (.storeA Y Y ?c47 Dq ?c50 ?c48 (Bd _ _)) ?_)))))))))))))))))))))
   case c47=>simp [D7,AB]
   case c50=>simp [D7]
   case c48=>simp [D7]
   rintro v L' rfl
   refine .a Y (.nil (.ptCast (b:=b4) (l':=D7 m1) O Y ?_))
   refine .then_n ?_
   exact .mk ((some m1)) (by unfold Ht;rw [hf0,hf1]) O
  refine .m Y (.cv func102 [_,_] (Kc d δ 1 hn hok) ?_)
  rcases hf1:BI δ 1 with _|m1
  ·refine .m Y (.q (.extract (vs:=[.agg (D7 mk0).toArray, .bool false]) Y Y) Y (.q (.extract (vs:=[.agg (D7 mk0).toArray, .bool false]) Y Y) Y (.oq (.allocA Db) ?_)))
   rintro v L' ⟨b6,rfl,rfl⟩
   refine .oq (.storeA Y Y ?c60 Dq ?c63 ?c61 (Bd _ _)) ?_
   case c60=>simp [D7,AB]
   case c63=>simp [D7]
   case c61=>simp [D7]
   rintro v L' rfl
   refine .a Y (.nil (.ptCast (b:=b6) (l':=D7 mk0) O Y ?_))
   refine .then_n (.sm Y (.m Y (.gk (.gk (.gk (.gn (.gn (.gn (.gn (.gn (.gk (.pF Y Y (.nt (.condF Y (.sk ?_)))))))))))))))
   exact .mk ((some m0)) (by unfold Ht;rw [hf0,hf1]) O
  refine .m Y (.q (.extract (vs:=[.agg (D7 m1).toArray, .bool true]) Y Y) Y (.q (.extract (vs:=[.agg (D7 m1).toArray, .bool true]) Y Y) Y (.oq (.allocA Db) ?_)))
  rintro v L' ⟨b6,rfl,rfl⟩
  refine .oq (.storeA Y Y ?c70 Dq ?c73 ?c71 (Bd _ _)) ?_
  case c70=>simp [D7,AB]
  case c73=>simp [D7]
  case c71=>simp [D7]
  rintro v L' rfl
  refine .a Y (.nil (.ptCast (b:=b6) (l':=D7 m1) O Y ?_))
  refine .then_n (.sm Y (.m Y (.gr (.m Y (.gr (.u (.not Y) (.gr (.m Y (.gr (.fa Y N7 (.gr (.u (.ld Y CT) (.gr (.fa Y N7 (.gr (.u (.ld Y CT) (.gr (.ui Y Y Y (.gr (.pF Y Y (.pT Y Y (.nt (.condD Y (fun h41=>?_) (fun h41=>?_))))))))))))))))))))))))
  ·refine .region (.q (.loadAs (vs:=D7 m1) Y FI O (by simp [D7]) Y) Y (.oq (.storeA Y Y ?c82 Dq ?c85 ?c83 (Bd _ _)) ?_))
   case c82=>simp [D7,AB]
   case c85=>simp [D7]
   case c83=>simp [D7]
   rintro v L' rfl
   refine .a Y (.nil (.ptCast (b:=b4) (l':=D7 m1) O Y ?_))
   refine .then_n ?_
   exact .mk ((some m1)) (by unfold Ht;rw [hf0,hf1];exact congrArg some (if_pos h41)) O
  refine .sk ?_
  exact .mk ((some m0)) (by unfold Ht;rw [hf0,hf1];exact congrArg some (if_neg h41)) O
 rintro o hbest
 refine .seq (.sr ?_)
 rcases o with _|m
 ·refine .m Y (.u (.not Y) (.nt (.condT Y (.sr (.a Y (.an Y (.rt ?_)))))))
  exact .dn Y Y (.inr (.inl ⟨hd,XT hbest,Y,Y⟩))
 simp only [Option.getD_some]
 have hm:=XP hok hbest
 obtain ⟨e1,e2,e3,e4⟩:=XB hok hn2 hm
 have hml:=hm.len
 have hma:=hm.area
 have hmn:=hm.num
 have hhalf:Af δ≤16383:=by unfold Af;omega
 refine .m Y (.u (.not Y) (.nt (.condF Y (.sk (.seq (.add (AU 5 1) (.region (.an Y (.seq (.sr (.an Y (.block (.loopK (ι:=Nat×Value) (fun q E=>(8,q.2)::(9,AA q.1)::E) (fun q=>[Ex q.2 (E6 δ m.area q.1)]) (fun q=>q.1≤Ia m∧∃a c,q.2= .slice a (E6 δ m.area q.1).length c) (fun q=>Ia m-q.1) (0, .slice none 0 0) (ts:=[0,2,3,4]) O (⟨Nat.zero_le _,_,_,Y⟩) O O ?_)))))))))))))
 rintro ⟨i,u⟩ ⟨hi,au,cu,hu⟩
 dsimp only
 dsimp only at hi hu
 subst hu
 have hal:=MP hok hn2 hma i om
 refine .seq (.sm Y (.q (.slen Y underlying111 Y) Y (.fa Y Ue (.u (.ld Y CT) (.ui Y Y Y (.nt (.condD Y (fun h49=>?_) (fun h49=>?_))))))))
 ·have hi2:i<Ia m:=by unfold Ia;omega
  have hrd:=AA4 hd hn2 hma (i:=i) om
  have hix:=OV hn2 hma (i:=i) om
  have hsl:=NI hok.sec (i:=(2+m.area*Af δ+i).toNat) om
  have hmul:0≤m.area*Af δ∧m.area*Af δ≤16383:=by rcases (by omega:m.area=0∨m.area=1) with h|h<;>rw [h]<;>unfold Af<;>omega
  refine .sk (.seq (.block (.seq (.draw [] [[0,1,2,3,4,5,6,7,8,9,10,11,12,13,14]] mixed kQ (.go [AW b4 _ _,DQ d δ] O (.mv Y Y (.kv Y (.fieldAddr Y Tt) (.kv Y (.ld Y CT) (.mv Y Y (.m Y kQ (.c func86 [_] (Hc d δ hn)) O ?_))))))))))
  refine D.kv Y (.mul Y Y om) (.kv Y (.add Y Y om) (.mv Y Y (.kv Y (.add Y Y om) (.m Y kQ (.c func103 [_,_] (RD d δ (2+m.area*Af δ+i))) O ?_))))
  rw [hrd]
  refine D.mv Y Y (.kv Y (.extract Y Y) (.kv Y (.extract Y Y) (.kv Y (.assign Y) (.kv Y (.assign Y) (.pf (.region (.m Y (.m Y (.oq (.appendS Y Y Y Bw underlying9 K2 Y Y ?hb116 dQ) ?_)))))))))
  case hb116=>dsimp only;omega
  rintro v L' ⟨⟨a16,c16,rfl⟩,rfl⟩;dsimp only
  refine .a Y (.nil (.blk_n (.then_n (.region (.m Y (.q (.add Y Y om) Y (.an Y ?_)))))))
  rw [show Bf (E6 δ m.area i)++(δ.now.getD (2+m.area*Af δ+i).toNat []).map Co=Bf (E6 δ m.area (i+1)) by rw [IB,C4];rfl,show (E6 δ m.area i).length+(δ.now.getD (2+m.area*Af δ+i).toNat []).length=(E6 δ m.area (i+1)).length by rw [IB,length_append]]
  exact .rk ((i+1, .slice a16 (E6 δ m.area (i+1)).length c16)) (⟨by dsimp only;omega,_,_,rfl⟩) (by dsimp only;omega) O
 have hi3:i=Ia m:=by unfold Ia;unfold Ia at hi;omega
 subst hi3
 refine .slAddr (a:=au) (c:=cu) O fun hcap hadr=>(.slTo (m:=(E6 δ m.area (Ia m)).length) (k:=m.len.toNat) om O (.slCast (m':=(Ff δ m).length) (xs':=Bf (Ff δ m)) O e3.symm (by rw [show Ff δ m=(E6 δ m.area (Ia m)).take m.len.toNat from rfl];simp [Bf,map_take]) (.xe (.sm Y (.fa Y Ue (.u (.ld Y CT) (.q (.to (v':= .slice au (Ff δ m).length cu) (.slTo (j:=m.len) Y Bw Y om hadr) (by rw [e3])) Y ?_)))))))
 rw [←e3]
 refine .oq (.c func104 [_] (WH _ _ _)) ?_
 rintro v L' ⟨⟨a17,c17,rfl⟩,rfl⟩
 refine .an Y (.sm Y (.q (.bytesBy (cs:=Ff δ m) (n:=(Ff δ m).length) (p:=Ex (.slice a17 (Ff δ m).length c17) (Ff δ m)) Y underlying111 underlying5 underlying9 (fun h hp=>Ad hp) O) Y (.fa Y ACN (.u (.ld Y CT) (.oq (.c func105 [_,_] (Uf (Ff δ m) m.num ?hs130)) ?_)))))
 case hs130=>omega
 rintro v L' (⟨l,hpart,ap,cp,rfl,rfl⟩|⟨hpart,⟨w,rfl⟩,rfl⟩)
 ·obtain ⟨hl1,hl2⟩:=Xq hpart
  have hlm:=D0 l
  rw [hl1] at hlm
  refine .m Y (.ex Y Y (.ex Y Y (.a Y (.an Y (.seq (.sm Y (.u (.not Y) (.nt (.condF Y (.sk (.sm Y (.m Y (.m Y (.q (.slen Y underlying63 Y) Y (.m Y (.fa Y Tt (.u (.ld Y CT) (.fa Y N7 (.u (.ld Y CT) (.fa Y ABq (.u (.ld Y CT) (.fa Y ADl (.u (.ld Y CT) (.q (.build (us:=[(0,_),(1,_),(2,_),(3,_),(4,_),(5,_),(6,_),(7,_)]) ADN ADO Y Y (by simp [AB])) Y (.oq (.box Y) ?_)))))))))))))))))))))))))
  rintro v L' ⟨x,rfl,rfl⟩
  refine .a Y (.an Y (.ret (.wlFold (x:=x) (d:=d) (ω:=⟨l,l.length,m.area,m.count,m.a,m.b,false⟩) O Y Y Y (by rw [hl1]) (by rw [hl1]) ?_)))
  exact .dn Y Y (.inr (.inr ⟨hd,_,by rw [KS hbest];unfold Yn;rw [hpart],_,rfl,rfl⟩))
 refine .m Y (.ex Y Y (.ex Y Y (.a Y (.an Y (.seq (.sm Y (.u (.not Y) (.nt (.condT Y (.sr (.a Y (.an Y (.rt ?_)))))))))))))
 exact .dn Y Y (.inr (.inl ⟨hd,by rw [KS hbest];unfold Yn;rw [hpart],rfl,rfl⟩))
def Ck (all:Bs) (i:Nat):Bs:=(all.drop (i*64)).take 64++List.replicate (64-((all.drop (i*64)).take 64).length) 0
theorem H1 (all:Bs) (i:Nat):(Ck all i).length=64:=by simp [Ck];omega
def Fc:Nat→Dk→Int→Bs→Nat→Dk×Int
  |0,δ,_,_,_=>(δ,0)
  |f+1,δ,area,all,i=>
    if i*64<all.length then
      (if (δ.write (2+area*Af δ+i) (Ck all i)).2≠0 then ((δ.write (2+area*Af δ+i) (Ck all i)).1,2)
       else Fc f (δ.write (2+area*Af δ+i) (Ck all i)).1 area all (i+1))
    else (δ,0)
def DR (δ:Dk) (area:Int) (all:Bs) (frm:Nat):Dk×Int:=Fc (all.length+1) δ area all (frm/64)
theorem ABs {f:Nat} {δ:Dk} {area:Int} {all:Bs} {i:Nat} (h:¬i*64<all.length):Fc f δ area all i=(δ,0):=by
 cases f with
 |zero=>rfl
 |succ f=>simp only [Fc];rw [if_neg h]
theorem C1 (δ:Dk) (n:Int) (s:Bs):(δ.write n s).1.now.length=δ.now.length∧(δ.write n s).1.acts≤δ.acts+1:=by
 unfold Dk.write
 split
 ·exact ⟨rfl,by simp;omega⟩
 ·split
  ·exact ⟨rfl,by simp;omega⟩
  ·exact ⟨by simp [Dk.act,Dk.put],by simp [Dk.act,Dk.put]⟩
theorem IA (δ:Dk):δ.sync.1.now=δ.now∧δ.sync.1.acts≤δ.acts+1:=by
 unfold Dk.sync
 split
 ·exact ⟨rfl,by simp;omega⟩
 ·split<;>exact ⟨by simp [Dk.act],by simp [Dk.act]⟩
theorem Ge {δ δ':Dk} (h:δ'.now.length=δ.now.length):Af δ'=Af δ:=by unfold Af;rw [h]
def C3 (δ:Dk) (m:Mk):Dk×Int:=
 if (δ.write (m.count%2) m.sec).2≠0 then ((δ.write (m.count%2) m.sec).1,2)
 else if (δ.write (m.count%2) m.sec).1.sync.2≠0 then ((δ.write (m.count%2) m.sec).1.sync.1,2) else ((δ.write (m.count%2) m.sec).1.sync.1,0)
def Wl.mark (ω:Wl) (area:Int) (l:List Bs) (a b:Int):Mk:=⟨ω.count+1,area,(AH l).length,l.length,a,b⟩
def Cr (δ:Dk) (ω:Wl) (area:Int) (l:List Bs):Dk×Wl×Int:=
 if δ.sync.2≠0 then (δ.sync.1,ω,2)
 else if (C3 δ.sync.1 (ω.mark area l ω.a ω.b)).2≠0 then ((C3 δ.sync.1 (ω.mark area l ω.a ω.b)).1,ω,2)
 else ((C3 δ.sync.1 (ω.mark area l ω.a ω.b)).1,{ω with recs:=l,synced:=l.length,area:=area,count:=ω.count+1},0)
def Po (r:Dk×Wl×Int):Dk×Wl×Int:=if r.2.2=2 then (r.1,{r.2.1 with doubt:=true},r.2.2) else r
def Ao (δ:Dk) (ω:Wl) (s:Bs):Dk×Wl×Int:=
 if ω.doubt then (δ,ω,34) else if s.length>4000 then (δ,ω,33) else if ¬((AH ω.recs).length+s.length+6:Int)≤64*Af δ then (δ,ω,30)
 else if (DR δ ω.area (AH ω.recs++Bo s) (AH ω.recs).length).2≠0 then Po ((DR δ ω.area (AH ω.recs++Bo s) (AH ω.recs).length).1,ω,(DR δ ω.area (AH ω.recs++Bo s) (AH ω.recs).length).2)
 else ((DR δ ω.area (AH ω.recs++Bo s) (AH ω.recs).length).1,{ω with recs:=ω.recs++[s]},0)
def Ej (δ:Dk) (ω:Wl):Dk×Wl×Int:=
 if ω.doubt then (δ,ω,34) else if ω.synced=ω.recs.length then (δ,ω,0) else if ω.count=4294967295 then (δ,ω,30) else Po (Cr δ ω ω.area ω.recs)
def AFM (δ:Dk) (ω:Wl) (n:Int):Dk×Wl×Int:=
 if ω.doubt then (δ,ω,34) else if n<0∨n>ω.recs.length then (δ,ω,32) else if ω.count=4294967295 then (δ,ω,30) else Po (Cr δ ω ω.area (ω.recs.take n.toNat))
def BA (δ:Dk) (ω:Wl) (l:List Bs):Dk×Wl×Int:=
 if ω.doubt then (δ,ω,34) else if l.any (fun s=>decide (s.length>4000)) then (δ,ω,33) else if ¬((l.length:Int)*6≤64*Af δ)∨ω.count=4294967295 then (δ,ω,30)
 else if ¬((AH l).length:Int)≤64*Af δ then (δ,ω,30)
 else if (DR δ (1-ω.area) (AH l) 0).2≠0 then Po ((DR δ (1-ω.area) (AH l) 0).1,ω,(DR δ (1-ω.area) (AH l) 0).2)
 else Po (Cr (DR δ (1-ω.area) (AH l) 0).1 ω (1-ω.area) l)
structure WlI (δ:Dk) (ω:Wl):Prop where
 size:2≤δ.now.length∧δ.now.length≤32768
 acts:δ.acts+10000000<4611686018427387904
 area:0≤ω.area∧ω.area≤1
 count:0≤ω.count∧ω.count≤4294967295
 synced:0≤ω.synced∧ω.synced≤ω.recs.length
 fits:((AH ω.recs).length:Int)≤64*Af δ
theorem D3 {δ:Dk} (h:2≤δ.now.length∧δ.now.length≤32768):0≤Af δ∧Af δ≤16383:=by unfold Af;omega
abbrev wc (d:Nat) (vr:Value) (sy:Int) (vb:Value) (ar ct a b:Int) (db:Bool):List Value:=[AD d,vr,AA sy,vb,AA ar,AA ct,AA a,AA b, .bool db]
theorem ABT (all:Bs) (i k:Nat) (hk:k=all.length-i*64):CX (List.replicate 64 zB) 0 ((Bf (all.drop (i*64))).take (min k 64*1))=Bf (Ck all i):=by
 subst hk
 unfold Ck
 rw [C4,Nat.mul_one]
 have e:(Bf (all.drop (i*64))).take (min (all.length-i*64) 64)=Bf ((all.drop (i*64)).take 64):=by
  rw [show Bf ((all.drop (i*64)).take 64)=(Bf (all.drop (i*64))).take 64 from map_take]
  rcases Nat.le_total (all.length-i*64) 64 with h|h
  ·rw [Nat.min_eq_left h,take_of_length_le (by simp [Bf]),take_of_length_le (by simp [Bf];omega)]
  ·rw [Nat.min_eq_right h]
 rw [e]
 have hl:(Bf ((all.drop (i*64)).take 64)).length=((all.drop (i*64)).take 64).length:=CK _
 generalize (all.drop (i*64)).take 64=t at *
 show (List.replicate 64 zB).take 0++Bf t++(List.replicate 64 zB).drop (0+(Bf t).length)=Bf t++Bf (List.replicate (64-t.length) 0)
 rw [hl,Nat.zero_add,take_zero,nil_append,drop_replicate]
 congr 1
 show _=(List.replicate (64-t.length) (0:UInt8)).map Co
 rw [map_replicate];rfl
theorem ADo:∀(f:Nat) (δ:Dk) (area:Int) (all:Bs) (i:Nat),(Fc f δ area all i).2=0∨(Fc f δ area all i).2=2:=by
 intro f
 induction f with
 |zero=>intro δ area all i;exact .inl rfl
 |succ f ih=>
  intro δ area all i
  simp only [Fc]
  split
  ·split
   ·exact .inr rfl
   ·exact ih _ _ _ _
  ·exact .inl rfl
theorem Tb (δ:Dk) (area:Int) (all:Bs) (frm:Nat):(DR δ area all frm).2=0∨(DR δ area all frm).2=2:=ADo _ _ _ _ _
theorem PY:∀(f:Nat) (δ:Dk) (area:Int) (all:Bs) (i:Nat),(Fc f δ area all i).1.now.length=δ.now.length∧(Fc f δ area all i).1.acts≤δ.acts+f:=by
 intro f
 induction f with
 |zero=>intro δ area all i;exact ⟨rfl,by simp [Fc]⟩
 |succ f ih=>
  intro δ area all i
  simp only [Fc]
  have hw:=C1 δ (2+area*Af δ+i) (Ck all i)
  split
  ·split
   ·exact ⟨hw.1,by dsimp only;omega⟩
   ·have:=ih (δ.write (2+area*Af δ+i) (Ck all i)).1 area all (i+1)
    exact ⟨by rw [this.1,hw.1],by omega⟩
  ·exact ⟨rfl,by dsimp only;omega⟩
theorem M9 (δ:Dk) (m:Mk):(C3 δ m).1.now.length=δ.now.length∧(C3 δ m).1.acts≤δ.acts+2∧((C3 δ m).2=0∨(C3 δ m).2=2):=by
 have h1:=C1 δ (m.count%2) m.sec
 have h2:=IA (δ.write (m.count%2) m.sec).1
 unfold C3
 split
 ·exact ⟨h1.1,by dsimp only;omega, .inr rfl⟩
 ·split
  ·exact ⟨by rw [h2.1,h1.1],by dsimp only;omega, .inr rfl⟩
  ·exact ⟨by rw [h2.1,h1.1],by dsimp only;omega, .inl rfl⟩
theorem Ma (x d:Nat) (vr:Value) (sy:Int) (vb:Value) (ar ct a b:Int) (db:Bool) (δ:Dk) (n:Int) (hn:2≤δ.now.length∧δ.now.length≤32768):Fn prog 75 #[AD x,AA n] [AW x (wc d vr sy vb ar ct a b db) 156,DQ d δ] fun v L=>v= .bool (decide (n≤64*Af δ))∧L=[AW x (wc d vr sy vb ar ct a b db) 156,DQ d δ]:=by
 refine Fn.intro func75 Y Y fun F W=>?_
 have hh:=D3 hn
 refine Z ?_
 refine .cv func86 [_] (Hc d δ hn) ?_
 refine .q (.mul Y Y om) Y (Z ?_)
 exact .vv
theorem BR (x d:Nat) (vr:Value) (sy:Int) (vb:Value) (ar ct a b:Int) (db:Bool) (e:Nat) (er:Int):FnD prog 74 #[AD x,AD e] [AW x (wc d vr sy vb ar ct a b db) 156,AW e [AA er] 28] fun v L=>v= .tuple #[]∧L=[AW x (wc d vr sy vb ar ct a b (if er=2 then true else db)) 156,AW e [AA er] 28]:=by
 refine FnD.intro (vs:=[AD x,AD e]) func74 rfl rfl ?_
 intro F W
 refine Z ?_
 refine G.condD rfl (fun h7=>?_) (fun h7=>?_)
 ·refine Z ?_
  refine G.done_n ?_
  rw [if_pos h7]
  exact G.dn rfl rfl ⟨rfl,rfl⟩
 ·refine G.skip (G.done_n ?_)
  rw [if_neg h7]
  exact G.dn rfl rfl ⟨rfl,rfl⟩
theorem Qe (x d:Nat) (vr:Value) (sy:Int) (vb:Value) (ar ct a b:Int) (db:Bool) (va:Value) (δ:Dk) (area:Int) (all:Bs) (frm:Nat) (p:HP) (hn:2≤δ.now.length∧δ.now.length≤32768) (ha:0≤area∧area≤1) (hA:δ.acts+70000<4611686018427387904) (hr:∀h:Hp,p h→CA 1 h va all.length (Bf all)) (hl0:all.length≤2000000) (hfrm:frm≤all.length):Fn prog 78 #[AD x,AA area,va,AA frm] [AW x (wc d vr sy vb ar ct a b db) 156,DQ d δ,p] fun v L=>v=AA (DR δ area all frm).2∧L=[AW x (wc d vr sy vb ar ct a b db) 156,DQ d (DR δ area all frm).1,p]:=by
 refine Fn.intro func78 Y Y fun F W=>?_
 have hh:=D3 hn
 refine .rdAny (p:=p) hr O fun aa ca e _=>?_
 subst e
 refine Z ?_
 refine .q (.as (v':=AA ((frm/64:Nat):Int)) (by exact congrArg AA om) (.quoE Y Y om om)) Y (Z ?_)
 refine .loopK (ι:=Nat×Dk×Nat) (fun q E=>(9,AA q.1)::E) (fun q=>[DQ d q.2.1]) (fun q=>all.length<q.2.2+q.1*64∧Fc q.2.2 q.2.1 area all q.1=DR δ area all frm∧q.2.1.now.length=δ.now.length∧q.2.1.acts≤δ.acts+q.1∧q.1≤all.length/64+frm+1) (fun q=>all.length-q.1*64) (frm/64,δ,all.length+1) (ts:=[0,1,2]) O (⟨by dsimp only;omega,rfl,rfl,by dsimp only;omega,by dsimp only;omega⟩) O O ?_
 rintro ⟨i,δ2,f⟩ ⟨hf,hl,hnl,hac,hib⟩
 dsimp only
 dsimp only at hf hl hnl hac hib
 have hhz:=Ge hnl
 refine Z ?_
 refine .q (.mul Y Y om) Y (Z ?_)
 refine .condD Y (fun h18=>?_) (fun h18=>?_)
 ·obtain ⟨f,rfl⟩:∃k,f=k+1:=⟨f-1,by omega⟩
  have hi2:i*64<all.length:=by omega
  simp only [Fc] at hl
  rw [if_pos hi2,hhz] at hl
  refine .rdShapeC (p:=p) hr O om fun ba oa e hac2=>?_
  subst e
  have hmul:0≤area*Af δ∧area*Af δ≤16383:=by rcases (by omega:area=0∨area=1) with h|h<;>rw [h]<;>omega
  refine Z ?_
  refine .oq (.make Y Y Bw K2 Y ⟨by simp,by simp;rfl⟩ ?hc9) ?_
  case hc9=>omega
  rintro v L' ⟨bs,rfl,rfl⟩;rw [show (64:Int).toNat=64 from rfl]
  refine Z ?_
  refine .q (.mul Y Y om) Y (.q (.to (v':= .slice (some ⟨ba,oa+i*64*1,none⟩) (all.length-i*64) (ca-i*64)) (.slSlice (i:=(i:Int)*64) (j:=all.length) Y Bw (by exact rfl) (by exact rfl) om) (by rw [show ((i:Int)*64).toNat=i*64 by omega,if_neg om];simp)) Y (.oq (.copy (m:=all.length-i*64) (ys:=(Bf all).drop (i*64*1)) (p:=p) Y Y Y Bw ?h116 ?h217 ?h318 ?h419) ?_))
  case h116=>exact fun h hp=>Oc (hr h hp) hi2
  case h217=>exact fun y hy=>Fe _ y (mem_of_mem_drop hy)
  case h318=>simp
  case h419=>exact Bd _ _
  rintro v L' ⟨rfl,rfl⟩
  refine .nil (.ptCast (b:=bs) (l':=Bf (Ck all i)) O (by rw [show (Bf all).drop (i*64*1)=Bf (all.drop (i*64)) from by rw [Nat.mul_one];exact map_drop.symm];exact ABT all i _ rfl) ?_)
  refine .then_n (.seq (.draw [16] [[0,1,2,3,4,5,6,7,8,9,10,11,12,13,14,15,16],[17]] mixed kQ (.go [AW x _ _,AW bs _ _] O (Z ?_))))
  refine D.mw [10,11,13,16] Y kQ (.c func86 [_] (Hc d δ2 om)) O ?_
  rw [hhz]
  refine D.kv Y (.mul Y Y om) (Z ?_)
  refine D.kv Y (.bytesPt (cs:=Ck all i) Y underlying111 underlying5 underlying9 O (by rw [drop_zero];exact take_of_length_le (by simp [CK,H1])) (by simp [CK,H1]) dQ) (.hh Y (.c func70 [_,_,_] (H0 d δ2 (2+area*Af δ+i) (Ck all i) om)) ?_)
  rintro v L' ⟨rfl,rfl⟩
  refine D.ph (.g0 (Z ?_))
  refine .condN Y (fun h46=>?_) (fun h46=>?_)
  ·refine .seq ?_
   have h46:(δ2.write (2+area*Af δ+i) (Ck all i)).2≠0:=by simpa using h46
   rw [if_pos h46] at hl
   rw [←hl]
   refine Z ?_
   exact .vv
  have h46:¬(δ2.write (2+area*Af δ+i) (Ck all i)).2≠0:=by simpa using h46
  rw [if_neg h46] at hl
  refine Z ?_
  exact .rk ((i+1,(δ2.write (2+area*Af δ+i) (Ck all i)).1,f)) (⟨by dsimp only;omega,hl,by rw [(C1 _ _ _).1];exact hnl,by have:=(C1 δ2 (2+area*Af δ+i) (Ck all i)).2;dsimp only;omega,by dsimp only;omega⟩) (by dsimp only;omega) O
 have hq:=ABs (f:=f) (δ:=δ2) (area:=area) (all:=all) (i:=i) om
 rw [hq] at hl
 rw [←hl]
 refine Z ?_
 exact .vv
theorem AAw (x d:Nat) (vr:Value) (sy:Int) (vb:Value) (ar ct a b:Int) (db:Bool) (m:Mk) (δ:Dk) (hc:0≤ct∧ct≤4294967295) (hA:δ.acts+2<4611686018427387904):Fn prog 142 #[AD x, .agg (D7 m).toArray] [AW x (wc d vr sy vb ar ct a b db) 156,DQ d δ] fun v L=>v=AA (C3 δ (⟨ct+1,m.area,m.len,m.num,m.a,m.b⟩:Mk)).2∧L=[AW x (wc d vr sy vb ar (if (C3 δ (⟨ct+1,m.area,m.len,m.num,m.a,m.b⟩:Mk)).2=0 then ct+1 else ct) a b db) 156,DQ d (C3 δ (⟨ct+1,m.area,m.len,m.num,m.a,m.b⟩:Mk)).1]:=by
 refine Fn.intro func142 Y Y fun F W=>?_
 generalize hM:(⟨ct+1,m.area,m.len,m.num,m.a,m.b⟩:Mk)=M
 have hMc:M.count=ct+1:=by rw [←hM]
 have hwk:=C1 δ (M.count%2) M.sec
 refine .sr (.oq (.box Y) ?_)
 rintro v L' ⟨b3,rfl,rfl⟩
 refine Z ?_
 refine .ptCast (b:=b3) (l':=D7 M) O (by rw [←hM];rfl) ?_
 refine Z ?_
 refine .draw [9,16] [[0,1,2,3,4,5,6,7,8,9],[10,11,12,13,14,15,16],[17,18]] mixed kQ (.go [AW x _ _,AW b3 _ _] O (Z ?_))
 refine D.kv Y (.remE (a:=M.count) Y Y (by rw [hMc];omega) dQ) (.kv Y (.loadAs (vs:=D7 M) Y FI O (by simp [D7]) Y) (.m Y kQ (.c func72 [_] (I3 M)) O ?_))
 refine D.hh Y (.c func70 [_,_,_] (H0 d δ (M.count%2) M.sec om)) ?_
 rintro v L' ⟨rfl,rfl⟩
 refine D.ph (.g0 (Z ?_))
 refine D.ndec (t:=22) Y (fun h2_22=>?_) (fun h2_22=>?_)
 ·refine D.kNT (t:=21) Y h2_22 (Z ?_)
  refine CC.g0 (Z ?_)
  have e:C3 δ M=((δ.write (M.count%2) M.sec).1,2):=by unfold C3;rw [if_pos (by simpa using h2_22)]
  rw [e]
  rw [if_neg (show ¬(2:Int)=0 by decide)]
  exact .vv
 refine D.kNF (t:=21) Y h2_22 (Z ?_)
 refine D.gh (t:=22) Y Y Y kQ (.c func73 [_] (MW d (δ.write (M.count%2) M.sec).1 om)) O ?_
 rintro v L' ⟨rfl,rfl⟩
 refine D.ph (.g0 (Z ?_))
 refine .condN Y (fun h29=>?_) (fun h29=>?_)
 ·refine Z ?_
  have e:C3 δ M=((δ.write (M.count%2) M.sec).1.sync.1,2):=by unfold C3;rw [if_neg (by simpa using h2_22),if_pos (by simpa using h29)]
  rw [e]
  rw [if_neg (show ¬(2:Int)=0 by decide)]
  exact .vv
 refine Z ?_
 have e:C3 δ M=((δ.write (M.count%2) M.sec).1.sync.1,0):=by unfold C3;rw [if_neg (by simpa using h2_22),if_neg (by simpa using h29)]
 rw [e]
 rw [if_pos rfl,←hMc]
 exact .vv
theorem QK (l:List Bs):∀y∈A1 l,AB y=true:=by
 intro y hy;obtain ⟨c,-,rfl⟩:=mem_map.1 hy;rfl
theorem Q5 (x d:Nat) (vr vb:Value) (ω:Wl) (δ:Dk) (area:Int) (v1 v2:Value) (l:List Bs) (p q:HP) (hc:0≤ω.count∧ω.count≤4294967295) (hA:δ.acts+10<4611686018427387904) (hl:(AH l).length≤4000000) (hp:∀h:Hp,p h→CA 1 h v1 l.length (A1 l)) (hq:∀h:Hp,q h→CA 1 h v2 (AH l).length (Bf (AH l))):
    Fn prog 83 #[AD x,AA area,v1,v2] [AW x (wc d vr ω.synced vb ω.area ω.count ω.a ω.b ω.doubt) 156,DQ d δ,p,q] fun v L=>(∃δ',Cr δ ω area l=(δ',ω,2)∧v=AA 2∧L=[AW x (wc d vr ω.synced vb ω.area ω.count ω.a ω.b ω.doubt) 156,DQ d δ',p,q])∨
      (∃δ',Cr δ ω area l=(δ',{ω with recs:=l,synced:=l.length,area:=area,count:=ω.count+1},0)∧v=AA 0∧∃vr' vb',L=[AW x (wc d vr' l.length vb' area (ω.count+1) ω.a ω.b ω.doubt) 156,DQ d δ',ET vr' l,Ex vb' (AH l),p,q]):=by
 refine Fn.intro func83 Y Y fun F W=>?_
 have hsk:=IA δ
 have hll:=D0 l
 refine .rdAny (p:=p) hp O fun ap cp e _=>?_
 subst e
 refine .rdAny (p:=q) hq O fun aq cq e _=>?_
 subst e
 refine Z ?_
 refine .cv func73 [_] (MW d δ om) ?_
 refine Z ?_
 refine .condN Y (fun h15=>?_) (fun h15=>?_)
 ·refine Z ?_
  have e:Cr δ ω area l=(δ.sync.1,ω,2):=by unfold Cr;rw [if_pos (by simpa using h15)]
  exact .dn Y Y (.inl ⟨_,e,Y,Y⟩)
 refine Z ?_
 refine .draw [15] [[0,1,2,3,4,5,6,7,8,9,10,11,12,13,14,15],[16]] mixed kQ (.g0 (Z ?_))
 refine D.kv Y (.to (v':= .agg (D7 ⟨0,area,(AH l).length,l.length,ω.a,ω.b⟩).toArray) (.build (us:=[(1,_),(2,_),(3,_),(4,_),(5,_)]) Gm Db Y Y (by simp [AB])) Y) (.hh Y (.c func142 [_,_] (AAw x d vr ω.synced vb ω.area ω.count ω.a ω.b ω.doubt ⟨0,area,(AH l).length,l.length,ω.a,ω.b⟩ δ.sync.1 hc om)) ?_)
 rintro v L' ⟨rfl,rfl⟩;rw [show (⟨ω.count+1,area,((AH l).length:Int),(l.length:Int),ω.a,ω.b⟩:Mk)=ω.mark area l ω.a ω.b from rfl]
 refine D.ph (.g0 (Z ?_))
 refine .condN Y (fun h33=>?_) (fun h33=>?_)
 ·refine Z ?_
  have e:Cr δ ω area l=((C3 δ.sync.1 (ω.mark area l ω.a ω.b)).1,ω,2):=by unfold Cr;rw [if_neg (by simpa using h15),if_pos (by simpa using h33)]
  have hn2:(C3 δ.sync.1 (ω.mark area l ω.a ω.b)).2=2:=by rcases (M9 δ.sync.1 (ω.mark area l ω.a ω.b)).2.2 with h|h;exact absurd h (by simpa using h33);exact h
  rw [hn2,if_neg (show ¬(2:Int)=0 by decide)]
  exact .dn Y Y (.inl ⟨_,e,Y,Y⟩)
 refine Z ?_
 have h33b:(C3 δ.sync.1 (ω.mark area l ω.a ω.b)).2=0:=by simpa using h33
 rw [if_pos h33b]
 refine Z ?_
 refine .oq (.c func95 [_] (JE _ l.length (A1 l) p hp ?h134 ?h235)) ?_
 case h134=>exact QK l
 case h235=>omega
 rintro v L' ⟨⟨ar',cr',rfl⟩,rfl⟩
 refine Z ?_
 refine .oq (.c func76 [_] (NK _ (AH l).length (Bf (AH l)) q hq ?h139 ?h240)) ?_
 case h139=>exact Fe _
 case h240=>omega
 rintro v L' ⟨⟨ab',cb',rfl⟩,rfl⟩
 refine Z ?_
 have e:Cr δ ω area l=((C3 δ.sync.1 (ω.mark area l ω.a ω.b)).1,{ω with recs:=l,synced:=l.length,area:=area,count:=ω.count+1},0):=by unfold Cr;rw [if_neg (by simpa using h15),if_neg (by simpa using h33)]
 exact .dn Y Y (.inr ⟨_,e,Y,_,_,Y⟩)
theorem WD (x d:Nat) (ω:Wl) (δ:Dk) (hI:WlI δ ω):Fn prog 34 #[AD x] [LW x d ω,DQ d δ] fun v L=>v=AA (Ej δ ω).2.2∧L=[LW x d (Ej δ ω).2.1,DQ d (Ej δ ω).1]:=by
 refine Fn.introD (vs:=[AD x]) func34 Y Y ?_
 intro F W
 refine .wlOpen (ω:=ω) O fun vr vb=>(.slAny (v:=vr) O fun arr crr e _=>?_)
 subst e
 refine .slAny (v:=vb) O fun abb cbb e _=>?_
 subst e
 refine .slAddr (T:=9) O fun hrc hra=>?_
 obtain ⟨hn,hA,har,hct,hsy,hfit⟩:=hI
 have hh:=D3 hn
 have hll:=D0 ω.recs
 refine .sr (.oq (.alloc AEK) ?_)
 rintro v L' ⟨be,rfl,rfl⟩
 refine .nil (.ptCast (b:=be) (l':=[AA 0]) O Y ?_)
 refine Z ?_
 refine .defer (vs:=[_,_]) Y (Z ?_)
 refine .condB Y (fun h4=>?_) (fun h4=>?_)
 ·refine Z ?_
  refine .ptCast (b:=be) (l':=[AA 34]) O Y ?_
  refine Z ?_
  refine .doneD func74 Y Y (BR x d (.slice arr ω.recs.length crr) ω.synced (.slice abb (AH ω.recs).length cbb) ω.area ω.count ω.a ω.b ω.doubt be 34) O ?_
  rintro u L' ⟨rfl,rfl⟩
  have e:Ej δ ω=(δ,ω,34):=by unfold Ej;rw [if_pos h4]
  rw [e,if_neg (show ¬(34:Int)=2 by decide)]
  refine .wlFold (x:=x) (d:=d) (ω:=ω) O Y Y Y Y Y ?_
  exact .d1 Y (.cell Y EP O Y) ⟨Y,Y⟩
 have hdb:¬ω.doubt=true:=by rw [h4];decide
 refine .seq (.draw [] [[0,1,2,3,4,5,6,7,8,9,10]] mixed kQ (.g0 (Z ?_)))
 refine .condD Y (fun h9=>?_) (fun h9=>?_)
 ·refine Z ?_
  refine .ptCast (b:=be) (l':=[AA 0]) O Y ?_
  refine Z ?_
  refine .doneD func74 Y Y (BR x d (.slice arr ω.recs.length crr) ω.synced (.slice abb (AH ω.recs).length cbb) ω.area ω.count ω.a ω.b ω.doubt be 0) O ?_
  rintro u L' ⟨rfl,rfl⟩
  have e:Ej δ ω=(δ,ω,0):=by unfold Ej;rw [if_neg hdb,if_pos h9]
  rw [e,if_neg (show ¬(0:Int)=2 by decide)]
  refine .wlFold (x:=x) (d:=d) (ω:=ω) O Y Y Y Y Y ?_
  exact .d1 Y (.cell Y EP O Y) ⟨Y,Y⟩
 refine Z ?_
 refine .condD Y (fun h20=>?_) (fun h20=>?_)
 ·refine Z ?_
  refine .ptCast (b:=be) (l':=[AA 30]) O Y ?_
  refine Z ?_
  refine .doneD func74 Y Y (BR x d (.slice arr ω.recs.length crr) ω.synced (.slice abb (AH ω.recs).length cbb) ω.area ω.count ω.a ω.b ω.doubt be 30) O ?_
  rintro u L' ⟨rfl,rfl⟩
  have e:Ej δ ω=(δ,ω,30):=by unfold Ej;rw [if_neg hdb,if_neg h9,if_pos h20]
  rw [e,if_neg (show ¬(30:Int)=2 by decide)]
  refine .wlFold (x:=x) (d:=d) (ω:=ω) O Y Y Y Y Y ?_
  exact .d1 Y (.cell Y EP O Y) ⟨Y,Y⟩
 refine Z ?_
 refine .draw [13,14] [[0,1,2,3,4,5,6,7,8,9,10,11,12,13],[14]] mixed kQ (.g0 (Z ?_))
 refine D.hh Y (.c func83 [_,_,_,_] (Q5 x d (.slice arr ω.recs.length crr) (.slice abb (AH ω.recs).length cbb) ω δ ω.area (.slice arr ω.recs.length crr) (.slice abb (AH ω.recs).length cbb) ω.recs (ET (.slice arr ω.recs.length crr) ω.recs) (Ex (.slice abb (AH ω.recs).length cbb) (AH ω.recs)) hct om ?hl45 ?hp46 ?hq47)) ?_
 case hl45=>omega
 case hp46=>exact fun h hp=>Ad hp
 case hq47=>exact fun h hp=>Ad hp
 rintro v L' (⟨δ',hs,rfl,rfl⟩|⟨δ',hs,rfl,vr',vb',rfl⟩)
 ·refine D.ph (.g0 (.hh Y (.store Y Y Y AHG ?c50 (Bd _ _)) ?_))
  case c50=>first|decide|(simp;omega)|simp
  rintro v L' rfl
  refine D.ph (.fin (.ptCast (b:=be) (l':=[AA 2]) O Y ?_))
  refine .then_n (.ret (.doneD func74 Y Y (BR x d (.slice arr ω.recs.length crr) ω.synced (.slice abb (AH ω.recs).length cbb) ω.area ω.count ω.a ω.b ω.doubt be 2) O ?_))
  rintro u L' ⟨rfl,rfl⟩
  have e:Ej δ ω=(δ',{ω with doubt:=true},2):=by unfold Ej;rw [if_neg hdb,if_neg h9,if_neg h20,hs];rfl
  rw [e,if_pos rfl]
  refine .wlFold (x:=x) (d:=d) (ω:={ω with doubt:=true}) O Y Y Y Y Y ?_
  exact .d1 Y (.cell Y EP O Y) ⟨Y,Y⟩
 refine D.ph (.g0 (.hh Y (.store Y Y Y AHG ?c54 (Bd _ _)) ?_))
 case c54=>first|decide|(simp;omega)|simp
 rintro v L' rfl
 refine D.ph (.fin (.ptCast (b:=be) (l':=[AA 0]) O Y ?_))
 refine .then_n (.ret (.doneD func74 Y Y (BR x d vr' _ vb' _ _ _ _ _ be 0) O ?_))
 rintro u L' ⟨rfl,rfl⟩
 have e:Ej δ ω=(δ',{ω with synced:=ω.recs.length,count:=ω.count+1},0):=by unfold Ej;rw [if_neg hdb,if_neg h9,if_neg h20,hs];rfl
 rw [e,if_neg (show ¬(0:Int)=2 by decide)]
 refine .wlFold (x:=x) (d:=d) (ω:={ω with synced:=ω.recs.length,count:=ω.count+1}) O Y Y Y Y Y ?_
 exact .d1 Y (.cell Y EP O Y) ⟨Y,Y⟩
/- not in this seat -/
/- not in this seat -/
theorem L7 (x d:Nat) (ω:Wl) (δ:Dk) (s:Bs) (hI:WlI δ ω) (hsl:s.length≤2147483648):Fn prog 32 #[AD x,AF s] [LW x d ω,DQ d δ] fun v L=>v=AA (Ao δ ω s).2.2∧L=[LW x d (Ao δ ω s).2.1,DQ d (Ao δ ω s).1]:=by
 refine Fn.introD (vs:=[AD x,AF s]) func32 Y Y ?_
 intro F W
 refine .wlOpen (ω:=ω) O fun vr vb=>(.slAny (v:=vr) O fun arr crr e _=>?_)
 subst e
 refine .slAny (v:=vb) O fun abb cbb e _=>?_
 subst e
 refine .slAddr (T:=9) O fun hrc hra=>?_
 obtain ⟨hn,hA,har,hct,hsy,hfit⟩:=hI
 have hh:=D3 hn
 have hll:=D0 ω.recs
 refine .sr (.oq (.alloc AEK) ?_)
 rintro v L' ⟨be,rfl,rfl⟩
 refine .nil (.ptCast (b:=be) (l':=[AA 0]) O Y ?_)
 refine Z ?_
 refine .defer (vs:=[_,_]) Y (Z ?_)
 refine .condB Y (fun h8=>?_) (fun h8=>?_)
 ·refine Z ?_
  refine .ptCast (b:=be) (l':=[AA 34]) O Y ?_
  refine Z ?_
  refine .doneD func74 Y Y (BR x d (.slice arr ω.recs.length crr) ω.synced (.slice abb (AH ω.recs).length cbb) ω.area ω.count ω.a ω.b ω.doubt be 34) O ?_
  rintro u L' ⟨rfl,rfl⟩
  have e:Ao δ ω s=(δ,ω,34):=by unfold Ao;rw [if_pos h8]
  rw [e,if_neg (show ¬(34:Int)=2 by decide)]
  refine .wlFold (x:=x) (d:=d) (ω:=ω) O Y Y Y Y Y ?_
  exact .d1 Y (.cell Y EP O Y) ⟨Y,Y⟩
 have hdb:¬ω.doubt=true:=by rw [h8];decide
 refine Z ?_
 refine .condD Y (fun h13=>?_) (fun h13=>?_)
 ·have hlong:s.length>4000:=by omega
  refine Z ?_
  refine .ptCast (b:=be) (l':=[AA 33]) O Y ?_
  refine Z ?_
  refine .doneD func74 Y Y (BR x d (.slice arr ω.recs.length crr) ω.synced (.slice abb (AH ω.recs).length cbb) ω.area ω.count ω.a ω.b ω.doubt be 33) O ?_
  rintro u L' ⟨rfl,rfl⟩
  have e:Ao δ ω s=(δ,ω,33):=by unfold Ao;rw [if_neg hdb,if_pos hlong]
  rw [e,if_neg (show ¬(33:Int)=2 by decide)]
  refine .wlFold (x:=x) (d:=d) (ω:=ω) O Y Y Y Y Y ?_
  exact .d1 Y (.cell Y EP O Y) ⟨Y,Y⟩
 have hlong:¬s.length>4000:=by omega
 refine Z ?_
 refine .cv func75 [_,_] (Ma x d (.slice arr ω.recs.length crr) ω.synced (.slice abb (AH ω.recs).length cbb) ω.area ω.count ω.a ω.b ω.doubt δ ((AH ω.recs).length+s.length+6) hn) ?_
 refine Z ?_
 refine .condN Y (fun h17=>?_) (fun h17=>?_)
 ·refine Z ?_
  refine .ptCast (b:=be) (l':=[AA 30]) O Y ?_
  refine Z ?_
  refine .doneD func74 Y Y (BR x d (.slice arr ω.recs.length crr) ω.synced (.slice abb (AH ω.recs).length cbb) ω.area ω.count ω.a ω.b ω.doubt be 30) O ?_
  rintro u L' ⟨rfl,rfl⟩
  have e:Ao δ ω s=(δ,ω,30):=by unfold Ao;rw [if_neg hdb,if_neg hlong,if_pos h17]
  rw [e,if_neg (show ¬(30:Int)=2 by decide)]
  refine .wlFold (x:=x) (d:=d) (ω:=ω) O Y Y Y Y Y ?_
  exact .d1 Y (.cell Y EP O Y) ⟨Y,Y⟩
 refine Z ?_
 have hrl:=E9 s
 refine Z ?_
 refine .oq (.call func76 Y Y (vs:=[_]) Y (NK (.slice abb (AH ω.recs).length cbb) (AH ω.recs).length (Bf (AH ω.recs)) (Ex (.slice abb (AH ω.recs).length cbb) (AH ω.recs)) (fun h hp=>Ad hp) (Fe _) om)) ?_
 rintro v L' ⟨⟨ac,cc,rfl⟩,rfl⟩
 refine Z ?_
 refine .oq (.c func77 [_] (I5 s om)) ?_
 rintro v L' ⟨⟨ar,cr,rfl⟩,rfl⟩
 refine .oq (.append (n:=(AH ω.recs).length) (m:=(Bo s).length) (ys:=Bf (Bo s)) (p:=Ex (.slice ar (Bo s).length cr) (Bo s)) Y Y Y Bw (.inl ⟨_,underlying111⟩) K2 Y Y ?hc42 ?hr43 ?hb44 dQ) ?_
 case hc42=>exact Fe _
 case hr43=>exact fun h hp=>Ad hp
 case hb44=>omega
 rintro v L' ⟨⟨a8,c8,rfl⟩,rfl⟩;rw [show (AH ω.recs).length+(Bo s).length=(AH ω.recs++Bo s).length by rw [length_append],show Bf (AH ω.recs)++Bf (Bo s)=Bf (AH ω.recs++Bo s) from (C4 _ _).symm]
 refine Z ?_
 refine .draw [11] [[0,1,2,3,4,5,6,7,8,9,10,11],[12]] mixed kQ (.g0 (Z ?_))
 refine D.hh Y (.c func78 [_,_,_,_] (Qe x d (.slice arr ω.recs.length crr) ω.synced (.slice abb (AH ω.recs).length cbb) ω.area ω.count ω.a ω.b ω.doubt (.slice a8 (AH ω.recs++Bo s).length c8) δ ω.area (AH ω.recs++Bo s) (AH ω.recs).length (Ex (.slice a8 (AH ω.recs++Bo s).length c8) (AH ω.recs++Bo s)) hn har om (fun h hp=>Ad hp) (by rw [length_append];omega) (by rw [length_append];omega))) ?_
 rintro v L' ⟨rfl,rfl⟩
 refine D.ph (.g0 (Z ?_))
 refine .condN Y (fun h51=>?_) (fun h51=>?_)
 ·refine Z ?_
  refine .ptCast (b:=be) (l':=[AA (DR δ ω.area (AH ω.recs++Bo s) (AH ω.recs).length).2]) O Y ?_
  refine Z ?_
  refine .doneD func74 Y Y (BR x d (.slice arr ω.recs.length crr) ω.synced (.slice abb (AH ω.recs).length cbb) ω.area ω.count ω.a ω.b ω.doubt be (DR δ ω.area (AH ω.recs++Bo s) (AH ω.recs).length).2) O ?_
  rintro u L' ⟨rfl,rfl⟩
  have h2:(DR δ ω.area (AH ω.recs++Bo s) (AH ω.recs).length).2=2:=by rcases Tb δ ω.area (AH ω.recs++Bo s) (AH ω.recs).length with h|h;exact absurd h (by simpa using h51);exact h
  have e:Ao δ ω s=((DR δ ω.area (AH ω.recs++Bo s) (AH ω.recs).length).1,{ω with doubt:=true},2):=by unfold Ao;rw [if_neg hdb,if_neg hlong,if_neg (fun h=>h h17),if_pos (by simpa using h51),h2];rfl
  rw [e,h2,if_pos rfl]
  refine .wlFold (x:=x) (d:=d) (ω:={ω with doubt:=true}) O Y Y Y Y Y ?_
  exact .d1 Y (.cell Y EP O Y) ⟨Y,Y⟩
 refine Z ?_
 refine .oq (.buildSlice1 (vs:=[_]) Br Gf Y Y Y Y Y dQ) ?_
 rintro v L' ⟨b12_7,rfl,rfl⟩
 refine .oq (.append1 Y Y Y Br Gf Y Y ?c72 ?c73 (Nat.le_refl _) ?c74 dQ) ?_
 case c72=>(first|(simp [AB];done)|(simp [AB,AQ,Value.cells];done))
 case c73=>rfl
 case c74=>omega
 rintro v L' ⟨⟨a12_8,c12_8,rfl⟩,rfl⟩
 refine Z ?_
 refine .ptCast (b:=be) (l':=[AA 0]) O Y ?_
 refine Z ?_
 refine .doneD func74 Y Y (BR x d _ _ _ _ _ _ _ _ be 0) O ?_
 rintro u L' ⟨rfl,rfl⟩
 have e:Ao δ ω s=((DR δ ω.area (AH ω.recs++Bo s) (AH ω.recs).length).1,{ω with recs:=ω.recs++[s]},0):=by unfold Ao;rw [if_neg hdb,if_neg hlong,if_neg (fun h=>h h17),if_neg (by simpa using h51)]
 rw [e,if_neg (show ¬(0:Int)=2 by decide)]
 refine .wlFold (x:=x) (d:=d) (ω:={ω with recs:=ω.recs++[s]}) O Y (by simp) (by simp [A1]) (by rw [Cy];simp [AH]) (by rw [Cy];simp [AH]) ?_
 exact .d1 Y (.cell Y EP O Y) ⟨Y,Y⟩
/- not in this seat -/
/- not in this seat -/
theorem VF (x d:Nat) (ω:Wl):Fn prog 47 #[AD x] [LW x d ω] fun v L=>v= .tuple #[AA ω.a,AA ω.b]∧L=[LW x d ω]:=by
 refine Fn.intro func47 Y Y fun F W=>?_
 refine .wlOpen (ω:=ω) O fun vr vb=>(.slAny (v:=vr) O fun arr crr e _=>?_)
 subst e
 refine .slAny (v:=vb) O fun abb cbb e _=>?_
 subst e
 refine Z ?_
 refine .draw [] [[0,1,2,3,4,5,6,7,8,9]] mixed kQ (.g0 (Z ?_))
 refine .wlFold (x:=x) (d:=d) (ω:=ω) O Y Y Y Y Y ?_
 exact .vv
def Yh (δ:Dk) (ω:Wl):Int:=max (-1) (min 4000 (64*Af δ-(AH ω.recs).length-6))
theorem YN (x d:Nat) (ω:Wl) (δ:Dk) (hn:2≤δ.now.length∧δ.now.length≤32768) (hfit:(AH ω.recs).length≤4000000):Fn prog 36 #[AD x] [LW x d ω,DQ d δ] fun v L=>v=AA (Yh δ ω)∧L=[LW x d ω,DQ d δ]:=by
 refine Fn.intro func36 Y Y fun F W=>?_
 refine .wlOpen (ω:=ω) O fun vr vb=>(.slAny (v:=vr) O fun arr crr e _=>?_)
 subst e
 refine .slAny (v:=vb) O fun abb cbb e _=>?_
 subst e
 have hh:=D3 hn
 refine Z ?_
 refine .draw [] [[0,1,2,3,4,5,6,7,8,9,10,11,12,13,14,15]] mixed kQ (.go [AW x _ _,DQ d δ] O (Z ?_))
 refine D.m Y kQ (.c func86 [_] (Hc d δ hn)) O ?_
 refine D.kv Y (.mul Y Y om) (Z ?_)
 refine D.kv Y (.min2 Y Y) (.kv Y (.max2 Y Y) (Z ?_))
 refine .wlFold (x:=x) (d:=d) (ω:=ω) O Y Y Y Y Y ?_
 exact .vv
theorem P4 (x d:Nat) (ω:Wl) (hl:ω.recs.length≤4294967296):Fn prog 48 #[AD x] [LW x d ω] fun v L=>(ω.doubt=true∧v= .tuple #[.slice none 0 0,AA 34]∧L=[LW x d ω])∨(ω.doubt=false∧∃a c,v= .tuple #[.slice a ω.recs.length c,AA 0]∧L=[LW x d ω,ET (.slice a ω.recs.length c) ω.recs]):=by
 refine Fn.intro func48 Y Y fun F W=>?_
 refine .wlOpen (ω:=ω) O fun vr vb=>(.slAny (v:=vr) O fun arr crr e _=>?_)
 subst e
 refine .slAny (v:=vb) O fun abb cbb e _=>?_
 subst e
 refine Z ?_
 refine .condB Y (fun h7=>?_) (fun h7=>?_)
 ·refine Z ?_
  refine .wlFold (x:=x) (d:=d) (ω:=ω) (vr:=(.slice arr ω.recs.length crr)) O Y Y Y Y Y ?_
  exact .dn Y Y (.inl ⟨h7,Y,Y⟩)
 refine Z ?_
 refine .oq (.c func95 [_] (JE (.slice arr ω.recs.length crr) ω.recs.length (A1 ω.recs) (ET (.slice arr ω.recs.length crr) ω.recs) (fun h hp=>Ad hp) (QK _) hl)) ?_
 rintro v L' ⟨⟨ac,cc,rfl⟩,rfl⟩
 refine .oq (.c func106 [_] (XI _ _ _)) ?_
 rintro v L' ⟨⟨ad,cd,rfl⟩,rfl⟩
 refine Z ?_
 refine .wlFold (x:=x) (d:=d) (ω:=ω) (vr:=(.slice arr ω.recs.length crr)) O Y Y Y Y Y ?_
 exact .dn Y Y (.inr ⟨by simpa using h7,_,_,rfl,rfl⟩)
end Go.Proofs.YtbhkloaagkkioaaGreatDoor
