/- Own work, in part by program, for topShipped.proved. -/
import Derived.Test.YtbhkloaagkkioaaGreatDoorCTShipP1
import Derived.Test.YtbhkloaagkkioaaGreatDoorCTShipP5
import Derived.Test.YtbhkloaagkkioaaGreatDoorCTShipP3
import Derived.Test.YtbhkloaagkkioaaGreatDoorCTShipP4
import Derived.Test.YtbhkloaagkkioaaGreatDoorCTShipP0
import Derived.Test.YtbhkloaagkkioaaGreatDoorRows
import Derived.WalkKit
import Derived.ProofKit
import Derived.OpenShut
import Derived.JoinedCond
import Derived.Carry
import Derived.Deep.Grids
import Derived.Handed
import Derived.Deep.Strs
set_option maxRecDepth 100000
namespace Go.Proofs.YtbhkloaagkkioaaGreatDoor
open Go List Go.Proofs.Tryz
theorem ACQ {τ:Tr} (h:Pi τ):τ.Ok 256:=
 ⟨(KX h.n).1,(PC h.s).1,h.nf,fun y hy=>Oj (Uq h.n y hy),(YW h.s).2,fun y hy=>by have:=(h.nd y hy).2.1;omega,h.sf⟩
theorem AFq {s:Bs} {τ:Tr} (h:readZ s=some τ):τ.Ok 256:=ACQ (ABd h).1
/- not in this seat -/
theorem AA6 {p:HP} {e:En} (h:PtA p e.x):∀v∈CB e,AB v=true:=by
 intro v hv
 unfold CB at hv
 rcases mem_append.1 hv with hv|hv
 ·simp at hv;rcases hv with rfl|rfl|rfl<;>rfl
 ·exact h.all v hv
def AF5 (p:HP) (o:Option Tr) (e:Int) (v:Value) (L:List HP):Prop:=(o=none∧v= .tuple #[.pointer none,AA e]∧L=[p])∨∃τ t,o=some τ∧v= .tuple #[AD t,AA 0]∧L=[AV t τ,p]
structure Lx (p:HP) (v:Value) (es:List En):Prop where
 cells:∀h:Hp,p h→CA 11 h v es.length (es.flatMap CB)
 len:es.length≤1048576
 tx:∀e∈es,TxA p e.x e.subs
 total:Y7 es≤2097152
noncomputable def restO (s:Bs) (es:List En):Option Tr:=(readZ s).map fun τ=>KQ τ es
theorem Ph (s:Bs) (hs:s.length≤70368744177664) (va:Value) (es:List En) (p:HP) (hE:Lx p va es):Fn prog 21 #[AF s,va] [p] (AF5 p (restO s es) 70):=by
 refine Fn.intro func21 Y Y fun F W=>?_
 refine .rdAny (p:=p) hE.cells O fun aa ca e0 _=>?_
 subst e0
 have hel:=hE.len
 refine Z ?_
 refine .oq (.c func51 [_] (YC s hs)) ?_
 rintro v L' (⟨hz,rfl,rfl⟩|⟨τ,t,hz,rfl,rfl⟩)
 ·refine Z ?_
  exact .dn Y Y (.inl ⟨by unfold restO;rw [hz];rfl,rfl,rfl⟩)
 have ho:=AFq hz
 have hfew:=ho.few
 have hpz:(AX τ).length=τ.nodes.length:=length_map _
 refine Z ?_
 refine .cv func52 [_] (Dm t τ) ?_
 refine Z ?_
 refine .trCast (τ':=(KQ τ (es.take 0))) O (by rw [take_zero];rfl) (.loopK (ι:=Nat) (fun q E=>(23,AA q)::E) (fun q=>[AV t (KQ τ (es.take q))]) (fun q=>q≤es.length) (fun q=>es.length-q) (0) (ts:=[4,5,6,8,21,22]) O (Nat.zero_le _) O O ?_)
 rintro i hi
 refine Z ?_
 refine .condD Y (fun h24=>?_) (fun h24=>?_)
 ·have hi2:i<es.length:=by omega
  have hwm:=AHg (getElem_mem hi2)
  have htot:=hE.total
  refine .rdShape (p:=p) hE.cells O om fun be oe e1=>?_
  subst e1
  have hok:(KQ τ (es.take i)).Ok (256+2097152):=(YZ (z:=τ.zx) (p:=p) (l:=es.take i) ho (fun e he=>hE.tx e (mem_of_mem_take he))).more (by have:=Ro (l:=es) i;omega)
  have htx:=hE.tx _ (getElem_mem hi2)
  have hec:∀v∈CB es[i],AB v=true:=AA6 htx.own
  refine Z ?_
  refine .q (.indexAddr Y Y Ft om) Y (.q (.loadRdA (sz:=11) (j:=i*11) (k:=11) (p:=p) (vs:=CB es[i]) Y Cz O hE.cells (by simp) om om (BH (f:=CB) (sz:=11) (fun _ _=>Y) om)) Y (.oq (.allocA Cq) ?_))
  rintro v L' ⟨b10,rfl,rfl⟩
  refine .sa Y Y GO (by exact hec) ?_
  refine .nil (.ptCast (b:=b10) (l':=CB es[i]) O Y ?_)
  refine Z ?_
  refine .condD Y (fun h30=>?_) (fun h30=>?_)
  ·refine Z ?_
   refine .q (.loadAs (vs:=CB es[i]) Y Cz O (by simp [CB,A0]) Y) Y (.oq (.call func30 Y Y (vs:=[_,_]) Y (C2 t (KQ τ (es.take i)) es[i].zx es[i].ses es[i].xid es[i].x es[i].subs p htx _ hok om)) ?_)
   rintro v L' ⟨ue,ee,rfl,he,hue,rfl⟩
   refine Z ?_
   refine .trCast (τ':=(KQ τ (es.take (i+1)))) O (by rw [Qn _ hi2];unfold DT;rw [if_pos h30]<;>rfl) ?_
   exact .rk (i+1) om om O
  refine Z ?_
  refine .trCast (τ':=(KQ τ (es.take (i+1)))) O (by rw [Qn _ hi2];unfold DT;rw [if_neg h30]<;>rfl) ?_
  exact .rk (i+1) om om O
 have hii:i=es.length:=by omega
 rw [hii,take_length]
 refine Z ?_
 exact .dn Y Y (.inr ⟨_,t,by unfold restO;rw [hz];rfl,rfl,rfl⟩)
/-! ### What is laid within limits is read -/
def Cg {α:Type} (f:Rn α) (b:Bs) (x:α):Prop:= ∀r,f (some (b++r))=(x,some r)
theorem Cg.bind {α β:Type} {f:Rn α} {g:α→Rn β} {b c:Bs} {x:α} {y:β} (hf:Cg f b x) (hg:Cg (g x) c y):Cg (B1 f g) (b++c) y:=fun r=>by
 rw [append_assoc];unfold B1;rw [hf];exact hg r
theorem Cg.end_ {α β:Type} {f:Rn α} {g:α→β} {b:Bs} {x:α} (hf:Cg f b x):Cg (B1 f fun x=>Ir (g x)) b (g x):=fun r=>by
 unfold B1 Ir;rw [hf]
theorem F7 {n:Int} (h:Aw n):Cg AS (Bl n) n:=fun r=>by unfold AS runP;dsimp only;rw [K4 h]
theorem PL {s:Bs} (h:s.length≤4096):Cg Ag (Bx s) s:=fun r=>by unfold Ag runP;dsimp only;rw [LB h dQ]
theorem AE1 {n:Nat} (h:n≤256):Cg BU (BW n) n:=fun r=>by unfold BU runP;dsimp only;rw [Iw h dQ]
theorem Qu {α:Type} {f:Rn α} {E:α→Bs} {l:List α} (h:∀x∈l,Cg f (E x) x):∀i,i≤l.length→Cg (AJ f i) ((l.take i).flatMap E) (l.take i)
 |0,_=>by rw [take_zero];exact fun r=>rfl
 |i+1,hi=>by
  have ih:=Qu h i om
  rw [take_succ_eq_append_getElem om,flatMap_append]
  intro r
  rw [append_assoc]
  have hx:=h l[i] (getElem_mem om)
  have e:[l[i]].flatMap E=E l[i]:=by simp
  show ((AJ f i _).1++[(f (AJ f i _).2).1],(f (AJ f i _).2).2)=_
  rw [ih,e,hx]
theorem Q4 {α:Type} {f:Rn α} {E:α→Bs} {l:List α} (hl:l.length≤256) (h:∀x∈l,Cg f (E x) x):Cg (CD f) (BW l.length++l.flatMap E) l:=by
 have:=Qu h l.length (Nat.le_refl _)
 rw [take_length] at this
 exact Cg.bind (AE1 hl) this
theorem AF9 {a:Ac} (h1:Aw a.1) (h2:a.2.length≤4096):Cg Et (Hw a) a:=Cg.bind (F7 h1) (Cg.end_ (g:=fun s=>(a.1,s)) (PL h2))
theorem ZP {y:Pt} (h:PartB y):Cg NM (HT y) y.pl:=by
 have e:HT y=Bl y.kind++(Bx y.path++(Bx y.data++(EA y.acl++(Bl y.own++(Bl y.num++Bl y.err))))):=by
  unfold HT;simp [append_assoc]
 have hp:=h.path
 have hd:=h.data
 rw [e]
 refine Cg.bind (F7 h.kind) (Cg.bind (PL om) (Cg.bind (PL om) (Cg.bind (Q4 (by have:=h.acl.1;omega) fun a ha=>?_) (Cg.bind (F7 h.own) (Cg.bind (F7 h.num) (Cg.end_ (g:=fun x=>(⟨y.kind,y.path,y.data,AR,y.acl,y.own,y.num,x,AR⟩:Pt)) (F7 h.err)))))))
 have:=h.acl.2 a ha
 exact AF9 ⟨by omega,by omega⟩ om
theorem PartB.pl {y:Pt} (h:PartB y):PartB y.pl:=⟨h.kind,h.own,h.num,h.err,h.path,h.data,h.acl⟩
theorem PartB.of {y z:Pt} (e:y.pl=z.pl) (h:PartB z):PartB y:=by
 have h1:=h.pl
 rw [←e] at h1
 exact ⟨h1.kind,h1.own,h1.num,h1.err,h1.path,h1.data,h1.acl⟩
structure EnB (e:En):Prop where
 zx:Aw e.zx
 ses:Aw e.ses
 xid:Aw e.xid
 x:PartB e.x
 subs:∀y∈e.subs,PartB y
 few:e.subs.length≤64
 len:(Cb e).length≤4000
theorem EnB.get {e:En} (h:EnB e):Fg (Cb e)=some e.pl:=by
 have e1:Cb e=Bl e.zx++(Bl e.ses++(Bl e.xid++(HT e.x++(BW (e.subs.map Pt.pl).length++(e.subs.map Pt.pl).flatMap HT)))):=by
  have:BW (e.subs.map Pt.pl).length++(e.subs.map Pt.pl).flatMap HT=If e.subs:=Ny e.subs
  rw [this]
  unfold Cb;simp [append_assoc]
 have hF:Cg enR (Cb e) e.pl:=by
  rw [e1]
  refine Cg.bind (F7 h.zx) (Cg.bind (F7 h.ses) (Cg.bind (F7 h.xid) (Cg.bind (ZP h.x) (Cg.end_ (g:=fun l=>(⟨e.zx,e.ses,e.xid,e.x.pl,l⟩:En)) (Q4 (by rw [length_map];have:=h.few;omega) fun y hy=>?_)))))
  obtain ⟨z,hz,rfl⟩:=mem_map.1 hy
  exact ZP (h.subs z hz).pl
 have:=hF []
 rw [append_nil] at this
 unfold Fg
 rw [this];rfl
theorem AHt {τ:Tr} {z:Int} {y y':Pt} {ys ys':List Pt} (h:y.pl=y'.pl) (hs:ys.map Pt.pl=ys'.map Pt.pl):AM τ z y ys=AM τ z y' ys':=by
 rw [←MU,h,hs,MU]
theorem UM:∀{l l':List En} {τ:Tr},l.map En.pl=l'.map En.pl→Bb τ l=Bb τ l'
 |[],[],_,_=>rfl
 |[],_::_,_,h=>by cases h
 |_::_,[],_,h=>by cases h
 |e::l,e'::l',τ,h=>by
  have h:e.pl::l.map En.pl=e'.pl::l'.map En.pl:=h
  injection h with h1 h2
  have g1:=congrArg En.zx h1
  have g2:=congrArg En.x h1
  have g3:=congrArg En.subs h1
  have hz:e.zx=e'.zx:=g1
  have hx:e.x.pl=e'.x.pl:=g2
  have hs:e.subs.map Pt.pl=e'.subs.map Pt.pl:=g3
  show Bb (DS τ e) l=Bb (DS τ e') l'
  have ha:DS τ e=DS τ e':=by
   show (AM τ e.zx e.x e.subs).1=(AM τ e'.zx e'.x e'.subs).1
   rw [hz,AHt hx hs]
  rw [ha]
  exact UM h2
/-! ### An entry of a history -/
structure EnZ (e:En):Prop where
 b:EnB e
 c:AB e.x.aclV=true∧AB e.x.subsV=true
 cs:∀z∈e.subs,AB z.aclV=true∧z.subsV=AR
theorem PartB.i {y:Pt} (h:PartB y):PtI y:=by
 have hu:Ds=18446744073709551616:=rfl
 have h1:=h.path
 have h2:=h.data
 have h3:=h.acl.1
 exact ⟨h.kind,h.own,h.num,h.err,by omega,by omega,by omega,fun a ha=>⟨⟨by have:=h.acl.2 a ha;omega,by have:=h.acl.2 a ha;omega⟩,by have:=(h.acl.2 a ha).2;omega⟩⟩
theorem EnB.i {e:En} (h:EnB e):EnI e:=⟨h.zx,h.ses,h.xid,h.x.i,by have:=h.few;unfold Ds;omega,fun y hy=>(h.subs y hy).i⟩
theorem AE4:slen AR=0:=rfl
theorem EnZ.fits {e:En} (h:EnZ e):EK e=true:=by
 unfold EK W6
 rw [h.b.get,Bool.and_eq_true]
 exact ⟨all_eq_true.2 fun y hy=>by rw [(h.cs y hy).2,AE4];rfl,rfl⟩
theorem AFY {es:List En} {e:En} (he:e∈es) {h:Hp} (hp:Am entR es h):∃h1,(∀b o,h1 b=some o→h b=some o)∧entR e h1:=by
 obtain ⟨h1,a1,p1⟩:=Ji he hp
 exact ⟨h1,a1,p1⟩
def Hr (v:Value) (es:List En):HP:=fun h=>CP [At 40 11 v es.length (es.flatMap CB),Am entR es] h
theorem Jg {v:Value} {es:List En} {h:Hp} (hp:Hr v es h):CA 11 h v es.length (es.flatMap CB):=by
 obtain ⟨h1,a1,q⟩:=Ae hp
 exact Bj (Ad q) a1
theorem J3 {v:Value} {es:List En} {e:En} (he:e∈es) {h:Hp} (hp:Hr v es h):∃h1,(∀b o,h1 b=some o→h b=some o)∧entR e h1:=by
 obtain ⟨h1,a1,q⟩:=Ae (EJ hp)
 obtain ⟨h2,a2,q2⟩:=AFY he q
 exact ⟨h2,fun b o hb=>a1 b o (a2 b o hb),q2⟩
theorem EnZ.tx {e:En} (h:EnZ e):TxA (entR e) e.x e.subs:=
 ⟨⟨fun _ hp=>Lz hp,by have:=h.b.x.acl.1;omega,by have:=h.b.x.path;omega,h.c.2,h.c.1⟩,fun _ hp=>Hu hp,by have:=h.b.few;omega,fun w hw=>⟨fun _ hp=>JU hp hw,by have:=(h.b.subs w hw).acl.1;omega,by have:=(h.b.subs w hw).path;omega,by rw [(h.cs w hw).2];rfl,(h.cs w hw).1⟩⟩
theorem PtA.weakT {p q:HP} {x:Pt} (h:PtA p x) (hw:∀hh,q hh→∃h1,(∀b o,h1 b=some o→hh b=some o)∧p h1):PtA q x:=
 ⟨fun hh hq=>by obtain ⟨h1,a1,p1⟩:=hw hh hq;exact Bj (h.acl h1 p1) a1,h.few,h.plen,h.subs,h.cell⟩
theorem EnZ.txP {v:Value} {es:List En} {e:En} (h:EnZ e) (he:e∈es):TxA (Hr v es) e.x e.subs:=
 ⟨h.tx.own.weakT fun hh hq=>J3 he hq,fun hh hq=>by obtain ⟨h1,a1,p1⟩:=J3 he hq;exact Bj (h.tx.rd h1 p1) a1,h.tx.few,fun y hy=>(h.tx.each y hy).weakT fun hh hq=>J3 he hq⟩
theorem EnZ.X {v:Value} {es:List En} {e:En} (h:EnZ e) (he:e∈es):EnX (Hr v es) e:=by
 refine ⟨⟨⟨h.b.i,fun hh hp=>?_,fun hh hp=>?_,fun y hy hh hp=>?_⟩,by have:=h.b.len;omega,⟨by have:=h.b.few;omega,by have:=h.b.x.acl.1;omega,fun y hy=>by have:=(h.b.subs y hy).acl.1;omega⟩,h.c,fun y hy=>⟨(h.cs y hy).1,by rw [(h.cs y hy).2];rfl⟩⟩,fun y hy=>⟨none,0,0,(h.cs y hy).2⟩⟩
 ·obtain ⟨h1,a1,q1⟩:=J3 he hp;exact Bj (Lz q1) a1
 ·obtain ⟨h1,a1,q1⟩:=J3 he hp;exact Bj (Hu q1) a1
 ·obtain ⟨h1,a1,q1⟩:=J3 he hp;exact Bj (JU q1 hy) a1
/-! ### A history -/
structure Hi (es:List En):Prop where
 at':∀k,k≤es.length→WI (Bb BV (es.take k))∧Hx (Bb BV (es.take k))∧Sn (Bb BV (es.take k))
 zx:∀i (hi:i<es.length),es[i].zx=4294967297+(i:Int)
 ent:∀e∈es,EnZ e
theorem Hi.nil:Hi []:=⟨fun k _=>by rw [take_nil];exact ⟨WI.new,Hx.new,Sn.new⟩,fun i hi=>absurd hi (Nat.not_lt_zero _),fun e he=>by cases he⟩
theorem Hi.all {es:List En} (h:Hi es):WI (Bb BV es)∧Hx (Bb BV es)∧Sn (Bb BV es):=by
 have:=h.at' es.length (Nat.le_refl _)
 rwa [take_length] at this
theorem Hi.snoc {es:List En} (h:Hi es) (hn:es.length≤100) {p:HP} {w:Ui} (hw:AD1 p w) {y:Pt} {ys:List Pt} (hy:y.pl=(KA (Bb BV es) w).1) (hys:ys.map Pt.pl=(KA (Bb BV es) w).2) (hc:AB y.aclV=true∧∃a c,y.subsV= .slice a ys.length c) (hcs:∀z∈ys,AB z.aclV=true∧z.subsV=AR):
  Hi (es++[⟨4294967297+(es.length:Int),DE w.ses,w.num,y,ys⟩]):=by
 obtain ⟨h1,h2,h3⟩:=h.all
 have hz:Aw (4294967297+(es.length:Int)):=⟨by omega,by omega⟩
 have hT:=AHl h1 hw hz hw.num
 have hG:Gb 64 y ys:=(AIW h1.ok hw).of hy hys
 have hS:=hT.s.of hy hys
 have hB:PartB y:=PartB.of (z:=(KA (Bb BV es) w).1) (by rw [hy];exact (show (KA (Bb BV es) w).1=(KA (Bb BV es) w).1.pl by rw [←hy];rfl)) hT.x
 have hBs:∀z∈ys,PartB z:=fun z hz=>by
  have hm:z.pl∈(KA (Bb BV es) w).2:=by rw [←hys];exact mem_map_of_mem hz
  exact PartB.of (z:=z.pl) rfl (hT.l _ hm)
 have hE:EnZ ⟨4294967297+(es.length:Int),DE w.ses,w.num,y,ys⟩:=⟨⟨hz,PF _,hw.num,hB,hBs,by rcases hG.len with g|⟨-,g,-⟩<;>(show ys.length≤64;omega),hS.len⟩,⟨hc.1,by obtain ⟨a,c,e⟩:=hc.2;show AB y.subsV=true;rw [e];rfl⟩,hcs⟩
 refine ⟨fun k hk=>?_,fun i hi=>?_,fun e he=>?_⟩
 ·rcases Nat.lt_or_ge es.length k with g|g
  ·rw [take_of_length_le (by rw [length_append];exact Nat.succ_le_of_lt g),Jn]
   exact ⟨hS.wi,hG.w h2 hz,h3.app hB hBs⟩
  ·rw [take_append_of_le_length g];exact h.at' k g
 ·rcases Nat.lt_or_ge i es.length with g|g
  ·rw [getElem_append_left g];exact h.zx i g
  ·have:i=es.length:=by rw [length_append,length_singleton] at hi;omega
   subst this
   rw [getElem_append_right (Nat.le_refl _)]
   simp
 ·rcases mem_append.1 he with g|g
  ·exact h.ent e g
  ·rw [mem_singleton.1 g];exact hE
theorem EnL.all {l:List En} {e:En} (he:e∈l) (h:EnL (entR e) e):EnL (Am entR l) e:=by
 have hr:∀{h:Hp},Am entR l h→∃h1,(∀b o,h1 b=some o→h b=some o)∧entR e h1:=fun hp=>by
  obtain ⟨h1,a1,q1⟩:=Ji he hp
  exact ⟨h1,a1,q1⟩
 refine ⟨⟨h.w.i,fun _ hp=>?_,fun _ hp=>?_,fun y hy _ hp=>?_⟩,h.len,h.few,h.cx,h.cs⟩
 ·obtain ⟨h1,a1,q1⟩:=hr hp;exact Bj (Lz q1) a1
 ·obtain ⟨h1,a1,q1⟩:=hr hp;exact Bj (Hu q1) a1
 ·obtain ⟨h1,a1,q1⟩:=hr hp;exact Bj (JU q1 hy) a1
theorem EnB.got {e ge:En} {er:Int} (h:EnB e) (hg:YH (Cb e) ge er):ge.pl=e.pl∧Yu ge:=by
 rcases hg with ⟨-,h2,h3⟩|⟨-,h2,-⟩
 ·rw [h.get] at h2
  injection h2 with h2
  exact ⟨h2.symm,h3⟩
 ·rw [h.get] at h2;cases h2
theorem AGc {l m:List En} {i:Nat} {ge:En} (hi:i<m.length) (h:l.map En.pl=(m.take i).map En.pl) (hg:ge.pl=m[i].pl):(l++[ge]).map En.pl=(m.take (i+1)).map En.pl:=by
 rw [map_append,h,take_succ_eq_append_getElem hi,map_append,map_singleton,map_singleton,hg]
theorem AEm {l m:List En} (h:l.map En.pl=m.map En.pl):l.length=m.length:=by
 have:=congrArg List.length h
 rwa [length_map,length_map] at this
theorem Rw:Fn prog 66 #[.slice none 0 0] [At 40 11 (.slice none 0 0) 0 []] fun u L=>u= .slice none 0 0∧L=[At 40 11 u 0 []]:=by
 refine Fn.intro func66 Y Y fun F W=>?_
 refine Z ?_
 refine .q (.clip (n:=0) Y Ft Y Y (Nat.le_refl _) (.inl Y)) Y (Z ?_)
 exact .dn Y Y ⟨Y,Y⟩
theorem Rx (b n c:Nat) (hc:n≤c) (xs:List Value):Fn prog 66 #[.slice (some ⟨b,0,none⟩) n c] [At 40 11 (.slice (some ⟨b,0,none⟩) n c) n xs] fun u L=>u= .slice (some ⟨b,0,none⟩) n n∧L=[At 40 11 u n xs]:=by
 refine Fn.intro func66 Y Y fun F W=>?_
 refine Z ?_
 refine .q (.clip (n:=n) Y Ft Y Y hc (.inr ⟨_,_,Y⟩)) Y (Z ?_)
 refine .slClip O ?_
 exact .dn Y Y ⟨Y,Y⟩
theorem VE (v:Value) (n:Nat) (xs:List Value):Fn prog 66 #[v] [At 40 11 v n xs] fun u L=>(∃a c,u= .slice a n c)∧L=[At 40 11 u n xs]:=by
 intro F w hs
 obtain ⟨g1,-,hp⟩:=Ae hs
 rcases hp with ⟨rfl,rfl,rfl⟩|⟨b,cap,rest,fr,rfl,-,-,-,h4,-⟩
 ·exact (Rw F w hs).mono fun e w' ⟨u,L,⟨h1,h2⟩,h3⟩=>⟨u,L,⟨⟨_,_,h1⟩,h2⟩,h3⟩
 ·exact (Rx b n cap h4 xs F w hs).mono fun e w' ⟨u,L,⟨h1,h2⟩,h3⟩=>⟨u,L,⟨⟨_,_,h1⟩,h2⟩,h3⟩
theorem X0 (b:Nat) (k:PlK) (π:Pl) (n:Nat) (hB:RU π n) (hn:n≤4096) (hL:∀e∈π.ord,EnB e∧EnL (entR e) e):Fn prog 27 #[AD b] [plR b k π] fun v L=> ∃l a c,l.map En.pl=π.ord.map En.pl∧(∀e∈l,Yu e)∧v= .slice a l.length c∧L=[plR b k π,At 40 11 v l.length (l.flatMap CB),Am entR l]:=by
 refine Fn.intro func27 Y Y fun F W=>?_
 refine .plOpen (π:=π) O fun ov mi me hI=>(.slAny (v:=ov) O fun ao co eo _=>?_)
 subst eo
 have hol:=hB.ord
 refine .add (p:=Vy AR []) (AU 40 11) (.add (p:=Am entR []) (fun h=>CH h) (Z ?_))
 refine .loopK (ι:=Nat×Value×(List En)) (fun q E=>(11,AA q.1)::(3,q.2.1)::E) (fun q=>[At 40 11 q.2.1 q.1 (q.2.2.flatMap CB),Am entR q.2.2]) (fun q=>q.1≤π.ord.length∧(∃a c,q.2.1= .slice a q.1 c)∧q.2.2.map En.pl=(π.ord.take q.1).map En.pl∧∀e∈q.2.2,Yu e) (fun q=>π.ord.length-q.1) (0,AR,[]) (ts:=[2,9,10]) O (⟨Nat.zero_le _,⟨none,0,Y⟩,Y,fun y hy=>by cases hy⟩) O O ?_
 rintro ⟨i,u,l⟩ ⟨hi,⟨au,cu,hu⟩,hl,hk⟩
 dsimp only
 dsimp only at hi hu hl hk
 subst hu
 refine Z ?_
 refine .condD Y (fun h12=>?_) (fun h12=>?_)
 ·have hi2:i<π.ord.length:=by omega
  have hel:=hL _ (getElem_mem hi2)
  have hlen:=hel.1.len
  refine .slShape (T:=40) (sz:=11) (v:= .slice ao π.ord.length co) (xs:=π.ord.flatMap CB) O om fun bo bo' e0 _ _=>?_
  simp only [Value.slice.injEq,true_and] at e0
  obtain ⟨rfl,rfl⟩:=e0
  refine Z ?_
  refine .q (.indexAddr Y Y Ft om) Y (.q (.loadRdA (sz:=11) (j:=i*11) (k:=11) (p:=Vy (.slice (some ⟨bo,0,none⟩) π.ord.length co) π.ord) (vs:=CB π.ord[i]) Y Cz O (fun h hp=>Ad hp) (by simp) om om (BH (f:=CB) (sz:=11) (fun _ _=>Y) om)) Y (.oq (.allocA Cq) ?_))
  rintro v L' ⟨b5,rfl,rfl⟩
  refine .sa Y Y GO (by exact hel.2.cells) ?_
  refine .nil (.pc b5 (CB π.ord[i]) ?_)
  refine Z ?_
  refine .q (.la (CB π.ord[i]) Y Cz) Y (.cv func65 [_] (Qr π.ord[i] (Am entR π.ord) (EnL.all (getElem_mem hi2) hel.2)) ?_)
  refine .oq (.c func44 [_] (Jy (Cb π.ord[i]) om)) ?_
  rintro v L' ⟨ge,er,hge,rfl,rfl⟩
  refine Z ?_
  refine .sa Y Y GO (by exact hge.cells) ?_
  refine .nil (.pc b5 (CB ge) ?_)
  have hgp:=hel.1.got hge
  refine Z ?_
  refine .q (.la (CB ge) Y Cz) Y (.oq (.buildSlice (vs:=[_]) Ft Cq Y Y Y Y cQ dQ) ?_)
  rintro v L' ⟨b6,rfl,rfl⟩
  refine .oq (.append1 Y Y Y Ft Cq Y Y ?c35 ?c36 (Nat.le_refl _) ?c37 dQ) ?_
  case c35=>simp only [map_cons,map_nil,flatten_cons,flatten_nil,append_nil];simp only [Value.cells];exact hge.cells
  case c36=>rfl
  case c37=>omega
  rintro v L' ⟨⟨a6,c6,rfl⟩,rfl⟩
  refine Z ?_
  refine .bigAdd (f:=entR) (l:=l) (p:=entR ge) ge Y O (.slCast (T:=40) (sz:=11) (m':=i+1) (xs':=(l++[ge]).flatMap CB) O (by exact rfl) (by rw [flatMap_append];simp [Value.cells]) ?_)
  exact .rk ((i+1, .slice a6 (i+1) c6,l++[ge])) (⟨by dsimp only;omega,⟨_,_,rfl⟩,AGc hi2 hl hgp.1,fun z hz=>by rcases mem_append.1 hz with hz|hz;exact hk z hz;rw [mem_singleton] at hz;rw [hz];exact hgp.2⟩) (by dsimp only;omega) O
 have hii:i=π.ord.length:=by omega
 subst hii
 rw [take_length] at hl
 have hll:=AEm hl
 refine .slCast (T:=40) (sz:=11) (m':=l.length) (xs':=l.flatMap CB) O (by rw [hll]) Y (Z ?_)
 refine .oq (.c func66 [_] (VE _ l.length (l.flatMap CB))) ?_
 rintro v L' ⟨⟨ac,cc,rfl⟩,rfl⟩
 refine Z ?_
 refine .plFold (k:=k) (ov:= .slice ao π.ord.length co) π hI O (by rfl) (by rfl) (by rfl) (by rfl) (by rfl) (by rfl) (Z ?_)
 exact .dn Y Y ⟨l,ac,cc,hl,hk,Y,Y⟩
structure Pc (s:Ld) (N c:Int) (l:List En):Prop where
 h:V3 s N c
 e:s.Λ=⟨0,0,0,[],l.map Cb,l.map (·.zx),false⟩
theorem Pc.more {s:Ld} {N M c d:Int} {l:List En} (h:Pc s N c l) (hN:N≤M) (hc:c≤d):Pc s M d l:=⟨h.h.more hN hc,h.e⟩
theorem T0 {n:Int} (hn:n=16384):∃ω,(A6 (Dk.new n)).2=some ω∧Pc ⟨(A6 (Dk.new n)).1,ω,lg0⟩ 4000003 3 []∧EG (BN (Dk.new n)).1 newW 3∧EG (GQ (Dk.new n)).1 (GQ (Dk.new n)).2.1 2000003:=by
 obtain ⟨ω,f1,f2,f3,f4⟩:=XK hn
 exact ⟨ω,f1,⟨f2,rfl⟩,f3,f4⟩
theorem AAi {es:List En} (hi:Hi es) {k:Nat} (hk:k<es.length):((es.take k).map (·.zx)).getLast?.getD 0<es[k].zx:=by
 have h1:=hi.zx k hk
 cases hl:((es.take k).map (·.zx)).getLast? with
 |none=>show (0:Int)<_;omega
 |some z=>
  have hm:=mem_of_getLast? hl
  obtain ⟨e,he,rfl⟩:=mem_map.1 hm
  obtain ⟨i,hi2,rfl⟩:=mem_iff_getElem.1 he
  rw [length_take] at hi2
  have h2:=hi.zx i om
  show (es.take k)[i].zx<_
  rw [getElem_take];omega
theorem AAk {s:Ld} {N c:Int} {es:List En} (hi:Hi es) (hn:es.length≤100) {k:Nat} (hk:k<es.length) (h:Pc s N c (es.take k)):
  (Aj s es[k]).2=0∧Pc (Aj s es[k]).1 (N+2000000) (c+1) (es.take (k+1)):=by
 have hE:=hi.ent _ (getElem_mem hk)
 have hl:s.Λ.ents.length=k:=by rw [h.e];show ((es.take k).map Cb).length=k;rw [length_map,length_take];omega
 obtain ⟨a1,a2,a3⟩:=Wq h.h hE.b.i hE.fits hE.b.len (by rw [h.e];exact AAi hi hk) (by rw [h.e]) om
 refine ⟨a1,a3,?_⟩
 rw [a2,h.e]
 show (⟨0,0,0,[],(es.take k).map Cb++[Cb es[k]],(es.take k).map (·.zx)++[es[k].zx],false⟩:Lg)=_
 rw [take_succ_eq_append_getElem hk,map_append,map_append];rfl
theorem Mo {es:List En} (hi:Hi es):∀(n k:Nat) (b:Int),es.length-k=n→b<4294967297+(k:Int)→Dh b ((es.drop k).map Cb) ((es.drop k).map (·.zx))
 |0,k,b,hn,_=>by rw [drop_eq_nil_of_le om];trivial
 |n+1,k,b,hn,hb=>by
  have hk:k<es.length:=by omega
  have hE:=hi.ent _ (getElem_mem hk)
  have hz:=hi.zx k hk
  rw [drop_eq_getElem_cons hk]
  exact ⟨⟨_,hE.b.get,rfl⟩,(by show b<es[k].zx;omega),hE.b.zx,Mo hi n (k+1) es[k].zx om om⟩
theorem AHf {es:List En} (hi:Hi es) {n:Nat} (hn:n<es.length):(es.map (·.zx)).idxOf es[n].zx=n:=by
 have hl:(es.map (·.zx)).length=es.length:=length_map _
 have hm:es[n].zx∈es.map (·.zx):=mem_map_of_mem (getElem_mem hn)
 have hlt:=idxOf_lt_length_of_mem hm
 have hg:(es.map (·.zx))[(es.map (·.zx)).idxOf es[n].zx]'hlt=es[n].zx:=getElem_idxOf hlt
 rw [getElem_map] at hg
 have h1:=hi.zx n hn
 have h2:=hi.zx ((es.map (·.zx)).idxOf es[n].zx) om
 have h3:es[(es.map (·.zx)).idxOf es[n].zx].zx=es[n].zx:=hg
 omega
theorem Qo {es:List En} (h:∀e∈es,EnZ e):∀x∈es.map Cb,x.length≤4000:=fun x hx=>by
 obtain ⟨e,he,rfl⟩:=mem_map.1 hx
 exact (h e he).b.len
def Ik (es:List En) (n:Nat):Lg:=⟨0,0,4294967296+(n:Int),EX (Bb BV (es.take n)),(es.drop n).map Cb,(es.drop n).map (·.zx),false⟩
structure Vp (s:Ld) (N c:Int) (es:List En) (n:Nat):Prop where
 h:V3 s N c
 e:s.Λ=Ik es n
 syn:s.ω.synced=s.ω.recs.length
 old:s.δ.old=[]
theorem S8 {s:Ld} {N c:Int} {es:List En} (hi:Hi es) (hn:es.length≤100) (h:Pc s N c es) (hc:c<4294967295) {n:Nat} (h1:1≤n) (h2:n≤es.length):
  (Bh s (4294967296+(n:Int)) (EX (Bb BV (es.take n)))).2=0∧Vp (Bh s (4294967296+(n:Int)) (EX (Bb BV (es.take n)))).1 (N+4000000) (c+1) es n:=by
 obtain ⟨w1,w2,w3⟩:=hi.at' n h2
 have hs:=N6 w1 w2 w3
 obtain ⟨k,rfl⟩:∃k,n=k+1:=⟨n-1,by omega⟩
 have hz:es[k].zx=4294967296+((k+1:Nat):Int):=by rw [hi.zx k om];omega
 have hp:Fa s.Λ (4294967296+((k+1:Nat):Int))=some (k+1):=by
  rw [h.e,←hz]
  unfold Fa
  rw [if_pos (show es[k].zx∈es.map (·.zx) from mem_map_of_mem (getElem_mem _))]
  show some ((es.map (·.zx)).idxOf es[k].zx+1)=_
  rw [AHf hi]
 have hx:Bh s (4294967296+((k+1:Nat):Int)) (EX (Bb BV (es.take (k+1))))=A2 s (4294967296+((k+1:Nat):Int)) (EX (Bb BV (es.take (k+1)))) ((es.drop (k+1)).map Cb) ((es.drop (k+1)).map (·.zx)):=by
  unfold Bh
  rw [if_neg (by rw [h.e];exact Bool.false_ne_true),if_neg om,hp]
  show A2 s _ _ (s.Λ.ents.drop (k+1)) (s.Λ.zxs.drop (k+1))=_
  rw [h.e]
  show A2 s _ _ ((es.map Cb).drop (k+1)) ((es.map (·.zx)).drop (k+1))=_
  rw [←map_drop,←map_drop]
 obtain ⟨r1,r2,r3,r4,r5⟩:=RC h.h (base:=4294967296+((k+1:Nat):Int)) (snap:=EX (Bb BV (es.take (k+1)))) ⟨by omega,by omega⟩ hs (Mo hi _ (k+1) _ rfl om) (by rw [length_map,length_drop];omega) (Qo fun e he=>hi.ent e (mem_of_mem_drop he)) hc
 rw [hx]
 exact ⟨r1,r3,by rw [r2,h.e];rfl,r4,r5⟩
theorem AHM {l l':List En} (h:l.map En.pl=l'.map En.pl):l.map (·.zx)=l'.map (·.zx)∧l.map Cb=l'.map Cb:=by
 have h1:=congrArg (List.map (·.zx)) h
 have h2:=congrArg (List.map Cb) h
 rw [map_map,map_map] at h1 h2
 refine ⟨h1,?_⟩
 have e:Cb∘En.pl=Cb:=funext fun e=>Rr e
 rw [e] at h2;exact h2
theorem S7 {s:Ld} {N c:Int} {es:List En} (hi:Hi es) (hn:es.length≤100) (h:Pc s N c []) (hc:c<4294967295) {n:Nat} (h2:n≤es.length) {ws:List En} (hw:ws.map En.pl=(es.drop n).map En.pl) (hz:∀e∈ws,EnZ e):
  (BD s (4294967296+(n:Int)) (EX (Bb BV (es.take n))) ws).2=0∧Vp (BD s (4294967296+(n:Int)) (EX (Bb BV (es.take n))) ws).1 (N+4000000) (c+1) es n:=by
 obtain ⟨w1,w2,w3⟩:=hi.at' n h2
 have hs:=N6 w1 w2 w3
 obtain ⟨e1,e2⟩:=AHM hw
 have hr:=Mo hi _ n (4294967296+(n:Int)) rfl om
 have hrise:VY (4294967296+(n:Int)) (ws.map (·.zx)):=by
  intro j hj
  rw [e1] at hj ⊢
  rw [length_map,length_drop] at hj
  have g:∀i,i<es.length-n→((es.drop n).map (·.zx)).getD i 0=4294967297+((n+i:Nat):Int):=fun i hi'=>by
   rw [getD_eq_getElem?_getD,List.getElem?_eq_getElem (by rw [length_map,length_drop];exact hi'),getElem_map,getElem_drop]
   exact hi.zx _ om
  refine ⟨by rw [g j hj];omega,fun h0=>?_⟩
  rw [g j hj,g (j-1) om];omega
 have hx:BD s (4294967296+(n:Int)) (EX (Bb BV (es.take n))) ws=A2 s (4294967296+(n:Int)) (EX (Bb BV (es.take n))) ((es.drop n).map Cb) ((es.drop n).map (·.zx)):=by
  unfold BD
  rw [if_neg (by rw [h.e];exact Bool.false_ne_true),if_neg om,if_neg (by rw [all_eq_true.2 fun e he=>(hz e he).fits];decide),if_neg (fun g=>g hrise),e1,e2]
 obtain ⟨r1,r2,r3,r4,r5⟩:=RC h.h (base:=4294967296+(n:Int)) (snap:=EX (Bb BV (es.take n))) ⟨by omega,by omega⟩ hs hr (by rw [length_map,length_drop];omega) (Qo fun e he=>hi.ent e (mem_of_mem_drop he)) hc
 rw [hx]
 exact ⟨r1,r3,by rw [r2,h.e];rfl,r4,r5⟩
theorem Vp.crash {s:Ld} {N c:Int} {es:List En} {n:Nat} (h:Vp s N c es n) (how:List Int):s.δ.crash how=s.δ:=Wm h.h.lw.well.al h.old how
theorem Vp.opens {s:Ld} {N c:Int} {es:List En} {n:Nat} (h:Vp s N c es n) (hok:s.δ.Ok):Hb s.δ=some s.ω∧Hy s.ω=some (Ik es n):=by
 obtain ⟨h1,h2⟩:=ABf h.h h.syn hok
 exact ⟨h1,by rw [h2,h.e]⟩
theorem ND {es:List En} (hi:Hi es) (n:Nat):Np (Ik es n) (4294967296+(n:Int))=(es.drop n).map En.pl:=by
 have key:∀(l:List En) (b:Int),(∀e∈l,EnZ e∧b<e.zx)→(((l.map Cb).zip (l.map (·.zx))).filter fun q=>decide (q.2>b)).map PK=l.map En.pl:=by
  intro l b
  induction l with
  |nil=>intro _;rfl
  |cons e l ih=>
   intro h
   have h0:=h e mem_cons_self
   rw [map_cons,map_cons,zip_cons_cons,filter_cons,if_pos (decide_eq_true h0.2),map_cons,ih fun x hx=>h x (mem_cons_of_mem _ hx),map_cons]
   congr 1
   unfold PK
   show (Fg (Cb e)).getD en0=e.pl
   rw [h0.1.b.get];rfl
 refine key _ _ fun e he=>⟨hi.ent e (mem_of_mem_drop he),?_⟩
 obtain ⟨i,hi2,rfl⟩:=mem_iff_getElem.1 he
 rw [length_drop] at hi2
 rw [getElem_drop,hi.zx _ om];omega
theorem ADT {e e':En} (h:EnZ e) (he:e'.pl=e.pl) (hk:Yu e'):EnZ e':=by
 have g1:=congrArg En.zx he
 have g2:=congrArg En.ses he
 have g3:=congrArg En.xid he
 have g4:e'.x.pl=e.x.pl:=congrArg En.x he
 have g5:e'.subs.map Pt.pl=e.subs.map Pt.pl:=congrArg En.subs he
 have g6:e'.subs.length=e.subs.length:=by have:=congrArg List.length g5;rwa [length_map,length_map] at this
 have g7:Cb e'=Cb e:=by rw [←Rr e',he,Rr]
 refine ⟨⟨by rw [show e'.zx=e.zx from g1];exact h.b.zx,by rw [show e'.ses=e.ses from g2];exact h.b.ses,by rw [show e'.xid=e.xid from g3];exact h.b.xid,PartB.of g4 h.b.x,fun y hy=>?_,by rw [g6];exact h.b.few,by rw [g7];exact h.b.len⟩,hk.x,hk.subs⟩
 have hm:y.pl∈e.subs.map Pt.pl:=by rw [←g5];exact mem_map_of_mem hy
 obtain ⟨z,hz,hzy⟩:=mem_map.1 hm
 exact PartB.of hzy.symm (h.b.subs z hz)
theorem YV {ws l:List En} (h:∀e∈l,EnZ e) (hw:ws.map En.pl=l.map En.pl) (hk:∀e∈ws,Yu e):∀e∈ws,EnZ e:=fun e he=>by
 have hm:e.pl∈l.map En.pl:=by rw [←hw];exact mem_map_of_mem he
 obtain ⟨z,hz,hzy⟩:=mem_map.1 hm
 exact ADT (h z hz) hzy.symm (hk e he)
theorem VB {es:List En} (hi:Hi es) {n:Nat} (h1:1≤n) (h2:n≤es.length) {ws:List En} (hw:ws.map En.pl=(es.drop n).map En.pl):restO (EX (Bb BV (es.take n))) ws=some (Bb BV es):=by
 obtain ⟨w1,w2,w3⟩:=hi.at' n h2
 unfold restO
 rw [Zi (AB6 w1 w2 w3),Option.map_some]
 congr 1
 obtain ⟨k,rfl⟩:∃k,n=k+1:=⟨n-1,by omega⟩
 have hz:(Bb BV (es.take (k+1))).zx=4294967297+(k:Int):=by
  rw [QG BV (by omega:k<es.length),ACF,hi.zx k om]
 have hall:∀e∈ws,(Bb BV (es.take (k+1))).zx<e.zx:=fun e he=>by
  have hm:e.zx∈ws.map (·.zx):=mem_map_of_mem he
  rw [(AHM hw).1] at hm
  obtain ⟨x,hx,hxe⟩:=mem_map.1 hm
  obtain ⟨i,hi2,rfl⟩:=mem_iff_getElem.1 hx
  rw [length_drop] at hi2
  have hxe:(es.drop (k+1))[i].zx=e.zx:=hxe
  rw [getElem_drop,hi.zx _ om] at hxe
  rw [hz];omega
 show ws.foldl (DT (Bb BV (es.take (k+1))).zx) _=_
 rw [TL hall,UM hw]
 show List.foldl DS (List.foldl DS BV (es.take (k+1))) (es.drop (k+1))=List.foldl DS BV es
 rw [←foldl_append,take_append_drop]
/-! ### Parts of a list of entries -/
theorem Lx.ofZ {v:Value} {es:List En} (h:∀e∈es,EnZ e) (hn:es.length≤1000):Lx (Hr v es) v es:=by
 have hwt:Y7 es≤65*es.length:=by
  have key:∀l:List En,(∀e∈l,EnZ e)→Y7 l≤65*l.length:=by
   intro l
   induction l with
   |nil=>intro _;simp [Y7]
   |cons e l ih=>
    intro hl
    have h1:=(hl e mem_cons_self).b.few
    have h2:=ih fun x hx=>hl x (mem_cons_of_mem _ hx)
    unfold Y7 at h2 ⊢
    rw [map_cons,sum_cons,length_cons];omega
  exact key es h
 exact ⟨fun hh hp=>Jg hp,by omega,fun e he=>(h e he).txP he,by omega⟩
/-! ### A ledger's -/
theorem lt0:(Aj V7 (awe 5)).2=0:=by kernel_rfl
theorem lt1:FX (Aj V7 (awe 5)).1.Λ=5:=by kernel_rfl
theorem AGh:Ho V7 4000003∧Ho (Aj V7 (awe 5)).1 8000003∧EG (BN (Dk.new 64)).1 newW 3∧EG (GQ (Dk.new 64)).1 (GQ (Dk.new 64)).2.1 2000003:=by
 obtain ⟨ω,f1,f2,f3,f4,f5⟩:=Ib (n:=64) dQ
 rw [Fq f1] at f2
 exact ⟨f2,(ABC (s:=V7) f2 (e:=awe 5) (AHO dQ).l.w.i).well,f4,f5⟩
/-! ### A service's -/
def KN:Pl:=(Ut U2 10).1
theorem AHP:RU KN 1:=Yi.opn dQ 10
theorem Yf:PE KN.τ 1:=by decide+kernel
def ptT:Pt:=⟨1,[47,97],[],AR,Dw,0,1,0,AR⟩
theorem AF3 (v:Value):AY KN.τ ⟨1,[]⟩ (KD v)=(ptT,0):=by
 rw [Hh rfl]
 have e:CM (D8 KN.τ ⟨1,[]⟩ (KD v))=0:=(by decide+kernel:CM (D8 KN.τ ⟨1,[]⟩ (KD AR))=0)
 rw [e]
 have e2:Aq KN.τ ⟨1,[]⟩ (KD v)=Aq KN.τ ⟨1,[]⟩ (KD AR):=rfl
 rw [e2]
 show ((⟨1,CE KN.τ (KD AR),[],AR,Dw,if andI 0 1≠0 then 1 else 0,DB ((Kv KN.τ (KD AR)).cver+1),0,AR⟩:Pt),(0:Int))=_
 rw [show (Kv KN.τ (KD AR)).cver=0 by decide+kernel,show CE KN.τ (KD AR)=[47,97] by decide+kernel,show DB (0+1)=1 by decide,if_neg dQ];rfl
theorem AH5 (v:Value):FO KN.τ ⟨1,KN.ids 1⟩ (KD v) []=(ptT,[]):=by
 show FO KN.τ ⟨1,[]⟩ (KD v) []=_
 unfold FO
 rw [if_neg (by show ¬ ¬C0 1=true;decide),if_neg (fun g=>g Yf),if_neg (by show ¬(1:Int)=6;decide),if_neg (by show ¬(1:Int)=7;decide),if_neg (by show ¬(1:Int)=8;decide),AF3,if_neg dQ]
theorem AJz {q:HP} (hT:J9 q) {v:Value} (hv:∃a n c,v= .slice a n c) (ha:∀h:Hp,q h→CA 2 h v Dw.length (Dw.flatMap CJ)):WiD q ⟨1,[]⟩ AR (KD v) []:=by
 have i1:Aw 1:=⟨by decide,by decide⟩
 refine ⟨E3.mk0 i1 hT ⟨i1,Aw.zero,Aw.zero,Aw.zero⟩ ⟨by show 2≤64;decide,by show 0≤64;decide⟩ ha ⟨by show 1≤8;decide,fun a h=>?_⟩ hv ⟨none,0,0,rfl⟩ ⟨none,0,0,rfl⟩,Sq,fun _ _=> .inl ⟨rfl,rfl,none,0,rfl⟩,(fun _ h=>by cases h),fun _ h=>by cases h⟩
 obtain rfl:=mem_singleton.1 (show a∈Dw from h)
 exact ⟨⟨by decide,by decide⟩,by decide⟩
theorem EnZ.L {e:En} (h:EnZ e):EnL (entR e) e:=
 ⟨⟨h.b.i,fun _ hp=>Lz hp,fun _ hp=>Hu hp,fun y hy _ hp=>JU hp hy⟩,by have:=h.b.len;omega,⟨by have:=h.b.few;omega,by have:=h.b.x.acl.1;omega,fun y hy=>by have:=(h.b.subs y hy).acl.1;omega⟩,h.c,fun y hy=>⟨(h.cs y hy).1,by rw [(h.cs y hy).2];rfl⟩⟩
def AJG:En:=⟨4294967297,1,0,Ij 1 10,[]⟩
def AJQ:En:=⟨4294967298,1,0,ptT,[]⟩
theorem AGF:KN.ord=[AJG]:=rfl
theorem AHS:EnZ AJG:=by
 have i1:Aw 1:=⟨by decide,by decide⟩
 refine ⟨⟨⟨by decide,by decide⟩,i1,Aw.zero,⟨⟨by decide,by decide⟩,i1,⟨by decide,by decide⟩,Aw.zero,Nat.zero_le _,Nat.zero_le _,Nat.zero_le _,fun a h=>by cases h⟩,fun y h=>(by cases h),Nat.zero_le _,?_⟩,⟨rfl,rfl⟩,fun y h=>by cases h⟩
 exact Nat.le_of_ble_eq_true kQ
theorem AHA:EnZ AJQ:=by
 have i1:Aw 1:=⟨by decide,by decide⟩
 refine ⟨⟨⟨by decide,by decide⟩,i1,Aw.zero,⟨i1,Aw.zero,i1,Aw.zero,by decide,by decide,by decide,fun a h=>?_⟩,fun y h=>(by cases h),Nat.zero_le _,?_⟩,⟨rfl,rfl⟩,fun y h=>by cases h⟩
 ·obtain rfl:=mem_singleton.1 (show a∈Dw from h);decide
 ·exact Nat.le_of_ble_eq_true kQ
theorem AD4 {v:Value} {y:Pt} {ys:List Pt} (hy:y.pl=(FO KN.τ ⟨1,KN.ids 1⟩ (KD v) []).1) (hys:ys.map Pt.pl=(FO KN.τ ⟨1,KN.ids 1⟩ (KD v) []).2) (hc:AB y.aclV=true∧∃a c,y.subsV= .slice a ys.length c):
  (BE (B4 KN 1 0 y ys).τ (B7 KN 1 0 y ys)).err=0∧(BE (B4 KN 1 0 y ys).τ (B7 KN 1 0 y ys)).path=[47,97]∧RU (B4 KN 1 0 y ys) 2∧(∀e∈(B4 KN 1 0 y ys).ord,EnB e∧EnL (entR e) e)∧(B4 KN 1 0 y ys).ord.length=2:=by
 rw [AH5] at hy hys
 have hk:y.kind=1:=congrArg Pt.kind hy
 have hp:y.path=[47,97]:=congrArg Pt.path hy
 obtain rfl:ys=[]:=map_eq_nil_iff.1 hys
 have hZ:EnZ (B7 KN 1 0 y []):=by
  refine ADT (e:=AJQ) AHA ?_ ⟨⟨hc.1,by obtain ⟨a,c,e⟩:=hc.2;show AB y.subsV=true;rw [e];rfl⟩,fun z hz=>by cases hz⟩
  show (⟨Eh KN,1,0,y.pl,[]⟩:En)=_
  rw [hy];rfl
 refine ⟨?_,?_,?_,fun e he=>?_,rfl⟩
 ·show (if y.kind=8 then _ else _)=(0:Int)
  rw [if_neg om]
 ·show (if y.kind=1 then y.path else [])=_
  rw [if_pos hk,hp]
 ·have hG:Gb 64 y []:=(show Gb 64 ptT [] from ⟨⟨⟨AHA.b.x.i,Sq.long,by decide,by decide,by decide⟩,by decide,by decide,by decide,Sq⟩,fun _ g=>(by cases g), .inl (Nat.zero_le _)⟩).of hy rfl
  exact AHP.put dQ 1 0 hG dQ (fun g=>absurd g om)
 ·rcases mem_append.1 (show e∈KN.ord++[B7 KN 1 0 y []] from he) with he|he
  ·rw [AGF] at he
   rw [mem_singleton.1 he];exact ⟨AHS.b,AHS.L⟩
  ·rw [mem_singleton.1 he];exact ⟨hZ.b,hZ.L⟩
theorem Sd (d:Nat) (δ:Dk):Fn prog 45 #[AD d] [DQ d δ] fun v L=>(∃a c,v= .slice a δ.pend.length c)∧L=[DQ d δ,EO v δ.pend]:=by
 refine Fn.intro func45 Y Y fun F W=>?_
 refine .dkOpen .here fun nb ob hok=>?_
 have hol:=hok.oldlen
 have hbg:=hok.big
 refine Z ?_
 refine .oq (.c func100 [_] (W7 _)) ?_
 rintro v L' ⟨bk,rfl,rfl⟩
 refine .oq (.c func99 [_] (SP δ.old hok.nodup ?hbd8 ?hln9)) ?_
 case hbd8=>intro x hx;have:=hok.olds x hx;omega
 case hln9=>omega
 rintro v L' ⟨⟨al,cl,rfl⟩,rfl⟩
 refine Z ?_
 refine .dkFold (δ:=δ) O Y Y Y hok ?_
 exact .dn Y Y ⟨⟨_,_,by rw [Dk.pend_len]⟩,rfl⟩
theorem Wn (d:Nat) (δ:Dk) (hv:Value) (how:List Int) (p:HP) (hr:∀h:Hp,p h→CA 1 h hv how.length (BZ how)) (hb:∀z∈how, -9223372036854775808≤z∧z≤9223372036854775807):Fn prog 18 #[AD d,hv] [DQ d δ,p] fun v L=>v= .tuple #[]∧L=[DQ d (δ.crash how),p]:=by
 refine Fn.intro func18 Y Y fun F W=>?_
 refine .rdAny (p:=p) hr O fun ah ch e _=>?_
 subst e
 refine .dkOpen O fun nb0 ob0 hok0=>(.dkFold (δ:=δ) O Y Y Y hok0 ?_)
 have hol:=hok0.oldlen
 have hbg:=hok0.big
 have hpl:=δ.pend_len
 refine Z ?_
 refine .oq (.c func45 [_] (Sd d δ)) ?_
 rintro v L' ⟨⟨al,cl,rfl⟩,rfl⟩
 refine Z ?_
 refine .loop (F:=F) (ι:=Nat) (fun k=>[(0,AD d),(1, .slice ah how.length ch),(9, .slice al δ.pend.length cl),(10,AA δ.pend.length),(11,AA k)]) (fun k=>[DQ d (δ.crashTo how k),p,EO (.slice al δ.pend.length cl) δ.pend]) (fun k=>k≤δ.pend.length) (fun k=>δ.pend.length-k) 0 (Nat.zero_le _) O O O ?_
 intro k hk
 refine Z ?_
 refine .condD Y (fun h12=>?_) (fun h12=>?_)
 ·have hk2:k<δ.pend.length:=by omega
  have hfb:=AKA how hb k
  obtain ⟨w0,w1,w2,o,w3,w4⟩:=Dk.pend_at hok0 hk2
  have hie:δ.pend.getD k 0=δ.pend[k]:=by simp [hk2]
  generalize hi:δ.pend.getD k 0=i at w0 w1 w2 w3 hie
  refine .slShape (v:= .slice al _ cl) O om fun bl cl' e ml _=>?_
  simp only [Value.slice.injEq,true_and] at e
  obtain ⟨rfl,rfl⟩:=e
  refine Z ?_
  refine .q (.indexAddr Y Y Bv om) Y (.q (.loadSl (v:=AA i) (i:=k*1) Y CT O (by simp [hk2,hie])) Y (.a Y (.an Y (.sr (.an Y (.seq (.join (F:=F) (ι:=Unit) (fun _=>[(0,AD d),(1, .slice ah how.length ch),(9, .slice (some ⟨bl,0,none⟩) δ.pend.length cl),(10,AA δ.pend.length),(11,AA k),(4,AA k),(5,AA i),(6,AA (if k<how.length then how.getD k 0 else 0))]) (fun _=>[DQ d (δ.crashTo how k),p,EO (.slice (some ⟨bl,0,none⟩) δ.pend.length cl) δ.pend]) (fun _=>True) ?_ (fun _ _=>?_))))))))
  ·refine Z ?_
   refine .condD Y (fun h19=>?_) (fun h19=>?_)
   ·have hk3:k<how.length:=by omega
    refine .rdShape (p:=p) hr O om fun bh oh e=>?_
    subst e
    refine Z ?_
    refine .q (.indexAddr Y Y Bv om) Y (.q (.loadEl (p:=p) (i:=k*1) (v:=AA (how.getD k 0)) Y CT O hr (by simp [hk3])) Y (Z ?_))
    exact .meet () trivial ⟨Y,Y,Y,Y,Y,Y,Y,(by show some (AA _)=some (AA _);rw [if_pos om]),trivial⟩ O O
   refine .sk ?_
   exact .meet () trivial ⟨Y,Y,Y,Y,Y,Y,Y,(by show some (AA _)=some (AA _);rw [if_neg om]),trivial⟩ O O
  have hraw: -9223372036854775808≤(if k<how.length then how.getD k 0 else 0)∧(if k<how.length then how.getD k 0 else 0)≤9223372036854775807:=by (split;(rename_i hk3;have e:how.getD k 0=how[k]:=(by simp [hk3]);rw [e];exact hb _ (getElem_mem _));omega)
  refine .seq (.join (F:=F) (ι:=Unit) (fun _=>[(0,AD d),(1, .slice ah how.length ch),(9, .slice (some ⟨bl,0,none⟩) δ.pend.length cl),(10,AA δ.pend.length),(11,AA k),(4,AA k),(5,AA i),(6,AA (JX how k))]) (fun _=>[DQ d (δ.crashTo how k),p,EO (.slice (some ⟨bl,0,none⟩) δ.pend.length cl) δ.pend]) (fun _=>True) ?_ (fun _ _=>?_))
  ·refine Z ?_
   refine .condD Y (fun h25=>?_) (fun h25=>?_)
   ·refine Z ?_
    refine .q (.neg Y om) Y (Z ?_)
    exact .meet () trivial ⟨Y,Y,Y,Y,Y,Y,Y,(by show some (AA _)=some (AA _);unfold JX;dsimp only;rw [if_pos h25]),trivial⟩ O O
   refine .sk ?_
   exact .meet () trivial ⟨Y,Y,Y,Y,Y,Y,Y,(by show some (AA _)=some (AA _);unfold JX;dsimp only;rw [if_neg h25]),trivial⟩ O O
  generalize hf:JX how k=f at hfb ⊢
  have hok:=Dk.crashTo_ok hok0 how k om
  obtain ⟨so,-,-,-,sn⟩:=δ.crashTo_same how k
  generalize hσ:δ.crashTo how k=σ at hok so sn ⊢
  rw [←so] at w3
  rw [←sn] at w1 w2
  refine .dkOpen (δ:=σ) O fun nb ob _=>?_
  have q3:(Jd o).length=64:=by simpa using w4
  have q4:=H6 hok.sec
  have q5:σ.now[i.toNat].length=64:=hok.sec _ (getElem_mem w1)
  have qf:f%3=0∨f%3=1∨f%3=2:=by omega
  have qb:0≤f/3%65∧f/3%65≤64:=by omega
  have qb2:(f/3%65).toNat≤64:=by omega
  refine Z ?_
  refine .q (.lookupS (m:=σ.old) (enc:=AE5) (Aa.int underlying3) w3 Y Y underlying84 Kl O Y) Y (.oq (.allocA Kl) ?_)
  rintro v L' ⟨tb,rfl,rfl⟩
  refine .oq (.storeA Y Y ?c30 Ix ?c33 ?c31 (Bd _ _)) ?_
  case c30=>exact Fy _
  case c33=>exact q3
  case c31=>rw [q3];decide
  rintro v L' rfl
  refine .nil ?_
  rw [S9 (vs:=Jd o) (by rw [q3];rfl)]
  refine Z ?_
  refine .q (.remE Y Y om om) Y (Z ?_)
  refine .condD Y (fun h37=>?_) (fun h37=>?_)
  ·refine .draw [7] [[0,1,2,3,4,5,6,7]] mixed kQ (.g0 (Z ?_))
   refine D.kv Y (.loadAs (vs:=Jd o) Y MT O (by rw [q3];decide) (by rw [drop_zero];exact take_of_length_le (by rw [q3];decide))) (.kv Y (.indexAddr Y Y NH om) (.hh Y (.storeA Y Y ?c45 Ix ?c48 ?c46 (Bd _ _)) ?_))
   case c45=>exact Fy _
   case c48=>exact q3
   case c46=>rw [q3,q4];omega
   rintro v L' rfl
   refine D.ph (.fin ?_)
   rw [Nat.zero_add,Jf hok.sec w1 w4]
   refine Z ?_
   have hE:δ.crashTo how (k+1)=σ.crash1 f i:=by rw [Dk.crashTo,hσ,hf,hi]
   have hN:σ.now.set i.toNat o=(σ.crash1 f i).now:=by simp only [Dk.crash1,w3,Option.getD_some];rw [if_pos h37]
   refine .dkFold (nb:=nb) (ob:=ob) (δ:=σ.crash1 f i) O (by rw [Dk.crash1_len];rfl) (by rw [←hN]) Y (hok.crash1 f w3 w4 w1) ?_
   rw [←hE]
   refine Z ?_
   refine .round (k+1) om om O O O
  refine Z ?_
  refine .condD Y (fun h46=>?_) (fun h46=>?_)
  ·refine .seq (.draw [11] [[0,1,2,3,4,5,6,7,8,9,10,11]] mixed kQ (.g0 (.kv Y (.arrSlice Y Oq (by first|exact rfl|rfl) (by first|exact rfl|rfl) om) (Z ?_))))
   refine D.kv Y (.indexAddr Y Y NH om) (Z ?_)
   refine D.kv Y (.quoE Y Y om om) (.kv Y (.remE Y Y om om) (.kv Y (.arrSlice Y Oq (by first|exact rfl|rfl) (by first|exact rfl|rfl) om) (.hh Y (.copy (p:=AW nb (DK σ.now) 110) (m:=(f/3%65).toNat) (ys:=Jd (σ.now[i.toNat].take (f/3%65).toNat)) Y Y Y Bw ?hrd63 ?hc64 ?ho65 ?hf66) ?_)))
   case hrd63=>intro h hp;exact Wp hp (Xh hok.sec w1 (by simp) (by simp) qb2) (by rw [q4];show 0+i.toNat*64+0*1+((f/3%65).toNat-0)*1≤σ.now.length*64;omega) (by show (f/3%65).toNat-0≤64-0;omega)
   case hc64=>exact Fy _
   case ho65=>rw [q3];decide
   case hf66=>exact Bd _ _
   rintro v L' ⟨rfl,rfl⟩
   refine D.ph (.fin ?_)
   have eo:(Jd (σ.now[i.toNat].take (f/3%65).toNat)).take (min (f/3%65).toNat (((64:Nat):Int).toNat-Int.toNat 0)*1)=Jd (σ.now[i.toNat].take (f/3%65).toNat):=take_of_length_le (by simp;omega)
   have e13:CX (Jd o) (0+Int.toNat 0*1) (Jd (σ.now[i.toNat].take (f/3%65).toNat))=Jd (σ.now[i.toNat].take (f/3%65).toNat++o.drop (f/3%65).toNat):=by simp [CX,map_drop,q5,Nat.min_eq_left qb2]
   have q6:(σ.now[i.toNat].take (f/3%65).toNat++o.drop (f/3%65).toNat).length=64:=by rw [length_append,length_take,length_drop,q5,w4];omega
   generalize ho2:σ.now[i.toNat].take (f/3%65).toNat++o.drop (f/3%65).toNat=o2 at e13 q6
   have q7:(Jd o2).length=64:=by simpa using q6
   rw [eo,e13]
   refine .then_n (.draw [7] [[0,1,2,3,4,5,6,7]] mixed kQ (.g0 (Z ?_)))
   refine D.kv Y (.loadAs (vs:=Jd o2) Y MT O (by rw [q7];decide) (by rw [drop_zero];exact take_of_length_le (by rw [q7];decide))) (.kv Y (.indexAddr Y Y NH om) (.hh Y (.storeA Y Y ?c76 Ix ?c79 ?c77 (Bd _ _)) ?_))
   case c76=>exact Fy _
   case c79=>exact q7
   case c77=>rw [q7,q4];omega
   rintro v L' rfl
   refine D.ph (.fin ?_)
   rw [Nat.zero_add,Jf hok.sec w1 q6]
   refine Z ?_
   have hE:δ.crashTo how (k+1)=σ.crash1 f i:=by rw [Dk.crashTo,hσ,hf,hi]
   have hN:σ.now.set i.toNat o2=(σ.crash1 f i).now:=by simp only [Dk.crash1,w3,Option.getD_some];rw [if_neg h37,if_pos h46,←ho2];simp [w1]
   refine .dkFold (nb:=nb) (ob:=ob) (δ:=σ.crash1 f i) O (by rw [Dk.crash1_len];rfl) (by rw [←hN]) Y (hok.crash1 f w3 w4 w1) ?_
   rw [←hE]
   refine Z ?_
   refine .round (k+1) om om O O O
  refine Z ?_
  have hE:δ.crashTo how (k+1)=σ.crash1 f i:=by rw [Dk.crashTo,hσ,hf,hi]
  have hN:σ.now=(σ.crash1 f i).now:=by simp only [Dk.crash1,w3,Option.getD_some];rw [if_neg h37,if_neg h46]
  refine .dkFold (nb:=nb) (ob:=ob) (δ:=σ.crash1 f i) O (by rw [Dk.crash1_len];rfl) (by rw [←hN]) Y (hok.crash1 f w3 w4 w1) ?_
  rw [←hE]
  refine Z ?_
  refine .round (k+1) om om O O O
 have hk2:k=δ.pend.length:=by omega
 subst hk2
 refine .dkOpen (δ:=δ.crashTo how δ.pend.length) O fun nb ob hok=>(Z ?_)
 refine .oq (.mapClear Y Y underlying84) ?_
 rintro v L' rfl
 refine Z ?_
 refine .done_n (.dkFold (δ:=δ.crash how) O Y Y Y (hok0.crashed how) ?_)
 exact .vv
theorem T5 (n:Int):Fn prog 6 #[AA n] [] fun v L=>((n<16∨32768<n)∧v= .tuple #[.pointer none,AA 1]∧L=[])∨((16≤n∧n≤32768)∧∃x,v= .tuple #[AD x,AA 0]∧L=[DQ x (Dk.new n)]):=by
 refine Fn.intro func6 Y Y fun F W=>?_
 refine Z ?_
 refine .dec (t:=6) Y (fun h1_6=>?_) (fun h1_6=>?_)
 ·refine .kDT (t:=5) Y h1_6 (Z ?_)
  exact .dn Y Y (.inl ⟨by omega,rfl,rfl⟩)
 refine .kDF (t:=5) Y h1_6 (Z ?_)
 refine .condD Y (fun h9=>?_) (fun h9=>?_)
 ·refine Z ?_
  exact .dn Y Y (.inl ⟨by omega,rfl,rfl⟩)
 obtain ⟨hn1,hn2⟩:16≤n∧n≤32768:=by omega
 refine Z ?_
 refine .oq (.make Y Y NH Kl Y ⟨by simp,by simp;rfl⟩ ?c13) ?_
 case c13=>omega
 rintro v L' ⟨nb,rfl,rfl⟩
 refine .oq (.makeMap underlying84) ?_
 rintro v L' ⟨ob,rfl,rfl⟩
 refine .q (.build (us:=[(0,_),(1,_)]) AJn AKK Y Y (by simp [AB])) Y (.oq (.box Y) ?_)
 rintro v L' ⟨x,rfl,rfl⟩
 refine Z ?_
 refine .fold (p:=mapR ob []) (.cons (p:=pt ob (.map #[] 0)) O .nil) (fun h hp=>E8 (Gx hp)) (.dkFold (nb:=nb) (ob:=ob) (δ:=Dk.new n) O (by simp [Dk.new];rfl) (AAo _).symm Y (Dk.new_ok om) ?_)
 exact .dn Y Y (.inr ⟨⟨hn1,hn2⟩,x,Y,Y⟩)
theorem OY (c n:Int) (hc: -9223372036854775808≤c∧c≤9223372036854775807) (hn:0<n):Fn prog 9 #[AA c,AA n] [] fun v L=>v=AA (KJ c n)∧L=[]:=by
 refine Fn.intro func9 Y Y fun F W=>?_
 refine Z ?_
 refine .condD Y (fun h6=>?_) (fun h6=>?_)
 ·refine Z ?_
  refine .q (.neg Y om) Y (Z ?_)
  refine .q (.remE Y Y om om) Y (Z ?_)
  have e:KJ c n=(-(c+1))%n:=by unfold KJ;rw [if_pos h6]
  rw [e]
  exact .vv
 refine Z ?_
 refine .q (.remE Y Y om om) Y (Z ?_)
 have e:KJ c n=(c)%n:=by unfold KJ;rw [if_neg h6]
 rw [e]
 exact .vv
theorem Xe:Fn prog 26 #[] [] fun v L=> ∃ba,v= .slice (some ⟨ba,0,none⟩) 1 1∧L=[At 133 2 (.slice (some ⟨ba,0,none⟩) 1 1) 1 (Dw.flatMap CJ)]:=by
 refine Fn.intro func26 Y Y fun F W=>?_
 refine Z ?_
 refine .q (.build (us:=[(0,_),(1,_)]) SK EI Y Y (by simp [AB])) Y (.oq (.buildSlice (vs:=[_]) GN EI Y Y Y Y cQ dQ) ?_)
 rintro v L' ⟨ba,rfl,rfl⟩
 refine Z ?_
 refine .slMakeN 2 1 (b:=ba) (xs:=Dw.flatMap CJ) O Y Y ?_
 exact .dn Y Y ⟨ba,Y,Y⟩
theorem AHh:(A6 (Dk.new 64)).2=some (I7 (Dk.new 64)).2.1:=by
 obtain ⟨ω,h,-⟩:=Ib (n:=64) dQ
 rw [h,Fq h]
theorem TW (q:HP) (hT:J9 q):Fn prog 4 #[] [q] fun v L=>v= .bool true∧L=[q]:=by
 refine Fn.intro func4 Y Y fun F W=>?_
 obtain ⟨h0,h1,hf3,hf4⟩:=AGh
 refine .add (p:=AId) (fun _=>trivial) (Z ?_)
 refine .oq (.c func23 [] (X6)) ?_
 rintro v L' ⟨b,k,rfl,rfl⟩
 refine Z ?_
 refine .oq (.c func6 [_] (T5 64)) ?_
 rintro v L' (⟨h,-,-⟩|⟨-,d,rfl,rfl⟩);· omega
 refine Z ?_
 refine .oq (.c func7 [_] (H8 d (Dk.new 64) dQ (hf3.i dQ) (hf4.i dQ))) ?_
 rintro v L' (⟨h,-,-⟩|⟨ω0,g,x,hw0,rfl,rfl⟩);· rw [AHh] at h;cases h
 obtain rfl:=Fq hw0
 rw [show lg0=V7.Λ from rfl,show (I7 (Dk.new 64)).2.1=V7.ω from rfl,show (A6 (Dk.new 64)).1=V7.δ from rfl]
 refine Z ?_
 refine .cv func24 [_,_] (Vs b k U2 10 0 Yi dQ) ?_
 refine .m Y (.q (.as (v':=AA 1) (by rfl) (.extract Y Y)) Y (.q (.as (v':=AA 0) (by rfl) (.extract Y Y)) Y (Z ?_)))
 refine .oq (.c func26 [] (Xe)) ?_
 rintro v L' ⟨ba,rfl,rfl⟩
 refine .q (.to (v':= .agg (L8 (KD (.slice (some ⟨ba,0,none⟩) 1 1))).toArray) (.build (us:=[(0,_),(2,_),(4,_)]) AJ9 AHZ Y Y (by simp [AB])) Y) Y (.fold (p:=(CP [At 133 2 (.slice (some ⟨ba,0,none⟩) 1 1) 1 (Dw.flatMap CJ),q])) (q:=[At 133 2 (.slice (some ⟨ba,0,none⟩) 1 1) 1 (Dw.flatMap CJ),q]) O (fun _ h=>h) ?_)
 have hT1:J9 (CP [At 133 2 (.slice (some ⟨ba,0,none⟩) 1 1) 1 (Dw.flatMap CJ),q]):=hT.up
 have hra:∀h:Hp,(CP [At 133 2 (.slice (some ⟨ba,0,none⟩) 1 1) 1 (Dw.flatMap CJ),q]) h→CA 2 h (.slice (some ⟨ba,0,none⟩) 1 1) Dw.length (Dw.flatMap CJ):=AI7 (fun _=>Ad)
 refine .oq (.call func25 Y Y (vs:=[_,_,_]) Y (Sr b k KN 1 (KD (.slice (some ⟨ba,0,none⟩) 1 1)) [] (CP [At 133 2 (.slice (some ⟨ba,0,none⟩) 1 1) 1 (Dw.flatMap CJ),q]) (AJz hT1 ⟨_,_,_,Y⟩ hra) Yf (by show C0 1=true;decide) 1 AHP dQ)) ?_
 rintro v L' ⟨y,ys,hy,hys,hc,hcs,⟨x9,⟨hx1,hx2,hx3⟩,rfl⟩,rfl⟩
 refine Z ?_
 refine .oq (.allocA Em) ?_
 rintro v L' ⟨b8,rfl,rfl⟩
 refine .sa Y Y Gv (by exact hx3) ?_
 refine Z ?_
 refine .pc b8 (Ci x9) ?_
 obtain ⟨g1,g2,g3,g4,g5⟩:=AD4 hy hys hc
 replace hx1:=hx1.trans g1
 replace hx2:=hx2.trans g2
 refine Z ?_
 refine .q (.to (v':= .agg (CB (awe 5)).toArray) (.buildN (pl:=[(0,1),(1,1),(2,1),(3,8)]) (us:=[(0,_)]) (cells:=CB (awe 5)) underlying40 kQ Cq Y Y) Y) Y (.oq (.c func8 [_,_] (LG g x d V7.δ V7.ω V7.Λ (awe 5) AId (AHO dQ) (h0.well.i dQ) h0.w.i)) ?_)
 rintro v L' ⟨rfl,rfl⟩;rw [show Aj ⟨V7.δ,V7.ω,V7.Λ⟩ (awe 5)=Aj V7 (awe 5) from rfl]
 refine .an Y (.sm Y (.q (.as (v':= .bool true) (by rfl) (.int Y Y Y)) Y (.m Y (.gr (.m Y (.gr (.q (.as (v':= .bool true) (by rfl) (.int Y Y Y)) Y (.pT Y Y (.m Y (.gr (.m Y (.gr (.q (.as (v':= .bool true) (by rfl) (.int Y Y Y)) Y (.pT Y Y (.m Y (.gr (.fa Y AGu (.gr (.u (.ld Y EP) (.gr (.q (.as (v':= .bool true) (by exact congrArg Value.bool (decide_eq_true (hx1))) (.int Y Y Y)) Y (.pT Y Y (.m Y (.gr (.fa Y AGt (.gr ?_))))))))))))))))))))))))))
 refine .u (.ld Y HL) (.gr (.q (.as (v':= .bool true) (by exact congrArg Value.bool (decide_eq_true (hx2))) (.streq Y Y)) Y (.pT Y Y (.m Y (.gr (.m Y (.gr (.q (.as (v':= .bool true) (by exact congrArg Value.bool (decide_eq_true (lt0))) (.int Y Y Y)) Y (Z ?_)))))))))
 refine .cv func10 [_] (Gh g x (Aj V7 (awe 5)).1.Λ h1.w.i) ?_
 refine .gr (.q (.as (v':= .bool true) (by exact congrArg Value.bool (decide_eq_true (lt1))) (.int Y Y Y)) Y (Z ?_))
 refine .oq (.c func27 [_] (X0 b k (B4 KN 1 0 y ys) 2 g3 dQ g4)) ?_
 rintro v L' ⟨l9,a9,c9,hl9,hk9,rfl,rfl⟩;have hll:=AEm hl9;rw [g5] at hll
 refine .gr (.q (.slen Y underlying25 Y) Y (.gr (.q (.as (v':= .bool true) (by exact congrArg Value.bool (decide_eq_true (by rw [hll];rfl))) (.int Y Y Y)) Y (Z ?_))))
 refine .focus (p:=(CP [At 133 2 (.slice (some ⟨ba,0,none⟩) 1 1) 1 (Dw.flatMap CJ),q])) O (.unfold (q:=[At 133 2 (.slice (some ⟨ba,0,none⟩) 1 1) 1 (Dw.flatMap CJ),q]) (fun _ h=>h) ?_)
 exact .vv
theorem AGz {p:HP} {v:Value} {es:List En} (h:Lx p v es) (i:Nat):(Bb BV (es.take i)).Ok (1+2097152):=
 (Yg Nn fun e he=>h.tx e (mem_of_mem_take he)).more (by have:=Ro (l:=es) i;have:=h.total;omega)
theorem M8 (va:Value) (es:List En) (p:HP) (hE:Lx p va es):Fn prog 12 #[va] [p] fun v L=> ∃t,v=AD t∧L=[p,AV t (Bb BV es)]:=by
 refine Fn.intro func12 Y Y fun F W=>?_
 have hlen:=hE.len
 refine .rdAny (p:=p) hE.cells O fun aa ca e0 _=>?_
 subst e0
 refine Z ?_
 refine .oq (.c func28 [] (IF)) ?_
 rintro v L' ⟨t,rfl,rfl⟩
 refine Z ?_
 refine .trCast (τ':=Bb BV (es.take 0)) O (by rw [take_zero];rfl) (.loopK (ι:=Nat) (fun q E=>(4,AA q)::E) (fun q=>[AV t (Bb BV (es.take q))]) (fun q=>q≤es.length) (fun q=>es.length-q) (0) (ts:=[0,2,3]) O (Nat.zero_le _) O O ?_)
 rintro i hi
 refine Z ?_
 refine .dec (t:=10) Y (fun h3_10=>?_) (fun h3_10=>?_)
 ·refine .kDT (t:=9) Y h3_10 (Z ?_)
  have hi2:i<es.length:=by omega
  refine .rdShape (p:=p) hE.cells O om fun ba oa ee=>?_
  subst ee
  refine Z ?_
  refine .q (.indexAddr Y Y Ft om) Y (.q (.loadRdA (sz:=11) (j:=i*11) (k:=11) (p:=p) (vs:=CB es[i]) Y Cz O hE.cells (by simp) om om (BH (f:=CB) (sz:=11) (fun _ _=>Y) om)) Y (.oq (.call func30 Y Y (vs:=[_,_]) Y (C2 t (Bb BV (es.take i)) es[i].zx es[i].ses es[i].xid es[i].x es[i].subs p (hE.tx _ (getElem_mem hi2)) (1+2097152) (AGz hE i) (by have:=(hE.tx _ (getElem_mem hi2)).few;omega))) ?_))
  rintro v L' ⟨u14,e14,rfl,-,⟨a14,c14,rfl⟩,rfl⟩
  refine Z ?_
  refine .trCast (τ':=Bb BV (es.take (i+1))) O (by rw [QG _ hi2];rfl) ?_
  exact .rk (i+1) om om O
 refine .kDF (t:=9) Y h3_10 (Z ?_)
 have hie:i=es.length:=by omega
 rw [hie,take_length]
 refine Z ?_
 exact .dn Y Y ⟨t,Y,Y⟩
theorem AIQ {p:HP} {s:Int} {w:Ui} (h:WiD p ⟨s,[]⟩ AR w.r w.subs):∀v∈QC w,AB v=true:=by
 intro v hv
 rcases mem_append.1 hv with hv|hv
 ·simp only [mem_cons,not_mem_nil,or_false] at hv
  rcases hv with rfl|rfl|rfl<;>rfl
 ·exact h.w.rqcells v hv
theorem WL (a b c:Int) (s0 s1 s2 s3 s4 s5 s6 s7:Value):Instr.fill (fun i=>[(0,1),(1,1),(2,1),(3,8)].toArray[i]?) (([.int .i64 0, .int .i64 0, .int .i64 0, .int .i64 0, .string (bs []), .string (bs []), .slice none 0 0, .int .i64 0, .int .i64 0, .int .i64 0, .slice none 0 0]:List Value).toArray) [(0,AA a),(1,AA b),(2,AA c),(3, .agg ([s0,s1,s2,s3,s4,s5,s6,s7]:List Value).toArray)]=some (([AA a,AA b,AA c]++[s0,s1,s2,s3,s4,s5,s6,s7]:List Value).toArray):=by kernel_rfl
theorem Sv (t:Nat) (τ:Tr) (w:Ui) (p:HP) (hW:AD1 p w) (N:Nat) (ho:τ.Ok N) (hN:N≤524288) (hw:Hx τ):Fn prog 29 #[AD t, .agg (QC w).toArray] [AV t τ,p] fun v L=> ∃(y:Pt) (ys:List Pt),v= .tuple #[AA (DE w.ses), .agg (A0 y).toArray]∧y.pl=(KA τ w).1∧ys.map Pt.pl=(KA τ w).2∧(AB y.aclV=true∧∃a c,y.subsV= .slice a ys.length c)∧(∀z∈ys,AB z.aclV=true∧z.subsV=AR)∧L=[AV t τ,p,entR ⟨0,0,0,y,ys⟩]:=by
 refine Fn.intro func29 Y Y fun F W=>?_
 have hr:=PA w.ses
 have hpk:=JG w.ses (n:=4) dQ
 have hD:=hW.d _ (PF w.ses)
 refine .sr (.oq (.box Y) ?_)
 rintro v L' ⟨b3,rfl,rfl⟩
 refine Z ?_
 refine .oq (.allocA BM) ?_
 rintro v L' ⟨b5,rfl,rfl⟩
 refine .nil (.pc b3 (QC w) ?_)
 refine Z ?_
 refine .cv func9 [_,_] (OY w.ses 4 hW.ses dQ) ?_
 refine .q (.to (v':=AA (DE w.ses)) (.add Y Y om) Y) Y (Z ?_)
 refine .cv func67 [_,_] (FG t τ (DE w.ses)) ?_
 refine Z ?_
 refine .condN Y (fun h22=>?_) (fun h22=>?_)
 ·have e1:KA τ w=(Gn (DE w.ses),[]):=if_neg h22
  refine Z ?_
  refine .q (.to (v':= .agg (A0 (Gn (DE w.ses))).toArray) (.build (us:=[(0,_),(4,_),(5,_)]) FV BM Y Y (by simp [AB])) Y) Y (Z ?_)
  refine .sa Y Y BO (by exact B9 rfl rfl) ?_
  refine .nil (.pc b5 (A0 (Gn (DE w.ses))) ?_)
  refine .add (AU 133 2) (.add (AU 38 8) (.add (p:=Am aclR []) (fun h=>CH h) (.fold (p:=entR ⟨0,0,0,(Gn (DE w.ses)),([]:List Pt)⟩) (q:=[aclR (Gn (DE w.ses)),At 38 8 (Gn (DE w.ses)).subsV ([]:List Pt).length (([]:List Pt).flatMap A0),Am aclR ([]:List Pt)]) O (fun _ h=>h) (Z ?_))))
  exact .d2 Y (.tmp Y) (.cellA Y A3 O (by simp [A0]) Y) ⟨Gn (DE w.ses),[],Y,by rw [e1];rfl,by rw [e1];rfl,⟨rfl,none,0,rfl⟩,(fun _ h=>by cases h),rfl⟩
 have e1:KA τ w=FO τ (⟨DE w.ses,[]⟩:C9) w.r w.subs:=if_pos h22
 refine Z ?_
 refine .q (.la (L8 w.r) Y Vo) Y (.oq (.c func63 [_,_,_,_] (Ox t τ (⟨DE w.ses,[]⟩:C9) AR w.r p hD.w N ho om hw om w.subs hD.rd hD.each hD.acls om)) ?_)
 rintro v L' ⟨y,ys,rfl,hy,hys,⟨hc,a1,c1,hsub⟩,hyk,rfl⟩
 refine Z ?_
 refine .sa Y Y BO (by exact B9 hc (by rw [hsub];rfl)) ?_
 refine .nil (.pc b5 (A0 y) ?_)
 refine .fold (p:=entR ⟨0,0,0,y,ys⟩) (q:=[aclR y,At 38 8 y.subsV ys.length (ys.flatMap A0),Am aclR ys]) O (fun _ h=>h) (.then_n (.ret ?_))
 exact .d2 Y (.tmp Y) (.cellA Y A3 O (by simp [A0]) Y) ⟨y,ys,Y,by rw [e1];exact hy,by rw [e1];exact hys,⟨hc,a1,c1,hsub⟩,hyk,rfl⟩
theorem VD {a b c:Int} {y:Pt} {l:List Pt} (h1:AB y.aclV=true) (h2:AB y.subsV=true):∀v∈CB ⟨a,b,c,y,l⟩,AB v=true:=by
 intro v hv
 simp only [CB,A0,cons_append,nil_append,mem_cons,not_mem_nil,or_false] at hv
 rcases hv with rfl|rfl|rfl|rfl|rfl|rfl|rfl|rfl|rfl|rfl|rfl<;>first|rfl|assumption
theorem Pw (v:Value) (l:List Ui) (p:HP) (hA:ADG p v l):Fn prog 5 #[v,AA 100] [p] fun v L=> ∃(es:List En) (u:Value) (t:Nat),Hi es∧es.length≤100∧(∃a c,u= .slice a es.length c)∧v=u∧L=[p,Hr u es]:=by
 refine Fn.intro func5 Y Y fun F W=>?_
 have hlen:=hA.len
 refine .rdAny (p:=p) hA.cells O fun a0 c0 e _=>?_
 subst e
 refine Z ?_
 refine .oq (.c func28 [] (IF)) ?_
 rintro v L' ⟨t,rfl,rfl⟩
 refine Z ?_
 refine .add (AU 40 11) (.add (p:=Am entR []) (fun h=>CH h) (Z ?_))
 refine .trCast (τ':=Bb BV []) O Y (.loopK (ι:=Nat×(List En)×Value) (fun q E=>(7,AA q.1)::(6,q.2.2)::E) (fun q=>[AV t (Bb BV q.2.1),At 40 11 q.2.2 q.2.1.length (q.2.1.flatMap CB),Am entR q.2.1]) (fun q=>q.1≤l.length∧q.1≤100∧q.2.1.length=q.1∧Hi q.2.1∧∃a c,q.2.2= .slice a q.2.1.length c) (fun q=>l.length-q.1) (0,[],AR) (ts:=[0,1,4,5]) O (⟨Nat.zero_le _,Nat.zero_le _,Y,Hi.nil,none,0,Y⟩) O O ?_)
 rintro ⟨i,es,u⟩ ⟨hi,hi3,hie,hH,au,cu,hu⟩
 dsimp only
 dsimp only at hi hi3 hie hH hu
 subst hu
 refine Z ?_
 refine .dec (t:=16) Y (fun h4_16=>?_) (fun h4_16=>?_)
 ·refine .kDT (t:=15) Y h4_16 (Z ?_)
  refine .condD Y (fun h20=>?_) (fun h20=>?_)
  ·have hi2:i<l.length:=by omega
   have hi4:i<100:=by omega
   have hW:=hA.each _ (getElem_mem hi2)
   obtain ⟨w1,w2,w3⟩:=hH.all
   refine .rdShape (p:=p) hA.cells O om fun ba oa ee=>?_
   subst ee
   refine Z ?_
   refine .q (.indexAddr Y Y AHE om) Y (.q (.loadRdA (sz:=13) (j:=i*13) (k:=13) (p:=p) (vs:=QC l[i]) Y AJq O hA.cells (by simp) om om (BH (f:=QC) (sz:=13) (fun _ _=>Y) om)) Y (.oq (.c func29 [_,_] (Sv t (Bb BV es) l[i] p hW 64 w1.ok dQ w2)) ?_))
   rintro v L' ⟨y,ys,rfl,hy,hys,hc,hcs,rfl⟩;have hN:=hH.snoc om hW hy hys hc hcs;rw [hie] at hN;have hZ:=hN.ent _ (mem_append_right _ (mem_singleton_self _));obtain ⟨hcA,as1,cs1,hsub⟩:=hc;have hcc:AB y.subsV=true:=by rw [hsub];rfl
   refine Z ?_
   refine .oq (.allocA BM) ?_
   rintro v L' ⟨b9,rfl,rfl⟩
   refine Z ?_
   refine .sa Y Y BO (by exact B9 hcA hcc) ?_
   refine .nil (.pc b9 (A0 y) ?_)
   refine .then_n (.seq (.draw [10,11] [[0,1,2,3,4,5,6,7,8,9,10],[11]] mixed kQ (.go [p,AW b9 _ _] O (Z ?_))))
   refine D.k Y (.indexAddr Y Y AHE om) (Z ?_)
   refine D.k Y (.loadRd (sz:=13) (j:=i*13+2) (p:=p) (v:=AA l[i].num) Y CT O hA.cells om ((La (f:=QC) (sz:=13) (l:=l) (i:=i) (k:=2) (fun _ _=>Y) om dQ).trans Y)) (.k Y (.la (A0 y) Y A3) (.k Y (.to (v':= .agg (CB (⟨4294967297+(i:Int),DE l[i].ses,l[i].num,y,ys⟩:En)).toArray) (.buildN (pl:=[(0,1),(1,1),(2,1),(3,8)]) (us:=[(0,AA (⟨4294967297+(i:Int),DE l[i].ses,l[i].num,y,ys⟩:En).zx),(1,AA (⟨4294967297+(i:Int),DE l[i].ses,l[i].num,y,ys⟩:En).ses),(2,AA (⟨4294967297+(i:Int),DE l[i].ses,l[i].num,y,ys⟩:En).xid),(3, .agg (A0 (⟨4294967297+(i:Int),DE l[i].ses,l[i].num,y,ys⟩:En).x).toArray)]) (cells:=CB (⟨4294967297+(i:Int),DE l[i].ses,l[i].num,y,ys⟩:En)) underlying40 kQ Cq Y (WL _ _ _ _ _ _ _ _ _ _ _)) Y) (.hh Y (.allocA Cq) ?_)))
   rintro v L' ⟨b10,rfl,rfl⟩
   refine D.ph (.g0 (.sa Y Y Y GO (by exact VD (l:=ys) hcA hcc) ?_))
   refine D.ph (.fin (.pc b10 (CB (⟨4294967297+(i:Int),DE l[i].ses,l[i].num,y,ys⟩:En)) ?_))
   refine Z ?_
   refine .q (.la (CB (⟨4294967297+(i:Int),DE l[i].ses,l[i].num,y,ys⟩:En)) Y Cz) Y (.oq (.c func30 [_,_] (C2 t (Bb BV es) (4294967297+(i:Int)) (DE l[i].ses) l[i].num y ys (entR ⟨0,0,0,y,ys⟩) hZ.tx 64 w1.ok (by have:ys.length≤64:=hZ.b.few;omega))) ?_)
   rintro v L' ⟨u8,e8,rfl,-,-,rfl⟩
   refine Z ?_
   refine .q (.la (CB (⟨4294967297+(i:Int),DE l[i].ses,l[i].num,y,ys⟩:En)) Y Cz) Y (.oq (.buildSlice (vs:=[_]) Ft Cq Y Y Y Y cQ dQ) ?_)
   rintro v L' ⟨b11,rfl,rfl⟩
   refine .oq (.append1 Y Y Y Ft Cq Y Y ?c53 ?c54 (Nat.le_refl _) ?c55 dQ) ?_
   case c53=>simp only [map_cons,map_nil,flatten_cons,flatten_nil,append_nil];simp only [Value.cells];intro z hz;exact VD (l:=ys) hcA hcc z (by simpa using hz)
   case c54=>rfl
   case c55=>omega
   rintro v L' ⟨⟨a6,c6,rfl⟩,rfl⟩
   refine Z ?_
   refine .trCast (τ':=Bb BV (es++[(⟨4294967297+(i:Int),DE l[i].ses,l[i].num,y,ys⟩:En)])) O (by rw [Jn];rfl) (.bigAdd (p:=(entR ⟨0,0,0,y,ys⟩)) (⟨4294967297+(i:Int),DE l[i].ses,l[i].num,y,ys⟩:En) Y O (.slCast (T:=40) (sz:=11) (m':=(es++[(⟨4294967297+(i:Int),DE l[i].ses,l[i].num,y,ys⟩:En)]).length) (xs':=(es++[(⟨4294967297+(i:Int),DE l[i].ses,l[i].num,y,ys⟩:En)]).flatMap CB) O (by simp) (by rw [flatMap_append];simp [Value.cells]) ?_))
   exact .rk ((i+1,es++[(⟨4294967297+(i:Int),DE l[i].ses,l[i].num,y,ys⟩:En)], .slice a6 (es.length+1) c6)) (⟨by dsimp only;omega,by dsimp only;omega,by simp [hie],hN,a6,c6,by simp⟩) (by dsimp only;omega) O
  refine Z ?_
  refine .fold (p:=Hr (.slice au es.length cu) es) (q:=[At 40 11 (.slice au es.length cu) es.length (es.flatMap CB),Am entR es]) O (fun _ h=>h) (Z ?_)
  exact .dn Y Y ⟨es, .slice au es.length cu,t,hH,by omega,⟨au,cu,rfl⟩,rfl,rfl⟩
 refine .kDF (t:=15) Y h4_16 (Z ?_)
 refine .fold (p:=Hr (.slice au es.length cu) es) (q:=[At 40 11 (.slice au es.length cu) es.length (es.flatMap CB),Am entR es]) O (fun _ h=>h) (Z ?_)
 exact .dn Y Y ⟨es, .slice au es.length cu,t,hH,by omega,⟨au,cu,rfl⟩,rfl,rfl⟩
theorem V3.opened {s:Ld} {N c:Int} (h:V3 s N c):s.ω.doubt=false∧s.ω.recs.length≤1048576∧∀x∈s.ω.recs,x.length≤1073741824:=by
 have h1:=J6 s.Λ.base s.Λ.snap h.lw.w.snap
 have h2:s.Λ.ents.length≤200:=h.lw.w.few
 have hr:s.ω.recs=BP s.Λ.base s.Λ.snap++s.Λ.ents:=h.lw.recs
 refine ⟨h.lw.well.doubt,by rw [hr,length_append];omega,fun x hx=>?_⟩
 have:x.length≤4000:=h.kp.long x hx
 omega
theorem AHd {sz n m c:Nat} {a:Option Addr} {xs:List Value} {h:Hp} (hm:m≤n) (hr:CA sz h (.slice a n c) n xs):CA sz h (.slice a m c) m (xs.take (m*sz)):=by
 rcases hr with ⟨h0,h1,h2⟩|⟨b,off,cap,l,T,fr,hv,hb,hx,h3,h4⟩
 ·have:m=0:=by omega
  subst this
  exact .inl ⟨rfl,by simp,a,c,rfl⟩
 ·simp only [Value.slice.injEq,true_and] at hv
  obtain ⟨rfl,rfl⟩:=hv
  have hms:m*sz≤n*sz:=Nat.mul_le_mul_right _ hm
  refine .inr ⟨b,off,_,l,T,fr,rfl,hb,?_,by omega,by omega⟩
  rw [←hx,take_take,Nat.min_eq_left hms]
theorem AFW {es:List En} (h:∀e∈es,EnZ e) (hn:es.length≤1000) {a:Option Addr} {c k:Nat} (hk:k≤es.length):Lx (Hr (.slice a es.length c) es) (.slice a k c) (es.take k):=by
 have hE:=Lx.ofZ (v:= .slice a es.length c) h hn
 have hl:(es.take k).length=k:=by rw [length_take];omega
 refine ⟨fun hh hp=>?_,by omega,fun e he=>hE.tx e (mem_of_mem_take he),?_⟩
 ·rw [hl,←(Qw (f:=CB) (sz:=11) (fun _=>rfl) es k).1]
  exact AHd hk (hE.cells hh hp)
 ·have h1:=Ro (l:=es) k
  have h2:=hE.total
  omega
theorem AAp {s:Ld} {N c:Int} {es:List En} (h:Pc s N c es) (hn:¬0<es.length):FX s.Λ=0:=by
 have:es=[]:=length_eq_zero_iff.1 om
 rw [h.e,this];rfl
theorem AIe {s:Ld} {N c:Int} {es:List En} (h:Pc s N c es) (hN:N≤1000000000000):WlI s.δ s.ω∧RP s.Λ∧s.Λ.zxs.Pairwise (· < ·):=⟨h.h.lw.well.i hN,h.h.lw.w.i,(pairwise_cons.1 h.h.lw.w.rows.up).2⟩
theorem Vp.lg {s:Ld} {N c:Int} {es:List En} {n:Nat} (h:Vp s N c es n):RP s.Λ∧RP (Ik es n)∧s.Λ.base=4294967296+(n:Int)∧s.Λ.snap=EX (Bb BV (es.take n)):=by
 have h1:=h.h.lw.w.i
 exact ⟨h1,by rw [←h.e];exact h1,by rw [h.e];rfl,by rw [h.e];rfl⟩
theorem OZ (n:Int) (hn:n=16384):Fn prog 6 #[AA 16384] [] fun v L=> ∃x,v= .tuple #[AD x,AA 0]∧L=[DQ x (Dk.new n)]:=by
 subst hn
 refine (T5 16384).mono fun v L h=>?_
 rcases h with ⟨h,-,-⟩|⟨-,x,rfl,rfl⟩
 ·omega
 ·exact ⟨x,rfl,rfl⟩
theorem NQ (v:Value) (c:Int) (hv:Value) (l:List Ui) (how:List Int) (q:HP) (hT:J9 q) (hc:Aw c) (hA:ADG q v l) (hhow:∀h:Hp,q h→CA 1 h hv how.length (BZ how)) (hhows:∀z∈how,Aw z):Fn prog 3 #[v,AA c,hv] [q] fun v L=>v= .bool true∧L=[q]:=by
 refine Fn.intro func3 Y Y fun F W=>?_
 obtain ⟨n,hn⟩:∃n:Int,n=16384:=⟨_,rfl⟩
 obtain ⟨ω0,f1,f2,f3,f4⟩:=T0 hn
 refine .sr (.an Y (.sr (.cv func4 [] (TW q hT) ?_)))
 refine .an Y (.sm Y (.oq (.c func5 [_,_] (Pw v l q hA)) ?_))
 rintro v' L' ⟨es,u,t0,hH,hle,⟨au,cu,rfl⟩,rfl,rfl⟩
 refine .an Y (.sr (.oq (.c func6 [_] (OZ n hn)) ?_))
 rintro v' L' ⟨d,rfl,rfl⟩
 refine .m Y (.ex Y Y (.ex Y Y (.a Y (.an Y (.sm Y (.oq (.call func7 Y Y (vs:=[_]) Y (H8 d (Dk.new n) (by show (0:Int)+10<_;decide) (f3.i dQ) (f4.i dQ))) ?_))))))
 rintro v' L' (⟨h,-,-⟩|⟨ω1,g,x,hw,rfl,rfl⟩);· rw [f1] at h;cases h
 rw [f1] at hw;cases hw
 refine .m Y (.ex Y Y (.ex Y Y (.a Y (.an Y (.sr (.oq (.c func6 [_] (OZ n hn)) ?_))))))
 rintro v' L' ⟨d2,rfl,rfl⟩
 refine .m Y (.ex Y Y (.ex Y Y (.a Y (.an Y (.sm Y (.oq (.call func7 Y Y (vs:=[_]) Y (H8 d2 (Dk.new n) (by show (0:Int)+10<_;decide) (f3.i dQ) (f4.i dQ))) ?_))))))
 rintro v' L' (⟨h,-,-⟩|⟨ω1,g2,x2,hw,rfl,rfl⟩);· rw [f1] at h;cases h
 rw [f1] at hw;cases hw
 refine .m Y (.ex Y Y (.ex Y Y (.a Y (.an Y (.seq (.sm Y (.q (.as (v':= .bool false) (by rfl) (.not Y)) Y (.m Y (.gr (.m Y (.gr (.q (.ptreq Y Y underlying31) Y (.pF Y Y (.m Y (.gr (.m Y (.gr (.q (.ptreq Y Y underlying31) Y (.pF Y Y (.m Y (.gr (.m Y (.gr (.q (.as (v':= .bool false) (by rfl) (.int Y Y Y)) Y (.pF Y Y (.m Y (.gr (.m Y (.gr (.q (.as (v':= .bool false) (by rfl) (.int Y Y Y)) Y (.pF Y Y (.m Y (.gr (.m Y (.gr ?_)))))))))))))))))))))))))))))))))))
 refine .q (.as (v':= .bool false) (by rfl) (.int Y Y Y)) Y (.pF Y Y (.m Y (.gr (.m Y (.gr (.q (.as (v':= .bool false) (by rfl) (.int Y Y Y)) Y (.pF Y Y (.nt (.condF Y (.sk (.seq (.sr (.an Y (.block (.loopK (ι:=Nat×Ld) (fun q E=>(17,AA q.1)::E) (fun q=>[JL g x q.2.Λ,LW x d q.2.ω,DQ d q.2.δ]) (fun q=>q.1≤es.length∧Pc q.2 (4000003+q.1*4000000) (3+q.1) (es.take q.1)) (fun q=>es.length-q.1) (0,⟨(A6 (Dk.new n)).1,ω0,lg0⟩) (ts:=[1,2,8,11,13,15]) O (⟨Nat.zero_le _,f2.more (by dsimp only;omega) (by dsimp only;omega)⟩) O O ?_)))))))))))))))
 rintro ⟨i,s⟩ ⟨hi,hF⟩
 dsimp only
 dsimp only at hi hF
 obtain ⟨hw1,hw2,hw3⟩:=AIe hF om
 refine .seq (.sm Y (.m Y (.q (.slen Y underlying25 Y) Y (.ui Y Y Y (.nt (.condD Y (fun h78=>?_) (fun h78=>?_)))))))
 ·have hi2:i<es.length:=by omega
  refine .rdShape (p:=(Hr (.slice au es.length cu) es)) (fun _ hp=>Jg hp) O om fun ba oa ee=>?_
  subst ee
  refine .sk (.seq (.block (.sm Y (.m Y (.m Y (.q (.indexAddr Y Y Ft om) Y (.q (.loadRdA (sz:=11) (j:=i*11) (k:=11) (p:=(Hr (.slice (some ⟨ba,oa,none⟩) es.length cu) es)) (vs:=CB es[i]) Y Cz O (fun _ hp=>Jg hp) (by simp) om om (BH (f:=CB) (sz:=11) (fun _ _=>Y) om)) Y (.oq (.c func8 [_,_] (LG g x d s.δ s.ω s.Λ es[i] (Hr (.slice (some ⟨ba,oa,none⟩) es.length cu) es) ((hH.ent _ (getElem_mem hi2)).X (getElem_mem hi2)) hw1 hw2)) ?_))))))))
  rintro v' L' ⟨rfl,rfl⟩;obtain ⟨e0,hF2⟩:=AAk hH hle hi2 hF;obtain ⟨r,hr⟩:∃r,Aj ⟨s.δ,s.ω,s.Λ⟩ es[i]=r:=⟨_,rfl⟩;rw [hr];rw [show Aj s es[i]=r from hr] at e0 hF2
  refine .q (.as (v':= .bool false) (by rw [e0];rfl) (.int Y Y Y)) Y (.nt (.condF Y (.skip (.blk_n (.then_n (.region (.m Y (.q (.add Y Y om) Y (.an Y ?_)))))))))
  exact .rk ((i+1,r.1)) (⟨by dsimp only;omega,hF2.more (by dsimp only;omega) (by dsimp only;omega)⟩) (by dsimp only;omega) O
 obtain rfl:i=es.length:=by omega
 rw [take_length] at hF
 have hpk:=JG c (n:=(es.length:Int)+1) om
 obtain ⟨k,hk⟩:∃k:Nat,KJ c ((es.length:Int)+1)=(k:Int):=⟨(KJ c ((es.length:Int)+1)).toNat,by omega⟩
 have hke:k≤es.length:=by omega
 refine .xe (.sm Y (.m Y (.q (.slen Y underlying25 Y) Y (.q (.add Y Y om) Y (.oq (.c func9 [_,_] (OY c ((es.length:Int)+1) hc om)) ?_)))))
 rintro v' L' ⟨rfl,rfl⟩;rw [hk]
 refine .an Y (.seq (.sm Y (.ui Y Y Y (.nt (.condD Y (fun h94=>?_) (fun h94=>?_))))))
 ·refine .sm Y (.cv func10 [_] (Gh g x s.Λ hw2) ?_)
  refine .ui Y Y Y (.m Y (.dec (t:=98) Y (fun h16_98=>?_) (fun h16_98=>?_)))
  ·refine .kDT (t:=97) Y h16_98 (.gk (.gk (.gk (.pT Y Y (.an Y (.rt ?_))))))
   exact .vv
  refine .kDF (t:=97) Y h16_98 (.gr (.m Y (.gr (.q (.slen Y underlying25 Y) Y (.gr (.q (.as (v':= .bool true) (by exact congrArg Value.bool (decide_eq_true (by have:=AAp hF;omega))) (.int Y Y Y)) Y (.pF Y Y (.an Y (.rt ?_)))))))))
  exact .vv
 obtain ⟨m,rfl⟩:∃m,k=m+1:=⟨k-1,by omega⟩
 obtain ⟨w1,w2,w3⟩:=hH.at' (m+1) hke
 have hlen:(EX (Bb BV (es.take (m+1)))).length≤70368744177664:=Nat.le_trans (N6 w1 w2 w3) dQ
 refine .sk (.seq (.rdShapeC (p:=(Hr (.slice au es.length cu) es)) (fun _ hp=>Jg hp) O om fun ba oa ee hcu=>?_))
 subst ee
 refine .region (.m Y (.m Y (.q (.to (v':= .slice (some ⟨ba,oa,none⟩) (m+1) cu) (.slTo Y Ft Y om (.inr ⟨_,_,Y⟩)) (by simp)) Y (.oq (.call func12 Y Y (vs:=[_]) Y (M8 _ (es.take (m+1)) (Hr (.slice (some ⟨ba,oa,none⟩) es.length cu) es) (AFW hH.ent om hke))) ?_))))
 rintro v' L' ⟨t1,rfl,rfl⟩
 refine .cv func11 [_] (SG t1 (Bb BV (es.take (m+1))) 64 w1.ok dQ w2) ?_
 refine .an Y (.seq (.sm Y (.m Y (.m Y (.q (.as (v':=AA m) (by congr 1;omega) (.sub Y Y om)) Y (.q (.indexAddr Y Y Ft om) Y (.fa Y Y0 (.q (.to (v':=AA (4294967296+((m+1:Nat):Int))) (.loadRd (sz:=11) (j:=m*11+0) (p:=(Hr (.slice (some ⟨ba,oa,none⟩) es.length cu) es)) (v:=AA es[m].zx) Y CT O (fun _ hp=>Jg hp) om ((La (f:=CB) (sz:=11) (l:=es) (i:=m) (k:=0) (fun _ _=>Y) om dQ).trans Y)) (by rw [hH.zx m om];congr 1;omega)) Y (.m Y (.oq (.c func13 [_,_,_] (QD g x d s.δ s.ω s.Λ (4294967296+((m+1:Nat):Int)) (EX (Bb BV (es.take (m+1)))) hw1 hw2 hw3 ⟨by omega,by omega⟩)) ?_))))))))))
 rintro v' L' ⟨rfl,rfl⟩;obtain ⟨e1,hS⟩:=S8 hH hle hF om (Nat.le_add_left 1 m) hke;obtain ⟨r,hr⟩:∃r,Bh ⟨s.δ,s.ω,s.Λ⟩ (4294967296+((m+1:Nat):Int)) (EX (Bb BV (es.take (m+1))))=r:=⟨_,rfl⟩;rw [hr];rw [show Bh s (4294967296+((m+1:Nat):Int)) (EX (Bb BV (es.take (m+1))))=r from hr] at e1 hS;obtain ⟨l1,l2,l3,l4⟩:=hS.lg
 refine .q (.as (v':= .bool false) (by rw [e1];rfl) (.int Y Y Y)) Y (.nt (.condF Y (.sk (.sm Y (.m Y (.oq (.c func15 [_] (Kd g x r.1.Λ)) ?_))))))
 rintro v' L' ⟨rfl,rfl⟩;rw [l3]
 refine .oq (.c func14 [_,_] (KH g x r.1.Λ (4294967296+((m+1:Nat):Int)) l1)) ?_
 rintro v' L' (⟨h9,-,-⟩|⟨-,es1,hes1,hek1,a1,c1,rfl,rfl⟩);· omega
 rw [hS.e,ND hH] at hes1
 have hz1:=YV (fun e he=>hH.ent e (mem_of_mem_drop he)) hes1 hek1
 have hl1:es1.length≤100:=by have h:=congrArg List.length hes1;rw [length_map,length_map,length_drop] at h;omega
 refine .fold (p:=Hr (.slice a1 es1.length c1) es1) (q:=[At 40 11 (.slice a1 es1.length c1) es1.length (es1.flatMap CB),Am entR es1]) O (fun _ h=>h) (.m Y (.ex Y Y (.ex Y Y (.a Y (.an Y (.seq (.sm Y (.q (.as (v':= .bool false) (by rfl) (.int Y Y Y)) Y (.m Y (.gr (.m Y (.gr (.m Y (.gr (.oq (.c func15 [_] (Kd g x r.1.Λ)) ?_)))))))))))))))
 rintro v' L' ⟨rfl,rfl⟩;rw [l3]
 refine .gr (.m Y (.gr (.oq (.c func17 [_] (Oe g x r.1.Λ)) ?_)))
 rintro v' L' ⟨rfl,rfl⟩;rw [l4]
 refine .gr (.m Y (.gr (.oq (.call func16 Y Y (vs:=[_,_,_,_]) Y (Pu g2 x2 d2 (A6 (Dk.new n)).1 ω0 lg0 (4294967296+((m+1:Nat):Int)) (EX (Bb BV (es.take (m+1)))) _ es1 (Hr (.slice a1 es1.length c1) es1) (f2.h.lw.well.i dQ) ⟨by omega,by omega⟩ (fun _ hp=>Jg hp) om (fun e he=>(hz1 e he).X he))) ?_)))
 rintro v' L' ⟨rfl,rfl⟩;obtain ⟨e2,hS2⟩:=S7 hH hle f2 dQ hke hes1 hz1;obtain ⟨t,ht⟩:∃t,BD ⟨(A6 (Dk.new n)).1,ω0,lg0⟩ (4294967296+((m+1:Nat):Int)) (EX (Bb BV (es.take (m+1)))) es1=t:=⟨_,rfl⟩;rw [ht];rw [show BD ⟨(A6 (Dk.new n)).1,ω0,lg0⟩ (4294967296+((m+1:Nat):Int)) (EX (Bb BV (es.take (m+1)))) es1=t from ht] at e2 hS2
 refine .gr (.q (.as (v':= .bool false) (by rw [e2];rfl) (.int Y Y Y)) Y (.pF Y Y (.nt (.condF Y (.sk (.seq (.dkOk O fun hok=>(.region (.m Y (.m Y (.oq (.c func18 [_,_] (Wn d2 t.1.δ _ how q hhow hhows)) ?_)))))))))))
 rintro v' L' ⟨rfl,rfl⟩;rw [hS2.crash how]
 refine .nt (.seq ?_)
 obtain ⟨o1,o2⟩:=hS2.opens hok
 have hop:=hS2.h.opened
 have hsz:=hS2.h.lw.well.size
 have hdd:=hS2.h.lw.well.al.dead
 obtain ⟨-,i2,-,-⟩:=hS2.lg
 refine .region (.m Y (.oq (.c func19 [_] (WO d2 t.1.δ hsz hok (fun ω9 h9=>by rw [o1] at h9;cases h9;exact hop))) ?_))
 rintro v' L' (⟨h,-,-⟩|⟨-,h,-,-⟩|⟨-,ω9,h9,⟨h,-,-⟩|⟨Λ9,mm,y,hl9,rfl,rfl⟩⟩);· rw [hdd] at h;cases h
 · rw [o1] at h;cases h
 · rw [o1] at h9;cases h9;rw [o2] at h;cases h
 rw [o1] at h9;cases h9;rw [o2] at hl9;cases hl9
 refine .m Y (.ex Y Y (.ex Y Y (.a Y (.an Y (.seq (.sm Y (.q (.ptreq Y Y underlying31) Y (.m Y (.gr (.m Y (.gr (.q (.as (v':= .bool false) (by rfl) (.int Y Y Y)) Y (.pF Y Y (.m Y (.gr (.m Y (.gr (.cv func10 [_] (Gh mm y (Ik es (m+1)) i2) ?_))))))))))))))))))
 refine .gr (.m Y (.gr (.cv func10 [_] (Gh g x r.1.Λ l1) ?_)))
 refine .gr (.q (.as (v':= .bool false) (by rw [hS.e];simp) (.int Y Y Y)) Y (.pF Y Y (.m Y (.gr (.m Y (.gr (.oq (.c func20 [_] (NL mm y (Ik es (m+1)) i2)) ?_)))))))
 rintro v' L' ⟨a5,c5,rfl,rfl⟩
 refine .gr (.q (.slen Y underlying23 Y) Y (.gr (.m Y (.gr (.oq (.c func20 [_] (NL g x r.1.Λ l1)) ?_)))))
 rintro v' L' ⟨a6,c6,rfl,rfl⟩
 refine .gr (.q (.slen Y underlying23 Y) Y (.gr (.q (.as (v':= .bool false) (by rw [hS.e];simp) (.int Y Y Y)) Y (.pF Y Y (.nt (.condF Y (.sk (.sm Y (.m Y (.oq (.c func15 [_] (Kd mm y (Ik es (m+1)))) ?_))))))))))
 rintro v' L' ⟨rfl,rfl⟩;rw [show (Ik es (m+1)).base=(4294967296+((m+1:Nat):Int)) from rfl]
 refine .oq (.c func14 [_,_] (KH mm y (Ik es (m+1)) (4294967296+((m+1:Nat):Int)) i2)) ?_
 rintro v' L' (⟨h9,-,-⟩|⟨-,es2,hes2,hek2,a2,c2,rfl,rfl⟩);· exact absurd h9 (by rw [show (Ik es (m+1)).base=(4294967296+((m+1:Nat):Int)) from rfl];omega)
 rw [ND hH] at hes2
 have hz2:=YV (fun e he=>hH.ent e (mem_of_mem_drop he)) hes2 hek2
 have hl2:es2.length≤100:=by have h:=congrArg List.length hes2;rw [length_map,length_map,length_drop] at h;omega
 refine .fold (p:=Hr (.slice a2 es2.length c2) es2) (q:=[At 40 11 (.slice a2 es2.length c2) es2.length (es2.flatMap CB),Am entR es2]) O (fun _ h=>h) (.m Y (.ex Y Y (.ex Y Y (.a Y (.an Y (.sm Y (.oq (.c func17 [_] (Oe mm y (Ik es (m+1)))) ?_)))))))
 rintro v' L' ⟨rfl,rfl⟩;rw [show (Ik es (m+1)).snap=(EX (Bb BV (es.take (m+1)))) from rfl]
 refine .m Y (.oq (.call func21 Y Y (vs:=[_,_]) Y (Ph (EX (Bb BV (es.take (m+1)))) hlen _ es2 (Hr (.slice a2 es2.length c2) es2) (Lx.ofZ hz2 om))) ?_)
 rintro v' L' (⟨h9,rfl,rfl⟩|⟨υ,u9,h9,rfl,rfl⟩);· rw [VB hH (Nat.le_add_left 1 m) hke hes2] at h9;cases h9
 rw [VB hH (Nat.le_add_left 1 m) hke hes2] at h9;cases h9
 refine .m Y (.ex Y Y (.ex Y Y (.a Y (.an Y (.sm Y (.q (.as (v':= .bool true) (by rfl) (.int Y Y Y)) Y (.m Y (.gr (.m Y (.gr (.q (.as (v':= .bool true) (by rfl) (.int Y Y Y)) Y (.pT Y Y (.m Y (.gr (.m Y (.gr (.q (.ptrne Y Y underlying44) Y (.pT Y Y (.m Y (.gr (.m Y (.gr (.m Y (.gr (.oq (.call func12 Y Y (vs:=[_]) Y (M8 _ es (Hr (.slice (some ⟨ba,oa,none⟩) es.length cu) es) (Lx.ofZ hH.ent om))) ?_)))))))))))))))))))))))))
 rintro v' L' ⟨t9,rfl,rfl⟩;obtain ⟨z1,z2,z3⟩:=hH.all
 refine .gr (.oq (.c func22 [_,_] (Vb u9 t9 (Bb BV es) (Bb BV es) 64 64 z1.ok z1.ok)) ?_)
 rintro v' L' ⟨rfl,rfl⟩;rw [decide_eq_true rfl]
 refine .pT Y Y (.an Y (.ret ?_))
 exact .vv
open Go Go.ChangeShapes Go.WideShapes Go.ChangeAt Go.RowKit
section
variable {H:Type} {enc:TypeId×Value→H} {P:Program} {W W':World}
theorem NJ (hl:laidOutB P=true) (hb:Below W.heap.size W W') (sp:Nat→Bool):∀(ts:List TypeId) (vs:List Value) (ds:List (DataW H)) (p:List MemPlace),(∀t∈ts,P.readableRec t=true∧t<P.types.size)→
  DataW.TrodAll enc P W 0 (fun _=>true) true ts vs ds p→(∀x∈p,x.block<W.heap.size)→(∀x∈p,sp x.block=true)→DataW.TrodAll enc P W' 0 sp true ts vs ds p
 |[],vs,ds,p,_,h,_,_=>by
  obtain ⟨rfl,rfl,rfl⟩:=trodAll_nil h
  exact h
 |t::ts,vs,ds,p,hr,h,hlt,hsp=>by
  obtain ⟨v,vs1,d,ds1,a,b,rfl,rfl,rfl,h1,h2⟩:=trodAll_cons h
  have r:=hr t (by simp)
  refine ⟨a,b,WideElems.Trod_stays hl r.1 r.2 h1 (fun x hx=>hb.same (hlt x (by simp [hx]))) (fun x hx=>hsp x (by simp [hx])),?_,rfl⟩
  exact NJ hl hb sp ts vs1 ds1 b (fun t ht=>hr t (by simp [ht])) h2 (fun x hx=>hlt x (by simp [hx])) (fun x hx=>hsp x (by simp [hx]))
theorem AG8 {fn:Func} {s:ChangeSpec} {apart fresh handsOn UY:Bool} {args:Array Value} {ds gs:List (DataW H)} {before:List MemPlace} {tb:TypeId}
  (hW:DataW.Whole enc P fn.params.toList s.vars apart W args.toList ds gs before) (hvars:s.vars=[]) (hspec:∀gs',gs'=[]→s.fn H (ds++gs')={results:=[.lit (.bool true)],args:=ds})
  (hres:fn.resultTypes= #[tb]) (htb:P.underlying tb=some .bool) (hl:laidOutB P=true) (hr:∀t∈fn.params.toList,P.readableRec t=true∧t<P.types.size) (hb:Below W.heap.size W W'):
  s.post enc P fn apart fresh handsOn UY W args (.bool true) W':=by
 have hW':=hW
 have hlt:=hW.lt
 obtain ⟨p,q,hA,hV,rfl,hfz,hnd⟩:=hW
 rw [hvars] at hV
 obtain ⟨rfl,rfl⟩:=trodVars_none hV
 have hs:=hspec [] rfl
 have hargs:∀sp:Nat→Bool,(∀x∈p,sp x.block=true)→DataW.TrodAll enc P W' 0 sp true fn.params.toList args.toList ds p:=fun sp hsp=>
  NJ hl hb sp _ _ _ _ hr hA (fun x hx=>hlt x (by simp [hx])) hsp
 have hbool:∀(b:Nat) (sp:Nat→Bool) (hd:Bool),DataW.TrodAll enc P W' b sp hd fn.resultTypes.toList ((Value.bool true).resultList fn.resultTypes.size) [.lit (.bool true)] []:=by
  intro b sp hd
  rw [hres]
  exact trodAll_cons_mk (shut_bool htb _) trodAll_mk0
 refine ⟨ds,[],p++[],[],p,[],hW',?_,?_,?_,hb.frame _,fun _=>⟨ok_one hres rfl (okWide_bool_mk htb _),[.lit (.bool true)]++ds,[],p,⟨p,[],?_,?_,by simp,?_,?_⟩,?_⟩⟩
 ·rw [hs];exact hbool _ _ _
 ·rw [hs];exact hargs _ (fun x hx=>by simpa using hlt x (by simp [hx]))
 ·rw [hs,hvars];exact hV
 ·exact trodAll_append (hargs _ (fun _ _=>rfl)) (hbool _ _ _)
 ·rw [hvars];exact hV
 ·intro b off hp
  rw [hb.frozen (p:=⟨b,off,none⟩) (hlt (.cell b off) (by simp [hp]))]
  exact hfz b off (by simp [hp])
 ·intro ha
  have:=hnd ha
  simpa using this
 ·intro x hx _
  simp [hx]
theorem AAc {f:FuncId} {args:Array Value} (h:Fn P f args [TI W] fun v L=>v= .bool true∧L=[TI W]):
  Calls P f args W fun e W'=>e= .returned (.bool true)∧Below W.heap.size W W':=by
 have h0:St [TI W] W:=⟨fun b=>W.heap[b]?,fun _=>none,fun _=> .inr rfl,fun b o h=>h,fun b o h=>(by cases h),fun b hb=>rfl,trivial⟩
 refine (h [] W h0).mono ?_
 rintro e W' ⟨v,L,⟨rfl,rfl⟩,rfl,hs,hk⟩
 refine ⟨rfl,hk.os,hk.tape,hk.output,hk.size,fun k hk'=>?_⟩
 obtain ⟨h1,a1,hp⟩:=Ae hs
 have e1:=hp k hk'
 have:∃o,W.heap[k]?=some o:=⟨_,Array.getElem?_eq_getElem hk'⟩
 obtain ⟨o,ho⟩:=this
 rw [ho] at e1 ⊢
 exact a1 _ _ e1
theorem ADk {a:Addr} {len cap:Nat} {V:Nat→Value} (hc:∀i,i<len→W.cell? (a.add i)=some (V i)) (hle:len≤cap):∀h:Hp,TI W h→CA 1 h (.slice (some a) len cap) len ((List.range len).map V):=by
 intro h hold
 rcases Nat.eq_zero_or_pos len with rfl|hpos
 ·exact .inl ⟨rfl,rfl,some a,cap,rfl⟩
 ·obtain ⟨b,off,spot⟩:=a
  have h0:=hc 0 hpos
  have e0:(⟨b,off,spot⟩:Addr).add 0=⟨b,off,spot⟩:=by simp [Addr.add]
  rw [e0] at h0
  simp only [World.cell?] at h0
  rcases hw:W.heap[b]? with _|o
  ·rw [hw] at h0;cases h0
  ·cases o with
   |cells c T fr=>
    rw [hw] at h0
    dsimp only at h0
    split at h0
    ·cases h0
    ·rename_i hsp
     have hspot:spot=none:=by simpa using hsp
     subst hspot
     have hc':∀i,i<len→c[off+i]?=some (V i):=by
      intro i hi
      have:=hc i hi
      have e1:(⟨b,off,none⟩:Addr).add i=⟨b,off+i,none⟩:=by
       simp only [Addr.add];split
       ·rename_i h0;simp [h0]
       ·rfl
      rw [e1] at this
      simp only [World.cell?,hw] at this
      simpa using this
     have hlt:b<W.heap.size:=by
      rcases Nat.lt_or_ge b W.heap.size with h'|h'
      ·exact h'
      ·rw [Array.getElem?_eq_none h'] at hw;cases hw
     have hlen:off+len≤c.size:=by
      have:=hc' (len-1) om
      rcases Nat.lt_or_ge (off+(len-1)) c.size with h'|h'
      ·omega
      ·rw [Array.getElem?_eq_none h'] at this;cases this
     refine .inr ⟨b,off,cap,c.toList,T,fr,rfl,by rw [hold b hlt,hw],?_,by simpa using hlen,hle⟩
     apply ext_getElem?
     intro i
     rw [Nat.mul_one,List.getElem?_take,List.getElem?_map,List.getElem?_drop]
     split
     ·rename_i hi
      rw [List.getElem?_range hi]
      simpa using hc' i hi
     ·rename_i hi
      rw [List.getElem?_eq_none (by simpa using hi)];rfl
   |_=>rw [hw] at h0;cases h0
theorem AFL {t:TypeId} {r:Reach} {b0:Nat} {v:Value} {d:DataW H} {ps:List MemPlace} (ht:P.underlying t=some (.int .i64)) (hval:Value.okWide P W r b0 t v)
  (h:DataW.Trod enc P W 0 (fun _=>true) true t v d ps):∃n:Int,v=AA n∧d= .lit (.int .i64 n)∧ -9223372036854775808≤n∧n≤9223372036854775807:=by
 obtain ⟨n,rfl,rfl,rfl,hwf⟩:=open_int ht hval h
 exact ⟨n,rfl,rfl,bounds_i64 hwf⟩
end
open Go Go.ChangeShapes Go.WideShapes Go.ChangeAt Go.RowKit
section
variable {H:Type} {enc:TypeId×Value→H} {P:Program} {W:World}
theorem VT (s:ByteArray):Value.string s=AF s.data.toList:=by cases s;rfl
end
open Go Go.ChangeShapes Go.WideShapes Go.ChangeAt Go.RowKit
section
variable {H:Type} {enc:TypeId×Value→H} {P:Program} {W:World}
theorem Yp {α:Type} {sz:Nat} (f:Nat→List α):∀n,(∀i,i<n→(f i).length=sz)→∀j,j<n*sz→((List.range n).flatMap f)[j]?=(f (j/sz))[j%sz]?∧((List.range n).flatMap f).length=n*sz:=by
 intro n
 induction n with
 |zero=>intro _ j hj;omega
 |succ n ih=>
  intro hf j hj
  have hn:=hf n om
  have hlen:((List.range n).flatMap f).length=n*sz:=by
   rcases Nat.eq_zero_or_pos (n*sz) with h0|h0
   ·rcases Nat.eq_zero_or_pos n with h1|h1
    ·subst h1;simp
    ·have:sz=0:=by
      rcases Nat.eq_zero_or_pos sz with h2|h2
      ·exact h2
      ·have:=Nat.mul_pos h1 h2;omega
     subst this;omega
   ·exact (ih (fun i hi=>hf i om) 0 h0).2
  have e:(List.range (n+1)).flatMap f=(List.range n).flatMap f++f n:=by simp [range_succ]
  have hm:(n+1)*sz=n*sz+sz:=by rw [Nat.add_mul,Nat.one_mul]
  rw [e]
  refine ⟨?_,by rw [length_append,hlen,hn,hm]⟩
  rcases Nat.lt_or_ge j (n*sz) with h|h
  ·rw [List.getElem?_append_left om]
   exact (ih (fun i hi=>hf i om) j h).1
  ·rw [List.getElem?_append_right om,hlen]
   have hs:0<sz:=by omega
   have h1:j/sz=n:=by
    have:j<(n+1)*sz:=hj
    have a:=Nat.div_lt_of_lt_mul (show j<sz*(n+1) by rw [Nat.mul_comm];exact this)
    have b:=(Nat.le_div_iff_mul_le hs).2 h
    omega
   have h2:j%sz=j-n*sz:=by
    have:=Nat.div_add_mod j sz
    rw [h1,Nat.mul_comm] at this;omega
   rw [h1,h2]
theorem Mx {sz n c c1:Nat} {a:Option Addr} {ys:List Value} {h:Hp} (hr:CA 1 h (.slice a (n*sz) c1) (n*sz) ys) (hc:n≤c) (hs:0<sz):CA sz h (.slice a n c) n ys:=by
 rcases hr with ⟨h1,h2,-⟩|⟨b,off,cap,l,T,fr,hv,hb,h1,h2,h3⟩
 ·have:n=0:=by
   rcases Nat.eq_zero_or_pos n with h0|h0
   ·exact h0
   ·have:=Nat.mul_pos h0 hs;omega
  subst this
  exact .inl ⟨rfl,h2,a,c,rfl⟩
 ·simp only [Value.slice.injEq] at hv
  obtain ⟨rfl,-,-⟩:=hv
  exact .inr ⟨b,off,c,l,T,fr,rfl,hb,by rw [←h1,Nat.mul_one],by rw [Nat.mul_one] at h2;exact h2,hc⟩
abbrev Bp (enc:TypeId×Value→H) (P:Program) (W:World) (fuel:Nat) (t:TypeId) (cs:List Value) (x:DataW H×List MemPlace):Prop:=DataW.trod enc P W 0 (fun _=>true) true fuel t cs=some x
theorem AFf {t:TypeId} {fuel:Nat} {cs:List Value} {x:DataW H×List MemPlace} (ht:P.underlying t=some (.int .i64)) (h:Bp enc P W fuel t cs x):∃n:Int,cs=[AA n]∧ -9223372036854775808≤n∧n≤9223372036854775807:=by
 obtain ⟨n,rfl,-,hwf⟩:=DataW.trod_int ht h
 exact ⟨n,rfl,bounds_i64 hwf⟩
theorem UA {t:TypeId} {fuel:Nat} {cs:List Value} {x:DataW H×List MemPlace} (ht:P.underlying t=some .bool) (h:Bp enc P W fuel t cs x):∃b:Bool,cs=[.bool b]:=by
 obtain ⟨b,rfl,-⟩:=DataW.trod_bool ht h
 exact ⟨b,rfl⟩
end
open Go Go.ChangeShapes Go.WideShapes Go.ChangeAt Go.RowKit
theorem BF {H:Type} (d:DataW H):1≤Rows.uptoBulk d:=by
 cases d with
 |lit l=>cases l<;>simp [Rows.uptoBulk]
 |_=>simp [Rows.uptoBulk]
theorem MH {H:Type} {d:DataW H}:∀{l:List (DataW H)},d∈l→Rows.uptoBulk d≤Rows.uptoBulkAll l
 |x::l,h=>by
  unfold Rows.uptoBulkAll
  rcases mem_cons.1 h with rfl|h
  ·omega
  ·have:=MH h;omega
theorem KY {H:Type}:∀l:List (DataW H),l.length≤Rows.uptoBulkAll l
 |[]=>by simp
 |x::l=>by
  have h1:=BF x
  have h2:=KY l
  unfold Rows.uptoBulkAll
  rw [length_cons];omega
theorem T9 {H:Type}:∀l:List (DataW H),(l.map Rows.uptoBulk).sum≤Rows.uptoBulkAll l
 |[]=>by simp
 |x::l=>by
  have h2:=T9 l
  unfold Rows.uptoBulkAll
  rw [map_cons,sum_cons];omega
theorem Kn {H:Type} {l:List (DataW H)} (h:Rows.uptoSmall H l=true) {d:DataW H} (hd:d∈l):Rows.uptoBulk d≤1048576:=
 Nat.le_trans (MH hd) (of_decide_eq_true h)
instance:Inhabited Value:=⟨.bool false⟩
section
variable {H:Type} {enc:TypeId×Value→H} {P:Program} {W:World} {N:Nat}
theorem ACO {t:TypeId} {fuel:Nat} {cs:List Value} {x:DataW H×List MemPlace} (ht:P.underlying t=some (.int .i64)) (h:Bp enc P W fuel t cs x):∃n:Int,cs=[AA n]∧(-9223372036854775808≤n∧n≤9223372036854775807):=by
 obtain ⟨n,h1,h2⟩:=AFf ht h;exact ⟨n,h1,h2⟩
theorem AHj {Z:Type} [Inhabited Z] (toC:Z→List Value) (Q:Z→Prop) {t e:TypeId} {sz:Nat} {fuel:Nat} {cs:List Value} {x:DataW H×List MemPlace} (ht:P.underlying t=some (.slice e)) (hc:P.cellsOf e=sz) (hs:0<sz)
  (hdec:∀(n:Nat) (cs:List Value) (y:DataW H×List MemPlace),Bp enc P W n e cs y→Rows.uptoBulk y.1≤N→∃z,cs=toC z∧Q z) (h:Bp enc P W fuel t cs x) (hb:Rows.uptoBulk x.1≤N+1):
  ∃z:Value×List Z,cs=[z.1]∧(∀h:Hp,TI W h→CA sz h z.1 z.2.length (z.2.flatMap toC))∧z.2.length≤N∧∀y∈z.2,Q y:=by
 subst hc
 rcases Go.Deep.open_slice ht h with ⟨rfl,rfl⟩|⟨a,len,cap,m,n,Dd,Pl,rfl,-,hl,hm,hmm,rfl,hx⟩
 ·exact ⟨(_,[]),rfl,fun h _=> .inl ⟨rfl,rfl,none,0,rfl⟩,by simp,by simp⟩
 ·simp only [if_true] at hmm
  subst hmm
  have hbl:len≤N:=by
   have:=KY ((List.range len).map Dd)
   simp only [Rows.uptoBulk] at hb
   rw [length_map,length_range] at this
   omega
  have hbe:∀i,i<len→Rows.uptoBulk (Dd i)≤N:=fun i hi=>by
   have:=MH (d:=Dd i) (l:=(List.range len).map Dd) (mem_map_of_mem (by simpa using hi))
   simp only [Rows.uptoBulk] at hb
   omega
  obtain ⟨Zf,hZ⟩:=Go.Deep.choose_lt (α:=Z) (p:=fun i z=>W.cells? 0 (a.add (i*P.cellsOf e)) (P.cellsOf e)=some (toC z)∧Q z) (n:=len) (fun i hi=>by
   obtain ⟨cs',h1,h2⟩:=hx i om
   obtain ⟨z,rfl,h3⟩:=hdec _ _ _ h2 (hbe i hi)
   exact ⟨z,h1,h3⟩)
  have hlenf:∀i,i<len→(toC (Zf i)).length=P.cellsOf e:=fun i hi=>(World.cells?_some (hZ i hi).1).2.1
  have hflat:=Yp (fun i=>toC (Zf i)) len hlenf
  refine ⟨(_,(List.range len).map Zf),rfl,?_,?_,?_⟩
  ·intro h hold
   dsimp only
   rw [length_map,length_range]
   refine Mx (c1:=len*P.cellsOf e) ?_ hl hs
   have e1:((List.range len).map Zf).flatMap toC=(List.range (len*P.cellsOf e)).map (fun j=>((List.range len).flatMap fun i=>toC (Zf i)).getD j (.bool false)):=by
    rw [flatMap_map]
    apply ext_getElem?
    intro j
    rcases Nat.lt_or_ge j (len*P.cellsOf e) with hj|hj
    ·rw [List.getElem?_map,List.getElem?_range hj]
     have:=(hflat j hj).2
     have hjl:j<((List.range len).flatMap fun i=>toC (Zf i)).length:=by omega
     simp only [Option.map_some,getD_eq_getElem?_getD,List.getElem?_eq_getElem hjl,Option.getD_some]
    ·have:((List.range len).flatMap fun i=>toC (Zf i)).length=len*P.cellsOf e:=by
      rcases Nat.eq_zero_or_pos (len*P.cellsOf e) with h0|h0
      ·have:len=0:=by
        rcases Nat.eq_zero_or_pos len with h1|h1
        ·exact h1
        ·have:=Nat.mul_pos h1 hs;omega
       subst this;simp
      ·exact (hflat 0 h0).2
     rw [List.getElem?_eq_none om,List.getElem?_eq_none (by simpa using hj)]
   rw [e1]
   refine ADk (W:=W) (fun j hj=>?_) (Nat.le_refl _) h hold
   have hi:j/P.cellsOf e<len:=Nat.div_lt_of_lt_mul (by rw [Nat.mul_comm];exact hj)
   have hcell:=(World.cells?_some (hZ (j/P.cellsOf e) hi).1).2.2 (j%P.cellsOf e) (Nat.mod_lt _ hs)
   rw [Addr.add_add,Nat.mul_comm,Nat.div_add_mod] at hcell
   rw [hcell]
   obtain ⟨f1,f2⟩:=hflat j hj
   rw [getD_eq_getElem?_getD,f1]
   have:j%P.cellsOf e<(toC (Zf (j/P.cellsOf e))).length:=by rw [hlenf _ hi];exact Nat.mod_lt _ hs
   simp [this]
  ·dsimp only;rw [length_map,length_range];exact hbl
  ·intro z hz
   obtain ⟨i,hi,rfl⟩:=mem_map.1 hz
   exact (hZ i (by simpa using hi)).2
theorem NO {Z:Type} [Inhabited Z] (toC:Z→List Value) (Q:Nat→Z→Prop) {t e:TypeId} {sz:Nat} {fuel:Nat} {cs:List Value} {x:DataW H×List MemPlace} (ht:P.underlying t=some (.slice e)) (hc:P.cellsOf e=sz) (hs:0<sz)
  (hdec:∀(n:Nat) (cs:List Value) (y:DataW H×List MemPlace),Bp enc P W n e cs y→∃z,cs=toC z∧Q (Rows.uptoBulk y.1) z) (h:Bp enc P W fuel t cs x) (hb:Rows.uptoBulk x.1≤N+1):
  ∃(z:Value×List Z) (ws:List Nat),cs=[z.1]∧(∀h:Hp,TI W h→CA sz h z.1 z.2.length (z.2.flatMap toC))∧z.2.length≤N∧ws.length=z.2.length∧ws.sum≤N∧(∀w∈ws,1≤w)∧∀i (h1:i<z.2.length) (h2:i<ws.length),Q ws[i] z.2[i]:=by
 subst hc
 rcases Go.Deep.open_slice ht h with ⟨rfl,rfl⟩|⟨a,len,cap,m,n,Dd,Pl,rfl,-,hl,hm,hmm,rfl,hx⟩
 ·exact ⟨(_,[]),[],rfl,fun h _=> .inl ⟨rfl,rfl,none,0,rfl⟩,by simp,rfl,by simp,(fun _ h=>by cases h),(fun i h1 _=>by simp at h1)⟩
 ·simp only [if_true] at hmm
  subst hmm
  have hbl:len≤N:=by
   have:=KY ((List.range len).map Dd)
   simp only [Rows.uptoBulk] at hb
   rw [length_map,length_range] at this
   omega
  have hall:((List.range len).map fun i=>Rows.uptoBulk (Dd i)).sum≤N:=by
   have:=T9 ((List.range len).map Dd)
   rw [map_map] at this
   simp only [Rows.uptoBulk] at hb
   have e:((List.range len).map fun i=>Rows.uptoBulk (Dd i))=(List.range len).map (Rows.uptoBulk∘Dd):=rfl
   rw [e];omega
  obtain ⟨Zf,hZ⟩:=Go.Deep.choose_lt (α:=Z) (p:=fun i z=>W.cells? 0 (a.add (i*P.cellsOf e)) (P.cellsOf e)=some (toC z)∧Q (Rows.uptoBulk (Dd i)) z) (n:=len) (fun i hi=>by
   obtain ⟨cs',h1,h2⟩:=hx i om
   obtain ⟨z,rfl,h3⟩:=hdec _ _ _ h2
   exact ⟨z,h1,h3⟩)
  have hlenf:∀i,i<len→(toC (Zf i)).length=P.cellsOf e:=fun i hi=>(World.cells?_some (hZ i hi).1).2.1
  have hflat:=Yp (fun i=>toC (Zf i)) len hlenf
  refine ⟨(_,(List.range len).map Zf),(List.range len).map fun i=>Rows.uptoBulk (Dd i),rfl,?_,?_,by simp,hall,?_,?_⟩
  ·intro h hold
   dsimp only
   rw [length_map,length_range]
   refine Mx (c1:=len*P.cellsOf e) ?_ hl hs
   have e1:((List.range len).map Zf).flatMap toC=(List.range (len*P.cellsOf e)).map (fun j=>((List.range len).flatMap fun i=>toC (Zf i)).getD j (.bool false)):=by
    rw [flatMap_map]
    apply ext_getElem?
    intro j
    rcases Nat.lt_or_ge j (len*P.cellsOf e) with hj|hj
    ·rw [List.getElem?_map,List.getElem?_range hj]
     have:=(hflat j hj).2
     have hjl:j<((List.range len).flatMap fun i=>toC (Zf i)).length:=by omega
     simp only [Option.map_some,getD_eq_getElem?_getD,List.getElem?_eq_getElem hjl,Option.getD_some]
    ·have:((List.range len).flatMap fun i=>toC (Zf i)).length=len*P.cellsOf e:=by
      rcases Nat.eq_zero_or_pos (len*P.cellsOf e) with h0|h0
      ·have:len=0:=by
        rcases Nat.eq_zero_or_pos len with h1|h1
        ·exact h1
        ·have:=Nat.mul_pos h1 hs;omega
       subst this;simp
      ·exact (hflat 0 h0).2
     rw [List.getElem?_eq_none om,List.getElem?_eq_none (by simpa using hj)]
   rw [e1]
   refine ADk (W:=W) (fun j hj=>?_) (Nat.le_refl _) h hold
   have hi:j/P.cellsOf e<len:=Nat.div_lt_of_lt_mul (by rw [Nat.mul_comm];exact hj)
   have hcell:=(World.cells?_some (hZ (j/P.cellsOf e) hi).1).2.2 (j%P.cellsOf e) (Nat.mod_lt _ hs)
   rw [Addr.add_add,Nat.mul_comm,Nat.div_add_mod] at hcell
   rw [hcell]
   obtain ⟨f1,f2⟩:=hflat j hj
   rw [getD_eq_getElem?_getD,f1]
   have:j%P.cellsOf e<(toC (Zf (j/P.cellsOf e))).length:=by rw [hlenf _ hi];exact Nat.mod_lt _ hs
   simp [this]
  ·dsimp only;rw [length_map,length_range];exact hbl
  ·intro w hw
   obtain ⟨i,-,rfl⟩:=mem_map.1 hw
   exact BF _
  ·intro i h1 h2
   simp only [getElem_map,getElem_range]
   exact (hZ i (by simpa using h1)).2
/-! ### With weights: what is read weighs no more than its bulk -/
theorem JO {t:TypeId} {fuel:Nat} {cs:List Value} {x:DataW H×List MemPlace} (ht:P.underlying t=some .string) (h:Bp enc P W fuel t cs x):∃s:List UInt8,cs=[AF s]∧s.length+1≤Rows.uptoBulk x.1:=by
 obtain ⟨s,rfl,rfl,-⟩:=DataW.trod_string ht h
 exact ⟨s.data.toList,by rw [VT],by simp [Rows.uptoBulk]⟩
theorem DD {t:TypeId} {fuel:Nat} {cs:List Value} {x:DataW H×List MemPlace} (ht:P.underlying t=some (.int .i64)) (h:Bp enc P W fuel t cs x):∃n:Int,cs=[AA n]∧(-9223372036854775808≤n∧n≤9223372036854775807)∧1≤Rows.uptoBulk x.1:=by
 obtain ⟨n,h1,h2⟩:=ACO ht h;exact ⟨n,h1,h2,BF _⟩
theorem I2 {t e:TypeId} {fuel:Nat} {v:Value} {x:DataW H×List MemPlace} (ht:P.underlying t=some (.slice e)) (h:Bp enc P W fuel t [v] x):∃a n c,v= .slice a n c:=by
 rcases Go.Deep.open_slice ht h with ⟨hv,-⟩|⟨a,len,cap,m,n,Dd,Pl,hv,-⟩
 ·rw [List.cons.injEq] at hv;rw [hv.1];exact ⟨_,_,_,rfl⟩
 ·rw [List.cons.injEq] at hv;rw [hv.1];exact ⟨_,_,_,rfl⟩
theorem ADq {Z:Type} {m:Z→Nat}:∀{l:List Z} {ws:List Nat},ws.length=l.length→(∀i (h1:i<l.length) (h2:i<ws.length),m l[i]≤ws[i])→(l.map m).sum≤ws.sum
 |[],_,_,_=>by simp
 |z::l,[],h,_=>by simp at h
 |z::l,w::ws,h,hq=>by
  have h0:=hq 0 (by simp) (by simp)
  have h1:=ADq (l:=l) (ws:=ws) (m:=m) (by simpa using h) (fun i h1 h2=>hq (i+1) (by simpa using h1) (by simpa using h2))
  rw [map_cons,sum_cons,sum_cons]
  have h0':m z≤w:=h0
  omega
theorem IP {Z:Type} [Inhabited Z] (toC:Z→List Value) (Q:Z→Prop) (m:Z→Nat) {t e:TypeId} {sz:Nat} {fuel:Nat} {cs:List Value} {x:DataW H×List MemPlace} (ht:P.underlying t=some (.slice e)) (hc:P.cellsOf e=sz) (hs:0<sz)
  (hdec:∀(n:Nat) (cs:List Value) (y:DataW H×List MemPlace),Bp enc P W n e cs y→∃z,cs=toC z∧Q z∧m z≤Rows.uptoBulk y.1) (h:Bp enc P W fuel t cs x):
  ∃z:Value×List Z,cs=[z.1]∧(∀h:Hp,TI W h→CA sz h z.1 z.2.length (z.2.flatMap toC))∧(∀y∈z.2,Q y)∧z.2.length+1≤Rows.uptoBulk x.1∧1+(z.2.map m).sum≤Rows.uptoBulk x.1:=by
 have hp:=BF x.1
 obtain ⟨z,ws,h1,h2,h3,h4,h5,-,h7⟩:=NO (N:=Rows.uptoBulk x.1-1) toC (fun B z=>Q z∧m z≤B) ht hc hs hdec h om
 refine ⟨z,h1,h2,fun y hy=>?_,by omega,?_⟩
 ·obtain ⟨i,hi,rfl⟩:=mem_iff_getElem.1 hy
  exact (h7 i hi om).1
 ·have:=ADq (m:=m) h4 (fun i g1 g2=>(h7 i g1 g2).2)
  omega
theorem He {sz n:Nat} {v:Value} {ys:List Value} (hr:∀h:Hp,TI W h→CA sz h v n ys):∃a c,v= .slice a n c:=by
 have h:=hr (fun b=>if b<W.heap.size then W.heap[b]? else none) (fun b hb=>if_pos hb)
 rcases h with ⟨rfl,-,a,c,rfl⟩|⟨b,off,cap,l,T,fr,rfl,-⟩
 ·exact ⟨_,_,rfl⟩
 ·exact ⟨_,_,rfl⟩
end
open Go Go.ChangeShapes Go.WideShapes Go.ChangeAt Go.RowKit
def V4 (a:Ac):Nat:=3+a.2.length
theorem LN {α:Type} {m:α→Nat}:∀{l:List α} {x:α},x∈l→m x≤(l.map m).sum
 |y::l,x,h=>by
  rw [map_cons,sum_cons]
  rcases mem_cons.1 h with rfl|h
  ·omega
  ·have:=LN (m:=m) h;omega
theorem MC {α:Type} {m:α→Nat} (hm:∀x,3≤m x):∀l:List α,3*l.length≤(l.map m).sum
 |[]=>by simp
 |y::l=>by have:=MC hm l;have:=hm y;rw [map_cons,sum_cons,length_cons];omega
theorem T8 {α:Type} {f:α→Bs} {m:α→Nat}:∀{l:List α},(∀x∈l,(f x).length≤20*m x)→(l.flatMap f).length≤20*(l.map m).sum
 |[],_=>by simp
 |y::l,h=>by
  have h1:=h y (mem_cons_self ..)
  have h2:=T8 (l:=l) (m:=m) (f:=f) (fun x hx=>h x (mem_cons_of_mem _ hx))
  rw [flatMap_cons,length_append,map_cons,sum_cons];omega
theorem AG5 {l:List Ac} (h:∀a∈l,Aw a.1) (hm:(l.map V4).sum≤1048576):Hf l:=by
 have hl:=MC (m:=V4) (fun a=>by unfold V4;omega) l
 have hu:Ds=18446744073709551616:=rfl
 have hi:∀a∈l,a.2.length≤1048576:=fun a ha=>by
  have h1:=LN (m:=V4) ha
  have h2:V4 a=3+a.2.length:=rfl
  omega
 refine ⟨by omega,?_,fun a ha=>⟨⟨h a ha,by have:=hi a ha;omega⟩,hi a ha⟩⟩
 have h3:=T8 (f:=Hw) (m:=V4) (l:=l) (fun a ha=>by
  have h1:=Fi (h a ha)
  have h2:=CN (u:=a.2.length) (by have:=hi a ha;omega)
  unfold Hw Bx BW V4
  rw [length_append,length_append];omega)
 have h4:=CN (u:=l.length) om
 unfold EA BW
 rw [length_append];omega
instance:Inhabited Pt:=⟨ptS 0 [] [] 0⟩
instance:Inhabited En:=⟨⟨0,0,0,ptS 0 [] [] 0,[]⟩⟩
instance:Inhabited Rq:=⟨⟨0,0,[],[],AR,[],0,0,false,AR,AR⟩⟩
def mRq (r:Rq):Nat:=10+r.path.length+r.data.length+(r.acl.map V4).sum
structure RqG (p:HP) (r:Rq):Prop where
 kind:Aw r.kind
 xid:Aw r.xid
 flags:Aw r.flags
 ver:Aw r.ver
 acl:∀h:Hp,p h→CA 2 h r.aclV r.acl.length (r.acl.flatMap CJ)
 ash:∃a n c,r.aclV= .slice a n c
 each:∀a∈r.acl,Aw a.1
 sub:∃a n c,r.subsV= .slice a n c
 arm:∃a n c,r.armV= .slice a n c
structure RqD (p:HP) (r:Rq) (l:List Rq):Prop where
 own:RqG p r∧mRq r≤1048576
 rd:∀h:Hp,p h→CA 10 h r.subsV l.length (l.flatMap L8)
 each:∀x∈l,RqG p x∧mRq x≤1048576
theorem RqG.w {p:HP} {r:Rq} (h:RqG p r) (hm:mRq r≤1048576) {s:Int} {iv:Value} {ids:List Bs} (hs:Aw s) (hi:Ids p iv ids) (hT:J9 p):E3 p ⟨s,ids⟩ iv r:=by
 unfold mRq at hm
 have h3:=MC (m:=V4) (fun a=>by unfold V4;omega) r.acl
 refine ⟨⟨h.kind,h.xid,h.flags,h.ver,by omega,by omega,h.acl,by omega,fun a ha=>⟨h.each a ha,?_⟩,h.sub,h.arm⟩,hs,hi.1,hi.2.1,hi.2.2,h.ash,hT⟩
 have h1:=LN (m:=V4) ha
 have h2:V4 a=3+a.2.length:=rfl
 omega
theorem RqD.wi {p:HP} {r:Rq} {l:List Rq} (h:RqD p r l) {s:Int} {iv:Value} {ids:List Bs} (hs:Aw s) (hi:Ids p iv ids) (hT:J9 p):WiD p ⟨s,ids⟩ iv r l:=by
 have ha:∀x:Rq,RqG p x→mRq x≤1048576→Hf x.acl:=fun x hx hm=>AG5 hx.each (by unfold mRq at hm;omega)
 exact ⟨h.own.1.w h.own.2 hs hi hT,ha _ h.own.1 h.own.2,h.rd,fun x hx=>(h.each x hx).1.w (h.each x hx).2 hs hi hT,fun x hx=>ha _ (h.each x hx).1 (h.each x hx).2⟩
theorem AIy {W:World} (h:Lib.TabIs prog W "internal/strconv.uint64pow10" .u64 Lib.pow10Tab) {g:Nat} (hg:prog.globalNamed "internal/strconv.uint64pow10" =some g):J9 (TI W):=by
 intro hp w hold hle
 unfold Lib.TabIs World.var? at h ⊢
 rw [hg] at h ⊢
 simp only [Option.bind_some] at h ⊢
 cases e:W.heap[g]? with
 |none=>rw [e] at h;cases h
 |some o=>
  have hlt:g<W.heap.size:=(Array.getElem?_eq_some_iff.1 e).1
  have h2:w.heap[g]?=some o:=hle g o (by rw [hold g hlt,e])
  rw [h2]
  rw [e] at h
  exact h
theorem AHV {H:Type} {enc:TypeId×Value→H} {W:World} (n:Nat) (cs:List Value) (y:DataW H×List MemPlace) (h:Bp enc prog W n 133 cs y):∃a:Ac,cs=CJ a∧Aw a.1∧V4 a≤Rows.uptoBulk y.1:=by
 obtain ⟨xs,m,-,rfl,hlen,hxs,hf⟩:=DataW.trod_struct underlying133 h
 rw [show prog.cellsOf 133=2 by kernel_rfl] at hlen
 obtain ⟨a0,a1,rfl⟩:∃a0 a1,cs=[a0,a1]:=by
  match cs,hlen with
  |[a0,a1],_=>exact ⟨a0,a1,rfl⟩
 obtain ⟨y0,y1,rfl⟩:∃y0 y1,xs=[y0,y1]:=by
  match xs,hxs with
  |[y0,y1],_=>exact ⟨y0,y1,rfl⟩
 try simp only [Rows.uptoBulk,Rows.uptoBulkAll,map_cons,map_nil]
 have g0:Bp enc prog W m 3 (([a0,a1]:List Value).drop 0|>.take (prog.cellsOf 3)) y0:=hf 0 _ rfl
 rw [show prog.cellsOf 3=1 by kernel_rfl] at g0
 have p0:=BF y0.1
 obtain ⟨z0,e0,q0,r0⟩:=DD underlying3 g0
 try simp at e0
 have g1:Bp enc prog W m 9 (([a0,a1]:List Value).drop 1|>.take (prog.cellsOf 9)) y1:=hf 1 _ rfl
 rw [show prog.cellsOf 9=1 by kernel_rfl] at g1
 have p1:=BF y1.1
 obtain ⟨z1,e1,r1⟩:=JO underlying9 g1
 try simp at e1
 subst e0
 subst e1
 exact ⟨(z0,z1),rfl,q0,by unfold V4;dsimp only;omega⟩
theorem AJS {H:Type} {enc:TypeId×Value→H} {W:World} (n:Nat) (cs:List Value) (y:DataW H×List MemPlace) (h:Bp enc prog W n 73 cs y):∃r0:Rq,cs=L8 r0∧RqG (TI W) r0∧mRq r0≤Rows.uptoBulk y.1:=by
 obtain ⟨xs,m,-,rfl,hlen,hxs,hf⟩:=DataW.trod_struct underlying73 h
 rw [show prog.cellsOf 73=10 by kernel_rfl] at hlen
 obtain ⟨a0,a1,a2,a3,a4,a5,a6,a7,a8,a9,rfl⟩:∃a0 a1 a2 a3 a4 a5 a6 a7 a8 a9,cs=[a0,a1,a2,a3,a4,a5,a6,a7,a8,a9]:=by
  match cs,hlen with
  |[a0,a1,a2,a3,a4,a5,a6,a7,a8,a9],_=>exact ⟨a0,a1,a2,a3,a4,a5,a6,a7,a8,a9,rfl⟩
 obtain ⟨y0,y1,y2,y3,y4,y5,y6,y7,y8,y9,rfl⟩:∃y0 y1 y2 y3 y4 y5 y6 y7 y8 y9,xs=[y0,y1,y2,y3,y4,y5,y6,y7,y8,y9]:=by
  match xs,hxs with
  |[y0,y1,y2,y3,y4,y5,y6,y7,y8,y9],_=>exact ⟨y0,y1,y2,y3,y4,y5,y6,y7,y8,y9,rfl⟩
 try simp only [Rows.uptoBulk,Rows.uptoBulkAll,map_cons,map_nil]
 have g0:Bp enc prog W m 3 (([a0,a1,a2,a3,a4,a5,a6,a7,a8,a9]:List Value).drop 0|>.take (prog.cellsOf 3)) y0:=hf 0 _ rfl
 rw [show prog.cellsOf 3=1 by kernel_rfl] at g0
 have p0:=BF y0.1
 obtain ⟨z0,e0,q0,r0⟩:=DD underlying3 g0
 try simp at e0
 have g1:Bp enc prog W m 3 (([a0,a1,a2,a3,a4,a5,a6,a7,a8,a9]:List Value).drop 1|>.take (prog.cellsOf 3)) y1:=hf 1 _ rfl
 rw [show prog.cellsOf 3=1 by kernel_rfl] at g1
 have p1:=BF y1.1
 obtain ⟨z1,e1,q1,r1⟩:=DD underlying3 g1
 try simp at e1
 have g2:Bp enc prog W m 9 (([a0,a1,a2,a3,a4,a5,a6,a7,a8,a9]:List Value).drop 2|>.take (prog.cellsOf 9)) y2:=hf 2 _ rfl
 rw [show prog.cellsOf 9=1 by kernel_rfl] at g2
 have p2:=BF y2.1
 obtain ⟨z2,e2,r2⟩:=JO underlying9 g2
 try simp at e2
 have g3:Bp enc prog W m 9 (([a0,a1,a2,a3,a4,a5,a6,a7,a8,a9]:List Value).drop 3|>.take (prog.cellsOf 9)) y3:=hf 3 _ rfl
 rw [show prog.cellsOf 9=1 by kernel_rfl] at g3
 have p3:=BF y3.1
 obtain ⟨z3,e3,r3⟩:=JO underlying9 g3
 try simp at e3
 have g4:Bp enc prog W m 35 (([a0,a1,a2,a3,a4,a5,a6,a7,a8,a9]:List Value).drop 4|>.take (prog.cellsOf 35)) y4:=hf 4 _ rfl
 rw [show prog.cellsOf 35=1 by kernel_rfl] at g4
 have p4:=BF y4.1
 obtain ⟨⟨v4,l4⟩,e4,k4,q4,c4,r4⟩:=IP CJ (fun a=>Aw a.1) V4 underlying35 (show prog.cellsOf 133=2 by kernel_rfl) dQ (fun n cs y h=>AHV n cs y h) g4
 dsimp only at e4 k4 q4 c4 r4
 have ck4:AB v4=true:=by obtain ⟨sa,sc,hs⟩:=He k4;rw [hs];rfl
 have sh4:∃a n c,v4= .slice a n c:=by obtain ⟨sa,sc,hs⟩:=He k4;exact ⟨_,_,_,hs⟩
 try simp at e4
 have g5:Bp enc prog W m 3 (([a0,a1,a2,a3,a4,a5,a6,a7,a8,a9]:List Value).drop 5|>.take (prog.cellsOf 3)) y5:=hf 5 _ rfl
 rw [show prog.cellsOf 3=1 by kernel_rfl] at g5
 have p5:=BF y5.1
 obtain ⟨z5,e5,q5,r5⟩:=DD underlying3 g5
 try simp at e5
 have g6:Bp enc prog W m 3 (([a0,a1,a2,a3,a4,a5,a6,a7,a8,a9]:List Value).drop 6|>.take (prog.cellsOf 3)) y6:=hf 6 _ rfl
 rw [show prog.cellsOf 3=1 by kernel_rfl] at g6
 have p6:=BF y6.1
 obtain ⟨z6,e6,q6,r6⟩:=DD underlying3 g6
 try simp at e6
 have g7:Bp enc prog W m 4 (([a0,a1,a2,a3,a4,a5,a6,a7,a8,a9]:List Value).drop 7|>.take (prog.cellsOf 4)) y7:=hf 7 _ rfl
 rw [show prog.cellsOf 4=1 by kernel_rfl] at g7
 have p7:=BF y7.1
 obtain ⟨z7,e7⟩:=UA underlying4 g7
 try simp at e7
 have g8:Bp enc prog W m 70 (([a0,a1,a2,a3,a4,a5,a6,a7,a8,a9]:List Value).drop 8|>.take (prog.cellsOf 70)) y8:=hf 8 _ rfl
 rw [show prog.cellsOf 70=1 by kernel_rfl] at g8
 have p8:=BF y8.1
 obtain ⟨z8,e8,s8⟩:∃z:Value,a8=z∧∃a n c,z= .slice a n c:=⟨_,rfl,I2 underlying70 g8⟩
 have ck8:AB z8=true:=by obtain ⟨sa,sn,sc,hs⟩:=s8;rw [hs];rfl
 try simp at e8
 have g9:Bp enc prog W m 71 (([a0,a1,a2,a3,a4,a5,a6,a7,a8,a9]:List Value).drop 9|>.take (prog.cellsOf 71)) y9:=hf 9 _ rfl
 rw [show prog.cellsOf 71=1 by kernel_rfl] at g9
 have p9:=BF y9.1
 obtain ⟨z9,e9,s9⟩:∃z:Value,a9=z∧∃a n c,z= .slice a n c:=⟨_,rfl,I2 underlying71 g9⟩
 have ck9:AB z9=true:=by obtain ⟨sa,sn,sc,hs⟩:=s9;rw [hs];rfl
 try simp at e9
 subst e0
 subst e1
 subst e2
 subst e3
 subst e4
 subst e5
 subst e6
 subst e7
 subst e8
 subst e9
 exact ⟨⟨z0,z1,z2,z3,a4,l4,z5,z6,z7,a8,a9⟩,rfl,⟨q0,q1,q5,q6,k4,sh4,q4,s8,s9⟩,by unfold mRq;dsimp only;omega⟩
theorem AI9 {H:Type} {enc:TypeId×Value→H} {W:World} (n:Nat) (cs:List Value) (y:DataW H×List MemPlace) (h:Bp enc prog W n 73 cs y):∃(r0:Rq) (l:List Rq),cs=L8 r0∧(Rows.uptoBulk y.1≤1048576→RqD (TI W) r0 l):=by
 obtain ⟨xs,m,-,rfl,hlen,hxs,hf⟩:=DataW.trod_struct underlying73 h
 rw [show prog.cellsOf 73=10 by kernel_rfl] at hlen
 obtain ⟨a0,a1,a2,a3,a4,a5,a6,a7,a8,a9,rfl⟩:∃a0 a1 a2 a3 a4 a5 a6 a7 a8 a9,cs=[a0,a1,a2,a3,a4,a5,a6,a7,a8,a9]:=by
  match cs,hlen with
  |[a0,a1,a2,a3,a4,a5,a6,a7,a8,a9],_=>exact ⟨a0,a1,a2,a3,a4,a5,a6,a7,a8,a9,rfl⟩
 obtain ⟨y0,y1,y2,y3,y4,y5,y6,y7,y8,y9,rfl⟩:∃y0 y1 y2 y3 y4 y5 y6 y7 y8 y9,xs=[y0,y1,y2,y3,y4,y5,y6,y7,y8,y9]:=by
  match xs,hxs with
  |[y0,y1,y2,y3,y4,y5,y6,y7,y8,y9],_=>exact ⟨y0,y1,y2,y3,y4,y5,y6,y7,y8,y9,rfl⟩
 try simp only [Rows.uptoBulk,Rows.uptoBulkAll,map_cons,map_nil]
 have g0:Bp enc prog W m 3 (([a0,a1,a2,a3,a4,a5,a6,a7,a8,a9]:List Value).drop 0|>.take (prog.cellsOf 3)) y0:=hf 0 _ rfl
 rw [show prog.cellsOf 3=1 by kernel_rfl] at g0
 have p0:=BF y0.1
 obtain ⟨z0,e0,q0,r0⟩:=DD underlying3 g0
 try simp at e0
 have g1:Bp enc prog W m 3 (([a0,a1,a2,a3,a4,a5,a6,a7,a8,a9]:List Value).drop 1|>.take (prog.cellsOf 3)) y1:=hf 1 _ rfl
 rw [show prog.cellsOf 3=1 by kernel_rfl] at g1
 have p1:=BF y1.1
 obtain ⟨z1,e1,q1,r1⟩:=DD underlying3 g1
 try simp at e1
 have g2:Bp enc prog W m 9 (([a0,a1,a2,a3,a4,a5,a6,a7,a8,a9]:List Value).drop 2|>.take (prog.cellsOf 9)) y2:=hf 2 _ rfl
 rw [show prog.cellsOf 9=1 by kernel_rfl] at g2
 have p2:=BF y2.1
 obtain ⟨z2,e2,r2⟩:=JO underlying9 g2
 try simp at e2
 have g3:Bp enc prog W m 9 (([a0,a1,a2,a3,a4,a5,a6,a7,a8,a9]:List Value).drop 3|>.take (prog.cellsOf 9)) y3:=hf 3 _ rfl
 rw [show prog.cellsOf 9=1 by kernel_rfl] at g3
 have p3:=BF y3.1
 obtain ⟨z3,e3,r3⟩:=JO underlying9 g3
 try simp at e3
 have g4:Bp enc prog W m 35 (([a0,a1,a2,a3,a4,a5,a6,a7,a8,a9]:List Value).drop 4|>.take (prog.cellsOf 35)) y4:=hf 4 _ rfl
 rw [show prog.cellsOf 35=1 by kernel_rfl] at g4
 have p4:=BF y4.1
 obtain ⟨⟨v4,l4⟩,e4,k4,q4,c4,r4⟩:=IP CJ (fun a=>Aw a.1) V4 underlying35 (show prog.cellsOf 133=2 by kernel_rfl) dQ (fun n cs y h=>AHV n cs y h) g4
 dsimp only at e4 k4 q4 c4 r4
 have ck4:AB v4=true:=by obtain ⟨sa,sc,hs⟩:=He k4;rw [hs];rfl
 have sh4:∃a n c,v4= .slice a n c:=by obtain ⟨sa,sc,hs⟩:=He k4;exact ⟨_,_,_,hs⟩
 try simp at e4
 have g5:Bp enc prog W m 3 (([a0,a1,a2,a3,a4,a5,a6,a7,a8,a9]:List Value).drop 5|>.take (prog.cellsOf 3)) y5:=hf 5 _ rfl
 rw [show prog.cellsOf 3=1 by kernel_rfl] at g5
 have p5:=BF y5.1
 obtain ⟨z5,e5,q5,r5⟩:=DD underlying3 g5
 try simp at e5
 have g6:Bp enc prog W m 3 (([a0,a1,a2,a3,a4,a5,a6,a7,a8,a9]:List Value).drop 6|>.take (prog.cellsOf 3)) y6:=hf 6 _ rfl
 rw [show prog.cellsOf 3=1 by kernel_rfl] at g6
 have p6:=BF y6.1
 obtain ⟨z6,e6,q6,r6⟩:=DD underlying3 g6
 try simp at e6
 have g7:Bp enc prog W m 4 (([a0,a1,a2,a3,a4,a5,a6,a7,a8,a9]:List Value).drop 7|>.take (prog.cellsOf 4)) y7:=hf 7 _ rfl
 rw [show prog.cellsOf 4=1 by kernel_rfl] at g7
 have p7:=BF y7.1
 obtain ⟨z7,e7⟩:=UA underlying4 g7
 try simp at e7
 have g8:Bp enc prog W m 70 (([a0,a1,a2,a3,a4,a5,a6,a7,a8,a9]:List Value).drop 8|>.take (prog.cellsOf 70)) y8:=hf 8 _ rfl
 rw [show prog.cellsOf 70=1 by kernel_rfl] at g8
 have p8:=BF y8.1
 obtain ⟨⟨v8,l8⟩,e8,k8,q8,c8,r8⟩:=IP L8 (fun r=>RqG (TI W) r) mRq underlying70 (show prog.cellsOf 73=10 by kernel_rfl) dQ (fun n cs y h=>AJS n cs y h) g8
 dsimp only at e8 k8 q8 c8 r8
 have ck8:AB v8=true:=by obtain ⟨sa,sc,hs⟩:=He k8;rw [hs];rfl
 have sh8:∃a n c,v8= .slice a n c:=by obtain ⟨sa,sc,hs⟩:=He k8;exact ⟨_,_,_,hs⟩
 try simp at e8
 have g9:Bp enc prog W m 71 (([a0,a1,a2,a3,a4,a5,a6,a7,a8,a9]:List Value).drop 9|>.take (prog.cellsOf 71)) y9:=hf 9 _ rfl
 rw [show prog.cellsOf 71=1 by kernel_rfl] at g9
 have p9:=BF y9.1
 obtain ⟨z9,e9,s9⟩:∃z:Value,a9=z∧∃a n c,z= .slice a n c:=⟨_,rfl,I2 underlying71 g9⟩
 have ck9:AB z9=true:=by obtain ⟨sa,sn,sc,hs⟩:=s9;rw [hs];rfl
 try simp at e9
 subst e0
 subst e1
 subst e2
 subst e3
 subst e4
 subst e5
 subst e6
 subst e7
 subst e8
 subst e9
 refine ⟨⟨z0,z1,z2,z3,a4,l4,z5,z6,z7,a8,a9⟩,l8,rfl,fun hb=>⟨⟨⟨q0,q1,q5,q6,k4,sh4,q4,sh8,s9⟩,by unfold mRq;dsimp only;omega⟩,k8,fun x hx=>⟨q8 x hx,?_⟩⟩⟩
 have h6:=LN (m:=mRq) hx
 omega
open Go Go.ChangeShapes Go.WideShapes Go.ChangeAt Go.RowKit
instance:Inhabited Ui:=⟨⟨0,0,0,⟨0,0,[],[],AR,[],0,0,false,AR,AR⟩,[]⟩⟩
theorem ACu {l:List Nat} {i:Nat} (h:i<l.length):l[i]≤l.sum:=by
 have:=LN (m:=id) (l:=l) (getElem_mem h)
 simpa using this
structure AIT (p:HP) (x:Ui):Prop where
 nums:Aw x.what∧Aw x.ses∧Aw x.num
 r:RqD p x.r x.subs
structure AB5 (p:HP) (v:Value) (l:List Ui):Prop where
 cells:∀h:Hp,p h→CA 13 h v l.length (l.flatMap QC)
 len:l.length≤1048576
 each:∀x∈l,AIT p x
theorem AB5.A {p:HP} {v:Value} {l:List Ui} (h:AB5 p v l) (hT:J9 p):ADG p v l:=⟨h.cells,h.len,fun x hx=>⟨(h.each x hx).nums.2.1,(h.each x hx).nums.2.2,fun _ hs=>(h.each x hx).r.wi hs ⟨fun _ _=> .inl ⟨rfl,rfl,none,0,rfl⟩,Nat.zero_le _,none,0,0,rfl⟩ hT⟩⟩
def AJc (p:HP) (v:Value) (l:List Int):Prop:=(∀h:Hp,p h→CA 1 h v l.length (BZ l))∧(∀z∈l,Aw z)∧l.length≤1048576
theorem AFc (l:List Int):(l.flatMap fun z=>[AA z])=BZ l:=by
 induction l with
 |nil=>rfl
 |cons z l ih=>rw [flatMap_cons,ih];rfl
theorem AAN {H:Type} {enc:TypeId×Value→H} {W:World} {fuel:Nat} {cs:List Value} {x:DataW H×List MemPlace} (h:Bp enc prog W fuel 23 cs x) (hb:Rows.uptoBulk x.1≤1048576):∃(v:Value) (l:List Int),cs=[v]∧AJc (TI W) v l:=by
 obtain ⟨⟨v,l⟩,h1,h2,h3,h4,h5⟩:=IP (fun z=>[AA z]) (fun z=>Aw z) (fun _=>1) underlying23 (show prog.cellsOf 3=1 by kernel_rfl) dQ (fun n cs y h=>DD underlying3 h) h
 dsimp only at h1 h2 h3 h4 h5
 exact ⟨v,l,h1,fun h hp=>by rw [←AFc];exact h2 h hp,h3,by omega⟩
theorem AIo {H:Type} {enc:TypeId×Value→H} {W:World} (n:Nat) (cs:List Value) (y:DataW H×List MemPlace) (h:Bp enc prog W n 79 cs y):∃x:Ui,cs=QC x∧(Rows.uptoBulk y.1≤1048576→AIT (TI W) x):=by
 obtain ⟨xs,m,-,rfl,hlen,hxs,hf⟩:=DataW.trod_struct underlying79 h
 rw [show prog.cellsOf 79=13 by kernel_rfl] at hlen
 obtain ⟨a0,a1,a2,a3,a4,a5,a6,a7,a8,a9,a10,a11,a12,rfl⟩:∃a0 a1 a2 a3 a4 a5 a6 a7 a8 a9 a10 a11 a12,cs=[a0,a1,a2,a3,a4,a5,a6,a7,a8,a9,a10,a11,a12]:=by
  match cs,hlen with
  |[a0,a1,a2,a3,a4,a5,a6,a7,a8,a9,a10,a11,a12],_=>exact ⟨a0,a1,a2,a3,a4,a5,a6,a7,a8,a9,a10,a11,a12,rfl⟩
 obtain ⟨y0,y1,y2,y3,rfl⟩:∃y0 y1 y2 y3,xs=[y0,y1,y2,y3]:=by
  match xs,hxs with
  |[y0,y1,y2,y3],_=>exact ⟨y0,y1,y2,y3,rfl⟩
 try simp only [Rows.uptoBulk,Rows.uptoBulkAll,map_cons,map_nil]
 have g0:Bp enc prog W m 3 (([a0,a1,a2,a3,a4,a5,a6,a7,a8,a9,a10,a11,a12]:List Value).drop 0|>.take (prog.cellsOf 3)) y0:=hf 0 _ rfl
 rw [show prog.cellsOf 3=1 by kernel_rfl] at g0
 have p0:=BF y0.1
 obtain ⟨z0,e0,q0,r0⟩:=DD underlying3 g0
 try simp at e0
 have g1:Bp enc prog W m 3 (([a0,a1,a2,a3,a4,a5,a6,a7,a8,a9,a10,a11,a12]:List Value).drop 1|>.take (prog.cellsOf 3)) y1:=hf 1 _ rfl
 rw [show prog.cellsOf 3=1 by kernel_rfl] at g1
 have p1:=BF y1.1
 obtain ⟨z1,e1,q1,r1⟩:=DD underlying3 g1
 try simp at e1
 have g2:Bp enc prog W m 3 (([a0,a1,a2,a3,a4,a5,a6,a7,a8,a9,a10,a11,a12]:List Value).drop 2|>.take (prog.cellsOf 3)) y2:=hf 2 _ rfl
 rw [show prog.cellsOf 3=1 by kernel_rfl] at g2
 have p2:=BF y2.1
 obtain ⟨z2,e2,q2,r2⟩:=DD underlying3 g2
 try simp at e2
 have g3:Bp enc prog W m 73 (([a0,a1,a2,a3,a4,a5,a6,a7,a8,a9,a10,a11,a12]:List Value).drop 3|>.take (prog.cellsOf 73)) y3:=hf 3 _ rfl
 rw [show prog.cellsOf 73=10 by kernel_rfl] at g3
 have p3:=BF y3.1
 obtain ⟨r3,l3,e3,q3⟩:=AI9 _ _ _ g3
 try simp [A0,CB,L8] at e3
 subst e0
 subst e1
 subst e2
 obtain ⟨rfl,rfl,rfl,rfl,rfl,rfl,rfl,rfl,rfl,rfl⟩:=e3
 exact ⟨⟨z0,z1,z2,r3,l3⟩,rfl,fun hb=>⟨⟨q0,q1,q2⟩,q3 om⟩⟩
theorem AE7 {H:Type} {enc:TypeId×Value→H} {W:World} {fuel:Nat} {cs:List Value} {x:DataW H×List MemPlace} (h:Bp enc prog W fuel 22 cs x) (hb:Rows.uptoBulk x.1≤1048576):∃(v:Value) (xs:List Ui),cs=[v]∧AB5 (TI W) v xs:=by
 obtain ⟨⟨v,xs⟩,ws,h1,h2,h3,h4,h5,-,h7⟩:=NO (N:=1048576) QC (fun B o=>B≤1048576→AIT (TI W) o) underlying22 (show prog.cellsOf 79=13 by kernel_rfl) dQ (fun n cs y h=>AIo n cs y h) h om
 dsimp only at h1 h2 h3 h4 h7
 refine ⟨v,xs,h1,h2,h3,fun o ho=>?_⟩
 obtain ⟨i,hi,rfl⟩:=mem_iff_getElem.1 ho
 have hw:i<ws.length:=by omega
 exact h7 i hi hw (Nat.le_trans (ACu hw) h5)
end Go.Proofs.YtbhkloaagkkioaaGreatDoor
