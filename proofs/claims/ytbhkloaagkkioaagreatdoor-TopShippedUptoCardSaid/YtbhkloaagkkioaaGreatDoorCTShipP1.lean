/- Own work, in part by program, for topShipped.proved. -/
import Derived.Test.YtbhkloaagkkioaaGreatDoorCTShipP0
import Derived.Laws.StructEq
import Derived.Shelf.SlIterI.Nil
import Derived.Shelf.SortM.Plain
import Derived.Shelf.SortM.SortNone
import Derived.Ground.GgzProg
import Derived.Ground.SlgmProg
import Derived.Shelf.Slices.CompactI
import Derived.Ground.Names2Prog
import Derived.Test.YtbhkloaagkkioaaGreatDoorProg
import Derived.Sort.OwnSortedInts
import Derived.Sort.OwnSorted
import Derived.Laws.IdiomRangeMap
import Derived.Defers
import Derived.Lib.OthersKept
import Derived.Lib.Bytealg
import Derived.Laws.Externs
import Derived.Shelf.SlIter.Nil
import Derived.Shelf.SlMaps.Clone
import Derived.Ground.SlmcProg
set_option maxRecDepth 100000
namespace Go.Proofs.YtbhkloaagkkioaaGreatDoor
open Go List Go.Proofs.Tryz
def V6 (m t:Nat):Bool:=Nat.blt t mN&&Nat.testBit m t
theorem Jz {f:Nat→Bool} {m t:Nat} (h:((List.range mN).all fun t=> !Nat.testBit m t||f t)=true) (ht:V6 m t=true):f t=true:=by
 simp only [V6,Bool.and_eq_true,Nat.blt_eq] at ht
 have:=all_eq_true.1 h t (mem_range.2 ht.1)
 rw [ht.2] at this;exact this
theorem AJ4 {t:Nat} (h:V6 aM t=true):A9 prog t=some none:=(of_decide_eq_true (Jz AHJ h)).1
theorem AJT {t:Nat} (h:V6 aM t=true):Ab prog t=some 1:=(of_decide_eq_true (Jz AHJ h)).2
theorem AKH {t:Nat} (h:V6 stM t=true):(prog).underlying t=some .string:=AH1 (Jz AIJ h)
theorem AKB {t:Nat} (h:V6 slM t=true):∃e,(prog).underlying t=some (.slice e):=AIE (Jz AIu h)
theorem AHK {t:Nat} (h:V6 ptM t=true):∃e,(prog).underlying t=some (.pointer e):=AH2 (Jz AH0 h)
theorem AHY {t:Nat} (h:V6 boM t=true):(prog).underlying t=some .bool:=AH7 (Jz AIk h)
def Ub:List (Nat×List Nat)→Nat→Nat→Option Nat
 |[],_,_=>none
 |(k,l)::r,s,i=>bif Nat.beq k s then l[i]? else Ub r s i
theorem Tl {f:Nat→Nat→Option Nat}:∀{l:List (Nat×List Nat)} {s i k:Nat},(l.all fun x=>(List.range x.2.length).all fun i=>decide (x.2[i]?=none∨f x.1 i=x.2[i]?))=true→Ub l s i=some k→f s i=some k
 |[],_,_,_,_,h=>by cases h
 |(k0,x)::r,s,i,k,hl,h=>by
  simp only [all_cons,Bool.and_eq_true] at hl
  simp only [Ub] at h
  cases hb:Nat.beq k0 s with
  |true=>
   rw [hb] at h
   have hs:=Nat.eq_of_beq_eq_true hb
   subst hs
   have hi:i<x.length:=(List.getElem?_eq_some_iff.1 h).1
   have:=of_decide_eq_true (all_eq_true.1 hl.1 i (mem_range.2 hi))
   have h':x[i]?=some k:=h
   rcases this with e|e
   ·rw [h'] at e;cases e
   ·rw [e,h']
  |false=>rw [hb] at h;exact Tl hl.2 h
theorem AJE {s i k:Nat} (h:Ub fT s i=some k):Ap prog s i=some k:=Tl AJI h
section
variable {E:Bi} {L R:List HP} {ty:TypeId}
theorem AE.zl {t:TypeId} {x:Operand} {b off:Nat} {l:List Value} {T:TypeId} {fr:Nat×Nat} {v:Value} (hx:ev E x=some (.pointer (some ⟨b,off,none⟩)))
  (hp:V6 aM t=true) (hL:BJ (pt b (.cells l.toArray T fr)) L R) (hc:l[off]?=some v):AE prog ⟨none, .load t x,ty, "",#[],none⟩ E L v:=AE.load hx (AJ4 hp) hL hc
theorem AE.zs {t:TypeId} {x:Operand} {a:List UInt8} {ts:Array TypeId} (hx:ev E x=some (AF a)) (hts:ts= #[t]) (ht:V6 stM t=true):
  AE prog ⟨none, .call {callee:= .builtin .len,args:= #[x],argTypes:=ts},ty, "",#[],none⟩ E L (AA a.length):=AE.strlen hx (AKH ht) hts
theorem AE.zn {t:TypeId} {x:Operand} {a:Option Addr} {n c:Nat} {ts:Array TypeId} (hx:ev E x=some (.slice a n c)) (hts:ts= #[t]) (ht:V6 slM t=true):
  AE prog ⟨none, .call {callee:= .builtin .len,args:= #[x],argTypes:=ts},ty, "",#[],none⟩ E L (AA n):=let ⟨_,h⟩:=AKB ht;AE.slen hx h hts
theorem AE.zp {t t':TypeId} {x y:Operand} {a:Option Addr} (hx:ev E x=some (.pointer a)) (hy:ev E y=some (.pointer none)) (ht:V6 ptM t=true):AE prog ⟨none, .binOp .eql t x y t',ty, "",#[],none⟩ E L (.bool a.isNone):=let ⟨_,h⟩:=AHK ht;AE.ptreq hx hy h
theorem AE.zp' {t t':TypeId} {x y:Operand} {a:Option Addr} (hx:ev E x=some (.pointer a)) (hy:ev E y=some (.pointer none)) (ht:V6 ptM t=true):AE prog ⟨none, .binOp .neq t x y t',ty, "",#[],none⟩ E L (.bool (!a.isNone)):=let ⟨_,h⟩:=AHK ht;AE.ptrne hx hy h
theorem AE.zb {t t':TypeId} {x y:Operand} {a b:Bool} (hx:ev E x=some (.bool a)) (hy:ev E y=some (.bool b)) (ht:V6 boM t=true):AE prog ⟨none, .binOp .eql t x y t',ty, "",#[],none⟩ E L (.bool (a==b)):=AE.booleq hx hy (AHY ht)
theorem AE.zb' {t t':TypeId} {x y:Operand} {a b:Bool} (hx:ev E x=some (.bool a)) (hy:ev E y=some (.bool b)) (ht:V6 boM t=true):AE prog ⟨none, .binOp .neq t x y t',ty, "",#[],none⟩ E L (.bool (!(a==b))):=AE.boolne hx hy (AHY ht)
end
def AJa:BinOp→Int→Int→Option Value
 | .eql,a,b=>some (.bool (decide (a=b)))
 | .neq,a,b=>some (.bool (!decide (a=b)))
 | .lss,a,b=>some (.bool (decide (a<b)))
 | .leq,a,b=>some (.bool (decide (a≤b)))
 | .gtr,a,b=>some (.bool (decide (a>b)))
 | .geq,a,b=>some (.bool (decide (a≥b)))
 |_,_,_=>none
theorem ACk {op:BinOp} {k:IntKind} {a b:Int} {v:Value} (h:AJa op a b=some v):PS op k a b=some v:=by
 cases op<;>first|exact h|cases h
def AHC (op:BinOp):Option Value→Option Value→Option Value
 |some (.int k a),some (.int k' b)=>if k=k' then AJa op a b else none
 |_,_=>none
def AHF:Option Value→Option Value
 |some (.pointer (some a))=>some (.pointer (some a))
 |_=>none
def ZR:Option Value→Option Nat→Option Value
 |some (.pointer (some ⟨b,off,none⟩)),some k=>some (.pointer (some ⟨b,off+k,none⟩))
 |_,_=>none
def ADa (i:Nat):Option Value→Option Value
 |some (.tuple ⟨vs⟩)=>vs[i]?
 |_=>none
def YP (E:Bi):Op→Option Value
 | .move x=>ev E x
 | .assign x=>ev E x
 | .fieldAddr s x i=>ZR (ev E x) (Ub fT s i)
 | .nilCheck x=>AHF (ev E x)
 | .extract x i=>ADa i (ev E x)
 | .binOp op _ x y _=>AHC op (ev E x) (ev E y)
 |_=>none
theorem AE.qv {E:Bi} {L:List HP} {op:Op} {ty:TypeId} {v:Value} (h:YP E op=some v):AE prog ⟨none,op,ty, "",#[],none⟩ E L v:=by
 unfold YP at h
 split at h
 ·exact AE.move h
 ·exact AE.assign h
 ·unfold ZR at h
  split at h
  ·rename_i b off k h1 h2
   cases h;exact AE.fieldAddr h1 (AJE h2)
  ·cases h
 ·unfold AHF at h
  split at h
  ·rename_i a h1
   cases h;exact AE.nilp h1
  ·cases h
 ·unfold ADa at h
  split at h
  ·rename_i vs h1
   exact AE.extract h1 h
  ·cases h
 ·unfold AHC at h
  split at h
  ·rename_i k a k' b h1 h2
   split at h
   ·rename_i hk;subst hk;exact AE.int h1 h2 (ACk h)
   ·cases h
  ·cases h
 ·cases h
section
variable {W:World} {n:Nat} {ds:List Deferred} {E:Bi} {L:List HP} {Q:Exit→Act→World→Prop} {next:Act→World→Prop}
theorem G.zt {ops:Array Oper} {t ty:TypeId} {x y:Operand} {pos:String} {aft:Array Edge} {rest:List Oper} {b off:Nat} {l:List Value} {T:TypeId} {v:Value} {F:List HP} (hx:ev E x=some (.pointer (some ⟨b,off,none⟩))) (hy:ev E y=some v) (hv:AB v=true) (ht:V6 aM t=true)
  (hL:A4 [pt b (.cells l.toArray T (0,0))] L F) (hc:off<l.length) (h:G W n ds E ([pt b (.cells (l.set off v).toArray T (0,0))]++F) (wpList prog ops Q rest)):G W n ds E L (wpList prog ops Q (⟨none, .store t x y,ty,pos,aft,none⟩::rest)):=
 G.op (AO.store hx hy hv (AJT ht) hc (Bd _ _)) hL rfl fun _ _ e=>by subst e;exact h
def DZ (P:Program) (ops:Array Oper) (n:Nat) (RO:List HP) (H:List Nat) (I:List HP→Prop) (Fin:EF→List HP→Prop) (j:Nat) (S:List Nat) (E:Bi) (RW:List HP) (o:Oper):Prop:=ops[j]?=some o→D P ops n RO H I Fin (j::S) (look E) RW
variable {P:Program} {ops:Array Oper} {RO:List HP} {H:List Nat} {I:List HP→Prop} {Fin:EF→List HP→Prop} {j:Nat} {S:List Nat} {RW:List HP} {d:Nat} {op:Op} {ty:TypeId} {pos:String} {aft:Array Edge} {v:Value}
def AGY:List Oper→Nat→Option Oper
 |[],_=>none
 |o::_,0=>some o
 |_::l,n+1=>AGY l n
theorem Yo:∀{l:List Oper} {j:Nat} {o:Oper},AGY l j=some o→l[j]?=some o
 |[],_,_,h=>by cases h
 |a::l,0,o,h=>by simpa [AGY] using h
 |a::l,n+1,o,h=>by rw [List.getElem?_cons_succ];exact Yo h
theorem D.zo {o:Oper} (hi:AGY ops.toList j=some o) (h:DZ P ops n RO H I Fin j S E RW o):D P ops n RO H I Fin (j::S) (look E) RW:=h (by have:=Yo hi;simpa using this)
def AHv (ops:Array Oper) (j:Nat):List Nat→List Nat→List Nat
 |[],A=>A
 |i::S,A=>AHv ops j S (if (ops[i]?).any fun o=>o.after.any fun e=>Region.binds .any e&&(e.on==j||A.contains e.on) then i::A else A)
theorem DZ.w (hq:AE P ⟨none,op,ty, "",#[],none⟩ E (RO++RW) v) (hc:(Ar ops (j::S) j&&Ee ops H j S (AHv ops j S []))=true) (hd:Nat.blt d n=true) (h:D P ops n RO H I Fin S (look ((d,v)::E)) RW):DZ P ops n RO H I Fin j S E RW ⟨some d,op,ty,pos,aft,none⟩:=fun hi=>D.qw _ hi (by simp only [Bool.and_eq_true] at hc ⊢;exact ⟨⟨hc.1,hd⟩,hc.2⟩) hq h
theorem DZ.q (hq:AE P ⟨none,op,ty, "",#[],none⟩ E RO v) (hc:Ar ops (j::S) j=true) (hd:Nat.blt d n=true) (h:D P ops n RO H I Fin S (look ((d,v)::E)) RW):DZ P ops n RO H I Fin j S E RW ⟨some d,op,ty,pos,aft,none⟩:=fun hi=>D.q hi (by rw [hc,hd];rfl) hq h
theorem DZ.gw {k t:Nat} {b:Bool} {u:Value} (hk:CO ops k=some t) (hl:look E t=some u) (hb:u= .bool b) (hq:AE P ⟨none,op,ty, "",#[],none⟩ E (RO++RW) v) (hc:(Ar ops (j::S) j&&Ee ops H j S (AHv ops j S []))=true) (hd:Nat.blt d n=true) (h:D P ops n RO H I Fin S (look ((d,v)::E)) RW):DZ P ops n RO H I Fin j S E RW ⟨some d,op,ty,pos,aft,some (k,b)⟩:=fun hi=>D.gqw _ hi hk (hb▸hl) (by simp only [Bool.and_eq_true] at hc ⊢;exact ⟨⟨hc.1,hd⟩,hc.2⟩) hq h
theorem DZ.gq {k t:Nat} {b:Bool} {u:Value} (hk:CO ops k=some t) (hl:look E t=some u) (hb:u= .bool b) (hq:AE P ⟨none,op,ty, "",#[],none⟩ E RO v) (hc:Ar ops (j::S) j=true) (hd:Nat.blt d n=true) (h:D P ops n RO H I Fin S (look ((d,v)::E)) RW):DZ P ops n RO H I Fin j S E RW ⟨some d,op,ty,pos,aft,some (k,b)⟩:=fun hi=>D.gq hi hk (hb▸hl) (by rw [hc,hd];rfl) hq h
theorem DZ.s0 {dd:Option Nat} {k t:Nat} {u:Value} (hk:CO ops k=some t) (hl:look E t=some u) (hb:u= .bool false) (hc:Ar ops (j::S) j=true) (hd:CL dd n=true) (h:D P ops n RO H I Fin S (look (FL dd undef E)) RW):DZ P ops n RO H I Fin j S E RW ⟨dd,op,ty,pos,aft,some (k,true)⟩:=fun hi=>D.gs hi hk (hb▸hl) rfl (by rw [hc,hd];rfl) h
theorem DZ.s1 {dd:Option Nat} {k t:Nat} {u:Value} (hk:CO ops k=some t) (hl:look E t=some u) (hb:u= .bool true) (hc:Ar ops (j::S) j=true) (hd:CL dd n=true) (h:D P ops n RO H I Fin S (look (FL dd undef E)) RW):DZ P ops n RO H I Fin j S E RW ⟨dd,op,ty,pos,aft,some (k,false)⟩:=fun hi=>D.gs hi hk (hb▸hl) rfl (by rw [hc,hd];rfl) h
theorem DZ.gu {dd:Option Nat} {k t:Nat} {b:Bool} (hk:CO ops k=some t) (hl:look E t=some undef) (hc:Ar ops (j::S) j=true) (hd:CL dd n=true) (h:D P ops n RO H I Fin S (look (FL dd undef E)) RW):DZ P ops n RO H I Fin j S E RW ⟨dd,op,ty,pos,aft,some (k,b)⟩:=fun hi=>D.gsU hi hk hl (by rw [hc,hd];rfl) h
end
theorem AE.zk {E:Bi} {L:List HP} {ty:TypeId} {c x y:Operand} {u v:Value} (hc:ev E c=some u) (hb:u= .bool true) (hx:ev E x=some v):AE prog ⟨none, .pick c x y,ty, "",#[],none⟩ E L v:=AE.pickT (hb▸hc) hx
theorem AE.zk' {E:Bi} {L:List HP} {ty:TypeId} {c x y:Operand} {u v:Value} (hc:ev E c=some u) (hb:u= .bool false) (hx:ev E y=some v):AE prog ⟨none, .pick c x y,ty, "",#[],none⟩ E L v:=AE.pickF (hb▸hc) hx
section
variable {W:World} {n:Nat} {ds:List Deferred} {E:Bi} {L:List HP} {Q:Exit→Act→World→Prop}
theorem G.zcT {c:Operand} {x y:Code} {v:Value} (hc:ev E c=some v) (hb:v= .bool true) (h:G W n ds E L (x.wp prog Q)):G W n ds E L ((Code.cond c x y).wp prog Q):=G.condT (hb▸hc) h
theorem G.zcF {c:Operand} {x y:Code} {v:Value} (hc:ev E c=some v) (hb:v= .bool false) (h:G W n ds E L (y.wp prog Q)):G W n ds E L ((Code.cond c x y).wp prog Q):=G.condF (hb▸hc) h
theorem G.zgr {ops:Array Oper} {d:Option Nat} {op:Op} {ty:TypeId} {pos:String} {aft:Array Edge} {rest:List Oper} {j t:Nat} {b:Bool} {v:Value} (hj:CO ops j=some t) (hl:look E t=some v) (hb:v= .bool b)
  (h:G W n ds E L (wpList prog ops Q (⟨d,op,ty,pos,aft,none⟩::rest))):G W n ds E L (wpList prog ops Q (⟨d,op,ty,pos,aft,some (j,b)⟩::rest)):=G.grun hj (hb▸hl) (by cases b<;>rfl) h
theorem G.zs0 {ops:Array Oper} {d:Option Nat} {op:Op} {ty:TypeId} {pos:String} {aft:Array Edge} {rest:List Oper} {j t:Nat} {v:Value} (hj:CO ops j=some t) (hl:look E t=some v) (hb:v= .bool false) (hd:CL d n=true)
  (h:G W n ds (FL d undef E) L (wpList prog ops Q rest)):G W n ds E L (wpList prog ops Q (⟨d,op,ty,pos,aft,some (j,true)⟩::rest)):=G.gskip hj (hb▸hl) rfl hd h
theorem G.zs1 {ops:Array Oper} {d:Option Nat} {op:Op} {ty:TypeId} {pos:String} {aft:Array Edge} {rest:List Oper} {j t:Nat} {v:Value} (hj:CO ops j=some t) (hl:look E t=some v) (hb:v= .bool true) (hd:CL d n=true)
  (h:G W n ds (FL d undef E) L (wpList prog ops Q rest)):G W n ds E L (wpList prog ops Q (⟨d,op,ty,pos,aft,some (j,false)⟩::rest)):=G.gskip hj (hb▸hl) rfl hd h
end
section
variable {W:World} {n:Nat} {ds:List Deferred} {E:Bi} {L:List HP} {Q:Exit→Act→World→Prop}
theorem G.zq {ops:Array Oper} {d:Nat} {op:Op} {ty:TypeId} {pos:String} {aft:Array Edge} {rest:List Oper} {v:Value} (hp:AE prog ⟨none,op,ty, "",#[],none⟩ E L v) (hd:Nat.blt d n=true)
  (h:G W n ds ((d,v)::E) L (wpList prog ops Q rest)):G W n ds E L (wpList prog ops Q (⟨some d,op,ty,pos,aft,none⟩::rest)):=G.q hp hd h
theorem G.zv {ops:Array Oper} {d:Nat} {op:Op} {ty:TypeId} {pos:String} {aft:Array Edge} {rest:List Oper} {v:Value} (hp:YP E op=some v) (hd:Nat.blt d n=true)
  (h:G W n ds ((d,v)::E) L (wpList prog ops Q rest)):G W n ds E L (wpList prog ops Q (⟨some d,op,ty,pos,aft,none⟩::rest)):=G.q (.qv hp) hd h
end
theorem QZ {E:Bi} {L:List HP} {o:Oper} {v:Value} (h:AE prog o E L v:=by first
 |((with_reducible apply AE.qv);eq_refl)
 |((with_reducible apply AE.zl);eq_refl;eq_refl;(focus (repeat' constructor));eq_refl)
 |((with_reducible apply AE.zk);eq_refl;(focus (first|(with_reducible eq_refl)|(apply congrArg Value.bool;decide)|(simp only [Option.isNone,Bool.not_true,Bool.not_false];done)));eq_refl)|((with_reducible apply AE.zk');eq_refl;(focus (first|(with_reducible eq_refl)|(apply congrArg Value.bool;decide)|(simp only [Option.isNone,Bool.not_true,Bool.not_false];done)));eq_refl)|((with_reducible apply AE.notN);eq_refl)|((with_reducible apply AE.not);eq_refl)
 |((with_reducible apply AE.zs);eq_refl;eq_refl;eq_refl)|((with_reducible apply AE.zn);eq_refl;eq_refl;eq_refl)
 |((with_reducible apply AE.streq);eq_refl;eq_refl)|((with_reducible apply AE.strne);eq_refl;eq_refl)
 |((with_reducible apply AE.add);eq_refl;eq_refl;omega)|((with_reducible apply AE.sub);eq_refl;eq_refl;omega)
 |((with_reducible apply AE.zp);eq_refl;eq_refl;eq_refl)|((with_reducible apply AE.zp');eq_refl;eq_refl;eq_refl)
 |((with_reducible apply AE.zb);eq_refl;eq_refl;eq_refl)|((with_reducible apply AE.zb');eq_refl;eq_refl;eq_refl)):AE prog o E L v:=h
structure Box (p:Prop):Prop where
 out:p
theorem Z {α β:Prop} (k:β) (h:Box β→α:=by
 intro k
 repeat (first
  |((with_reducible apply G.zv);eq_refl;eq_refl)|with_reducible apply G.then_n|with_reducible apply G.seq|with_reducible apply G.region|with_reducible apply G.nil
  |((with_reducible apply G.zq);exact QZ;eq_refl)
  |((with_reducible apply G.zcT);eq_refl;(focus (first|(with_reducible eq_refl)|(apply congrArg Value.bool;decide)|(simp only [Option.isNone,Bool.not_true,Bool.not_false];done))))|((with_reducible apply G.zcF);eq_refl;(focus (first|(with_reducible eq_refl)|(apply congrArg Value.bool;decide)|(simp only [Option.isNone,Bool.not_true,Bool.not_false];done))))
  |((with_reducible apply G.zgr);eq_refl;eq_refl;(focus (first|(with_reducible eq_refl)|(apply congrArg Value.bool;decide)|(simp only [Option.isNone,Bool.not_true,Bool.not_false];done))))|((with_reducible apply G.zs0);eq_refl;eq_refl;(focus (first|(with_reducible eq_refl)|(apply congrArg Value.bool;decide)|(simp only [Option.isNone,Bool.not_true,Bool.not_false];done)));eq_refl)|((with_reducible apply G.zs1);eq_refl;eq_refl;(focus (first|(with_reducible eq_refl)|(apply congrArg Value.bool;decide)|(simp only [Option.isNone,Bool.not_true,Bool.not_false];done)));eq_refl)|((with_reducible apply G.gskipU);eq_refl;(with_reducible eq_refl);eq_refl)
  |with_reducible apply G.block|with_reducible apply G.ret|with_reducible apply G.exit|with_reducible apply G.skip|with_reducible apply G.then_r|with_reducible apply G.then_e
  |with_reducible apply G.blk_n|with_reducible apply G.blk_r|with_reducible apply G.blk_e|((with_reducible apply G.blk_o);eq_refl)
  |((with_reducible apply G.zt);eq_refl;eq_refl;eq_refl;eq_refl;(focus (repeat' constructor));focus (first|decide|(simp;omega)|(simp;done)|exact Nat.le_of_ble_eq_true rfl))
  |with_reducible apply D.ph|with_reducible apply CC.fin
  |((with_reducible apply D.zo);eq_refl;first|((with_reducible apply DZ.w);exact QZ;(focus (decide+kernel));eq_refl)|((with_reducible apply DZ.q);exact QZ;(focus (decide+kernel));eq_refl)|((with_reducible apply DZ.gw);eq_refl;eq_refl;(focus (first|(with_reducible eq_refl)|(apply congrArg Value.bool;decide)|(simp only [Option.isNone,Bool.not_true,Bool.not_false];done)));exact QZ;(focus (decide+kernel));eq_refl)|((with_reducible apply DZ.gq);eq_refl;eq_refl;(focus (first|(with_reducible eq_refl)|(apply congrArg Value.bool;decide)|(simp only [Option.isNone,Bool.not_true,Bool.not_false];done)));exact QZ;(focus (decide+kernel));eq_refl)|((with_reducible apply DZ.s0);eq_refl;eq_refl;(focus (first|(with_reducible eq_refl)|(apply congrArg Value.bool;decide)|(simp only [Option.isNone,Bool.not_true,Bool.not_false];done)));(focus (decide+kernel));eq_refl)|((with_reducible apply DZ.s1);eq_refl;eq_refl;(focus (first|(with_reducible eq_refl)|(apply congrArg Value.bool;decide)|(simp only [Option.isNone,Bool.not_true,Bool.not_false];done)));(focus (decide+kernel));eq_refl)|((with_reducible apply DZ.gu);eq_refl;eq_refl;(focus (decide+kernel));eq_refl)))
 exact k.out):α:=h ⟨k⟩
def Ez (c:UInt8):Bool:=(decide (97≤c.toNat)&&decide (c.toNat≤122))||(decide (65≤c.toNat)&&decide (c.toNat≤90))||(decide (48≤c.toNat)&&decide (c.toNat≤57))||decide (c.toNat=95)||decide (c.toNat=45)||decide (c.toNat=46)
def CY (s:Bs):Bool:= !decide (s=[])&& !decide (s=[46])&& !decide (s=[46,46])&&s.all Ez
def Ax:Bs→List Bs
  |[]=>[[]]
  |c::r=>if c=47 then []::Ax r else match Ax r with
    |h::t=>(c::h)::t
    |[]=>[[c]]
theorem Jr (s:Bs):Ax s≠[]:=by
 induction s with
 |nil=>simp [Ax]
 |cons c r ih=>
  unfold Ax
  split
  ·simp
  ·split<;>simp
def BQ (p:Bs):Int:=
 if p=[47] then 0
 else if (Ax p).head?≠some []∨(Ax p).length=1∨(Ax p).tail.all CY=false then 40
 else if p.length>60∨(Ax p).length>7 then 41 else 0
theorem Kf {s:Bs} (h:(47:UInt8)∉s):Ax s=[s]:=by
 induction s with
 |nil=>rfl
 |cons c r ih=>
  have h1:c≠47:=fun e=>h (by rw [e];exact mem_cons_self)
  unfold Ax
  rw [if_neg h1,ih (fun hm=>h (mem_cons_of_mem _ hm))]
theorem AEj {a r:Bs} (h:(47:UInt8)∉a):Ax (a++47::r)=a::Ax r:=by
 induction a with
 |nil=>simp [Ax]
 |cons c a ih=>
  have h1:c≠47:=fun e=>h (by rw [e];exact mem_cons_self)
  rw [cons_append,Ax,if_neg h1,ih (fun hm=>h (mem_cons_of_mem _ hm))]
theorem Qy (s:Bs):(Ax s).length=s.count 47+1:=by
 induction s with
 |nil=>rfl
 |cons c r ih=>
  unfold Ax
  split
  ·rename_i h;subst h;simp [ih]
  ·rename_i h
   rw [count_cons_of_ne (by simpa using h),←ih]
   split
   ·rename_i h2;simp [h2]
   ·rename_i h2;exact absurd h2 (Jr r)
theorem GV {c:UInt8} (h:(97≤c.toNat∧c.toNat≤122)∨(65≤c.toNat∧c.toNat≤90)∨(48≤c.toNat∧c.toNat≤57)∨c.toNat=95∨c.toNat=45∨c.toNat=46):Ez c=true:=by
 unfold Ez
 simp only [Bool.or_eq_true,Bool.and_eq_true,decide_eq_true_eq]
 omega
theorem X1 {c:UInt8} (h:¬((97≤c.toNat∧c.toNat≤122)∨(65≤c.toNat∧c.toNat≤90)∨(48≤c.toNat∧c.toNat≤57)∨c.toNat=95∨c.toNat=45∨c.toNat=46)):Ez c=false:=by
 rw [←Bool.not_eq_true]
 intro g
 unfold Ez at g
 simp only [Bool.or_eq_true,Bool.and_eq_true,decide_eq_true_eq] at g
 omega
theorem HW {s:Bs} {i:Nat} (hi:i<s.length) (h:(s.take i).all Ez=true) (hc:Ez s[i]=true):(s.take (i+1)).all Ez=true:=by
 rw [take_succ_eq_append_getElem hi,all_append,h]
 simp [hc]
theorem ACs {s:Bs} {i:Nat} (hi:i<s.length) (hc:Ez s[i]=false):CY s=false:=by
 unfold CY
 have:s.all Ez=false:=by
  rw [←Bool.not_eq_true]
  intro g
  have:=all_eq_true.1 g _ (getElem_mem hi)
  rw [hc] at this;cases this
 rw [this,Bool.and_false]
def TH (P:Program) (d:Nat) (xs ys:Array Value) (f:Field) (r:Bool):Prop:=
 f.name≠ "_" ∧∀w,∃a b,(part f.type xs f.offset).run P w= .ok a w∧(part f.type ys f.offset).run P w= .ok b w∧(Op.equalIn d f.type a b).run P w= .ok r w
inductive ACD (P:Program) (d:Nat) (xs ys:Array Value):List Field→List Bool→Prop
 |nil:ACD P d xs ys [] []
 |cons {f fs r rs}:TH P d xs ys f r→ACD P d xs ys fs rs→ACD P d xs ys (f::fs) (r::rs)
theorem Ri {P:Program} {d:Nat} {xs ys:Array Value} {fs:List Field} {rs:List Bool} (h:ACD P d xs ys fs rs) (w:World):(Op.eqFields d xs ys fs).run P w= .ok (rs.all id) w:=by
 induction h with
 |nil=>rfl
 | @cons f fs r rs h1 _ ih=>
  obtain ⟨hn,hr⟩:=h1
  obtain ⟨a,b,q1,q2,q3⟩:=hr w
  unfold Op.eqFields
  rw [if_pos hn,run_bind q1,run_bind q2,run_bind q3]
  cases r
  ·rfl
  ·simpa using ih
def GA (P:Program) (d:Nat) (t:TypeId) (x y:Value) (r:Bool):Prop:= ∀w,(Op.equalIn d t x y).run P w= .ok r w
theorem GA.int {P:Program} {d:Nat} {t:TypeId} {k:IntKind} (ht:P.underlying t=some (.int k)) (a b:Int):GA P (d+1) t (.int k a) (.int k b) (decide (a=b)):=by
 intro w
 rw [run_equalIn_int w d t k k a b ht,Nj]
theorem GA.str {P:Program} {d:Nat} {t:TypeId} (ht:P.underlying t=some .string) (a b:List UInt8):GA P (d+1) t (AF a) (AF b) (decide (a=b)):=by
 intro w
 unfold Op.equalIn
 rw [run_bind (AN ht)]
 show Result.ok (bs a==bs b) w=_
 rw [TF]
theorem GA.struct {P:Program} {d:Nat} {t:TypeId} {fs:Array Field} (ht:P.underlying t=some (.struct fs)) (hp:P.stoodInHeld t=false) {xs ys:List Value} {rs:List Bool} (h:ACD P d xs.toArray ys.toArray fs.toList rs):GA P (d+1) t (.agg xs.toArray) (.agg ys.toArray) (rs.all id):=by
 intro w
 have hf:P.fieldsOf t=fs:=by unfold Program.fieldsOf;rw [ht]
 rw [run_equalIn_struct w d t _ _ (by rw [hf];exact ht) hp,hf]
 exact Ri h w
section parts
variable {P:Program} {w:World}
theorem Fp {t:TypeId} {xs:List Value} {off:Nat} {v:Value} (h:A9 P t=some none) (hc:xs[off]?=some v):(part t xs.toArray off).run P w= .ok v w:=by
 unfold part
 rw [run_bind (MD h)]
 simp only [Option.isSome_none,Bool.false_eq_true,if_false]
 rw [show xs.toArray[off]?=some v by simpa using hc]
 rfl
end parts
theorem TH.cell {P:Program} {d:Nat} {xs ys:List Value} {f:Field} {a b:Value} {r:Bool} (hn:f.name≠ "_") (hag:A9 P f.type=some none) (hx:xs[f.offset]?=some a) (hy:ys[f.offset]?=some b) (he:GA P d f.type a b r):TH P d xs.toArray ys.toArray f r:=
 ⟨hn,fun w=>⟨a,b,Fp hag (by simpa using hx),Fp hag (by simpa using hy),he w⟩⟩
section
variable {P:Program} {E:Bi} {L R:List HP} {ty:TypeId} {w:World}
theorem AE.structEq {t t':TypeId} {x y:Operand} {xs ys:List Value} {r:Bool} (hx:ev E x=some (.agg xs.toArray)) (hy:ev E y=some (.agg ys.toArray)) (hg:P.eqGuardType P.depth t=false) (he:GA P 10000 t (.agg xs.toArray) (.agg ys.toArray) r):
  AE P ⟨none, .binOp .eql t x y t',ty, "",#[],none⟩ E L (.bool r):=by
 intro ρ w ha _
 show (do pure (Next.value (←(do eqGuard .eql t x y (ρ x) (ρ y);binOp .eql t (ρ x) (ρ y)))):Sem Next).run P w=_
 rw [ha x _ hx,ha y _ hy]
 refine Bn ?_
 rw [run_bind (run_eqGuard_agg w .eql t x y _ _ hg),run_eql_struct,he w];rfl
theorem AE.structNe {t t':TypeId} {x y:Operand} {xs ys:List Value} {r:Bool} (hx:ev E x=some (.agg xs.toArray)) (hy:ev E y=some (.agg ys.toArray)) (hg:P.eqGuardType P.depth t=false) (he:GA P 10000 t (.agg xs.toArray) (.agg ys.toArray) r):
  AE P ⟨none, .binOp .neq t x y t',ty, "",#[],none⟩ E L (.bool (!r)):=by
 intro ρ w ha _
 show (do pure (Next.value (←(do eqGuard .neq t x y (ρ x) (ρ y);binOp .neq t (ρ x) (ρ y)))):Sem Next).run P w=_
 rw [ha x _ hx,ha y _ hy]
 refine Bn ?_
 rw [run_bind (run_eqGuard_agg w .neq t x y _ _ hg),run_neq_struct,he w];rfl
end
/-! ### Structs of bigger parts -/
def Yk (P:Program) (fs:Array Field):Option (List (Nat×Nat)):=fs.toList.mapM fun f=>(P.info? f.type).map fun i=>(f.offset,i.size)
theorem Sf {P:Program} {fs:Array Field} {pl:List (Nat×Nat)} (h:Yk P fs=some pl) (w:World):(fs.mapM (m:=Sem) fun f=>do pure (f.offset,←sizeOf f.type)).run P w= .ok pl.toArray w:=by
 have key:∀(l:List Field) (pl:List (Nat×Nat)),(l.mapM fun f=>(P.info? f.type).map fun i=>(f.offset,i.size))=some pl→(l.mapM (m:=Sem) fun f=>do pure (f.offset,←sizeOf f.type)).run P w= .ok pl w:=by
  intro l
  induction l with
  |nil=>intro pl h;simp at h;subst h;rfl
  |cons f l ih=>
   intro pl h
   rw [mapM_cons] at h
   simp only [bind,Option.bind_eq_some_iff,pure,Option.some.injEq,Option.map_eq_some_iff] at h
   obtain ⟨a,⟨i,hi,rfl⟩,bs,hb,rfl⟩:=h
   rw [mapM_cons]
   have h2:Ab P f.type=some i.size:=by unfold Ab;rw [hi];rfl
   rw [run_bind (a:=(f.offset,i.size)) (w':=w) (by rw [run_bind (Be h2)];rfl),run_bind (ih bs hb)]
   rfl
 have hm:(fs.mapM (m:=Sem) fun f=>do pure (f.offset,←sizeOf f.type))=(Functor.map List.toArray (fs.toList.mapM (m:=Sem) fun f=>do pure (f.offset,←sizeOf f.type))):=by
  rw [Array.mapM_eq_mapM_toList]
 rw [hm]
 rw [show (Functor.map List.toArray (fs.toList.mapM (m:=Sem) fun f=>do pure (f.offset,←sizeOf f.type)):Sem _)=((fs.toList.mapM (m:=Sem) fun f=>do pure (f.offset,←sizeOf f.type))>>=fun l=>pure l.toArray) from rfl]
 rw [run_bind (key _ _ h)]
 rfl
theorem AE.buildN {P:Program} {E:Bi} {L:List HP} {ty:TypeId} {t:TypeId} {parts:Array (Nat×Operand)} {fs:Array Field} {pl:List (Nat×Nat)} {zl cells:List Value} {us:List (Nat×Value)} (hus:P.underlying t=some (.struct fs)) (hpl:Yk P fs=some pl) (hz:Ah P t=some (.agg zl.toArray))
  (hu:parts.toList.map (fun p=>(p.1,ev E p.2))=us.map (fun p=>(p.1,some p.2))) (hfill:Instr.fill (fun i=>pl.toArray[i]?) zl.toArray us=some cells.toArray):AE P ⟨none, .build t parts,ty, "",#[],none⟩ E L (.agg cells.toArray):=by
 intro ρ w ha _
 refine Bn ?_
 show (Instr.build t (parts.map fun p=>(p.1,ρ p.2))).run P w=_
 unfold Instr.build
 rw [run_bind (FD hz)]
 dsimp only
 rw [run_bind (AN hus)]
 dsimp only
 rw [run_bind (Sf hpl w)]
 have hparts:(parts.map fun p=>(p.1,ρ p.2)).toList=us:=by
  rw [Array.toList_map];exact G4 ha _ _ hu
 rw [hparts]
 rw [show Value.cells (.agg zl.toArray)=zl.toArray from rfl,hfill]
 rfl
/-! ### Keys -/
theorem TX {P:Program} {kt:TypeId} {K:Type} [DecidableEq K] {kv:K→Value} (he:∀a b,GA P 10000 kt (kv a) (kv b) (decide (a=b))) (k:K):∀(es:List MapEntry) (ks:List K) (i:Nat) (w:World),es.map (·.key)=ks.map kv→
    (Instr.findAsking kt (kv k) es i).run P w= .ok ((JC k ks).bind fun j=>(es[j]?).map fun e=>(i+j,e.val)) w:=by
  intro es
  induction es with
  |nil=>intro ks i w h;cases ks with
    |nil=>rfl
    |cons a l=>simp at h
  |cons e es ih=>
    intro ks i w h
    cases ks with
    |nil=>simp at h
    |cons a l=>
      simp only [map_cons,List.cons.injEq] at h
      unfold Instr.findAsking
      have hq:(Op.equal kt (kv k) e.key).run P w= .ok (decide (k=a)) w:=by
        unfold Op.equal;rw [h.1];exact he k a w
      rw [run_bind hq]
      by_cases hk:k=a
      · subst hk
        simp [JC,run_pure]
      · rw [decide_eq_false hk,JC,if_neg hk]
        simp only [Bool.false_eq_true,if_false]
        rw [ih l (i+1) w h.2]
        cases JC k l with
        |none=>rfl
        |some j=>simp only [Option.map_some,Option.bind_some,List.getElem?_cons_succ,show i+1+j=i+(j+1) by omega]
theorem AE.lookupV {P:Program} {E:Bi} {L R:List HP} {ty:TypeId} {K β:Type} [DecidableEq K] {kv:K→Value} {enc:β→Value} {kt et:TypeId} (hl:Aa P kt kv) {t:TypeId} {x y:Operand} {m:List (K×β)} {r:Nat} {k:K} {z v:Value} {ents:List (Value×Value)} (h1:∀b,AC m k=some b→enc b=v) (h0:AC m k=none→z=v) (hx:ev E x=some (.map (some r))) (hy:ev E y=some (kv k)) (ht:P.underlying t=some (.map kt et)) (hz:Ah P et=some z)
  (hL:BJ (mapR r ents) L R) (he:ents=m.map fun x=>(kv x.1,enc x.2)):AE P ⟨none, .lookup t x y false,ty, "",#[],none⟩ E L v:=by
 rcases h:AC m k with _|b
 ·rw [←h0 h];exact AE.lookupN hl h hx hy ht hz hL he
 ·rw [←h1 b h];exact AE.lookupY hl h hx hy ht hz hL he
def FCk (P:Program) (e:Bool) (d:Nat) (xs:Array Value) (f:Field):Prop:=
 f.name≠ "_" ∧∀w,∃a,(part f.type xs f.offset).run P w= .ok a w∧(Instr.checkKey e d f.type a).run P w= .ok () w
theorem R2 {P:Program} {e:Bool} {d:Nat} {t:TypeId} {fs:Array Field} (ht:P.underlying t=some (.struct fs)) {xs:Array Value} (h:∀f∈fs.toList,FCk P e d xs f) (w:World):(Instr.checkKey e (d+1) t (.agg xs)).run P w= .ok () w:=by
 simp only [Instr.checkKey,Sem.run_bind,AN ht,Result.andThen_ok]
 rw [←Array.forIn_toList]
 generalize fs.toList=l at h
 clear ht
 induction l with
 |nil=>simp
 |cons f l ih=>
  obtain ⟨hn,hr⟩:=h f mem_cons_self
  obtain ⟨a,q1,q2⟩:=hr w
  have ih':=ih (fun g hg=>h g (mem_cons_of_mem _ hg))
  simp only [forIn_cons,Sem.run_bind,Sem.run_ite,if_pos hn,q1,q2,Result.andThen_ok,Sem.run_pure]
  exact ih'
theorem YK {P:Program} {e:Bool} {d:Nat} {t:TypeId} {v:Value} {k:TypeDesc} (ht:P.underlying t=some k) (hk:k= .string∨(∃q,k= .int q)∨k= .bool) (w:World):(Instr.checkKey e (d+1) t v).run P w= .ok () w:=by
 unfold Instr.checkKey
 rw [run_bind (AN ht)]
 rcases hk with rfl|⟨q,rfl⟩|rfl<;>rfl
theorem FCk.cell {P:Program} {e:Bool} {d:Nat} {xs:List Value} {f:Field} {a:Value} {k:TypeDesc} (hn:f.name≠ "_") (hag:A9 P f.type=some none) (hx:xs[f.offset]?=some a) (ht:P.underlying f.type=some k) (hk:k= .string∨(∃q,k= .int q)∨k= .bool):FCk P e (d+1) xs.toArray f:=
 ⟨hn,fun w=>⟨a,Fp hag hx,YK ht hk w⟩⟩
theorem Aa.struct {P:Program} {kt:TypeId} {fs:Array Field} {K:Type} [DecidableEq K] {kv:K→Value} (hu:P.underlying kt=some (.struct fs)) (he:∀a b,GA P 10000 kt (kv a) (kv b) (decide (a=b)))
  (hc:∀a e w,(Instr.checkKey e 10000 kt (kv a)).run P w= .ok () w) (hb:∀a,Instr.sameBits 10000 (kv a) (kv a)=true):Aa P kt kv where
 find:=fun k es ks w h=>by
  unfold Instr.findKey
  rw [run_bind (AN hu)]
  cases es with
  |nil=>
   cases ks with
   |nil=>rfl
   |cons a l=>simp at h
  |cons e es=>
   have e1:Instr.findNow (.struct fs) (kv k) (e::es) 0=none:=by unfold Instr.findNow;rfl
   rw [e1]
   dsimp only
   have:=TX he k (e::es) ks 0 w h
   simp only [Nat.zero_add] at this
   exact this
 check:=hc
 same:=hb
abbrev Ac:=Int×Bs
def CJ (a:Ac):List Value:=[AA a.1,AF a.2]
structure Pt where
 kind:Int
 path:Bs
 data:Bs
 aclV:Value
 acl:List Ac
 own:Int
 num:Int
 err:Int
 subsV:Value
def A0 (x:Pt):List Value:=[AA x.kind,AF x.path,AF x.data,x.aclV,AA x.own,AA x.num,AA x.err,x.subsV]
structure En where
 zx:Int
 ses:Int
 xid:Int
 x:Pt
 subs:List Pt
def CB (e:En):List Value:=[AA e.zx,AA e.ses,AA e.xid]++A0 e.x
abbrev Ev:=Int×(Bs×Int)
def FP (e:Ev):List Value:=[AA e.1,AF e.2.1,AA e.2.2]
structure Ie where
 cz:Int
 mz:Int
 pz:Int
 ver:Int
 cver:Int
 av:Int
 own:Int
 len:Int
 kids:Int
theorem Ie.ext' {a b:Ie} (h:[a.cz,a.mz,a.pz,a.ver,a.cver,a.av,a.own,a.len,a.kids]=[b.cz,b.mz,b.pz,b.ver,b.cver,b.av,b.own,b.len,b.kids]):a=b:=by
 cases a;cases b;simp at h;simp [h]
instance:DecidableEq Ie:=fun a b=>decidable_of_iff ([a.cz,a.mz,a.pz,a.ver,a.cver,a.av,a.own,a.len,a.kids]=[b.cz,b.mz,b.pz,b.ver,b.cver,b.av,b.own,b.len,b.kids]) ⟨Ie.ext',fun h=>by rw [h]⟩
def st0:Ie:=⟨0,0,0,0,0,0,0,0,0⟩
def Ca (s:Ie):List Value:=[AA s.cz,AA s.mz,AA s.pz,AA s.ver,AA s.cver,AA s.av,AA s.own,AA s.len,AA s.kids]
/-! ### Structs compared -/
theorem AJp (d:Nat) (a b:Ie):GA prog (d+2) 62 (.agg (Ca a).toArray) (.agg (Ca b).toArray) (decide (a=b)):=by
 have q:=fun x y:Int=>GA.int (d:=d) underlying3 x y
 have h:=GA.struct (d:=d+1) (xs:=Ca a) (ys:=Ca b) underlying62 kQ
  (.cons (TH.cell dQ CT rfl rfl (q a.cz b.cz)) (.cons (TH.cell dQ CT rfl rfl (q a.mz b.mz)) (.cons (TH.cell dQ CT rfl rfl (q a.pz b.pz)) (.cons (TH.cell dQ CT rfl rfl (q a.ver b.ver)) (.cons (TH.cell dQ CT rfl rfl (q a.cver b.cver))
   (.cons (TH.cell dQ CT rfl rfl (q a.av b.av)) (.cons (TH.cell dQ CT rfl rfl (q a.own b.own)) (.cons (TH.cell dQ CT rfl rfl (q a.len b.len)) (.cons (TH.cell dQ CT rfl rfl (q a.kids b.kids)) .nil)))))))))
 have e:([decide (a.cz=b.cz),decide (a.mz=b.mz),decide (a.pz=b.pz),decide (a.ver=b.ver),decide (a.cver=b.cver),decide (a.av=b.av),decide (a.own=b.own),decide (a.len=b.len),decide (a.kids=b.kids)].all id)=decide (a=b):=by
  cases a;cases b
  simp [Bool.decide_and]
 rw [←e];exact h
theorem AJj (d:Nat) (a b:Ac):GA prog (d+2) 133 (.agg (CJ a).toArray) (.agg (CJ b).toArray) (decide (a=b)):=by
 have h:=GA.struct (d:=d+1) (xs:=CJ a) (ys:=CJ b) underlying133 kQ
  (.cons (TH.cell dQ CT rfl rfl (GA.int underlying3 a.1 b.1)) (.cons (TH.cell dQ HL rfl rfl (GA.str underlying9 a.2 b.2)) .nil))
 have e:([decide (a.1=b.1),decide (a.2=b.2)].all id)=decide (a=b):=by
  obtain ⟨a1,a2⟩:=a;obtain ⟨b1,b2⟩:=b
  simp [Bool.decide_and]
 rw [←e];exact h
theorem La {α:Type} {f:α→List Value} {sz k:Nat} {l:List α} {i:Nat} (hf:∀x∈l,(f x).length=sz) (hi:i<l.length) (hk:k<sz):(l.flatMap f)[i*sz+k]?=(f l[i])[k]?:=by
 have h:=BH hf hi
 have h2:(((l.flatMap f).drop (i*sz)).take sz)[k]?=(f l[i])[k]?:=by rw [h]
 rw [List.getElem?_take,if_pos hk,List.getElem?_drop] at h2
 exact h2
theorem AAg {T:TypeId} {b m sz:Nat} {l:List Value} {h:Hp} (hl:l.length=m*sz) (hp:AW b l T h):At T sz (.slice (some ⟨b,0,none⟩) m m) m l h:=
 .inr ⟨b,m,[],(0,0),rfl,by rw [append_nil];exact hp,hl,by simp;omega,Nat.le_refl _,Bd _ _⟩
def TZ (sz:Nat) (v:Value) (n:Nat) (ys:List Value):HP:=fun h=>CA sz h v n ys
section
variable {W:World} {n:Nat} {ds:List Deferred} {E:Bi} {L R:List HP} {X:Act→World→Prop}
theorem G.slMakeN (sz m:Nat) {T:TypeId} {b:Nat} {l xs:List Value} (hL:BJ (AW b l T) L R) (hx:l=xs) (hl:xs.length=m*sz) (h:G W n ds E (At T sz (.slice (some ⟨b,0,none⟩) m m) m xs::R) X):G W n ds E L X:=by
 subst hx
 exact fun a w he hk hs=>h a w he hk (B0 (fun _ hp=>AAg hl hp) (hs.pick hL))
theorem G.toRd {T:TypeId} {sz m:Nat} {v:Value} {xs:List Value} (hL:BJ (At T sz v m xs) L R) (h:G W n ds E (TZ sz v m xs::R) X):G W n ds E L X:=
 fun a w he hk hs=>h a w he hk (B0 (fun _ hp=>Ad hp) (hs.pick hL))
end
theorem G.rdNil {W:World} {n:Nat} {ds:List Deferred} {E:Bi} {L R:List HP} {X:Act→World→Prop} {p:HP} {sz m c:Nat} {ys:List Value} (hr:∀h:Hp,p h→CA sz h (.slice none m c) m ys) (hL:BJ p L R) (h:m=0→G W n ds E L X):G W n ds E L X:=by
 intro a w he hk hs
 obtain ⟨h1,-,hp⟩:=Ae (hs.pick hL)
 rcases hr _ hp with ⟨h0,-⟩|⟨b,off,cap,l,T,fr,hv,-⟩
 ·exact h h0 a w he hk hs
 ·simp at hv
theorem AO.mapInsert {P:Program} {E:Bi} {ty:TypeId} {K β:Type} [DecidableEq K] {kv:K→Value} {enc:β→Value} {kt et:TypeId} (hl:Aa P kt kv) {t:TypeId} {x y z:Operand} {m:List (K×β)} {r:Nat} {k:K} {v:β} {ents:List (Value×Value)} (hx:ev E x=some (.map (some r))) (hy:ev E y=some (kv k)) (hz:ev E z=some (enc v)) (ht:P.underlying t=some (.map kt et))
  (he:ents=m.map fun x=>(kv x.1,enc x.2)):AO P ⟨none, .insert t x y z,ty, "",#[],none⟩ E [mapR r ents] fun _ L'=>L'=[mapR r ((CF m k v).map fun x=>(kv x.1,enc x.2))]:=
 fun ρ w F ha hs=>AO.mapSet (ty:=ty) hl hx hy hz ht he ρ w F ha hs
theorem Mw {α:Type} [DecidableEq α]:∀{l m:List α},l.Nodup→(∀x∈l,x∈m)→l.length≤m.length:=by
 intro l
 induction l with
 |nil=>intro m _ _;simp
 |cons a l ih=>
  intro m hn hs
  obtain ⟨h1,h2⟩:=nodup_cons.1 hn
  have ha:=hs a mem_cons_self
  have:=ih (m:=m.erase a) h2 fun x hx=>(mem_erase_of_ne (fun (e:x=a)=>h1 (e▸hx))).2 (hs x (mem_cons_of_mem _ hx))
  rw [length_erase_of_mem ha] at this
  have hp:=length_pos_of_mem ha
  rw [length_cons];omega
/-! ### Texts in their order -/
structure Lin (K:Type) [LT K]:Prop where
 irr:∀a:K,¬a<a
 tr:∀a b c:K,a<b→b<c→a<c
 tri:∀a b:K,a<b∨a=b∨b<a
theorem CS:Lin Bs where
 irr:=fun a=>List.lt_irrefl a
 tr:=fun _ _ _ h1 h2=>List.lt_trans h1 h2
 tri:=fun a b=>by
  rcases Decidable.em (a<b) with h|h
  ·exact .inl h
  ·rcases Decidable.em (b<a) with h2|h2
   ·exact .inr (.inr h2)
   ·exact .inr (.inl (List.le_antisymm (List.not_lt.1 h2) (List.not_lt.1 h)))
theorem XL:Lin Int where
 irr:=fun a=>Int.lt_irrefl a
 tr:=fun _ _ _ h1 h2=>Int.lt_trans h1 h2
 tri:=fun a b=>Int.lt_trichotomy a b
/-! ### BK tables -/
def sset {K β:Type} [LT K] [DecidableEq K] [DecidableLT K]:List (K×β)→K→β→List (K×β)
 |[],k,v=>[(k,v)]
 |x::l,k,v=>if x.1=k then (k,v)::l else if k<x.1 then (k,v)::x::l else x::sset l k v
def BK {K β:Type} [LT K] (l:List (K×β)):Prop:=(l.map (·.1)).Pairwise (· < ·)
theorem BK.nodup {K β:Type} [LT K] (ho:Lin K) {l:List (K×β)} (h:BK l):(l.map (·.1)).Nodup:=List.Pairwise.imp (S:=fun a b:K=>a≠b) (fun {a b} hab e=>ho.irr b (by rw [e] at hab;exact hab)) h
theorem BK.filter {K β:Type} [LT K] {l:List (K×β)} (h:BK l) (f:K×β→Bool):BK (l.filter f):=List.Pairwise.sublist (List.Sublist.map _ filter_sublist) h
theorem AAJ {K β:Type} [LT K] [DecidableEq K] [DecidableLT K] (l:List (K×β)) (k x:K) (v:β):x∈(sset l k v).map (·.1)↔x=k∨x∈l.map (·.1):=by
 induction l with
 |nil=>simp [sset]
 |cons y l ih=>
  unfold sset
  split
  ·rename_i h;simp [h]
  ·split
   ·simp
   ·rw [map_cons,mem_cons,ih,map_cons,mem_cons]
    constructor
    ·rintro (h|h|h)
     ·exact .inr (.inl h)
     ·exact .inl h
     ·exact .inr (.inr h)
    ·rintro (h|h|h)
     ·exact .inr (.inl h)
     ·exact .inl h
     ·exact .inr (.inr h)
theorem BK.sset {K β:Type} [LT K] [DecidableEq K] [DecidableLT K] (ho:Lin K) {l:List (K×β)} (h:BK l) (k:K) (v:β):BK (sset l k v):=by
 induction l with
 |nil=>simp [BK,Go.Proofs.YtbhkloaagkkioaaGreatDoor.sset]
 |cons y l ih=>
  obtain ⟨h1,h2⟩:=pairwise_cons.1 h
  unfold Go.Proofs.YtbhkloaagkkioaaGreatDoor.sset
  split
  ·rename_i e;subst e;exact pairwise_cons.2 ⟨h1,h2⟩
  ·rename_i e
   split
   ·rename_i hl
    refine pairwise_cons.2 ⟨fun a ha=>?_,h⟩
    rcases mem_cons.1 ha with rfl|ha
    ·exact hl
    ·exact ho.tr _ _ _ hl (h1 a ha)
   ·rename_i hl
    refine pairwise_cons.2 ⟨fun a ha=>?_,ih h2⟩
    rcases (AAJ l k a v).1 ha with rfl|ha
    ·rcases ho.tri y.1 a with g|g|g
     ·exact g
     ·exact absurd g e
     ·exact absurd g hl
    ·exact h1 a ha
theorem J5 {K β:Type} [LT K] [DecidableEq K] [DecidableLT K] (l:List (K×β)) (k x:K) (v:β):AC (sset l k v) x=if x=k then some v else AC l x:=by
 induction l with
 |nil=>simp [sset,AC]
 |cons y l ih=>
  obtain ⟨a,b⟩:=y
  unfold sset
  dsimp only
  split
  ·rename_i e;subst e
   by_cases hx:x=a<;>simp [AC,hx]
  ·rename_i e
   split
   ·by_cases hx:x=k<;>simp [AC,hx]
   ·by_cases hx:x=a
    ·subst hx;simp [AC,e]
    ·simp [AC,hx,ih]
theorem HZ {K β:Type} [DecidableEq K] {l:List (K×β)} (f:K→Bool) (x:K):AC (l.filter fun y=>f y.1) x=if f x=true then AC l x else none:=by
 induction l with
 |nil=>simp [AC]
 |cons y l ih=>
  obtain ⟨a,b⟩:=y
  by_cases hf:f a=true
  ·rw [filter_cons_of_pos (by simpa using hf)]
   by_cases hx:x=a
   ·subst hx;simp [AC,hf]
   ·simp only [AC,hx,if_false];exact ih
  ·rw [filter_cons_of_neg (by simpa using hf),ih]
   by_cases hx:x=a
   ·subst hx;simp [hf]
   ·simp only [AC,hx,if_false]
theorem Lv {K β:Type} [LT K] [DecidableEq K] [DecidableLT K] (l:List (K×β)) (k:K) (v:β):(sset l k v).length≤l.length+1∧l.length≤(sset l k v).length:=by
 induction l with
 |nil=>simp [sset]
 |cons y l ih=>
  unfold sset
  split
  ·simp
  ·split
   ·simp
   ·simp;omega
theorem GB {K β:Type} [LT K] [DecidableEq K] (ho:Lin K):∀{l m:List (K×β)},BK l→BK m→(∀k,AC l k=AC m k)→l=m
 |[],[],_,_,_=>rfl
 |[],y::m,_,_,h=>by have:=h y.1;simp [AC] at this
 |x::l,[],_,_,h=>by have:=h x.1;simp [AC] at this
 |x::l,y::m,hl,hm,h=>by
  obtain ⟨h1,h2⟩:=pairwise_cons.1 hl
  obtain ⟨g1,g2⟩:=pairwise_cons.1 hm
  obtain ⟨a,b⟩:=x;obtain ⟨c,d⟩:=y
  dsimp only at h1 g1
  have hx:=h a
  have hy:=h c
  have key:a=c:=by
   simp only [AC,if_true] at hx hy
   by_cases e:a=c
   ·exact e
   ·rw [if_neg e] at hx
    rw [if_neg (fun g=>e g.symm)] at hy
    have m1:a∈m.map (·.1):=Cw.1 (by rw [←hx];rfl)
    have m2:c∈l.map (·.1):=Cw.1 (by rw [hy];rfl)
    exact absurd (ho.tr _ _ _ (g1 a m1) (h1 c m2)) (ho.irr _)
  subst key
  have hb:b=d:=by simpa [AC] using hx
  subst hb
  congr 1
  refine GB ho h2 g2 fun k=>?_
  have hk:=h k
  by_cases e:k=a
  ·subst e
   have n1:AC l k=none:=Fl.2 fun g=>ho.irr _ (h1 k g)
   have n2:AC m k=none:=Fl.2 fun g=>ho.irr _ (g1 k g)
   rw [n1,n2]
  ·simpa [AC,e] using hk
def amod {K β:Type} [DecidableEq K] (l:List (K×β)) (k:K) (f:β→β):List (K×β):=l.map fun x=>if x.1=k then (x.1,f x.2) else x
theorem AAI {K β:Type} [DecidableEq K] (l:List (K×β)) (k:K) (f:β→β):(amod l k f).map (·.1)=l.map (·.1):=by
 unfold amod
 rw [map_map]
 refine map_congr_left fun x _=>?_
 dsimp only [Function.comp]
 split<;>rfl
theorem Jt {K β:Type} [DecidableEq K] (l:List (K×β)) (k:K) (f:β→β) (x:K):AC (amod l k f) x=if x=k then (AC l x).map f else AC l x:=by
 induction l with
 |nil=>simp [amod,AC]
 |cons y l ih=>
  obtain ⟨a,b⟩:=y
  unfold amod at ih ⊢
  rw [map_cons]
  dsimp only
  by_cases ha:a=k
  ·subst ha
   rw [if_pos rfl]
   by_cases hx:x=a
   ·subst hx;simp [AC]
   ·simp only [AC,hx,if_false] at ih ⊢;exact ih
  ·rw [if_neg ha]
   by_cases hx:x=a
   ·subst hx;simp [AC,ha]
   ·simp only [AC,hx,if_false] at ih ⊢;exact ih
theorem E7 {K β:Type} [DecidableEq K] (l:List (K×β)) (k:K) (f:β→β):(amod l k f).length=l.length:=by unfold amod;simp
theorem BK.amod {K β:Type} [LT K] [DecidableEq K] {l:List (K×β)} (h:BK l) (k:K) (f:β→β):BK (amod l k f):=by
 unfold BK;rw [AAI];exact h
def Cm (p:Bs):Nat→Int
 |0=> -1
 |n+1=>if p.getD n 0=47 then (n:Int) else Cm p n
def CI (p:Bs):Int:=Cm p p.length
def dnL (n:Nat):Nat→Int
 |0=>(n:Int)-1
 |k+1=>dnL n k-1
theorem AIF (n k:Nat):dnL n k=(n:Int)-1-k:=by
 induction k with
 |zero=>unfold dnL;omega
 |succ k ih=>unfold dnL;omega
theorem Ry (p:Bs) (n:Nat): -1≤Cm p n∧Cm p n<n:=by
 induction n with
 |zero=>simp [Cm]
 |succ n ih=>
  unfold Cm
  split<;>omega
theorem Gr (p:Bs): -1≤CI p∧CI p<p.length:=Ry p _
def AK (p:Bs):Bs:=if CI p<0∨p=[47] then [] else if CI p=0 then [47] else p.take (CI p).toNat
def DL (p:Bs):Bs:=p.drop (CI p+1).toNat
def sfx (q s:Bs):Prop:=q.length≤s.length∧s.drop (s.length-q.length)=q
instance (q s:Bs):Decidable (sfx q s):=inferInstanceAs (Decidable (_∧_))
def Ii (s q:Bs):Bs:=if sfx q s then s.take (s.length-q.length) else s
def Ip (p name:Bs):Bs:=(if p=[47] then [47] else p++[47])++name
def pfx (q s:Bs):Prop:=s.take q.length=q
instance (q s:Bs):Decidable (pfx q s):=inferInstanceAs (Decidable (_=_))
def PG (p q:Bs):Prop:=pfx (Ip q []) p∧p≠Ip q []
instance (p q:Bs):Decidable (PG p q):=inferInstanceAs (Decidable (_∧_))
theorem AEe (s:Bs):Ii s []=s:=by
 unfold Ii sfx
 simp
theorem AEt (s q:Bs):(Ii s q).length≤s.length:=by
 unfold Ii
 split
 ·rw [length_take];omega
 ·exact Nat.le_refl _
theorem AF8 {c d:UInt8} (h:(c.toNat:Int)=(d.toNat:Int)):c=d:=UInt8.toNat_inj.1 om
theorem Z1:Ii [47] [47]=[]:=by decide
theorem ADY (p name:Bs):Ii p (if p=[47] then [47] else [])++[47]++name=Ip p name:=by
 unfold Ip
 by_cases h:p=[47]
 ·subst h;rw [if_pos rfl,if_pos rfl,Z1];rfl
 ·rw [if_neg h,if_neg h,AEe]
theorem PX (p:Bs):(AK p).length≤max p.length 1:=by
 unfold AK
 split
 ·simp
 ·split
  ·simp;omega
  ·rw [length_take];omega
theorem VI {p:Bs} (h:0≤CI p):p=p.take (CI p).toNat++47::p.drop ((CI p).toNat+1)∧(47:UInt8)∉p.drop ((CI p).toNat+1):=by
 have key:∀n,n≤p.length→0≤Cm p n→p.getD (Cm p n).toNat 0=47∧∀i,(Cm p n).toNat<i→i<n→p.getD i 0≠47:=by
  intro n
  induction n with
  |zero=>intro _ h;simp [Cm] at h
  |succ n ih=>
   intro hn h
   unfold Cm at h ⊢
   split
   ·rename_i e
    refine ⟨by simpa using e,fun i h1 h2=>?_⟩
    simp at h1;omega
   ·rename_i e
    rw [if_neg e] at h
    obtain ⟨g1,g2⟩:=ih om h
    refine ⟨g1,fun i h1 h2=>?_⟩
    by_cases hi:i=n
    ·subst hi;exact e
    ·exact g2 i h1 om
 obtain ⟨g1,g2⟩:=key p.length (Nat.le_refl _) h
 have hr:=Gr p
 have hlt:(CI p).toNat<p.length:=by omega
 refine ⟨?_,fun hm=>?_⟩
 ·have e:p[(CI p).toNat]=47:=by
   have:p.getD (CI p).toNat 0=47:=g1
   rw [getD_eq_getElem?_getD,List.getElem?_eq_getElem hlt,Option.getD_some] at this
   exact this
  have h2:=take_append_drop (CI p).toNat p
  rw [drop_eq_getElem_cons hlt,e] at h2
  exact h2.symm
 ·obtain ⟨i,hi,e⟩:=mem_iff_getElem.1 hm
  rw [length_drop] at hi
  rw [getElem_drop] at e
  refine g2 ((CI p).toNat+1+i) (by show (CI p).toNat<_;omega) om ?_
  rw [getD_eq_getElem?_getD,List.getElem?_eq_getElem om,Option.getD_some]
  exact e
end Go.Proofs.YtbhkloaagkkioaaGreatDoor
/-
 DERIVED:THE SHELF's CONTRACTS AT THIS DUMP,IN PLAIN WORDS (tools/lay-plain.mjs out of 'YtbhkloaagkkioaaGreatDoorLay.lean',which tools/lay-shelf.mjs wrote):THE SAME DECLARATIONS UNDER THE SAME NAMES:'import','namespace','open','def','theorem' AND NOTHING ELSE:no command of the shelf's:FOR A HAND-IN. Each laying:the table of numbers ('.._ren') and one theorem,a field a fact of the dump's own or the kernel's comparison;each Gt:ONE APPLICATION.
-/
namespace Go.Proofs
open Go List Go.Proofs.Tryz Go.Shelf
def Tryz.sortA_ren:Go.Shelf.Ren:=⟨fun|5=>159|8=>218|7=>217|19=>276|20=>277|10=>268|11=>269|12=>270|13=>271|14=>272|15=>273|16=>150|17=>274|18=>275|30=>308|31=>309|32=>310|33=>311|34=>312|35=>211|40=>333|n=>n,fun|23=>23|25=>3|3=>3|32=>117|22=>23|0=>0|44=>230|46=>237|4=>4|36=>342|35=>341|41=>104|5=>5|9=>9|53=>365|57=>194|63=>384|64=>112|n=>n,fun|n=>n⟩
theorem Tryz.sortA:Go.Proofs.SlLaysM.n5 prog Tryz.sortA_ren:={
 mixed:=by kernel_rfl
 f5:=⟨f159.name,by decide,func159.trans (congrArg some (by kernel_rfl))⟩
 f7:=⟨f217.name,by decide,func217.trans (congrArg some (by kernel_rfl))⟩
 f8:=func218.trans (congrArg some (by kernel_rfl))
 f10:=⟨f268.name,by decide,func268.trans (congrArg some (by kernel_rfl))⟩
 f11:=⟨f269.name,by decide,func269.trans (congrArg some (by kernel_rfl))⟩
 f12:=⟨f270.name,by decide,func270.trans (congrArg some (by kernel_rfl))⟩
 f13:=⟨f271.name,by decide,func271.trans (congrArg some (by kernel_rfl))⟩
 f14:=⟨f272.name,by decide,func272.trans (congrArg some (by kernel_rfl))⟩
 f15:=⟨f273.name,by decide,func273.trans (congrArg some (by kernel_rfl))⟩
 f16:=⟨f150.name,by decide,func150.trans (congrArg some (by kernel_rfl))⟩
 f17:=⟨f274.name,by decide,func274.trans (congrArg some (by kernel_rfl))⟩
 f18:=⟨f275.name,by decide,func275.trans (congrArg some (by kernel_rfl))⟩
 f19:=func276.trans (congrArg some (by kernel_rfl))
 f20:=func277.trans (congrArg some (by kernel_rfl))
 f30:=⟨f308.name,by decide,func308.trans (congrArg some (by kernel_rfl))⟩
 f31:=func309.trans (congrArg some (by kernel_rfl))
 f32:=func310.trans (congrArg some (by kernel_rfl))
 f33:=⟨f311.name,by decide,func311.trans (congrArg some (by kernel_rfl))⟩
 f34:=⟨f312.name,by decide,func312.trans (congrArg some (by kernel_rfl))⟩
 f35:=⟨f211.name,by decide,func211.trans (congrArg some (by kernel_rfl))⟩
 f40:=⟨f333.name,by decide,func333.trans (congrArg some (by kernel_rfl))⟩
 t0:=underlying0
 a0:=Tryz.isAgg0
 z0:=Tryz.sizeOf0
 v0:=Tryz.zeroValue0
 t3:=underlying3
 a3:=Tryz.isAgg3
 z3:=Tryz.sizeOf3
 v3:=Tryz.zeroValue3
 t4:=underlying4
 a4:=Tryz.isAgg4
 z4:=Tryz.sizeOf4
 v4:=Tryz.zeroValue4
 t5:=underlying5
 a5:=Tryz.isAgg5
 z5:=Tryz.sizeOf5
 v5:=Tryz.zeroValue5
 t9:=underlying9
 a9:=Tryz.isAgg9
 z9:=Tryz.sizeOf9
 v9:=Tryz.zeroValue9
 t22:=underlying23
 a22:=Tryz.isAgg23
 z22:=Tryz.sizeOf23
 v22:=Tryz.zeroValue23
 t23:=underlying23
 a23:=Tryz.isAgg23
 z23:=Tryz.sizeOf23
 v23:=Tryz.zeroValue23
 t25:=underlying3
 a25:=Tryz.isAgg3
 z25:=Tryz.sizeOf3
 v25:=Tryz.zeroValue3
 t32:=underlying117
 a32:=Tryz.isAgg117
 z32:=Tryz.sizeOf117
 v32:=Tryz.zeroValue117
 t35:=underlying341
 a35:=Tryz.isAgg341
 z35:=Tryz.sizeOf341
 v35:=Tryz.zeroValue341
 t36:=underlying342
 a36:=Tryz.isAgg342
 z36:=Tryz.sizeOf342
 v36:=Tryz.zeroValue342
 t41:=underlying104
 a41:=Tryz.isAgg104
 z41:=Tryz.sizeOf104
 v41:=Tryz.zeroValue104
 t44:=underlying230
 a44:=Tryz.isAgg230
 z44:=Tryz.sizeOf230
 v44:=Tryz.zeroValue230
 t46:=underlying237
 a46:=Tryz.isAgg237
 z46:=Tryz.sizeOf237
 v46:=Tryz.zeroValue237
 t53:=underlying365
 a53:=Tryz.isAgg365
 z53:=Tryz.sizeOf365
 v53:=Tryz.zeroValue365
 t57:=underlying194
 a57:=Tryz.isAgg194
 z57:=Tryz.sizeOf194
 v57:=Tryz.zeroValue194
 t63:=underlying384
 a63:=Tryz.isAgg384
 z63:=Tryz.sizeOf384
 v63:=Tryz.zeroValue384
 t64:=underlying112
 a64:=Tryz.isAgg112
 z64:=Tryz.sizeOf112
 v64:=Tryz.zeroValue112}
def Tryz.keysA_ren:Go.Shelf.Ren:=⟨fun|7=>117|10=>167|n=>n,fun|23=>121|26=>3|3=>126|28=>182|0=>0|27=>181|33=>103|4=>4|n=>n,fun|n=>n⟩
theorem Tryz.keysA:Go.Proofs.SlLaysZI.n7 prog Tryz.keysA_ren:={
 mixed:=by kernel_rfl
 f7:=⟨f117.name,by decide,func117.trans (congrArg some (by kernel_rfl))⟩
 f10:=⟨f167.name,by decide,func167.trans (congrArg some (by kernel_rfl))⟩
 t0:=underlying0
 a0:=Tryz.isAgg0
 z0:=Tryz.sizeOf0
 v0:=Tryz.zeroValue0
 t4:=underlying4
 a4:=Tryz.isAgg4
 z4:=Tryz.sizeOf4
 v4:=Tryz.zeroValue4
 t23:=underlying121
 a23:=Tryz.isAgg121
 z23:=Tryz.sizeOf121
 v23:=Tryz.zeroValue121
 t26:=underlying3
 a26:=Tryz.isAgg3
 z26:=Tryz.sizeOf3
 v26:=Tryz.zeroValue3
 t27:=underlying181
 a27:=Tryz.isAgg181
 z27:=Tryz.sizeOf181
 v27:=Tryz.zeroValue181
 t28:=underlying182
 a28:=Tryz.isAgg182
 z28:=Tryz.sizeOf182
 v28:=Tryz.zeroValue182
 t33:=underlying103
 a33:=Tryz.isAgg103
 z33:=Tryz.sizeOf103
 v33:=Tryz.zeroValue103}
def Tryz.keysD_ren:Go.Shelf.Ren:=⟨fun|7=>100|10=>160|n=>n,fun|23=>84|26=>3|3=>110|28=>182|0=>0|27=>181|33=>103|4=>4|n=>n,fun|n=>n⟩
theorem Tryz.keysD:Go.Proofs.SlLaysZI.n7 prog Tryz.keysD_ren:={
 mixed:=by kernel_rfl
 f7:=⟨f100.name,by decide,func100.trans (congrArg some (by kernel_rfl))⟩
 f10:=⟨f160.name,by decide,func160.trans (congrArg some (by kernel_rfl))⟩
 t0:=underlying0
 a0:=Tryz.isAgg0
 z0:=Tryz.sizeOf0
 v0:=Tryz.zeroValue0
 t4:=underlying4
 a4:=Tryz.isAgg4
 z4:=Tryz.sizeOf4
 v4:=Tryz.zeroValue4
 t23:=underlying84
 a23:=Tryz.isAgg84
 z23:=Tryz.sizeOf84
 v23:=Tryz.zeroValue84
 t26:=underlying3
 a26:=Tryz.isAgg3
 z26:=Tryz.sizeOf3
 v26:=Tryz.zeroValue3
 t27:=underlying181
 a27:=Tryz.isAgg181
 z27:=Tryz.sizeOf181
 v27:=Tryz.zeroValue181
 t28:=underlying182
 a28:=Tryz.isAgg182
 z28:=Tryz.sizeOf182
 v28:=Tryz.zeroValue182
 t33:=underlying103
 a33:=Tryz.isAgg103
 z33:=Tryz.sizeOf103
 v33:=Tryz.zeroValue103}
def Tryz.sortedA_ren:Go.Shelf.Ren:=⟨fun|6=>99|8=>158|9=>159|11=>216|13=>218|12=>217|23=>276|24=>277|14=>268|15=>269|16=>270|17=>271|18=>272|19=>273|20=>150|21=>274|22=>275|25=>308|26=>309|27=>310|28=>311|29=>312|30=>211|31=>333|n=>n,fun|26=>3|28=>182|24=>23|0=>0|3=>3|37=>117|48=>230|50=>237|4=>4|40=>342|39=>341|45=>104|5=>5|9=>9|51=>365|55=>194|57=>384|58=>112|33=>103|n=>n,fun|n=>n⟩
theorem Tryz.sortedA:Go.Proofs.SlLaysZI.n6 prog Tryz.sortedA_ren:={
 mixed:=by kernel_rfl
 f6:=⟨f99.name,by decide,func99.trans (congrArg some (by kernel_rfl))⟩
 f8:=⟨f158.name,by decide,func158.trans (congrArg some (by kernel_rfl))⟩
 f11:=⟨f216.name,by decide,func216.trans (congrArg some (by kernel_rfl))⟩
 t0:=underlying0
 a0:=Tryz.isAgg0
 z0:=Tryz.sizeOf0
 v0:=Tryz.zeroValue0
 t24:=underlying23
 a24:=Tryz.isAgg23
 z24:=Tryz.sizeOf23
 v24:=Tryz.zeroValue23
 t26:=underlying3
 a26:=Tryz.isAgg3
 z26:=Tryz.sizeOf3
 v26:=Tryz.zeroValue3
 t28:=underlying182
 a28:=Tryz.isAgg182
 z28:=Tryz.sizeOf182
 v28:=Tryz.zeroValue182
 i26:=by kernel_rfl}
def Tryz.compactA_ren:Go.Shelf.Ren:=⟨fun|20=>170|n=>n,fun|22=>23|3=>3|4=>4|0=>0|n=>n,fun|n=>n⟩
theorem Tryz.compactA:Go.Proofs.Lays2.n20 prog Tryz.compactA_ren:={
 mixed:=by kernel_rfl
 f20:=func170.trans (congrArg some (by kernel_rfl))
 t0:=underlying0
 a0:=Tryz.isAgg0
 z0:=Tryz.sizeOf0
 v0:=Tryz.zeroValue0
 t3:=underlying3
 a3:=Tryz.isAgg3
 z3:=Tryz.sizeOf3
 v3:=Tryz.zeroValue3
 t4:=underlying4
 a4:=Tryz.isAgg4
 z4:=Tryz.sizeOf4
 v4:=Tryz.zeroValue4
 t22:=underlying23
 a22:=Tryz.isAgg23
 z22:=Tryz.sizeOf23
 v22:=Tryz.zeroValue23
 i3:=by kernel_rfl}
end Go.Proofs
namespace Go.Proofs.YtbhkloaagkkioaaGreatDoor
open Go List Go.Proofs.Tryz Go.RowKit Go.Maps Go.Sort Go.Shelf
theorem ADi {b:Nat} {o:Obj} {L:List HP} {h h':Hp} (hs:CP L h) (hnb:h b=none) (hb:h' b=some o) (hle:∀c o,h c=some o→h' c=some o):CP (pt b o::L) h':=by
 refine ⟨fun c=>if c=b then some o else none,h,fun c=>?_,fun c o' e=>?_,hle,if_pos rfl,hs⟩
 ·by_cases e:c=b
  ·exact .inr (e▸hnb)
  ·exact .inl (if_neg e)
 ·by_cases hc:c=b
  ·subst hc;simp at e;rw [←e];exact hb
  ·simp [hc] at e
theorem VX {w w':World} (hb:Below w.heap.size w w') (c:Nat) (o:Obj) (h:w.heap[c]?=some o):w'.heap[c]?=some o:=by
 have hlt:c<w.heap.size:=by
  rcases Nat.lt_or_ge c w.heap.size with h'|h'
  ·exact h'
  ·rw [Array.getElem?_eq_none h'] at h;cases h
 rw [hb.block c hlt];exact h
theorem St.below {L:List HP} {w w':World} (hs:St L w) (hb:Below w.heap.size w w'):St L w':=Fu hs (VX hb)
theorem As.below {w w':World} (hb:Below w.heap.size w w'):As w w':=⟨hb.os,hb.tape,hb.output,hb.size⟩
theorem St.own {L:List HP} {w w':World} {e:TypeId} {sz n:Nat} {v:Value} {xs:List Value} (hs:St L w) (hb:Below w.heap.size w w') (ho:w'.ownsRow w.heap.size e sz v n xs):St (At e sz v n xs::L) w':=by
 obtain ⟨h1,h2⟩:=ho
 rcases h2 with ⟨rfl,rfl⟩|⟨g,cap,cur,rfl,hg,hcur,h3,h4,h5,h6⟩
 ·have:xs=[]:=by simpa using h1
  subst this
  exact ⟨fun _=>none,_,fun _=> .inl rfl,fun _ _ e=>(by cases e),fun _ _ e=>e,AU _ _ _,hs.below hb⟩
 ·have hnone:w.heap[g]?=none:=Array.getElem?_eq_none hg
  refine B0 (fun h hp=>?_) (ADi (o:= .cells cur e (0,0)) hs hnone hcur (VX hb))
  refine .inr ⟨g,cap,cur.toList.drop (n*sz),(0,0),rfl,?_,h1,?_,h3,Bd _ _⟩
  ·have:(xs++cur.toList.drop (n*sz)).toArray=cur:=by rw [←h6,take_append_drop]
   rw [this];exact hp
  ·rw [←h6];simp;rw [←h5];omega
theorem AI2 {x:Int} (h: -9223372036854775808≤x∧x≤9223372036854775807):(Lit.int .i64 x).wf=true:=by
 simp only [Lit.wf,Bool.and_eq_true,decide_eq_true_eq]
 have e1:IntKind.i64.min= -9223372036854775808:=by decide
 have e2:IntKind.i64.max=9223372036854775807:=by decide
 rw [e1,e2];exact h
def Ce (l:List Int):List Int:=l.mergeSort (fun x y=>decide (x≤y))
theorem Yy {P:Program} {ρ:Ren} (L:SlLaysZI.n7 P ρ) (mb:Option Nat):Fn P (ρ.f 7) #[.map mb] [] fun v Lp=> ∃b,v= .func (.func (ρ.f 10)) #[] #[AD b]∧Lp=[AW b [.map mb] (ρ.t 23)]:=by
 intro F w hs
 refine (callsIn_wide.1 (AnyZI.keys_in L Fence.wide 1 trivial rfl mb w)).mono ?_
 rintro e w' ⟨rfl,rfl⟩
 exact ⟨_,_,⟨_,rfl,rfl⟩,rfl,St.new (L:=F) hs _,As.new _ _⟩
theorem Qa {P:Program} {ρ ρs ρm:Ren} (L:SlLaysZI.n7 P ρ) (LS:SlLaysZI.n6 P ρs) (LM:SlLaysM.n5 P ρm) (hm:ρm.f 5=ρs.f 9) (e9:∀args w,(callFunc (ρs.f 9) args).run P w= .ok (.enter (ρs.f 9) args) w) (e10:∀args w,(callFunc (ρ.f 10) args).run P w= .ok (.enter (ρ.f 10) args) w)
    (hk:P.underlying (ρ.t 26)=some (.int .i64)) {b r:Nat} {T:TypeId} {β:Type} {enc:β→Value} (m:List (Int×β)) (hnd:(m.map (·.1)).Nodup) (hbd:∀x∈m, -9223372036854775808≤x.1∧x.1≤9223372036854775807) (hlen:m.length≤1099511627776):
    Fn P (ρs.f 6) #[.func (.func (ρ.f 10)) #[] #[AD b]] [AW b [.map (some r)] T,mapR r (m.map fun x=>(AA x.1,enc x.2))] fun v Lp=>(∃a c,v= .slice a m.length c)∧
      Lp=[At (ρs.t 26) 1 v m.length ((Ce (m.map (·.1))).map AA),mapR r (m.map fun x=>(AA x.1,enc x.2))]:=by
  intro F w hs
  have hcell:w.cell? ⟨b,0,none⟩=some (.map (some r)):=Ni (l:=[Value.map (some r)]) (St.pt (L:=_) hs) rfl
  obtain ⟨hr1,ar,es,clock,hes,hents,hborn,hnb⟩:=Ae (FH hs)
  have hes':=ar _ _ hes
  have hlen':es.length=m.length:=by have:=congrArg List.length hents;simpa using this
  have hkeys:es.map (fun e=>e.key)=m.map (fun x=>AA x.1):=by
    have:=congrArg (List.map Prod.fst) hents;rw [map_map,map_map] at this;exact this
  let R:Value→Option (DataW Unit×List MemPlace):=fun _=>some (.lit (.bool true),[])
  have hkey:∀x∈es,∃k:Int,x.key=AA k∧ -9223372036854775808≤k∧k≤9223372036854775807:=by
    intro x hx
    have:x.key∈es.map (fun e=>e.key):=mem_map_of_mem hx
    rw [hkeys] at this
    obtain ⟨y,hy,he⟩:=mem_map.1 this
    exact ⟨y.1,he.symm,hbd y hy⟩
  have hrd:∀x∈es,∀k,x.key=AA k→Go.WideElems.rd P (ρ.t 26) R x=some (.int .i64 k, .lit (.bool true)):=by
    intro x hx k hxk
    obtain ⟨k',h1,h2⟩:=hkey x hx
    have:k'=k:=by rw [h1] at hxk;simpa using hxk
    subst this
    have hko:keyOf P (ρ.t 26) x.key=some (.int .i64 k'):=by
      rw [hxk];simp [keyOf,hk,mapKey,AI2 h2]
    unfold Go.WideElems.rd;rw [hko];rfl
  have hown:w.ownsMap P (ρ.t 26) R r m.length (.map ((es.map (Go.WideElems.rg P (ρ.t 26) R)).foldr DataW.insert [])):=by
    refine ⟨es.toArray,clock,hes',⟨?_,⟨by simpa using hborn,by simpa using hnb,?_⟩,?_⟩,by simpa using Nat.le_of_eq hlen',by simp⟩
    · simp only [size_toArray,maxLen];omega
    · have e1:es.toArray.toList.map (·.key)=m.map (fun x=>AA x.1):=by simpa using hkeys
      rw [e1]
      have e2:m.map (fun x=>AA x.1)=(m.map (·.1)).map AA:=by simp
      rw [e2]
      exact pairwise_map.2 (List.Pairwise.imp (fun hne he=>hne (by simpa using he)) hnd)
    · intro x hx
      have hx':x∈es:=by simpa using hx
      obtain ⟨k,h1,-⟩:=hkey x hx'
      exact ⟨_,hrd x hx' k h1⟩
  have hD:(intKeys (DataW.map ((es.map (Go.WideElems.rg P (ρ.t 26) R)).foldr DataW.insert []))).Perm (m.map (·.1)):=by
    show (((es.map (Go.WideElems.rg P (ρ.t 26) R)).foldr DataW.insert []).map fun p=>Go.intOf p.1).Perm _
    refine (List.Perm.map _ (Go.WideShapes.sorted_perm _)).trans ?_
    have:(es.map (Go.WideElems.rg P (ρ.t 26) R)).map (fun p=>Go.intOf p.1)=m.map (·.1):=by
      have h1:(es.map (Go.WideElems.rg P (ρ.t 26) R)).map (fun p=>Go.intOf p.1)=(es.map (fun e=>e.key)).map (fun v=>match v with| .int _ k=>k|_=>0):=by
        rw [map_map,map_map]
        refine map_congr_left fun x hx=>?_
        obtain ⟨k,h1,-⟩:=hkey x hx
        simp only [Function.comp,Go.WideElems.rg,hrd x hx k h1,Option.getD_some,Go.intOf,h1]
      rw [h1,hkeys,map_map];rfl
    rw [this]
  have hsize:Maps.size (DataW.map ((es.map (Go.WideElems.rg P (ρ.t 26) R)).foldr DataW.insert []))=m.length:=by
    simp [Maps.size,length_sorted,hlen']
  have hblt:b<w.heap.size:=by
    rcases Nat.lt_or_ge b w.heap.size with h|h
    · exact h
    · simp [World.cell?,Array.getElem?_eq_none h] at hcell
  have hseq:=AnyZI.keys_gives (ρ:=ρ) {L with} Fence.wide 2 trivial rfl om b r m.length _ w hblt hcell hown
  have hsorts:∀k,AnyZI.SortsIn P ρs Fence.wide k:=fun k=>
    ⟨fun blk off cap ss W hH hblk hsz=>by
        rw [←hm];exact callsIn_wide.2 (AnyM.slices_Sort_int LM blk off cap ss W hH hblk hsz),
     fun p cap W=>by rw [←hm];exact callsIn_wide.2 (AnyM.slices_Sort_int_none LM p cap W)⟩
  have hS:=AnyZI.sorted_in LS Fence.wide 5 trivial trivial trivial trivial rfl om (hsorts _) e9 (ρ.f 10) #[AD b] trivial e10 _ _ (by rw [hsize,maxLen];omega) (by rw [hsize];omega) w hseq
  refine (callsIn_wide.1 hS).mono ?_
  rintro e w' ⟨v,ss,rfl,hp,hrow,-,hb⟩
  have hperm:ss.Perm (m.map (·.1)):=hp.trans hD
  have hss:(ss.mergeSort fun x y=>decide (x≤y))=Ce (m.map (·.1)):=mergeSort_of_perm_i hperm
  have hl:ss.length=m.length:=by rw [hperm.length_eq];simp
  rw [hss,hl] at hrow
  have hshape:∃a c,v= .slice a m.length c:=by
    rcases hrow.2 with ⟨rfl,h0⟩|⟨g,cap,cur,rfl,-⟩
    · exact ⟨_,_,by rw [h0]⟩
    · exact ⟨_,_,rfl⟩
  refine ⟨v,_,⟨hshape,rfl⟩,rfl,?_,As.below hb⟩
  exact St.own (FH hs) hb hrow
open Go Go.Sort
theorem IJ (l:List Int):(Ce l).Perm l:=mergeSort_perm _ _
theorem H4 (l:List Int):(Ce l).length=l.length:=(IJ l).length_eq
theorem Z7 {l:List Int} {x:Int}:x∈Ce l↔x∈l:=(IJ l).mem_iff
theorem AGE {P:Program} {ρ:Go.Shelf.Ren} (LM:SlLaysM.n5 P ρ) (e:TypeId) (v:Value) (n:Nat) (xs:List Int) (hn:n<4611686018427387904):
  Fn P (ρ.f 5) #[v] [At e 1 v n (xs.map AA)] fun u L=>u= .tuple #[]∧L=[At e 1 v n ((Ce xs).map AA)]:=by
 intro F w hs
 have hs':St ((fun h=> ∃y:List Value×(Nat×Nat)×(Option (Nat×Nat)),(y.2.2=none∧v= .slice none 0 0∧n=0∧xs=[])∨(∃b cap,y.2.2=some (b,cap)∧v= .slice (some ⟨b,0,none⟩) n cap∧h b=some (.cells (List.toArray (xs.map AA++y.1)) e y.2.1)∧xs.length=n∧cap≤xs.length+y.1.length∧n≤cap∧V5 y.2.1 0 cap))::F) w:=by
  refine B0 (fun h hp=>?_) hs
  rcases hp with ⟨h1,h2,h3⟩|⟨b,cap,rest,fr,h1,h2,h3,h4,h5,h6⟩
  ·exact ⟨([],(0,0),none), .inl ⟨rfl,h1,h2,by simpa using h3⟩⟩
  ·exact ⟨(rest,fr,some (b,cap)), .inr ⟨b,cap,rfl,h1,h2,by simpa using h3,by simpa using h4,h5,by simpa using h6⟩⟩
 obtain ⟨⟨rest,fr,o⟩,h1,h2,hd,a1,a2,hp,hF⟩:=MJ hs'
 rcases hp with ⟨-,rfl,rfl,rfl⟩|⟨b,cap,-,rfl,p1,p2,p3,p4,p5⟩
 ·refine (AnyM.slices_Sort_int_none LM none 0 w).mono ?_
  rintro e w' ⟨rfl,rfl⟩
  refine ⟨_,_,⟨rfl,rfl⟩,rfl,?_, .refl _⟩
  have e:Ce []=[]:=eq_nil_of_length_eq_zero (mergeSort_perm _ _).length_eq
  rw [e];exact hs
 ·subst p2
  have hb:=a1 _ _ p1
  have hlt:b<w.heap.size:=by
   rcases Nat.lt_or_ge b w.heap.size with h|h
   ·exact h
   ·simp [Array.getElem?_eq_none h] at hb
  have hH:Holds (Value.int .i64) w b 0 xs.toArray:=by
   intro j hj
   have hj':j<xs.length:=by simpa using hj
   have hb':w.heap[b]?=some (.cells (xs.map AA++rest).toArray e fr):=hb
   refine ⟨?_,?_⟩
   ·simp only [World.cell?,hb',Nat.zero_add,Option.isSome_none,Bool.false_eq_true,if_false]
    rw [List.getElem?_toArray,List.getElem?_append_left (by simpa using hj')]
    simp [hj']
   ·have:=p5 j om (by dsimp only at p3 p4 ⊢;omega)
    simp only [World.frozen?,hb',Nat.zero_add]
    simpa using this
  refine (AnyM.slices_Sort_int LM b 0 cap xs w hH hlt hn).mono ?_
  rintro en w' ⟨rfl,k,os,rfl⟩
  refine ⟨_,_,⟨rfl,rfl⟩,rfl,?_,?_⟩
  ·have h2b:h2 b=none:=(hd b).resolve_left (by rw [p1];simp)
   have hsz:(Ce xs).length=xs.length:=by rw [show (Ce xs).length=xs.length from (mergeSort_perm _ _).length_eq]
   have hnew:(grow (putRow (Value.int .i64) (Sort.ahead w k) b 0 (Ce xs).toArray) os).heap[b]?=some (.cells (putCells (Value.int .i64) 0 (Ce xs).toArray (xs.map AA++rest).toArray) e fr):=heap_sortedI _ hb
   have hrow:(putCells (Value.int .i64) 0 (Ce xs).toArray (xs.map AA++rest).toArray)=((Ce xs).map AA++rest).toArray:=by
    apply Array.ext_getElem?
    intro j
    simp only [putCells,Array.getElem?_mapIdx,List.getElem?_toArray,Nat.zero_le,true_and,Nat.zero_add,Nat.sub_zero,size_toArray]
    by_cases hj:j<xs.length
    ·rw [List.getElem?_append_left (by simpa using hj),List.getElem?_append_left (by simpa [hsz] using hj)]
     simp [hj,hsz]
    ·rw [List.getElem?_append_right (by simp;omega),List.getElem?_append_right (by simp [hsz];omega)]
     simp [hj,hsz]
   refine ⟨fun c=>if c=b then some (.cells ((Ce xs).map AA++rest).toArray e fr) else none,h2,fun c=>?_,fun c o e=>?_,fun c o hc=>?_,?_,hF⟩
   ·by_cases e:c=b
    ·exact .inr (e▸h2b)
    ·exact .inl (if_neg e)
   ·by_cases hc:c=b
    ·subst hc;simp at e;subst e;rw [←hrow];exact hnew
    ·simp [hc] at e
   ·have hcb:c≠b:=by rintro rfl;rw [h2b] at hc;cases hc
    have hold:=a2 _ _ hc
    have hclt:c<w.heap.size:=by
     rcases Nat.lt_or_ge c w.heap.size with h|h
     ·exact h
     ·simp [Array.getElem?_eq_none h] at hold
    have:=(grownBy_sortedI (w:=w) (g:=b) (n:=k) (os:=os) (Ce xs).toArray).block c hclt (fun e=>hcb (by simpa using e))
    show (grow (putRow (Value.int .i64) (Sort.ahead w k) b 0 (Ce xs).toArray) os).heap[c]?=_
    rw [this];exact hold
   ·exact .inr ⟨b,cap,rest,fr,rfl,if_pos rfl,by simp [hsz],by simpa [hsz] using p3,p4,by simpa using p5⟩
  ·refine ⟨rfl,rfl,rfl,?_⟩
   show w.heap.size≤((putRow (Value.int .i64) (Sort.ahead w k) b 0 _).heap++os).size
   simp [putRow,mapBlock,Sort.ahead]
open Go Go.RowKit Go.Maps Go.Sort Go.Shelf
abbrev leS:Bs→Bs→Bool:=fun x y=>decide (x≤y)
def sortS (l:List Bs):List Bs:=l.mergeSort leS
theorem AEG {P:Program} {ρ:Ren} (L:SlLaysZ.n7 P ρ) (mb:Option Nat):Fn P (ρ.f 7) #[.map mb] [] fun v Lp=> ∃b,v= .func (.func (ρ.f 10)) #[] #[AD b]∧Lp=[AW b [.map mb] (ρ.t 23)]:=by
 intro F w hs
 refine (callsIn_wide.1 (AnyZ.keys_in L Fence.wide 1 trivial rfl mb w)).mono ?_
 rintro e w' ⟨rfl,rfl⟩
 exact ⟨_,_,⟨_,rfl,rfl⟩,rfl,St.new (L:=F) hs _,As.new _ _⟩
theorem YB {P:Program} {ρ ρs ρm:Ren} (L:SlLaysZ.n7 P ρ) (LS:SlLaysZ.n6 P ρs) (LM:SlLaysM.n6 P ρm) (hm:ρm.f 6=ρs.f 9) (e9:∀args w,(callFunc (ρs.f 9) args).run P w= .ok (.enter (ρs.f 9) args) w) (e10:∀args w,(callFunc (ρ.f 10) args).run P w= .ok (.enter (ρ.f 10) args) w)
    (hk:P.underlying (ρ.t 26)=some .string) {b r:Nat} {T:TypeId} {β:Type} {enc:β→Value} (m:List (Bs×β)) (hnd:(m.map (·.1)).Nodup) (hbd:∀x∈m,x.1.length≤maxLen) (hlen:m.length≤1099511627776):
    Fn P (ρs.f 6) #[.func (.func (ρ.f 10)) #[] #[AD b]] [AW b [.map (some r)] T,mapR r (m.map fun x=>(AF x.1,enc x.2))] fun v Lp=>(∃a c,v= .slice a m.length c)∧
      Lp=[At (ρs.t 26) 1 v m.length (A1 (sortS (m.map (·.1)))),mapR r (m.map fun x=>(AF x.1,enc x.2))]:=by
  intro F w hs
  have hcell:w.cell? ⟨b,0,none⟩=some (.map (some r)):=Ni (l:=[Value.map (some r)]) (St.pt (L:=_) hs) rfl
  obtain ⟨hr1,ar,es,clock,hes,hents,hborn,hnb⟩:=Ae (FH hs)
  have hes':=ar _ _ hes
  have hlen':es.length=m.length:=by have:=congrArg List.length hents;simpa using this
  have hkeys:es.map (fun e=>e.key)=m.map (fun x=>AF x.1):=by
    have:=congrArg (List.map Prod.fst) hents;rw [map_map,map_map] at this;exact this
  let R:Value→Option (DataW Unit×List MemPlace):=fun _=>some (.lit (.bool true),[])
  have hkey:∀x∈es,∃k:Bs,x.key=AF k∧k.length≤maxLen:=by
    intro x hx
    have:x.key∈es.map (fun e=>e.key):=mem_map_of_mem hx
    rw [hkeys] at this
    obtain ⟨y,hy,he⟩:=mem_map.1 this
    exact ⟨y.1,he.symm,hbd y hy⟩
  have hrd:∀x∈es,∀k,x.key=AF k→Go.WideElems.rd P (ρ.t 26) R x=some (.string k, .lit (.bool true)):=by
    intro x hx k hxk
    obtain ⟨k',h1,h2⟩:=hkey x hx
    have:k'=k:=by rw [h1] at hxk;simpa using hxk
    subst this
    have hko:keyOf P (ρ.t 26) x.key=some (.string k'):=by
      rw [hxk];simp [keyOf,hk,mapKey,AF,bs];exact (Bz k').symm▸h2
    unfold Go.WideElems.rd;rw [hko];rfl
  have hown:w.ownsMap P (ρ.t 26) R r m.length (.map ((es.map (Go.WideElems.rg P (ρ.t 26) R)).foldr DataW.insert [])):=by
    refine ⟨es.toArray,clock,hes',⟨?_,⟨by simpa using hborn,by simpa using hnb,?_⟩,?_⟩,by simpa using Nat.le_of_eq hlen',by simp⟩
    · simp only [size_toArray,maxLen];omega
    · have e1:es.toArray.toList.map (·.key)=m.map (fun x=>AF x.1):=by simpa using hkeys
      rw [e1]
      have e2:m.map (fun x=>AF x.1)=(m.map (·.1)).map AF:=by simp
      rw [e2]
      exact pairwise_map.2 (List.Pairwise.imp (fun hne he=>hne (by simpa [AF,bs] using he)) hnd)
    · intro x hx
      have hx':x∈es:=by simpa using hx
      obtain ⟨k,h1,-⟩:=hkey x hx'
      exact ⟨_,hrd x hx' k h1⟩
  have hD:(strKeys (DataW.map ((es.map (Go.WideElems.rg P (ρ.t 26) R)).foldr DataW.insert []))).Perm (m.map (·.1)):=by
    show (((es.map (Go.WideElems.rg P (ρ.t 26) R)).foldr DataW.insert []).map fun p=>Go.strOf p.1).Perm _
    refine (List.Perm.map _ (Go.WideShapes.sorted_perm _)).trans ?_
    have:(es.map (Go.WideElems.rg P (ρ.t 26) R)).map (fun p=>Go.strOf p.1)=m.map (·.1):=by
      have h1:(es.map (Go.WideElems.rg P (ρ.t 26) R)).map (fun p=>Go.strOf p.1)=(es.map (fun e=>e.key)).map (fun v=>match v with| .string s=>s.data.toList|_=>[]):=by
        rw [map_map,map_map]
        refine map_congr_left fun x hx=>?_
        obtain ⟨k,h1,-⟩:=hkey x hx
        simp only [Function.comp,Go.WideElems.rg,hrd x hx k h1,Option.getD_some,Go.strOf,h1]
      rw [h1,hkeys,map_map];rfl
    rw [this]
  have hsize:Maps.size (DataW.map ((es.map (Go.WideElems.rg P (ρ.t 26) R)).foldr DataW.insert []))=m.length:=by
    simp [Maps.size,length_sorted,hlen']
  have hblt:b<w.heap.size:=by
    rcases Nat.lt_or_ge b w.heap.size with h|h
    · exact h
    · simp [World.cell?,Array.getElem?_eq_none h] at hcell
  have hseq:=AnyZ.keys_gives (ρ:=ρ) {L with} Fence.wide 2 trivial rfl om b r m.length _ w hblt hcell hown
  have hsorts:∀k,AnyZ.SortsIn P ρs Fence.wide k:=fun k=>
    ⟨fun blk off cap ss W hH hblk hsz=>by
        rw [←hm];exact callsIn_wide.2 (AnyM.slices_Sort_string LM blk off cap ss W hH hblk hsz),
     fun p cap W=>by rw [←hm];exact callsIn_wide.2 (AnyM.slices_Sort_string_none LM p cap W)⟩
  have hS:=AnyZ.sorted_in LS Fence.wide 5 trivial trivial trivial trivial rfl om (hsorts _) e9 (ρ.f 10) #[AD b] trivial e10 _ _ (by rw [hsize,maxLen];omega) (by rw [hsize];omega) w hseq
  refine (callsIn_wide.1 hS).mono ?_
  rintro e w' ⟨v,ss,rfl,hp,hrow,-,hb⟩
  have hperm:ss.Perm (m.map (·.1)):=hp.trans hD
  have hss:(ss.mergeSort fun x y=>decide (x≤y))=sortS (m.map (·.1)):=mergeSort_of_perm hperm
  have hl:ss.length=m.length:=by rw [hperm.length_eq];simp
  rw [hss,hl] at hrow
  have hshape:∃a c,v= .slice a m.length c:=by
    rcases hrow.2 with ⟨rfl,h0⟩|⟨g,cap,cur,rfl,-⟩
    · exact ⟨_,_,by rw [h0]⟩
    · exact ⟨_,_,rfl⟩
  refine ⟨v,_,⟨hshape,rfl⟩,rfl,?_,As.below hb⟩
  exact St.own (FH hs) hb hrow
theorem Xr (l:List Bs):(sortS l).Perm l:=mergeSort_perm _ _
theorem R3 (l:List Bs):(sortS l).length=l.length:=(Xr l).length_eq
theorem ACv {P:Program} {ρ:Go.Shelf.Ren} (LM:SlLaysM.n6 P ρ) (e:TypeId) (v:Value) (n:Nat) (xs:List Bs) (hn:n<4611686018427387904):
  Fn P (ρ.f 6) #[v] [At e 1 v n (A1 xs)] fun u L=>u= .tuple #[]∧L=[At e 1 v n (A1 (sortS xs))]:=by
 intro F w hs
 have hs':St ((fun h=> ∃y:List Value×(Nat×Nat)×(Option (Nat×Nat)),(y.2.2=none∧v= .slice none 0 0∧n=0∧xs=[])∨(∃b cap,y.2.2=some (b,cap)∧v= .slice (some ⟨b,0,none⟩) n cap∧h b=some (.cells (List.toArray (A1 xs++y.1)) e y.2.1)∧xs.length=n∧cap≤xs.length+y.1.length∧n≤cap∧V5 y.2.1 0 cap))::F) w:=by
  refine B0 (fun h hp=>?_) hs
  rcases hp with ⟨h1,h2,h3⟩|⟨b,cap,rest,fr,h1,h2,h3,h4,h5,h6⟩
  ·exact ⟨([],(0,0),none), .inl ⟨rfl,h1,h2,by simpa using h3⟩⟩
  ·exact ⟨(rest,fr,some (b,cap)), .inr ⟨b,cap,rfl,h1,h2,by simpa using h3,by simpa using h4,h5,by simpa using h6⟩⟩
 obtain ⟨⟨rest,fr,o⟩,h1,h2,hd,a1,a2,hp,hF⟩:=MJ hs'
 rcases hp with ⟨-,rfl,rfl,rfl⟩|⟨b,cap,-,rfl,p1,p2,p3,p4,p5⟩
 ·refine (AnyM.slices_Sort_string_none LM none 0 w).mono ?_
  rintro e w' ⟨rfl,rfl⟩
  refine ⟨_,_,⟨rfl,rfl⟩,rfl,?_, .refl _⟩
  have e:sortS []=[]:=eq_nil_of_length_eq_zero (mergeSort_perm _ _).length_eq
  rw [e];exact hs
 ·subst p2
  have hb:=a1 _ _ p1
  have hlt:b<w.heap.size:=by
   rcases Nat.lt_or_ge b w.heap.size with h|h
   ·exact h
   ·simp [Array.getElem?_eq_none h] at hb
  have hH:Holds encStr w b 0 xs.toArray:=by
   intro j hj
   have hj':j<xs.length:=by simpa using hj
   have hb':w.heap[b]?=some (.cells (A1 xs++rest).toArray e fr):=hb
   refine ⟨?_,?_⟩
   ·simp only [World.cell?,hb',Nat.zero_add,Option.isSome_none,Bool.false_eq_true,if_false]
    rw [List.getElem?_toArray,List.getElem?_append_left (by simpa using hj')]
    simp [hj']
   ·have:=p5 j om (by dsimp only at p3 p4 ⊢;omega)
    simp only [World.frozen?,hb',Nat.zero_add]
    simpa using this
  refine (AnyM.slices_Sort_string LM b 0 cap xs w hH hlt hn).mono ?_
  rintro en w' ⟨rfl,k,os,rfl⟩
  refine ⟨_,_,⟨rfl,rfl⟩,rfl,?_,?_⟩
  ·have h2b:h2 b=none:=(hd b).resolve_left (by rw [p1];simp)
   have hsz:(sortS xs).length=xs.length:=by rw [show (sortS xs).length=xs.length from (mergeSort_perm _ _).length_eq]
   have hnew:(grow (putRow encStr (Sort.ahead w k) b 0 (sortS xs).toArray) os).heap[b]?=some (.cells (putCells encStr 0 (sortS xs).toArray (A1 xs++rest).toArray) e fr):=heap_sorted _ hb
   have hrow:(putCells encStr 0 (sortS xs).toArray (A1 xs++rest).toArray)=(A1 (sortS xs)++rest).toArray:=by
    apply Array.ext_getElem?
    intro j
    simp only [putCells,Array.getElem?_mapIdx,List.getElem?_toArray,Nat.zero_le,true_and,Nat.zero_add,Nat.sub_zero,size_toArray]
    by_cases hj:j<xs.length
    ·rw [List.getElem?_append_left (by simpa using hj),List.getElem?_append_left (by simpa [hsz] using hj)]
     simp [hj,hsz]
    ·rw [List.getElem?_append_right (by simp;omega),List.getElem?_append_right (by simp [hsz];omega)]
     simp [hj,hsz]
   refine ⟨fun c=>if c=b then some (.cells (A1 (sortS xs)++rest).toArray e fr) else none,h2,fun c=>?_,fun c o e=>?_,fun c o hc=>?_,?_,hF⟩
   ·by_cases e:c=b
    ·exact .inr (e▸h2b)
    ·exact .inl (if_neg e)
   ·by_cases hc:c=b
    ·subst hc;simp at e;subst e;rw [←hrow];exact hnew
    ·simp [hc] at e
   ·have hcb:c≠b:=by rintro rfl;rw [h2b] at hc;cases hc
    have hold:=a2 _ _ hc
    have hclt:c<w.heap.size:=by
     rcases Nat.lt_or_ge c w.heap.size with h|h
     ·exact h
     ·simp [Array.getElem?_eq_none h] at hold
    have:=(grownBy_sorted (w:=w) (g:=b) (n:=k) (os:=os) (sortS xs).toArray).block c hclt (fun e=>hcb (by simpa using e))
    show (grow (putRow encStr (Sort.ahead w k) b 0 (sortS xs).toArray) os).heap[c]?=_
    rw [this];exact hold
   ·exact .inr ⟨b,cap,rest,fr,rfl,if_pos rfl,by simp [hsz],by simpa [hsz] using p3,p4,by simpa using p5⟩
  ·refine ⟨rfl,rfl,rfl,?_⟩
   show w.heap.size≤((putRow encStr (Sort.ahead w k) b 0 _).heap++os).size
   simp [putRow,mapBlock,Sort.ahead]
def EE {α:Type} (f:α→Value×Value) (it r:Nat) (m s:List α):HP:=fun h=> ∃(zs ss rest:List (MapEntry×α)) (clock:Nat),
 h r=some (.map (zs.map (·.1)).toArray clock)∧h it=some (.mapIter (some r) clock (ss.map (·.1.born)).toArray clock)∧r≠it∧zs.map (·.2)=m∧
 (∀z∈zs,z.1.born<clock∧(z.1.key,z.1.val)=f z.2)∧(zs.map (·.1.born)).Nodup∧zs.Perm (ss++rest)∧ss.map (·.2)=s
theorem XO {α:Type} {f:α→Value×Value} {it r:Nat} {m s:List α} {h:Hp} (hr:EE f it r m s h):mapR r (m.map f) h:=by
 obtain ⟨zs,ss,rest,clock,h1,h2,h3,h4,h5,h6,h7,h8⟩:=hr
 refine ⟨zs.map (·.1),clock,h1,?_,?_,by rw [map_map];exact h6⟩
 ·subst h4
  rw [map_map,map_map]
  exact map_congr_left fun z hz=>(h5 z hz).2
 ·intro e he
  obtain ⟨z,hz,rfl⟩:=mem_map.1 he
  exact (h5 z hz).1
theorem K3 {α:Type}:∀{l:List α} {j:Nat} (hj:j<l.length),l.Perm (l[j]::l.eraseIdx j):=by
 intro l
 induction l with
 |nil=>intro j hj;simp at hj
 |cons a l ih=>
  intro j hj
  cases j with
  |zero=>simp
  |succ j=>
   simp only [getElem_cons_succ,eraseIdx_cons_succ]
   exact (List.Perm.cons a (ih (by simpa using hj))).trans (List.Perm.swap _ _ _)
section
variable {P:Program} {E:Bi} {L R:List HP} {ty:TypeId} {w:World}
theorem AO.range {α:Type} {f:α→Value×Value} {m:List α} {t kt et:TypeId} {x:Operand} {r:Nat} {ents:List (Value×Value)} (hx:ev E x=some (.map (some r))) (ht:P.underlying t=some (.map kt et)) (he:ents=m.map f):
  AO P ⟨none, .range t x,ty, "",#[],none⟩ E [mapR r ents] fun v L'=> ∃it,v=AD it∧L'=[EE f it r m []]:=by
 intro ρ w F ha hs
 subst he
 obtain ⟨h1,a1,es,c,hb,hes,hbo,hnd⟩:=Ae hs
 have hb':=a1 _ _ hb
 have hlt:r<w.heap.size:=by
  rcases Nat.lt_or_ge r w.heap.size with h|h
  ·exact h
  ·simp [Array.getElem?_eq_none h] at hb'
 have hrun:(execOp ρ ⟨none, .range t x,ty, "",#[],none⟩).run P w= .ok (.value (AD w.heap.size)) {w with heap:=w.heap.push (.mapIter (some r) c #[] c)}:=by
  refine Bn ?_
  show (Instr.range t (ρ x)).run P w=_
  rw [ha x _ hx];exact Go.run_range_map w t kt et r _ _ ht hb'
 unfold DC;rw [hrun]
 refine ⟨_,⟨_,rfl,rfl⟩,?_,As.new _ _⟩
 have hn:=St.new hs (.mapIter (some r) c #[] c)
 obtain ⟨g1,g2,gd,b1,b2,gp,k1,k2,kd,c1,c2,kp,kF⟩:=hn
 have kr:k1 r=some (.map es.toArray c):=by
  obtain ⟨es',c',q1,-⟩:=kp
  have q2:=b2 _ _ (c1 _ _ q1)
  have q3:(w.heap.push (.mapIter (some r) c #[] c))[r]?=some (.map es.toArray c):=by
   rw [Array.getElem?_push_lt hlt];rw [Array.getElem?_eq_getElem hlt] at hb';exact hb'
  have q2':(w.heap.push (.mapIter (some r) c #[] c))[r]?=some (.map es'.toArray c'):=q2
  rw [q3] at q2'
  rw [q1,←q2']
 refine ⟨EV g1 k1,k2,fun b=>?_,fun b o e=>?_,fun b o e=>b2 _ _ (c2 _ _ e),?_,kF⟩
 ·cases e:k2 b with
  |none=>exact .inr rfl
  |some o=>
   refine .inl ?_
   have e1:g1 b=none:=(gd b).resolve_right (by rw [c2 _ _ e];simp)
   have e2:k1 b=none:=(kd b).resolve_right (by rw [e];simp)
   simp [EV,e1,e2]
 ·rcases HD e with e|e
  ·exact b1 _ _ e
  ·exact b2 _ _ (c1 _ _ e)
 ·have hne:r≠w.heap.size:=by omega
  have hgr:g1 r=none:=(gd r).resolve_right (by rw [c1 _ _ kr];simp)
  have hl:es.length=m.length:=by have:=congrArg List.length hes;simpa using this
  refine ⟨es.zip m,[],es.zip m,c,?_,G8 gp,hne,?_,?_,?_,by simp,rfl⟩
  ·rw [map_fst_zip om]
   simp [EV,hgr,kr]
  ·rw [map_snd_zip om]
  ·intro z hz
   refine ⟨hbo _ (of_mem_zip hz).1,?_⟩
   obtain ⟨i,hi,rfl⟩:=mem_iff_getElem.1 hz
   simp only [length_zip] at hi
   have:=congrArg (fun l=>l[i]?) hes
   simp [show i<es.length by omega,show i<m.length by omega] at this
   simpa using this
  ·have:(es.zip m).map (fun z=>z.1.born)=((es.zip m).map (·.1)).map (·.born):=by rw [map_map];rfl
   rw [this,map_fst_zip om];exact hnd
theorem ABi {α:Type} {zs ss rest:List (MapEntry×α)} (hp:zs.Perm (ss++rest)) (hn:(zs.map (·.1.born)).Nodup):(zs.map (·.1)).filter (fun e=> !((ss.map (·.1.born)).toArray.contains e.born))=(zs.filter fun z=> !((ss.map (·.1.born)).contains z.1.born)).map (·.1)∧
  (zs.filter fun z=> !((ss.map (·.1.born)).contains z.1.born)).Perm rest:=by
 constructor
 ·rw [filter_map]
  congr 1
  refine filter_congr fun z _=>?_
  simp
 ·refine (hp.filter _).trans ?_
  rw [filter_append]
  have hn':((ss++rest).map (·.1.born)).Nodup:=(hp.map _).nodup_iff.1 hn
  rw [map_append] at hn'
  obtain ⟨n1,n2,n3⟩:=nodup_append.1 hn'
  have e1:ss.filter (fun z=> !((ss.map (·.1.born)).contains z.1.born))=[]:=by
   rw [filter_eq_nil_iff]
   intro z hz
   have:(ss.map (·.1.born)).contains z.1.born=true:=by rw [contains_eq_mem];exact decide_eq_true (mem_map.2 ⟨z,hz,rfl⟩)
   rw [this];simp
  have e2:rest.filter (fun z=> !((ss.map (·.1.born)).contains z.1.born))=rest:=by
   rw [filter_eq_self]
   intro z hz
   simp only [Bool.not_eq_true',contains_eq_mem,decide_eq_false_iff_not]
   intro hm
   exact n3 _ hm _ (mem_map.2 ⟨z,hz,rfl⟩) rfl
  rw [e1,e2,nil_append]
theorem AO.next {α:Type} {f:α→Value×Value} {m s:List α} {x:Operand} {it r:Nat} (hx:ev E x=some (AD it)):
  AO P ⟨none, .next x false,ty, "",#[],none⟩ E [EE f it r m s] fun v L'=>(v= .tuple #[.bool false]∧m.Perm s∧L'=[EE f it r m s])∨
   ∃y rest,v= .tuple #[.bool true,(f y).1,(f y).2]∧m.Perm (s++y::rest)∧L'=[EE f it r m (s++[y])]:=by
 intro ρ w F ha hs
 obtain ⟨h1,h2,hd,a1,a2,⟨zs,ss,rest,clock,q1,q2,q3,q4,q5,q6,q7,q8⟩,hF⟩:=hs
 have hr:=a1 _ _ q1
 have hi:=a1 _ _ q2
 have hgr:∀{w':World},w'.heap[r]?=some (.map (zs.map (·.1)).toArray clock)→(getObj r).run P w'= .ok (.map (zs.map (·.1)).toArray clock) w':=fun h=>Du h
 have hgi:(getObj it).run P w= .ok (.mapIter (some r) clock (ss.map (·.1.born)).toArray clock) w:=by
  simp only [getObj,Sem.run,hi]
 have hold:∀e∈(zs.map (·.1)).toArray.toList,e.born<clock:=by
  intro e he
  simp only [mem_map] at he
  obtain ⟨z,hz,rfl⟩:=he
  exact (q5 z hz).1
 have htest:=Go.next_test_false (ss.map (·.1.born)).toArray (zs.map (·.1)).toArray clock clock hold (Nat.le_refl _)
 obtain ⟨p1,p2⟩:=ABi q7 q6
 have hleft:(zs.map (·.1)).toArray.filter (fun e=> !(ss.map (·.1.born)).toArray.contains e.born)=((zs.filter fun z=> !((ss.map (·.1.born)).contains z.1.born)).map (·.1)).toArray:=by
  rw [←p1,filter_toArray]
 generalize (zs.filter fun z=> !((ss.map (·.1.born)).contains z.1.born))=lft at p2 hleft
 have hmem:∀z∈lft,z∈zs:=fun z hz=>q7.mem_iff.2 (mem_append_right _ (p2.mem_iff.1 hz))
 have e1:((lft.map (·.1)).toArray).filter (fun x=>decide (x.born<clock))=(lft.map (·.1)).toArray:=by
  apply Array.filter_eq_self.2
  intro e he
  simp only [mem_toArray,mem_map] at he
  obtain ⟨z,hz,rfl⟩:=he
  simpa using (q5 z (hmem z hz)).1
 have e2:((lft.map (·.1)).toArray).filter (fun x=>decide (x.born≥clock))= #[]:=by
  rw [Array.filter_eq_empty_iff]
  intro e he
  simp only [mem_toArray,mem_map] at he
  obtain ⟨z,hz,rfl⟩:=he
  have:=(q5 z (hmem z hz)).1
  simp;omega
 have hstart:(execOp ρ ⟨none, .next x false,ty, "",#[],none⟩).run P w=(do pure (Next.value (←Instr.next (AD it) false ty)):Sem Next).run P w:=by
  show (do pure (Next.value (←Instr.next (ρ x) false ty)):Sem Next).run P w=_
  rw [ha x _ hx]
 by_cases h0:lft=[]
 ·subst h0
  have hrun:(Instr.next (AD it) false ty).run P w= .ok (.tuple #[.bool false]) w:=by
   simp only [Instr.next,Sem.run_bind,hgi,Result.andThen,hgr hr,htest,Bool.false_eq_true,if_false,hleft,e1,e2]
   simp [choose,Sem.run,Question.forced]
  unfold DC
  rw [hstart,Bn hrun]
  refine ⟨_, .inl ⟨rfl,?_,rfl⟩,⟨h1,h2,hd,a1,a2,⟨zs,ss,rest,clock,q1,q2,q3,q4,q5,q6,q7,q8⟩,hF⟩, .refl _⟩
  have:rest=[]:=p2.nil_eq.symm
  subst this
  rw [←q4,←q8]
  simpa using q7.map (·.2)
 ·have hne:((lft.map (·.1)).toArray).isEmpty=false:=by
   cases lft with
   |nil=>exact absurd rfl h0
   |cons a l=>simp
  have hch:∃(j:Nat) (k:Nat),j<lft.length∧(choose (Question.mapNext lft.length)).run P w= .ok j {w with drawn:=w.drawn+k}:=by
   have h0':0<lft.length:=length_pos_iff.2 h0
   by_cases hf:lft.length≤1
   ·exact ⟨0,0,by omega,by simp [choose,Sem.run,Question.forced,hf]⟩
   ·exact ⟨_,1,Nat.mod_lt _ om,by
     simp only [choose,Sem.run,Question.forced,decide_eq_true_eq,hf,if_false,Question.cut]
     rfl⟩
  obtain ⟨j,k,hj,hrunc⟩:=hch
  have hitlt:it<w.heap.size:=by
   rcases Nat.lt_or_ge it w.heap.size with h|h
   ·exact h
   ·simp [Array.getElem?_eq_none h] at hi
  have hrun:(Instr.next (AD it) false ty).run P w= .ok (.tuple #[.bool true,lft[j].1.key,lft[j].1.val]) {w with drawn:=w.drawn+k,heap:=w.heap.setIfInBounds it (.mapIter (some r) clock ((ss.map (·.1.born)).toArray.push lft[j].1.born) clock)}:=by
   simp only [Instr.next,Sem.run_bind,hgi,Result.andThen,hgr hr,htest,Bool.false_eq_true,if_false,hleft,e1,e2]
   simp only [Array.append_empty,hne,Bool.false_eq_true,if_false,Array.empty_append,Array.size_map,size_toArray,length_map,hrunc]
   simp only [Array.getElem?_map,List.getElem?_toArray,List.getElem?_map,List.getElem?_eq_getElem hj,Option.map_some]
   simp only [Sem.run_bind,setObj,Sem.run,hi,Result.andThen]
   rfl
  unfold DC
  rw [hstart,Bn hrun]
  have hz:lft[j]∈lft:=getElem_mem hj
  have hzz:=q5 _ (hmem _ hz)
  have hkv:(f lft[j].2)=(lft[j].1.key,lft[j].1.val):=hzz.2.symm
  have hp3:zs.Perm ((ss++[lft[j]])++lft.eraseIdx j):=by
   refine q7.trans ?_
   rw [append_assoc]
   refine List.Perm.append_left _ (p2.symm.trans ?_)
   have:lft.Perm (lft[j]::lft.eraseIdx j):=K3 hj
   exact this
  refine ⟨[EE f it r m (s++[lft[j].2])], .inr ⟨lft[j].2,(lft.eraseIdx j).map (·.2),by rw [hkv],?_,rfl⟩,?_,⟨rfl,rfl,rfl,by simp⟩⟩
  ·rw [←q4,←q8]
   have:=hp3.map (·.2)
   simpa using this
  ·have h2it:h2 it=none:=(hd it).resolve_left (by rw [q2];simp)
   refine ⟨fun c=>if c=it then some (.mapIter (some r) clock ((ss.map (·.1.born)).toArray.push lft[j].1.born) clock) else h1 c,h2,fun c=>?_,fun c o e=>?_,fun c o e=>?_,?_,hF⟩
   ·by_cases e:c=it
    ·exact .inr (e▸h2it)
    ·simp only [e,if_false];exact hd c
   ·by_cases hc:c=it
    ·subst hc;simp at e;subst e;simp [hitlt]
    ·simp only [hc,if_false] at e
     simp only [Array.getElem?_setIfInBounds,Ne.symm hc,if_false]
     exact a1 _ _ e
   ·have hc:c≠it:=by rintro rfl;rw [h2it] at e;cases e
    simp only [Array.getElem?_setIfInBounds,Ne.symm hc,if_false]
    exact a2 _ _ e
   ·refine ⟨zs,ss++[lft[j]],lft.eraseIdx j,clock,by simp only [q3,if_false];exact q1,by simp,q3,q4,q5,q6,hp3,by simp [q8]⟩
theorem AE.entry {α:Type} {f:α→Value×Value} {m s:List α} {x:Operand} {it r:Nat} {y:α} (hx:ev E x=some (AD it)) (hL:BJ (EE f it r m (s++[y])) L R):
  AE P ⟨none, .entry x,ty, "",#[],none⟩ E L (.tuple #[(f y).1,(f y).2]):=by
 intro ρ w ha hs
 obtain ⟨h1,a1,zs,ss,rest,clock,q1,q2,q3,q4,q5,q6,q7,q8⟩:=Ae (hs.pick hL)
 have hr:=a1 _ _ q1
 have hi:=a1 _ _ q2
 refine Bn ?_
 show (Instr.entry (ρ x)).run P w=_
 rw [ha x _ hx]
 obtain ⟨ss',z,rfl,h8⟩:∃ss' z,ss=ss'++[z]∧z.2=y:=by
  rcases eq_nil_or_concat ss with rfl|⟨ss',z,rfl⟩
  ·simp at q8
  ·refine ⟨ss',z,by simp,?_⟩
   simp at q8
   exact q8.2
 have hz:z∈zs:=q7.mem_iff.2 (by simp)
 have hkv:=(q5 z hz).2
 rw [h8] at hkv
 have hgi:(getObj it).run P w= .ok (.mapIter (some r) clock ((ss'++[z]).map (·.1.born)).toArray clock) w:=by
  simp only [getObj,Sem.run,hi]
 have hback:((ss'++[z]).map (·.1.born)).toArray.back?=some z.1.born:=by simp
 have hf:(zs.map (·.1)).toArray.find? (·.born==z.1.born)=some z.1:=by
  rw [←Array.find?_toList]
  exact Go.find_born z.1 _ (by rw [map_map];exact q6) (mem_map.2 ⟨z,hz,rfl⟩)
 simp only [Instr.entry,Sem.run_bind,hgi,Result.andThen,hback,Du hr,bne_self_eq_false,Bool.false_eq_true,if_false,hf,←hkv]
 rfl
theorem AE.entryE {α:Type} {f:α→Value×Value} {m s:List α} {x:Operand} {it r:Nat} {y:α} {v:Value} (hx:ev E x=some (AD it)) (hL:BJ (EE f it r m (s++[y])) L R) (hv:Value.tuple #[(f y).1,(f y).2]=v):
  AE P ⟨none, .entry x,ty, "",#[],none⟩ E L v:=hv▸AE.entry hx hL
theorem G.rangeDone {W:World} {n:Nat} {ds:List Deferred} {X:Act→World→Prop} {α:Type} {f:α→Value×Value} {m s:List α} {it r:Nat} (hL:BJ (EE f it r m s) L R) (h:G W n ds E (mapR r (m.map f)::R) X):G W n ds E L X:=
 fun a w he hk hs=>h a w he hk (B0 (fun _ hp=>XO hp) (hs.pick hL))
end
structure Nd where
 data:Bs
 acl:List Ac
 st:Ie
instance:DecidableEq Nd:=fun a b=>decidable_of_iff (a.data=b.data∧a.acl=b.acl∧a.st=b.st) ⟨fun ⟨h1,h2,h3⟩=>by cases a;cases b;cases h1;cases h2;cases h3;rfl,fun h=>by rw [h];exact ⟨rfl,rfl,rfl⟩⟩
structure Tr where
 nodes:List (Bs×Nd)
 sess:List (Int×(Int×Bs))
 zx:Int
theorem Tr.ext' {a b:Tr} (h1:a.nodes=b.nodes) (h2:a.sess=b.sess) (h3:a.zx=b.zx):a=b:=by
 cases a;cases b;cases h1;cases h2;cases h3;rfl
def Bm (p:Bs):Prop:=p≠[47]∧BQ p=0
instance (p:Bs):Decidable (Bm p):=inferInstanceAs (Decidable (_∧_))
def AL (τ:Tr) (p:Bs):Prop:=(AC τ.nodes p).isSome=true
instance (τ:Tr) (p:Bs):Decidable (AL τ p):=inferInstanceAs (Decidable (_=_))
def kidN (num zx:Int) (n:Nd):Nd:={n with st:={n.st with cver:=num,pz:=zx}}
def HQ (d:Bs) (num zx:Int) (n:Nd):Nd:={n with data:=d,st:={n.st with ver:=num,mz:=zx}}
def Gd (acl:List Ac) (num:Int) (n:Nd):Nd:={n with acl:=acl,st:={n.st with av:=num}}
def EZ (x:Pt) (zx:Int):Nd:=⟨x.data,x.acl,{st0 with cz:=zx,mz:=zx,pz:=zx,own:=x.own}⟩
def G3 (τ:Tr) (p:Bs) (num zx:Int):Tr:={τ with nodes:=amod τ.nodes p (kidN num zx)}
def A5 (τ:Tr) (x:Pt) (zx:Int):Tr×List Ev:=
 if Bm x.path∧AL τ (AK x.path) then
  (G3 {τ with nodes:=sset τ.nodes x.path (EZ x zx)} (AK x.path) x.num zx,[(if AL τ x.path then 3 else 1,(x.path,zx)),(4,(AK x.path,zx))])
 else (τ,[])
def B6 (x p:Bs):Bool:=decide (x=p)||decide (PG x p)
def IR (τ:Tr) (p:Bs):Tr:={τ with nodes:=τ.nodes.filter fun y=> !B6 y.1 p}
def BS (τ:Tr) (x:Pt) (zx:Int):Tr×List Ev:=
 if Bm x.path then
  (G3 (IR τ x.path) (AK x.path) x.num zx,if AL τ x.path then (2,(x.path,zx))::(if AL (IR τ x.path) (AK x.path) then [(4,(AK x.path,zx))] else []) else [])
 else (τ,[])
def AI (τ:Tr) (x:Pt) (zx:Int):Tr×List Ev:=
 if x.kind=1 then A5 τ x zx
 else if x.kind=2 then BS τ x zx
 else if x.kind=3∧AL τ x.path then ({τ with nodes:=amod τ.nodes x.path (HQ x.data x.num zx)},[(3,(x.path,zx))])
 else if x.kind=4∧AL τ x.path then ({τ with nodes:=amod τ.nodes x.path (Gd x.acl x.num)},[])
 else (τ,[])
def AP (τ:Tr) (zx:Int) (l:List Pt):Tr×List Ev:=l.foldl (fun r x=>((AI r.1 x zx).1,r.2++(AI r.1 x zx).2)) (τ,[])
theorem B2 (τ:Tr) (zx:Int) (l:List Pt) (x:Pt):AP τ zx (l++[x])=((AI (AP τ zx l).1 x zx).1,(AP τ zx l).2++(AI (AP τ zx l).1 x zx).2):=by
 unfold AP;rw [foldl_append];rfl
def Bc (x:Pt):Bool:=decide (x.kind=2)
def dropS (τ:Tr) (id:Int):Tr:={τ with sess:=τ.sess.filter fun y=> !decide (y.1=id)}
def openS (τ:Tr) (id n:Int) (s:Bs):Tr:={τ with sess:=sset τ.sess id (n,s)}
def zxT (τ:Tr) (zx:Int):Tr:={τ with zx:=zx}
def AM (τ0:Tr) (zx:Int) (x:Pt) (subs:List Pt):Tr×(List Ev×Int):=
 let τ:=zxT τ0 zx
 if x.kind=5 then (if 0<x.own then openS τ x.own x.num x.data else τ,([],0))
 else if x.kind=6 then (dropS (AP τ zx (subs.filter Bc)).1 x.own,((AP τ zx (subs.filter Bc)).2,0))
 else if x.kind=7 then ((AP τ zx subs).1,((AP τ zx subs).2,0))
 else if x.kind=8 then (τ,([],x.err))
 else ((AI τ x zx).1,((AI τ x zx).2,0))
def Dv (τ:Tr) (p:Bs):List Bs:=(τ.nodes.filter fun y=> !decide (y.1=[47])&&decide (AK y.1=p)).map fun y=>DL y.1
def NP (τ:Tr) (p:Bs):Option Ie:=(AC τ.nodes p).map fun n=>{n.st with len:=n.data.length,kids:=(Dv τ p).length}
def AX (τ:Tr):List Bs:=τ.nodes.map (·.1)
def AG (τ:Tr) (s:Int):List Bs:=(τ.nodes.filter fun y=> !decide (s=0)&&decide (y.2.st.own=s)).map (·.1)
def BV:Tr:=⟨[([47],⟨[],[(31,[119,111,114,108,100])],st0⟩)],[],0⟩
/-! ### What is always so -/
structure Tr.Ok (τ:Tr) (N:Nat):Prop where
 sorted:BK τ.nodes
 ssorted:BK τ.sess
 few:τ.nodes.length≤N
 able:∀x∈τ.nodes,x.1=[47]∨Bm x.1
 ids:∀x∈τ.sess,1≤x.1
 acls:∀x∈τ.nodes,x.2.acl.length≤1048576
 sfew:τ.sess.length≤N
theorem F0 {p:Bs} (h:p=[47]∨Bm p):p.length≤60:=by
 rcases h with rfl|⟨h1,h2⟩
 ·decide
 ·unfold BQ at h2
  rw [if_neg h1] at h2
  split at h2
  ·cases h2
  ·split at h2
   ·cases h2
   ·omega
theorem Tr.Ok.more {τ:Tr} {N M:Nat} (h:τ.Ok N) (hm:N≤M):τ.Ok M:={h with few:=Nat.le_trans h.few hm,sfew:=Nat.le_trans h.sfew hm}
theorem Nn:BV.Ok 1:=⟨by unfold BK BV;simp,by unfold BK BV;simp,by simp [BV],by simp [BV],by simp [BV],by simp [BV],by simp [BV]⟩
theorem Tr.Ok.zx {τ:Tr} {N:Nat} (h:τ.Ok N) (z:Int):(zxT τ z).Ok N:=⟨h.sorted,h.ssorted,h.few,h.able,h.ids,h.acls,h.sfew⟩
theorem Lq {K β:Type} [DecidableEq K] {l:List (K×β)} {k:K} {f:β→β} {x:K×β} (h:x∈amod l k f):∃y∈l,y.1=x.1∧(x.2=y.2∨(y.1=k∧x.2=f y.2)):=by
 obtain ⟨y,hy,rfl⟩:=mem_map.1 h
 refine ⟨y,hy,?_⟩
 split
 ·rename_i e;exact ⟨rfl, .inr ⟨e,rfl⟩⟩
 ·exact ⟨rfl, .inl rfl⟩
theorem F6 {K β:Type} [LT K] [DecidableEq K] [DecidableLT K] {l:List (K×β)} {k:K} {v:β} {x:K×β} (h:x∈sset l k v):x=(k,v)∨x∈l:=by
 induction l with
 |nil=>simpa [sset] using h
 |cons y l ih=>
  unfold sset at h
  split at h
  ·rcases mem_cons.1 h with rfl|h
   ·exact .inl rfl
   ·exact .inr (mem_cons_of_mem _ h)
  ·split at h
   ·rcases mem_cons.1 h with rfl|h
    ·exact .inl rfl
    ·exact .inr h
   ·rcases mem_cons.1 h with rfl|h
    ·exact .inr mem_cons_self
    ·exact (ih h).imp id (mem_cons_of_mem _)
theorem Tr.Ok.mod {τ:Tr} {N:Nat} (h:τ.Ok N) (p:Bs) (f:Nd→Nd) (hf:∀n,(f n).acl.length≤1048576∨(f n).acl=n.acl):({τ with nodes:=amod τ.nodes p f}:Tr).Ok N:=by
 refine ⟨h.sorted.amod p f,h.ssorted,by show (amod τ.nodes p f).length≤N;rw [E7];exact h.few,fun x hx=>?_,h.ids,fun x hx=>?_,h.sfew⟩
 ·obtain ⟨y,hy,e,-⟩:=Lq hx
  rw [←e];exact h.able y hy
 ·obtain ⟨y,hy,-,e|⟨-,e⟩⟩:=Lq hx
  ·rw [e];exact h.acls y hy
  ·rw [e]
   rcases hf y.2 with g|g
   ·exact g
   ·rw [g];exact h.acls y hy
theorem Tr.Ok.kid {τ:Tr} {N:Nat} (h:τ.Ok N) (p:Bs) (num zx:Int):(G3 τ p num zx).Ok N:=h.mod p _ fun _=> .inr rfl
theorem Tr.Ok.lay {τ:Tr} {N:Nat} (h:τ.Ok N) {p:Bs} (hp:p=[47]∨Bm p) (n:Nd) (hn:n.acl.length≤1048576):({τ with nodes:=sset τ.nodes p n}:Tr).Ok (N+1):=by
 refine ⟨h.sorted.sset CS p n,h.ssorted,?_,fun x hx=>?_,h.ids,fun x hx=>?_,Nat.le_succ_of_le h.sfew⟩
 ·have:=(Lv τ.nodes p n).1
  have:=h.few
  show (sset τ.nodes p n).length≤N+1
  omega
 ·rcases F6 hx with rfl|hx
  ·exact hp
  ·exact h.able x hx
 ·rcases F6 hx with rfl|hx
  ·exact hn
  ·exact h.acls x hx
theorem Tr.Ok.cut {τ:Tr} {N:Nat} (h:τ.Ok N) (p:Bs):(IR τ p).Ok N:=
 ⟨h.sorted.filter _,h.ssorted,Nat.le_trans (length_filter_le _ _) h.few,fun x hx=>h.able x (mem_filter.1 hx).1,h.ids,fun x hx=>h.acls x (mem_filter.1 hx).1,h.sfew⟩
theorem Tr.Ok.part {τ:Tr} {N:Nat} (h:τ.Ok N) (x:Pt) (zx:Int) (hx:x.acl.length≤1048576):(AI τ x zx).1.Ok (N+1):=by
 unfold AI
 split
 ·unfold A5
  split
  ·rename_i g;exact (h.lay (.inr g.1) (EZ x zx) hx).kid _ _ _
  ·exact h.more (Nat.le_add_right N 1)
 split
 ·unfold BS
  split
  ·exact ((h.cut _).kid _ _ _).more (Nat.le_add_right N 1)
  ·exact h.more (Nat.le_add_right N 1)
 split
 ·exact (h.mod x.path (HQ x.data x.num zx) fun _=> .inr rfl).more (Nat.le_add_right N 1)
 split
 ·exact (h.mod x.path (Gd x.acl x.num) fun _=> .inl hx).more (Nat.le_add_right N 1)
 ·exact h.more (Nat.le_add_right N 1)
theorem Tr.Ok.parts {τ:Tr} {N:Nat} (h:τ.Ok N) (zx:Int) (l:List Pt) (hl:∀x∈l,x.acl.length≤1048576):(AP τ zx l).1.Ok (N+l.length):=by
 have key:∀(l:List Pt) (r:Tr×List Ev) (N:Nat),r.1.Ok N→(∀x∈l,x.acl.length≤1048576)→(l.foldl (fun r x=>((AI r.1 x zx).1,r.2++(AI r.1 x zx).2)) r).1.Ok (N+l.length):=by
  intro l
  induction l with
  |nil=>intro r N h _;exact h
  |cons x l ih=>
   intro r N h hl
   rw [foldl_cons]
   refine (ih ((AI r.1 x zx).1,r.2++(AI r.1 x zx).2) (N+1) (h.part x zx (hl x (by simp))) (fun y hy=>hl y (by simp [hy]))).more ?_
   rw [length_cons];omega
 exact key l _ N h hl
theorem Tr.Ok.dropS {τ:Tr} {N:Nat} (h:τ.Ok N) (id:Int):(dropS τ id).Ok N:=
 ⟨h.sorted,h.ssorted.filter _,h.few,h.able,fun x hx=>h.ids x (mem_filter.1 hx).1,h.acls,Nat.le_trans (length_filter_le _ _) h.sfew⟩
theorem Tr.Ok.openS {τ:Tr} {N:Nat} (h:τ.Ok N) {id:Int} (hi:0<id) (n:Int) (s:Bs):(openS τ id n s).Ok (N+1):=by
 refine ⟨h.sorted,h.ssorted.sset XL _ _,Nat.le_succ_of_le h.few,h.able,fun x hx=>?_,h.acls,Nat.le_trans (Lv τ.sess id (n,s)).1 (Nat.succ_le_succ h.sfew)⟩
 rcases F6 hx with rfl|hx
 ·dsimp only;omega
 ·exact h.ids x hx
theorem Tr.Ok.apply {τ:Tr} {N:Nat} (h:τ.Ok N) (zx:Int) (x:Pt) (subs:List Pt) (hx:x.acl.length≤1048576) (hs:∀y∈subs,y.acl.length≤1048576):(AM τ zx x subs).1.Ok (N+1+subs.length):=by
 have h0:=h.zx zx
 unfold AM
 dsimp only
 split
 ·split
  ·rename_i g;exact (h0.openS g _ _).more om
  ·exact h0.more om
 split
 ·refine ((h0.parts zx (subs.filter Bc) fun y hy=>hs y (mem_filter.1 hy).1).dropS _).more ?_
  have:=length_filter_le Bc subs
  omega
 split
 ·exact (h0.parts zx subs hs).more om
 split
 ·exact h0.more om
 ·exact (h0.part x zx hx).more om
abbrev Nm:=Nat×(Value×Nd)
abbrev G2:=List (Bs×Nm)
abbrev KR:=List (Int×(Int×Bs))
def Sz (v:Value) (n:Nd):List Value:=[AF n.data,v,AA n.st.cz,AA n.st.mz,AA n.st.pz,AA n.st.ver,AA n.st.cver,AA n.st.av,AA n.st.own,AA n.st.len,AA n.st.kids]
def G1 (x:Nm):Value:=AD x.1
def ZJ (x:Int×Bs):Value:= .agg #[AA x.1,AF x.2]
def TG (m:G2):List (Value×Value):=m.map fun x=>(AF x.1,G1 x.2)
def Y4 (s:KR):List (Value×Value):=s.map fun x=>(AA x.1,ZJ x.2)
def HB (x:Bs×Nm):HP:=fun h=> ∃_:Unit,CP [AW x.2.1 (Sz x.2.2.1 x.2.2.2) 130,TZ 2 x.2.2.1 x.2.2.2.acl.length (x.2.2.2.acl.flatMap CJ)] h
structure Ey (τ:Tr) (m:G2) (s:KR):Prop where
 keys:(m.map (·.1)).Nodup
 look:∀p,(AC m p).map (fun x:Nm=>x.2.2)=AC τ.nodes p
 skeys:(s.map (·.1)).Nodup
 slook:∀i,AC s i=AC τ.sess i
def AV (t:Nat) (τ:Tr):HP:=fun h=> ∃x:(Nat×Nat)×(G2×KR),Ey τ x.2.1 x.2.2∧CP [AW t [.map (some x.1.1), .map (some x.1.2),AA τ.zx] 123,mapR x.1.1 (TG x.2.1),mapR x.1.2 (Y4 x.2.2),Am HB x.2.1] h
section
variable {W:World} {n:Nat} {ds:List Deferred} {E:Bi} {L R:List HP} {X:Act→World→Prop}
theorem G.trOpen {t:Nat} {τ:Tr} (hL:BJ (AV t τ) L R) (h:∀rn rs m s,Ey τ m s→G W n ds E (AW t [.map (some rn), .map (some rs),AA τ.zx] 123::mapR rn (TG m)::mapR rs (Y4 s)::Am HB m::R) X):G W n ds E L X:=
 G.focus hL (G.open (q:=fun x:(Nat×Nat)×(G2×KR)=>[AW t [.map (some x.1.1), .map (some x.1.2),AA τ.zx] 123,mapR x.1.1 (TG x.2.1),mapR x.1.2 (Y4 x.2.2),Am HB x.2.1]) (φ:=fun x:(Nat×Nat)×(G2×KR)=>Ey τ x.2.1 x.2.2) (fun _ hp=>hp) fun x hx=>h x.1.1 x.1.2 x.2.1 x.2.2 hx)
theorem G.trFold {t rn rs:Nat} {τ:Tr} {m:G2} {s:KR} {l:List Value} {e1 e2:List (Value×Value)} (hI:Ey τ m s) (hL:A4 [AW t l 123,mapR rn e1,mapR rs e2,Am HB m] L R) (hl:l=[.map (some rn), .map (some rs),AA τ.zx]) (h1:e1=TG m) (h2:e2=Y4 s)
  (h:G W n ds E (AV t τ::R) X):G W n ds E L X:=by
 subst hl;subst h1;subst h2
 exact G.fold hL (fun _ hp=>⟨((rn,rs),(m,s)),hI,hp⟩) h
theorem G.trCast {t:Nat} {τ τ':Tr} (hL:BJ (AV t τ) L R) (hw:τ'=τ) (h:G W n ds E (AV t τ'::R) X):G W n ds E L X:=by
 subst hw;exact G.focus hL h
theorem G.ndOpen {x:Bs×Nm} (hL:BJ (HB x) L R) (h:G W n ds E (AW x.2.1 (Sz x.2.2.1 x.2.2.2) 130::TZ 2 x.2.2.1 x.2.2.2.acl.length (x.2.2.2.acl.flatMap CJ)::R) X):G W n ds E L X:=
 G.focus hL (G.open (q:=fun _:Unit=>[AW x.2.1 (Sz x.2.2.1 x.2.2.2) 130,TZ 2 x.2.2.1 x.2.2.2.acl.length (x.2.2.2.acl.flatMap CJ)]) (φ:=fun _=>True) (fun _ hp=>let ⟨u,hs⟩:=hp;⟨u,trivial,hs⟩) fun _ _=>h)
theorem G.ndFold {x:Bs×Nm} {l:List Value} {k:Nat} {v:Value} {ys:List Value} (hL:A4 [AW x.2.1 l 130,TZ 2 v k ys] L R) (hl:l=Sz x.2.2.1 x.2.2.2) (hv:v=x.2.2.1) (hk:k=x.2.2.2.acl.length) (hy:ys=x.2.2.2.acl.flatMap CJ)
  (h:G W n ds E (HB x::R) X):G W n ds E L X:=by
 subst hl;subst hv;subst hk;subst hy
 exact G.fold hL (fun _ hp=>⟨(),hp⟩) h
end
/-! ### C9 keeps it -/
theorem Ey.at {τ:Tr} {m:G2} {s:KR} (h:Ey τ m s) {p:Bs} {x:Nm} (hx:AC m p=some x):AC τ.nodes p=some x.2.2:=by rw [←h.look,hx];rfl
theorem Ey.none_iff {τ:Tr} {m:G2} {s:KR} (h:Ey τ m s) {p:Bs}:AC m p=none↔ ¬AL τ p:=by
 unfold AL;rw [←h.look];cases AC m p<;>simp
theorem Ey.some_iff {τ:Tr} {m:G2} {s:KR} (h:Ey τ m s) {p:Bs} {x:Nm} (hx:AC m p=some x):AL τ p:=by
 unfold AL;rw [←h.look,hx];rfl
theorem Ey.zx {τ:Tr} {m:G2} {s:KR} (h:Ey τ m s) (z:Int):Ey (zxT τ z) m s:=⟨h.keys,h.look,h.skeys,h.slook⟩
theorem Ey.mod {τ:Tr} {m:G2} {s:KR} (h:Ey τ m s) {p:Bs} {x y:Nm} (hx:AC m p=some x) (f:Nd→Nd) (hy:y.2.2=f x.2.2):Ey {τ with nodes:=amod τ.nodes p f} (CF m p y) s:=by
 refine ⟨C6 h.keys _ _,fun q=>?_,h.skeys,h.slook⟩
 show _=AC (amod τ.nodes p f) q
 rw [Fr,Jt,←h.look q]
 by_cases e:q=p
 ·subst e;rw [if_pos rfl,if_pos rfl,hx];simp [hy]
 ·rw [if_neg e,if_neg e]
theorem AAQ {K β:Type} [DecidableEq K] {l:List (K×β)} {k:K} (h:AC l k=none) (f:β→β):amod l k f=l:=by
 have hk:=Fl.1 h
 unfold amod
 conv=>rhs;rw [←map_id l]
 refine map_congr_left fun x hx=>?_
 rw [if_neg (fun e=>hk (mem_map.2 ⟨x,hx,e⟩))];rfl
theorem Ey.kidN {τ:Tr} {m:G2} {s:KR} (h:Ey τ m s) {p:Bs} (hx:AC m p=none) (f:Nd→Nd):({τ with nodes:=amod τ.nodes p f}:Tr)=τ:=by
 have:AC τ.nodes p=none:=by rw [←h.look,hx];rfl
 rw [AAQ this]
theorem Ey.lay {τ:Tr} {m:G2} {s:KR} (h:Ey τ m s) (p:Bs) (x:Nm):Ey {τ with nodes:=sset τ.nodes p x.2.2} (CF m p x) s:=by
 refine ⟨C6 h.keys _ _,fun q=>?_,h.skeys,h.slook⟩
 show _=AC (sset τ.nodes p x.2.2) q
 rw [Fr,J5,←h.look q]
 by_cases e:q=p
 ·subst e;rw [if_pos rfl,if_pos rfl];rfl
 ·rw [if_neg e,if_neg e]
theorem Ey.open {τ:Tr} {m:G2} {s:KR} (h:Ey τ m s) (id n:Int) (c:Bs):Ey (openS τ id n c) m (CF s id (n,c)):=by
 refine ⟨h.keys,h.look,C6 h.skeys _ _,fun i=>?_⟩
 show _=AC (sset τ.sess id (n,c)) i
 rw [Fr,J5,h.slook]
theorem Ey.drop {τ:Tr} {m:G2} {s:KR} (h:Ey τ m s) (id:Int):Ey (dropS τ id) m (Bg s id):=by
 refine ⟨h.keys,h.look,Ea h.skeys _,fun i=>?_⟩
 show _=AC (τ.sess.filter fun y=> !decide (y.1=id)) i
 rw [J7 h.skeys,HZ (fun k=> !decide (k=id)),h.slook]
 by_cases e:i=id
 ·subst e;simp
 ·simp [e]
theorem Ey.perm {τ:Tr} {m:G2} {s:KR} (h:Ey τ m s) {N:Nat} (ho:τ.Ok N):(m.map (·.1)).Perm (AX τ):=by
 refine (perm_ext_iff_of_nodup h.keys (ho.sorted.nodup CS)).2 fun p=>?_
 rw [←Cw,←Cw,←h.look];simp
theorem Ey.len {τ:Tr} {m:G2} {s:KR} (h:Ey τ m s) {N:Nat} (ho:τ.Ok N):m.length=τ.nodes.length:=by
 have:=(h.perm ho).length_eq
 simpa [AX] using this
theorem Ey.sperm {τ:Tr} {m:G2} {s:KR} (h:Ey τ m s) {N:Nat} (ho:τ.Ok N):s.Perm τ.sess:=
 M1 h.skeys (ho.ssorted.nodup XL) h.slook
theorem VP {l:List Bs} (h:l.Pairwise (· < ·)):sortS l=l:=by
 unfold sortS
 refine mergeSort_of_pairwise (h.imp fun hab=>?_)
 simp only [leS,decide_eq_true_eq];exact List.le_of_lt hab
theorem HN {l l':List Bs} (h:l.Perm l'):sortS l=sortS l':=mergeSort_of_perm h
theorem Ey.paths {τ:Tr} {m:G2} {s:KR} (h:Ey τ m s) {N:Nat} (ho:τ.Ok N):sortS (m.map (·.1))=AX τ:=by
 rw [HN (h.perm ho)];exact VP ho.sorted
theorem Ey.plen {τ:Tr} {m:G2} {s:KR} (h:Ey τ m s) {N:Nat} (ho:τ.Ok N):∀x∈m,x.1.length≤60:=fun x hx=>by
 have h1:AC τ.nodes x.1=some x.2.2.2:=h.at (Bu h.keys hx)
 exact F0 (ho.able _ (De h1))
theorem Ey.acl {τ:Tr} {m:G2} {s:KR} (h:Ey τ m s) {N:Nat} (ho:τ.Ok N) {p:Bs} {x:Nm} (hx:AC m p=some x):x.2.2.acl.length≤1048576:=ho.acls _ (De (h.at hx))
theorem Se {m:G2} {p:Bs} {x y:Nm} (h:AC m p=some x) (hp:y.1=x.1):TG (CF m p y)=TG m:=UG h (by simp [G1,hp])
theorem AGN {τ:Tr} {m:G2} {s:KR} (h:Ey τ m s) {q p:Bs}:Ey {τ with nodes:=τ.nodes.filter fun y=> !decide (y.1=q)} (Bg m q) s∧p=p:=by
 refine ⟨⟨Ea h.keys _,fun r=>?_,h.skeys,h.slook⟩,rfl⟩
 show _=AC (τ.nodes.filter fun y=> !decide (y.1=q)) r
 rw [J7 h.keys,HZ (fun k=> !decide (k=q)),←h.look r]
 by_cases e:r=q
 ·subst e;simp
 ·simp [e]
def cutL (τ:Tr) (p:Bs) (l:List Bs):Tr:={τ with nodes:=τ.nodes.filter fun y=> !(decide (y.1∈l)&&B6 y.1 p)}
theorem TO (τ:Tr) (p:Bs):cutL τ p []=τ:=Tr.ext' (filter_eq_self.2 fun _ _=>by simp) rfl rfl
theorem TV (τ:Tr) (p:Bs):cutL τ p (AX τ)=IR τ p:=by
 refine Tr.ext' ?_ rfl rfl
 show τ.nodes.filter _=τ.nodes.filter _
 refine filter_congr fun y hy=>?_
 have:y.1∈AX τ:=mem_map_of_mem hy
 simp [this]
theorem Qs (τ:Tr) {p q:Bs} (l:List Bs) (h:B6 q p=false):cutL τ p (l++[q])=cutL τ p l:=by
 refine Tr.ext' ?_ rfl rfl
 show τ.nodes.filter _=τ.nodes.filter _
 refine filter_congr fun y _=>?_
 by_cases e:y.1=q
 ·rw [e,h];simp
 ·simp [e]
theorem LE (τ:Tr) {p q:Bs} (l:List Bs) (h:B6 q p=true):cutL τ p (l++[q])={cutL τ p l with nodes:=(cutL τ p l).nodes.filter fun y=> !decide (y.1=q)}:=by
 refine Tr.ext' ?_ rfl rfl
 show τ.nodes.filter _=(τ.nodes.filter _).filter _
 rw [filter_filter]
 refine filter_congr fun y _=>?_
 by_cases e:y.1=q
 ·rw [e,h];simp
 ·simp [e]
theorem Ey.del {τ:Tr} {m:G2} {s:KR} (h:Ey τ m s) (q:Bs):Ey {τ with nodes:=τ.nodes.filter fun y=> !decide (y.1=q)} (Bg m q) s:=(AGN (p:=q) h).1
/-! ### Kids -/
theorem OA:∀(c:Bs) {x y:Bs},c++x<c++y↔x<y
 |[],_,_=>Iff.rfl
 |a::c,x,y=>by
  rw [cons_append,cons_append,cons_lt_cons_iff]
  constructor
  ·rintro (h|⟨-,h⟩)
   ·exact absurd h (UInt8.lt_irrefl a)
   ·exact (OA c).1 h
  ·intro h;exact .inr ⟨rfl,(OA c).2 h⟩
def KE (p:Bs):Bs:=p.take (CI p).toNat
theorem IY (c:UInt8) (r:Bs):Ax (c::r)=if c=47 then []::Ax r else match Ax r with
  |h::t=>(c::h)::t
  |[]=>[[c]]:=rfl
theorem Gw {p:Bs} (h:Bm p):0≤CI p∧KE p≠[47]∧p=KE p++47::DL p∧CY (DL p)=true:=by
 obtain ⟨h1,h2⟩:=h
 unfold BQ at h2
 rw [if_neg h1] at h2
 have h3:¬((Ax p).head?≠some []∨(Ax p).length=1∨(Ax p).tail.all CY=false):=by
  intro g;rw [if_pos g] at h2;cases h2
 have hlen:(Ax p).length≠1:=fun e=>h3 (.inr (.inl e))
 have hall:(Ax p).tail.all CY=true:=by
  cases e:(Ax p).tail.all CY with
  |true=>rfl
  |false=>exact absurd (.inr (.inr e)) h3
 have hmem:(47:UInt8)∈p:=by
  apply Decidable.byContradiction
  intro g
  exact hlen (by rw [Kf g];rfl)
 have h0:0≤CI p:=by
  apply Decidable.byContradiction
  intro g
  obtain ⟨i,hi,e⟩:=mem_iff_getElem.1 hmem
  have key:∀n,n≤p.length→Cm p n<0→∀j,j<n→p.getD j 0≠47:=by
   intro n
   induction n with
   |zero=>intro _ _ j hj;omega
   |succ n ih=>
    intro hn hl j hj
    unfold Cm at hl
    split at hl
    ·omega
    ·rename_i hne
     by_cases hjn:j=n
     ·subst hjn;exact hne
     ·exact ih om hl j om
  refine key p.length (Nat.le_refl _) (by show CI p<0;omega) i hi ?_
  rw [getD_eq_getElem?_getD,List.getElem?_eq_getElem hi,Option.getD_some];exact e
 obtain ⟨c1,c2⟩:=VI h0
 have hb:DL p=p.drop ((CI p).toNat+1):=by unfold DL;rw [show (CI p+1).toNat=(CI p).toNat+1 by omega]
 have c3:p=KE p++47::DL p:=by rw [hb];exact c1
 have hsn:∀(a b:Bs),(47:UInt8)∉b→Ax (a++47::b)=Ax a++[b]:=by
  intro a b hb
  induction a with
  |nil=>rw [nil_append,IY,if_pos rfl,Kf hb];rfl
  |cons c a ih=>
   rw [cons_append,IY,IY]
   by_cases hc:c=47
   ·rw [if_pos hc,if_pos hc,ih];rfl
   ·rw [if_neg hc,if_neg hc,ih]
    rcases e:Ax a with _|⟨u,v⟩
    ·exact absurd e (Jr a)
    ·rfl
 have hspl:=hsn (KE p) (DL p) (by rw [hb];exact c2)
 rw [←c3] at hspl
 refine ⟨h0,fun e=>?_,c3,?_⟩
 ·rw [e] at hspl
  rw [hspl] at hall
  have:Ax [47]=[[],[]]:=by decide
  rw [this] at hall
  simp [CY] at hall
 ·rw [hspl] at hall
  rcases e:Ax (KE p) with _|⟨u,v⟩
  ·exact absurd e (Jr _)
  ·rw [e] at hall
   simp at hall
   exact hall.2
theorem G7 {p:Bs} (h:Bm p):AK p=if KE p=[] then [47] else KE p:=by
 obtain ⟨h0,-,h2,-⟩:=Gw h
 unfold AK
 rw [if_neg (by rintro (g|g);omega;exact h.1 g)]
 have hr:=Gr p
 by_cases hz:CI p=0
 ·rw [if_pos hz,if_pos (by unfold KE;rw [hz];rfl)]
 ·rw [if_neg hz,if_neg]
  ·rfl
  ·intro e
   have:=congrArg List.length e
   unfold KE at this
   rw [length_take] at this
   simp only [length_nil] at this
   omega
theorem AIV {a b:Bs} (ha:Bm a) (hb:Bm b) (hp:AK a=AK b):a<b↔DL a<DL b:=by
 obtain ⟨-,a1,a2,-⟩:=Gw ha
 obtain ⟨-,b1,b2,-⟩:=Gw hb
 have e:KE a=KE b:=by
  rw [G7 ha,G7 hb] at hp
  by_cases x:KE a=[]
  ·rw [if_pos x] at hp
   by_cases y:KE b=[]
   ·rw [x,y]
   ·rw [if_neg y] at hp;exact absurd hp.symm b1
  ·rw [if_neg x] at hp
   by_cases y:KE b=[]
   ·rw [if_pos y] at hp;exact absurd hp a1
   ·rw [if_neg y] at hp;exact hp
 constructor
 ·intro h
  rw [a2,b2,e,OA,cons_lt_cons_iff] at h
  rcases h with h|⟨-,h⟩
  ·exact absurd h (UInt8.lt_irrefl _)
  ·exact h
 ·intro h
  rw [a2,b2,e,OA,cons_lt_cons_iff]
  exact .inr ⟨rfl,h⟩
theorem UK {τ:Tr} {N:Nat} (ho:τ.Ok N) (p:Bs):(Dv τ p).Pairwise (· < ·):=by
 unfold Dv
 rw [pairwise_map]
 have hs:(τ.nodes.filter fun y=> !decide (y.1=[47])&&decide (AK y.1=p)).Pairwise (fun x y=>x.1<y.1):=pairwise_map.1 (ho.sorted.filter _)
 refine List.Pairwise.imp_of_mem ?_ hs
 intro x y hx hy hlt
 obtain ⟨x1,x2⟩:=mem_filter.1 hx
 obtain ⟨y1,y2⟩:=mem_filter.1 hy
 simp at x2 y2
 exact (AIV ((ho.able x x1).resolve_left x2.1) ((ho.able y y1).resolve_left y2.1) (by rw [x2.2,y2.2])).1 hlt
def HC (m:G2) (p:Bs):List Bs:=(m.filter fun y=> !decide (y.1=[47])&&decide (AK y.1=p)).map fun y=>DL y.1
theorem Lm {β:Type} (l:List (Bs×β)) (p:Bs):(l.filter fun y=> !decide (y.1=[47])&&decide (AK y.1=p)).map (fun y=>DL y.1)=((l.map (·.1)).filter fun q=> !decide (q=[47])&&decide (AK q=p)).map DL:=by
 rw [filter_map,map_map];rfl
theorem Ey.kids {τ:Tr} {m:G2} {s:KR} (h:Ey τ m s) {N:Nat} (ho:τ.Ok N) (p:Bs):sortS (HC m p)=Dv τ p:=by
 have hp:(HC m p).Perm (Dv τ p):=by
  unfold HC Dv
  rw [Lm,Lm]
  exact ((h.perm ho).filter _).map _
 rw [HN hp];exact VP (UK ho p)
theorem Rb (m:G2) (p:Bs):(HC m p).length≤m.length:=by
 unfold HC;rw [length_map];exact length_filter_le _ _
theorem AGl {K β:Type} [DecidableEq K] {f:K×β→HP} {m:List (K×β)} (k:K) {h:Hp} (hs:Am f m h):Am f (Bg m k) h:=by
 rcases e:AC m k with _|b
 ·rw [Eq e];exact hs
 ·obtain ⟨h1,h2,-,-,a2,-,hp⟩:=U5 e hs
  obtain ⟨g1,g2,-,b1,-,hq,-⟩:=hp
  exact Fu hq fun c o hc=>a2 _ _ (b1 _ _ hc)
theorem G.bigDel {W:World} {n:Nat} {ds:List Deferred} {E:Bi} {L R:List HP} {X:Act→World→Prop} {K β:Type} [DecidableEq K] {f:K×β→HP} {m:List (K×β)} (k:K) (hL:BJ (Am f m) L R) (h:G W n ds E (Am f (Bg m k)::R) X):G W n ds E L X:=
 fun a w he hk hs=>h a w he hk (B0 (fun _ hp=>AGl k hp) (hs.pick hL))
theorem Qb {τ:Tr} {p q:Bs} {num zx:Int}:AL (G3 τ p num zx) q↔AL τ q:=by
 unfold AL G3
 dsimp only
 rw [Jt]
 split
 ·cases AC τ.nodes q<;>simp
 ·exact Iff.rfl
theorem ZA (τ:Tr) (p:Bs):(IR τ p).nodes.length≤τ.nodes.length:=length_filter_le _ _
theorem Nl (τ:Tr) (x:Pt) (zx:Int):(AI τ x zx).2.length≤2:=by
 unfold AI A5 BS
 repeat' split
 all_goals simp
theorem LU (τ:Tr) (zx:Int) (l:List Pt):(AP τ zx l).2.length≤2*l.length:=by
 have key:∀(l:List Pt) (r:Tr×List Ev),(l.foldl (fun r x=>((AI r.1 x zx).1,r.2++(AI r.1 x zx).2)) r).2.length≤r.2.length+2*l.length:=by
  intro l
  induction l with
  |nil=>intro r;simp
  |cons x l ih=>
   intro r
   rw [foldl_cons]
   refine Nat.le_trans (ih _) ?_
   have:=Nl r.1 x zx
   dsimp only
   rw [length_append,length_cons]
   omega
 have:=key l (τ,[])
 simpa [AP] using this
theorem NT {f:Pt→Bool} {l:List Pt} {i:Nat} (hi:i<l.length) (h:f l[i]=true):(l.take (i+1)).filter f=(l.take i).filter f++[l[i]]:=by
 rw [take_succ_eq_append_getElem hi,filter_append];simp [h]
theorem Ot {f:Pt→Bool} {l:List Pt} {i:Nat} (hi:i<l.length) (h:f l[i]=false):(l.take (i+1)).filter f=(l.take i).filter f:=by
 rw [take_succ_eq_append_getElem hi,filter_append];simp [h]
/-! ### Two trees the same -/
instance:DecidableEq Tr:=fun a b=>decidable_of_iff (a.nodes=b.nodes∧a.sess=b.sess∧a.zx=b.zx) ⟨fun ⟨h1,h2,h3⟩=>Tr.ext' h1 h2 h3,fun h=>by rw [h];exact ⟨rfl,rfl,rfl⟩⟩
def A7 (τ:Tr) (p:Bs):Ie:=(NP τ p).getD st0
def OF (τ:Tr) (p:Bs):Bs:=((AC τ.nodes p).map (·.data)).getD []
theorem Ey.stat {τ:Tr} {m:G2} {s:KR} (h:Ey τ m s) {p:Bs} {x:Nm} (hx:AC m p=some x):A7 τ p={x.2.2.st with len:=x.2.2.data.length,kids:=(Dv τ p).length}:=by
 unfold A7 NP;rw [h.at hx];rfl
theorem Ey.stat0 {τ:Tr} {m:G2} {s:KR} (h:Ey τ m s) {p:Bs} (hx:AC m p=none):A7 τ p=st0:=by
 unfold A7 NP;rw [←h.look,hx];rfl
theorem QT {K β γ:Type} [DecidableEq K] {a:List (K×β)} {b:List (K×γ)} (ha:(a.map (·.1)).Nodup) (hl:a.length=b.length) (h:∀x∈a,(AC b x.1).isSome=true) {k:K} (hk:AC a k=none):AC b k=none:=by
 have hsub:∀x∈a.map (·.1),x∈b.map (·.1):=fun x hx=>by
  obtain ⟨y,hy,rfl⟩:=mem_map.1 hx
  exact Cw.1 (h y hy)
 rw [Fl] at hk ⊢
 intro hb
 have h1:=Mw (l:=k::a.map (·.1)) (m:=b.map (·.1)) (nodup_cons.2 ⟨hk,ha⟩) (fun x hx=>by
  rcases mem_cons.1 hx with rfl|hx
  ·exact hb
  ·exact hsub x hx)
 simp at h1
 omega
theorem AGm {τ υ:Tr} {N M:Nat} (hτ:τ.Ok N) (hυ:υ.Ok M) {m n:G2} {s r:KR} (h1:Ey τ m s) (h2:Ey υ n r):τ=υ↔τ.zx=υ.zx∧(∀i,AC s i=AC r i)∧∀p,(AC m p).map (fun x:Nm=>x.2.2)=(AC n p).map (fun x:Nm=>x.2.2):=by
 constructor
 ·rintro rfl
  exact ⟨rfl,fun i=>by rw [h1.slook,h2.slook],fun p=>by rw [h1.look,h2.look]⟩
 ·rintro ⟨e1,e2,e3⟩
  refine Tr.ext' (GB CS hτ.sorted hυ.sorted fun p=>?_) (GB XL hτ.ssorted hυ.ssorted fun i=>?_) e1
  ·rw [←h1.look,←h2.look,e3]
  ·rw [←h1.slook,←h2.slook,e2]
section
variable {P:Program} {W:World} {n:Nat} {ds:List Deferred} {E:Bi} {L R:List HP} {Q:Exit→Act→World→Prop}
theorem IK {ρ:Operand→Value} (ha:KV E ρ):∀(l:List Operand) (us:List Value),l.map (ev E)=us.map some→l.map ρ=us:=by
  intro l
  induction l with
  |nil=>intro us h;cases us with
    |nil=>rfl
    |cons u us=>simp at h
  |cons x l ih=>intro us h;cases us with
    |nil=>simp at h
    |cons u us=>
      simp only [map_cons,List.cons.injEq] at h ⊢
      exact ⟨ha _ _ h.1,ih us h.2⟩
theorem AO.callV {f:FuncId} {fn:Func} {c:Code} {x:Operand} {xs:Array Operand} {ts:Array TypeId} {ty:TypeId} {us vs ws:List Value} {pre:List HP} {post:Value→List HP→Prop}
  (hf:P.funcs[f]?=some fn) (hb:fn.body=some c) (hnm:(fn.name== "runtime.NumGoroutine")=false) (hv:ev E x=some (.func (.func f) us.toArray ws.toArray)) (hx:xs.toList.map (ev E)=vs.map some) (h:Fn P f (us++vs++ws).toArray pre post):
  AO P ⟨none, .call {callee:= .value x,args:=xs,argTypes:=ts},ty, "",#[],none⟩ E pre post:=by
 intro ρ w F ha hs
 have hvs:xs.map ρ=vs.toArray:=by
  apply Array.ext'
  rw [Array.toList_map]
  exact IK ha _ _ hx
 have hfn:ρ x= .func (.func f) us.toArray ws.toArray:=ha x _ hv
 unfold DC
 have:(execOp ρ ⟨none, .call {callee:= .value x,args:=xs,argTypes:=ts},ty, "",#[],none⟩).run P w= .ok (.enter f (us++vs++ws).toArray) w:=by
  have hnm':¬fn.name= "runtime.NumGoroutine" :=by simpa using hnm
  simp [execOp,resolve,hfn,Deferred.ofValue,invoke,callFunc,program,Bind.bind,Sem.bind,Pure.pure,Sem.run,hf,hb,hnm',hvs]
 rw [this]
 refine (h F w hs).mono ?_
 rintro e w' ⟨v,L,hv',he,hs',hk⟩
 exact ⟨v,he,L,hv',hs',hk⟩
/-! ### Results -/
def H7 (tmps:Array Value):ResultVar→Sem Value
 | .tmp t=>pure (tmps.getD t undef)
 | .cell a t=>do loadVar t (←asAddr (tmps.getD a undef))
def KC (P:Program) (E:Bi) (L:List HP) (r:ResultVar) (v:Value):Prop:= ∀(tmps:Array Value) (w:World),(∀t v,look E t=some v→tmps[t]?=some v)→St L w→(H7 tmps r).run P w= .ok v w
theorem TA {tmps:Array Value} {t:Nat} {v:Value} (h:tmps[t]?=some v):tmps.getD t undef=v:=by simp [h]
theorem KC.tmp {t:Nat} {v:Value} (h:look E t=some v):KC P E L (.tmp t) v:=fun tmps w ht _=>by
 show (pure (tmps.getD t undef):Sem Value).run P w=_
 rw [TA (ht _ _ h)];rfl
theorem KC.cell {a t:Nat} {b off:Nat} {l:List Value} {T:TypeId} {fr:Nat×Nat} {v:Value} (h:look E a=some (.pointer (some ⟨b,off,none⟩))) (hp:A9 P t=some none) (hL:BJ (pt b (.cells l.toArray T fr)) L R) (hv:l[off]?=some v):
  KC P E L (.cell a t) v:=fun tmps w ht hs=>by
 show (do loadVar t (←asAddr (tmps.getD a undef)):Sem Value).run P w=_
 rw [TA (ht _ _ h)]
 show (loadVar t ⟨b,off,none⟩).run P w=_
 exact H3 hp (hs.pick hL).pt hv
theorem KC.cellA {a t:Nat} {b off k:Nat} {l vs:List Value} {T:TypeId} {fr:Nat×Nat} (h:look E a=some (.pointer (some ⟨b,off,none⟩))) (hp:A9 P t=some (some k)) (hL:BJ (pt b (.cells l.toArray T fr)) L R) (hc:off+k≤l.length) (hv:(l.drop off).take k=vs):
  KC P E L (.cell a t) (.agg vs.toArray):=fun tmps w ht hs=>by
 show (do loadVar t (←asAddr (tmps.getD a undef)):Sem Value).run P w=_
 rw [TA (ht _ _ h)]
 show (loadVar t ⟨b,off,none⟩).run P w=_
 rw [←hv];exact GP hp (hs.pick hL).pt hc
theorem Kx (fn:Func) (tmps:Array Value):results fn tmps=(do let vs ←fn.results.mapM (H7 tmps);pure (if h:vs.size=1 then vs[0] else .tuple vs):Sem Value):=by
 unfold results
 have e:(fun r:ResultVar=>(match r with| .tmp t=>pure (tmps.getD t undef)| .cell a t=>do loadVar t (←asAddr (tmps.getD a undef)):Sem Value))=H7 tmps:=by
  funext r;cases r<;>rfl
 rw [←e]
 rfl
theorem Q2 {fn:Func} {r:ResultVar} {tmps:Array Value} {w:World} {v:Value} (hl:fn.results= #[r]) (h:(H7 tmps r).run P w= .ok v w):(results fn tmps).run P w= .ok v w:=by
 simp [Kx,hl,Sem.run_bind,Result.andThen,h]
theorem ABh {fn:Func} {r s:ResultVar} {tmps:Array Value} {w:World} {v u:Value} (hl:fn.results= #[r,s]) (h:(H7 tmps r).run P w= .ok v w) (h':(H7 tmps s).run P w= .ok u w):(results fn tmps).run P w= .ok (.tuple #[v,u]) w:=by
 simp [Kx,hl,Sem.run_bind,Result.andThen,h,h']
theorem Zy {fn:Func} {r s q:ResultVar} {tmps:Array Value} {w:World} {v u z:Value} (hl:fn.results= #[r,s,q]) (h:(H7 tmps r).run P w= .ok v w) (h':(H7 tmps s).run P w= .ok u w) (h'':(H7 tmps q).run P w= .ok z w):(results fn tmps).run P w= .ok (.tuple #[v,u,z]) w:=by
 simp [Kx,hl,Sem.run_bind,Result.andThen,h,h',h'']
theorem G.done1 {fn:Func} {post:Value→List HP→Prop} {F:List HP} {L':List HP} {r:ResultVar} {v:Value} (hl:fn.results= #[r]) (hr:KC P E L r v) (hp:post v L') (hL:A4 L' L R) (hF:IX F R):G W n [] E L (FnQ P fn post F W .ret):=by
 intro a w he hk hs
 exact ⟨he.defers,v,Q2 hl (hr _ _ he.slots hs),v,L',hp,rfl,hF.st (hs.picks hL),hk⟩
theorem G.done2 {fn:Func} {post:Value→List HP→Prop} {F:List HP} {L':List HP} {r s:ResultVar} {v u:Value} (hl:fn.results= #[r,s]) (hr:KC P E L r v) (hr':KC P E L s u) (hp:post (.tuple #[v,u]) L') (hL:A4 L' L R) (hF:IX F R):G W n [] E L (FnQ P fn post F W .ret):=by
 intro a w he hk hs
 exact ⟨he.defers,_,ABh hl (hr _ _ he.slots hs) (hr' _ _ he.slots hs),_,L',hp,rfl,hF.st (hs.picks hL),hk⟩
theorem G.done3 {fn:Func} {post:Value→List HP→Prop} {F:List HP} {L':List HP} {r s q:ResultVar} {v u z:Value} (hl:fn.results= #[r,s,q]) (hr:KC P E L r v) (hr':KC P E L s u) (hr'':KC P E L q z) (hp:post (.tuple #[v,u,z]) L') (hL:A4 L' L R) (hF:IX F R):G W n [] E L (FnQ P fn post F W .ret):=by
 intro a w he hk hs
 exact ⟨he.defers,_,Zy hl (hr _ _ he.slots hs) (hr' _ _ he.slots hs) (hr'' _ _ he.slots hs),_,L',hp,rfl,hF.st (hs.picks hL),hk⟩
/-! ### Deferred calls -/
def AJw (P:Program) (fn:Func) (post:Value→List HP→Prop) (F:List HP) (W:World):Exit→Act→World→Prop:=
 bodyPostD P fn fun e w'=> ∃v L,post v L∧e= .returned v∧St (L++F) w'∧As W w'
def FnD (P:Program) (f:FuncId) (args:Array Value) (pre:List HP) (post:Value→List HP→Prop):Prop:=
 ∀(F:List HP) (w:World) (u:FrameMode),St (pre++F) w→CallsD P f args u w fun e u' w'=>u'=u∧∃v L,post v L∧e= .returned v∧St (L++F) w'∧As w w'
theorem FnD.intro {f:FuncId} {fn:Func} {c:Code} {vs:List Value} {pre:List HP} {post:Value→List HP→Prop} {n:Nat}
  (hf:P.funcs[f]?=some fn) (hb:fn.body=some c) (hn:vs.length+(fn.ntmps-vs.length)=n)
  (h:∀F W,G W n [] (W0 0 vs) (pre++F) (c.wp P (FnQ P fn post F W))):FnD P f vs.toArray pre post:=by
 intro F w u hs
 refine callsD_of_wp hf hb (h F w _ w ⟨?_,rfl,fun t v hl=>?_⟩ (.refl w) hs)
 ·simp [←hn]
 ·obtain ⟨-,h2⟩:=Js _ _ _ _ hl
  have hlt:t<vs.length:=by
   rcases Nat.lt_or_ge t vs.length with h|h
   ·exact h
   ·simp [List.getElem?_eq_none h] at h2
  simp only [Nat.sub_zero] at h2
  rw [List.getElem?_eq_getElem hlt] at h2
  simp only [Option.some.injEq] at h2
  simp [Array.getElem?_append,hlt,h2]
theorem Fn.introD {f:FuncId} {fn:Func} {c:Code} {vs:List Value} {pre:List HP} {post:Value→List HP→Prop} {n:Nat}
    (hf:P.funcs[f]?=some fn) (hb:fn.body=some c) (hn:vs.length+(fn.ntmps-vs.length)=n)
    (h:∀F W,G W n [] (W0 0 vs) (pre++F) (c.wp P (AJw P fn post F W))):Fn P f vs.toArray pre post:=by
  intro F w hs
  refine calls_of_wp_defers hf hb (h F w _ w ⟨?_,Y,fun t v hl=>?_⟩ (.refl w) hs)
  · simp [←hn]
  obtain ⟨-,h2⟩:=Js _ _ _ _ hl
  have hlt:t<vs.length:=by
    rcases Nat.lt_or_ge t vs.length with h|h
    · exact h
    simp [List.getElem?_eq_none h] at h2
  simp only [Nat.sub_zero] at h2
  rw [List.getElem?_eq_getElem hlt] at h2
  simp only [Option.some.injEq] at h2
  simp [Array.getElem?_append,hlt,h2]
theorem G.defer {ops:Array Oper} {f:FuncId} {xs:Array Operand} {ts:Array TypeId} {ty:TypeId} {pos:String} {aft:Array Edge} {rest:List Oper} {vs:List Value} (hx:xs.toList.map (ev E)=vs.map some)
  (h:G W n ({target:= .fn (.func f) #[],args:=vs.toArray}::ds) E L (wpList P ops Q rest)):G W n ds E L (wpList P ops Q (⟨none, .defer {callee:= .value (.func f),args:=xs,argTypes:=ts},ty,pos,aft,none⟩::rest)):=by
 intro a w he hk hs
 refine wpList_plain rfl fun K' hK'=>?_
 have hvs:xs.map a.eval=vs.toArray:=by
  apply Array.ext'
  rw [Array.toList_map]
  exact IK he.agrees _ _ hx
 have hfn:a.eval (.func f)= .func (.func f) #[] #[]:=rfl
 have hrun:(execOp a.eval ⟨none, .defer {callee:= .value (.func f),args:=xs,argTypes:=ts},ty,pos,aft,none⟩).run P w= .ok (.defer {target:= .fn (.func f) #[],args:=vs.toArray}) w:=by
  simp [execOp,resolve,hfn,Deferred.ofValue,Bind.bind,Sem.bind,Pure.pure,Sem.run,hvs]
 unfold Oper.wp
 rw [hrun,Oper.upon_defer]
 refine hK' _ _ (h _ _ ⟨he.size,by show _::a.defers=_;rw [he.defers],he.slots⟩ hk hs)
theorem G.doneD {fn gn:Func} {gc:Code} {g:FuncId} {vs:List Value} {post postD:Value→List HP→Prop} {F preD:List HP} (hf:P.funcs[g]?=some gn) (hb:gn.body=some gc) (hnm:(gn.name== "runtime.NumGoroutine")=false)
  (hd:FnD P g vs.toArray preD postD) (hL:A4 preD L R) (h:∀u L',postD u L'→G W n [] E (L'++R) (FnQ P fn post F W .ret)):
  G W n [{target:= .fn (.func g) #[],args:=vs.toArray}] E L (AJw P fn post F W .ret):=by
 intro a w he hk hs
 show Leaves P fn a.tmps _ a.defers .returning w
 rw [he.defers]
 have hi:(invoke (.fn (.func g) #[]) vs.toArray).run P w= .ok (.enter g vs.toArray) w:=by
  have hnm':¬gn.name= "runtime.NumGoroutine" :=by simpa using hnm
  simp [invoke,callFunc,program,Bind.bind,Sem.bind,Pure.pure,Sem.run,hf,hb,hnm']
 refine leaves_cons (by simp) hi ((hd R w .returning (hs.picks hL)).mono ?_)
 rintro e u' w' ⟨rfl,v,L',hv,rfl,hs',hk'⟩
 obtain ⟨-,v',hr,hR⟩:=h v L' hv {a with defers:=[]} w' ⟨he.size,rfl,he.slots⟩ (hk.trans hk') hs'
 exact ⟨v',hr,hR⟩
end
section
variable {P:Program} {W:World} {n:Nat} {ds:List Deferred} {E:Bi} {L R:List HP} {Q:Exit→Act→World→Prop} {next:Act→World→Prop}
theorem G.d1 {fn:Func} {post:Value→List HP→Prop} {F:List HP} {L':List HP} {r:ResultVar} {v:Value} (hl:fn.results= #[r]) (hr:KC P E L r v) (hp:post v L') (hL:A4 L' L R:=by repeat' constructor) (hF:IX F R:=by repeat' constructor):G W n [] E L (FnQ P fn post F W .ret):=G.done1 hl hr hp hL hF
theorem G.d2 {fn:Func} {post:Value→List HP→Prop} {F:List HP} {L':List HP} {r s:ResultVar} {v u:Value} (hl:fn.results= #[r,s]) (hr:KC P E L r v) (hr':KC P E L s u) (hp:post (.tuple #[v,u]) L') (hL:A4 L' L R:=by repeat' constructor) (hF:IX F R:=by repeat' constructor):G W n [] E L (FnQ P fn post F W .ret):=G.done2 hl hr hr' hp hL hF
end
section
variable {P:Program} {E:Bi} {L R:List HP} {ty:TypeId} {w:World}
abbrev M6 (it:Nat) (s:List UInt8) (pos:Nat):HP:=pt it (.stringIter (bs s) pos)
theorem AO.rangeS {t:TypeId} {x:Operand} {s:List UInt8} (hx:ev E x=some (AF s)) (ht:P.underlying t=some .string):
  AO P ⟨none, .range t x,ty, "",#[],none⟩ E [] fun v L'=> ∃it,v=AD it∧L'=[M6 it s 0]:=by
 intro ρ w F ha hs
 have hrun:(execOp ρ ⟨none, .range t x,ty, "",#[],none⟩).run P w= .ok (.value (AD w.heap.size)) {w with heap:=w.heap.push (.stringIter (bs s) 0)}:=by
  refine Bn ?_
  show (Instr.range t (ρ x)).run P w=_
  rw [ha x _ hx];exact run_range_string w t _ ht
 unfold DC;rw [hrun]
 exact ⟨_,⟨_,rfl,rfl⟩,St.new hs _,As.new _ _⟩
theorem AO.nextS {x:Operand} {it pos:Nat} {s:List UInt8} (hx:ev E x=some (AD it)):
  AO P ⟨none, .next x true,ty, "",#[],none⟩ E [M6 it s pos] fun v L'=>(v= .tuple #[.bool false]∧¬pos<s.length∧L'=[M6 it s pos])∨
   (pos<s.length∧v= .tuple #[.bool true,AA pos, .int .i32 (Utf8.decode (bs s) pos).1]∧L'=[M6 it s (pos+(Utf8.decode (bs s) pos).2)]):=by
 intro ρ w F ha hs
 have hk:w.heap[it]?=some (.stringIter (bs s) pos):=St.pt (L:=F) hs
 by_cases h:pos<s.length
 ·have hrun:(execOp ρ ⟨none, .next x true,ty, "",#[],none⟩).run P w= .ok (.value (.tuple #[.bool true,AA pos, .int .i32 (Utf8.decode (bs s) pos).1])) (upd w it (.stringIter (bs s) (pos+(Utf8.decode (bs s) pos).2))):=by
   refine Bn ?_
   show (Instr.next (ρ x) true ty).run P w=_
   rw [ha x _ hx];exact Go.Lib.run_next_any_at w it (bs s) pos ty hk (by rw [Bz];exact h)
  unfold DC;rw [hrun]
  exact ⟨_, .inr ⟨h,rfl,rfl⟩,St.upd (L:=F) hs,As.upd _ _ _⟩
 ·have hrun:(execOp ρ ⟨none, .next x true,ty, "",#[],none⟩).run P w= .ok (.value (.tuple #[.bool false])) w:=by
   refine Bn ?_
   show (Instr.next (ρ x) true ty).run P w=_
   rw [ha x _ hx];exact Go.Lib.run_next_end_at w it (bs s) pos ty hk (by rw [Bz];exact h)
  unfold DC;rw [hrun]
  exact ⟨_, .inl ⟨rfl,h,rfl⟩,hs,As.refl _⟩
theorem PU {s:List UInt8} {pos:Nat} (h:pos<s.length) (hc:(s[pos]).toNat<128):Utf8.decode (bs s) pos=((s[pos]).toNat,1):=
 decode_ascii (bs s) pos (by rw [Bz];exact h) hc
theorem AI5 {s:List UInt8} {pos:Nat} (h:pos<s.length):(bs s).get! (pos+0)=s[pos]:=by
 show (bs s).get! pos=_
 show s.toArray[pos]! =_
 rw [getElem!_pos s.toArray pos (by simpa using h)]
 simp
theorem NF {s:List UInt8} {pos:Nat} (h:pos<s.length) (hc:¬(s[pos]).toNat<128):128≤(Utf8.decode (bs s) pos).1∧1≤(Utf8.decode (bs s) pos).2:=by
 have e:=AI5 h
 simp only [Utf8.decode,e]
 rw [if_neg hc]
 repeat' split
 all_goals first|(simp_all [Utf8.runeError];done)|(refine ⟨?_,?_⟩<;>simp_all [Utf8.runeError]<;>omega)
abbrev AFl (it:Nat):HP:=pt it (.mapIter none 0 #[] 0)
theorem AO.rangeNil {t kt et:TypeId} {x:Operand} (hx:ev E x=some (.map none)) (ht:P.underlying t=some (.map kt et)):
  AO P ⟨none, .range t x,ty, "",#[],none⟩ E [] fun v L'=> ∃it,v=AD it∧L'=[AFl it]:=by
 intro ρ w F ha hs
 have hrun:(execOp ρ ⟨none, .range t x,ty, "",#[],none⟩).run P w= .ok (.value (AD w.heap.size)) {w with heap:=w.heap.push (.mapIter none 0 #[] 0)}:=by
  refine Bn ?_
  show (Instr.range t (ρ x)).run P w=_
  rw [ha x _ hx];exact run_range_nilMap w t kt et ht
 unfold DC;rw [hrun]
 exact ⟨_,⟨_,rfl,rfl⟩,St.new hs _,As.new _ _⟩
theorem AO.nextNil {x:Operand} {it:Nat} (hx:ev E x=some (AD it)):
  AO P ⟨none, .next x false,ty, "",#[],none⟩ E [AFl it] fun v L'=>v= .tuple #[.bool false]∧L'=[AFl it]:=by
 intro ρ w F ha hs
 have hk:w.heap[it]?=some (.mapIter none 0 #[] 0):=St.pt (L:=F) hs
 have hrun:(execOp ρ ⟨none, .next x false,ty, "",#[],none⟩).run P w= .ok (.value (.tuple #[.bool false])) w:=by
  refine Bn ?_
  show (Instr.next (ρ x) false ty).run P w=_
  rw [ha x _ hx]
  simp only [Instr.next,getObj,Sem.run_bind,Sem.run,hk,Result.andThen]
  rfl
 unfold DC;rw [hrun]
 exact ⟨_,⟨rfl,rfl⟩,hs,As.refl _⟩
theorem AE.extern {f:FuncId} {fn:Func} {e:Array Value→Sem Value} {xs:Array Operand} {ts:Array TypeId} {vs:List Value} {v:Value} (hf:P.funcs[f]?=some fn) (hnm:(fn.name== "runtime.NumGoroutine")=false) (hb:fn.body.isNone=true) (hn:Extern.findNext fn=none) (he:Extern.find fn=some e)
  (hx:xs.toList.map (ev E)=vs.map some) (hr:∀w,(e vs.toArray).run P w= .ok v w):AE P ⟨none, .call {callee:= .value (.func f),args:=xs,argTypes:=ts},ty, "",#[],none⟩ E L v:=by
 intro ρ w ha _
 have hv:xs.map ρ=vs.toArray:=by
  apply Array.ext'
  rw [Array.toList_map]
  exact IK ha _ _ hx
 have hfn:ρ (.func f)= .func (.func f) #[] #[]:=ha (.func f) _ rfl
 have e1:(execOp ρ ⟨none, .call {callee:= .value (.func f),args:=xs,argTypes:=ts},ty, "",#[],none⟩).run P w=(callFunc f vs.toArray).run P w:=by
  simp [execOp,resolve,hfn,Deferred.ofValue,invoke,program,Bind.bind,Sem.bind,Pure.pure,Sem.run,hv]
 rw [e1,run_callFunc_extern hf hnm hb hn he,hr]
 rfl
theorem Zk (s:List UInt8) (w:World):(Extern.BytealgCount.count #[AF s, .int .u8 47]).run P w= .ok (AA (s.count 47:Nat)) w:=by
 rw [show AF s= .string (bs s) from rfl,Go.Lib.run_countString];rfl
def Py:List UInt8→Int
 |[]=> -1
 |b::l=>if b=47 then 0 else if Py l= -1 then -1 else Py l+1
theorem AHw (s:List UInt8):Go.Lib.indexByte s 47=Py s:=by
 induction s with
 |nil=>rfl
 |cons b l ih=>
  unfold Go.Lib.indexByte Py
  rw [ih]
  simp
theorem AA0 (s:List UInt8) (w:World):(Extern.BytealgIndexByte.indexByte #[AF s, .int .u8 47]).run P w= .ok (AA (Py s)) w:=by
 rw [show AF s= .string (bs s) from rfl,Go.Lib.run_indexByteString]
 rw [show (bs s).data.toList=s from rfl,show (47:Int).toNat.toUInt8=47 from rfl,AHw]
theorem AGv {s:List UInt8} (h:(47:UInt8)∈s):∃k:Nat,Py s=k∧k<s.length∧s=s.take k++47::s.drop (k+1)∧(47:UInt8)∉s.take k:=by
 induction s with
 |nil=>cases h
 |cons b l ih=>
  unfold Py
  by_cases hb:b=47
  ·subst hb
   exact ⟨0,by rw [if_pos rfl];rfl,by simp,by simp,by simp⟩
  ·have hl:(47:UInt8)∈l:=by
    rcases mem_cons.1 h with h|h
    ·exact absurd h.symm hb
    ·exact h
   obtain ⟨k,e1,e2,e3,e4⟩:=ih hl
   refine ⟨k+1,?_,by simp;omega,?_,?_⟩
   ·rw [if_neg hb,e1,if_neg om];omega
   ·simp only [take_succ_cons,drop_succ_cons,cons_append]
    rw [←e3]
   ·simp only [take_succ_cons,mem_cons,not_or]
    exact ⟨fun e=>hb e.symm,e4⟩
end
section
variable {P:Program} {W:World} {n:Nat} {ds:List Deferred} {E:Bi} {L:List HP}
theorem G.joinM {X Y:Act→World→Prop} {ts:List Nat} {K:Bi} {t:Nat} {φ:Prop} [Decidable φ] (_:RI ts E K) (w:(∀{E2:Bi},φ→Is ((t, .bool true)::K) E2→G W n ds E2 L X)→(∀{E2:Bi},¬φ→Is ((t, .bool false)::K) E2→G W n ds E2 L X)→G W n ds E L Y) (k:G W n ds ((t, .bool (decide φ))::K) L X):G W n ds E L Y:=
 w (fun {E2} h hs=>G.env _ hs (by rw [decide_eq_true h] at k;exact k)) (fun {E2} h hs=>G.env _ hs (by rw [decide_eq_false h] at k;exact k))
theorem G.midD {X:Act→World→Prop} {t:Nat} {φ ψ:Prop} [Decidable ψ] {E2:Bi} (JT:∀{E2:Bi},φ→Is ((t, .bool true)::E) E2→G W n ds E2 L X) (JF:∀{E2:Bi},¬φ→Is ((t, .bool false)::E) E2→G W n ds E2 L X) (hs:Is ((t, .bool (decide ψ))::E) E2) (h:ψ↔φ):G W n ds E2 L X:=by
 by_cases g:ψ
 ·exact JT (h.1 g) (by rw [decide_eq_true g] at hs;exact hs)
 ·exact JF (fun f=>g (h.2 f)) (by rw [decide_eq_false g] at hs;exact hs)
end
theorem Nf (s:Bs):Fn prog 335 #[AF s, .int .u8 47] [] fun v L=>v=AA (Py s)∧L=[]:=by
 refine Fn.intro func335 Y Y fun F W=>?_
 refine Z ?_
 refine .q (.extern (e:=Extern.BytealgIndexByte.indexByte) (vs:=[_, .int .u8 47]) func345 kQ kQ kQ kQ Y (fun w=>AA0 s w)) Y (Z ?_)
 exact .vv
theorem Ta (s:Bs):Fn prog 316 #[AF s,AF [47]] [] fun v L=>v=AA (Py s)∧L=[]:=by
 refine Fn.intro func316 Y Y fun F W=>?_
 refine Z ?_
 refine .condD Y (fun h16=>?_) (fun h16=>?_)
 ·refine Z ?_
  exact .dn Y Y ⟨by have e:s=[47]:=(by first|exact h16.symm|exact (by simpa using h16.symm));subst e;rfl,rfl⟩
 refine Z ?_
 refine .q (.strIndex (c:=47) Y Y underlying9 (by simp) (by simp)) Y (.cv func335 [_,_] (Nf _) ?_)
 refine Z ?_
 exact .vv
theorem Xb (s:Bs):Fn prog 280 #[AF s,AF [47]] [] fun v L=>v=AA (Py s)∧L=[]:=by
 refine Fn.intro func280 Y Y fun F W=>?_
 refine Z ?_
 refine .cv func316 [_,_] (Ta _) ?_
 refine Z ?_
 exact .vv
theorem W9 (s:Bs):Fn prog 279 #[AF s,AF [47]] [] fun v L=>v=AA (s.count 47:Nat)∧L=[]:=by
 refine Fn.intro func279 Y Y fun F W=>?_
 refine Z ?_
 refine .q (.strIndex (c:=47) Y Y underlying9 (by simp) (by simp)) Y (.q (.extern (e:=Extern.BytealgCount.count) (vs:=[_, .int .u8 47]) func315 kQ kQ kQ kQ Y (fun w=>Zk s w)) Y (Z ?_))
 exact .vv
theorem AAB {s:Bs} {k:Nat} (h:s=s.take k++47::s.drop (k+1)) (hk:(47:UInt8)∉s.take k):s.count 47=(s.drop (k+1)).count 47+1:=by
 have:=congrArg (List.count 47) h
 rw [count_append,count_eq_zero.2 hk,count_cons_self] at this
 omega
theorem VR {dn:List Bs} {i n:Nat} {s:Bs} (hd:dn.length=i) (hi:i<n):(A1 dn++List.replicate (n-i) (AF [])).set i (AF s)=A1 (dn++[s])++List.replicate (n-(i+1)) (AF []):=by
 obtain ⟨k,rfl⟩:∃k,n=i+(k+1):=⟨n-i-1,by omega⟩
 rw [set_append_right _ _ (by simp [hd]),show i-(A1 dn).length=0 by simp [hd],show i+(k+1)-i=k+1 by omega,show i+(k+1)-(i+1)=k by omega,replicate_succ,set_cons_zero]
 simp [A1]
theorem ABM {dn:List Bs} {i n:Nat} {s:Bs} (hd:dn.length=i) (hi:i=n):(A1 (dn++[s])++List.replicate (n+1-(i+1)) (AF [])).take (n+1)=A1 (dn++[s]):=by
 subst hi
 rw [Nat.sub_self,replicate_zero,append_nil,take_of_length_le (by simp [hd])]
theorem P6 (s:Bs) (hs:s.length≤1048576):Fn prog 219 #[AF s,AF [47],AA 0,AA (-1)] [] fun v L=> ∃b,v= .slice (some ⟨b,0,none⟩) (Ax s).length (Ax s).length∧L=[At 9 1 v (Ax s).length (A1 (Ax s))]:=by
 refine Fn.intro func219 Y Y fun F W=>?_
 have hcl:s.count 47≤s.length:=count_le_length
 have hsp:=Qy s
 refine Z ?_
 refine .cv func279 [_,_] (W9 _) ?_
 refine Z ?_
 refine .q (.to (v':=AA (((s.count 47):Nat)+1)) (.min2 Y Y) (by congr 1;omega)) Y (Z ?_)
 refine .oq (.make Y Y Br Gf Y ⟨by simp,by simp;rfl⟩ ?hc17) ?_
 case hc17=>omega
 rintro v L' ⟨ba,rfl,rfl⟩;rw [show (((s.count 47):Nat)+1:Int).toNat=(s.count 47)+1 by omega]
 refine .a Y (.nil (.ptCast (b:=ba) (l':=A1 []++List.replicate ((s.count 47)+1-0) (AF [])) O (by simp) ?_))
 refine .then_n (.sm Y (.q (.to (v':=AA ((s.count 47):Nat)) (.sub Y Y om) (by congr 1;omega)) Y (Z ?_)))
 refine .loopK (ι:=Nat×Bs×(List Bs)) (fun q E=>(10,AA q.1)::(0,AF q.2.1)::E) (fun q=>[AW ba (A1 q.2.2++List.replicate ((s.count 47)+1-q.1) (AF [])) 9]) (fun q=>q.1≤(s.count 47)∧q.2.2.length=q.1∧q.2.1.count 47+q.1=(s.count 47)∧Ax s=q.2.2++Ax q.2.1∧q.2.1.length≤s.length) (fun q=>(s.count 47)-q.1) (0,s,[]) (ts:=[1,2,3,8,9]) O (⟨Nat.zero_le _,Y,by dsimp only;omega,rfl,Nat.le_refl _⟩) O O ?_
 rintro ⟨i,cur,dn⟩ ⟨hi,hdl,hct,hsplit,hcul⟩
 dsimp only
 dsimp only at hi hdl hct hsplit hcul
 refine Z ?_
 refine .condD Y (fun h36=>?_) (fun h36=>?_)
 ·have hmem:(47:UInt8)∈cur:=count_pos_iff.1 om
  obtain ⟨k,hk1,hk2,hk4,hk3⟩:=AGv hmem
  have hcat:cur=cur.take k++47::cur.drop (k+1):=hk4
  have hcc:=AAB hcat hk3
  refine Z ?_
  refine .oq (.c func280 [_,_] (Xb cur)) ?_
  rintro v L' ⟨rfl,rfl⟩;rw [hk1]
  refine .an Y (.seq (.sm Y (.q (.as (v':= .bool false) (by first|(simp;done)|(simp;omega)) (.int Y Y Y)) Y (Z ?_))))
  refine .q (.to (v':=AF (cur.take k)) (.strTo (j:=(k:Int)+0) Y Y underlying9 om) (by rw [show ((k:Int)+0).toNat=k by omega])) Y (.q (.indexAddr Y Y Br om) Y (.oq (.store Y Y Y Xz ?c37 (Bd _ _)) ?_))
  case c37=>first|(simp;done)|(simp;omega)
  rintro v L' rfl
  refine .nt (.sm Y (.m Y (.m Y (.q (.as (v':=AA 1) (by rfl) (.strlen Y underlying9 Y)) Y (Z ?_)))))
  refine .q (.to (v':=AF (cur.drop (k+1))) (.strFrom (i:=(k:Int)+1) Y Y underlying9 om) (by rw [show ((k:Int)+1).toNat=k+1 by omega])) Y (Z ?_)
  rw [show 0+(i:Int).toNat*1=i by omega,VR hdl om]
  exact .rk ((i+1,cur.drop (k+1),dn++[cur.take k])) (⟨by dsimp only;omega,by dsimp only;simp [hdl],by dsimp only;omega,by dsimp only;rw [hsplit,hcat,AEj hk3,←hcat,append_assoc];rfl,by dsimp only;rw [length_drop];omega⟩) (by dsimp only;omega) O
 have hii:i=(s.count 47):=by omega
 have hlast:Ax cur=[cur]:=Kf (count_eq_zero.1 om)
 rw [hlast] at hsplit
 refine Z ?_
 refine .q (.indexAddr Y Y Br om) Y (.oq (.store Y Y Y Xz ?c51 (Bd _ _)) ?_)
 case c51=>first|(simp;done)|(simp;omega)
 rintro v L' rfl
 refine Z ?_
 refine .q (.to (v':= .slice (some ⟨ba,0,none⟩) (Ax s).length (Ax s).length) (.slTo (j:=(i:Int)+1) Y Br Y om (.inr ⟨_,_,Y⟩)) (by rw [hsp,hii];congr 1)) Y (Z ?_)
 refine .slMake (b:=ba) (n:=(Ax s).length) (c:=(Ax s).length) (xs:=A1 (Ax s)) O (Nat.le_refl _) (by rw [hsp];simp;omega) (by rw [show 0+(i:Int).toNat*1=i by omega,VR hdl om,hsp,hsplit];exact ABM hdl hii) (Z ?_)
 exact .dn Y Y ⟨ba,Y,Y⟩
theorem WW (s:Bs) (hs:s.length≤1048576):Fn prog 165 #[AF s,AF [47]] [] fun v L=> ∃b,v= .slice (some ⟨b,0,none⟩) (Ax s).length (Ax s).length∧L=[At 9 1 v (Ax s).length (A1 (Ax s))]:=by
 refine Fn.intro func165 Y Y fun F W=>?_
 refine Z ?_
 refine .oq (.c func219 [_,_,_,_] (P6 _ ?hs4)) ?_
 case hs4=>assumption
 rintro v L' ⟨bb,rfl,rfl⟩
 refine Z ?_
 exact .dn Y Y ⟨bb,Y,Y⟩
theorem UF (s:Bs):Fn prog 166 #[AF s] [] fun v L=>v= .bool (CY s)∧L=[]:=by
 refine Fn.intro func166 Y Y fun F W=>?_
 refine Z ?_
 refine .oq (.rangeS Y underlying9) ?_
 rintro v L' ⟨it,rfl,rfl⟩
 refine Z ?_
 refine .loopK (ι:=Nat) (fun q E=>E) (fun q=>[M6 it s q]) (fun q=>q≤s.length∧(s.take q).all Ez=true) (fun q=>s.length-q) (0) (ts:=[0,6]) O (⟨Nat.zero_le _,Y⟩) O O ?_
 rintro pos ⟨hp,hall⟩
 refine .sr (.oq (.nextS Y) ?_)
 rintro v L' (⟨rfl,hpos,rfl⟩|⟨hpos,rfl,rfl⟩)
 ·refine Z ?_
  refine .ndec (t:=37) Y (fun h11_37=>?_) (fun h11_37=>?_)
  ·refine .kNT (t:=36) Y h11_37 (Z ?_)
   refine .ndec (t:=41) Y (fun h11_41=>?_) (fun h11_41=>?_)
   ·refine .kNT (t:=39) Y h11_41 (.kNT (t:=40) Y h11_41 (Z ?_))
    have hz:CY s=(!decide (s=[])&& !decide (s=[46])&& !decide (s=[46,46])):=by unfold CY;rw [take_of_length_le om] at hall;rw [hall,Bool.and_true]
    rw [hz]
    exact .dn Y Y ⟨by simp_all,rfl⟩
   refine .kNF (t:=39) Y h11_41 (.kNF (t:=40) Y h11_41 (Z ?_))
   have hz:CY s=(!decide (s=[])&& !decide (s=[46])&& !decide (s=[46,46])):=by unfold CY;rw [take_of_length_le om] at hall;rw [hall,Bool.and_true]
   rw [hz]
   exact .dn Y Y ⟨by simp_all,rfl⟩
  refine .kNF (t:=36) Y h11_37 (Z ?_)
  have hz:CY s=(!decide (s=[])&& !decide (s=[46])&& !decide (s=[46,46])):=by unfold CY;rw [take_of_length_le om] at hall;rw [hall,Bool.and_true]
  rw [hz]
  exact .dn Y Y ⟨by simp_all,rfl⟩
 refine .ex Y Y (.nt (.seq (.condT Y (.sk (.block (.seq (.joinK (ι:=Int×Nat) (fun q E=>(4, .int .i32 q.1)::E) (fun q=>[M6 it s q.2]) (fun q=>(q.2=pos+1∧q.1=((s[pos]).toNat:Int))∨(128≤q.1∧128≤(s[pos]).toNat)) (pre:=[M6 it s _]) (ts:=[0,6,7,8]) O O ?_ ?_)))))))
 ·refine .region ?_
  rcases Nat.lt_or_ge (s[pos]).toNat 128 with hlo|hhi
  ·rw [PU hpos hlo]
   dsimp only
   refine Z ?_
   exact .mk ((((s[pos]).toNat:Int),pos+1)) (.inl ⟨Y,Y⟩) O
  obtain ⟨hd1,hd2⟩:=NF hpos om
  generalize Utf8.decode (bs s) pos=dc at *
  refine Z ?_
  exact .mk (((dc.1:Int),pos+dc.2)) (.inr ⟨by dsimp only;omega,by omega⟩) O
 rintro ⟨r,m⟩ hr
 dsimp only
 dsimp only at hr
 refine .block (.seq (.sr ?_))
 refine' G.joinM (ts:=[0,4,6,7,8]) (t:=16) (φ:=(97≤r∧r≤122)) (.cons rfl (.cons rfl (.cons rfl (.cons rfl (.cons rfl (.nil)))))) ?w5_0 ?k5_0
 case w5_0=>
  intro JT JF
  refine Z ?_
  refine .dec (t:=13) Y (fun h5_13=>?_) (fun h5_13=>?_)
  ·refine .kDT (t:=12) Y h5_13 (.gr (.m Y (.gr (.ui Y Y Y (.pT Y Y ?_)))))
   exact .midD JT JF O om
  refine .kDF (t:=12) Y h5_13 (.gk (.gk (.pF Y Y ?_)))
  exact JF om O
 refine Z ?_
 refine .dec (t:=10) Y (fun h10=>?_) (fun h10=>?_)
 ·obtain ⟨rfl,rfl⟩:m=pos+1∧r=((s[pos]).toNat:Int):=by rcases hr with h|h;exact h;omega
  refine Z ?_
  exact .rk (pos+1) (⟨by omega,HW hpos hall (GV om)⟩) om O
 refine .condF Y (.sr ?_)
 refine' G.joinM (ts:=[0,4,6,7,8,10,16]) (t:=22) (φ:=(65≤r∧r≤90)) (.cons rfl (.cons rfl (.cons rfl (.cons rfl (.cons rfl (.cons rfl (.cons rfl (.nil)))))))) ?w6_0 ?k6_0
 case w6_0=>
  intro JT JF
  refine Z ?_
  refine .dec (t:=19) Y (fun h6_19=>?_) (fun h6_19=>?_)
  ·refine .kDT (t:=18) Y h6_19 (.gr (.m Y (.gr (.ui Y Y Y (.pT Y Y ?_)))))
   exact .midD JT JF O om
  refine .kDF (t:=18) Y h6_19 (.gk (.gk (.pF Y Y ?_)))
  exact JF om O
 refine Z ?_
 refine .dec (t:=10) Y (fun h10=>?_) (fun h10=>?_)
 ·obtain ⟨rfl,rfl⟩:m=pos+1∧r=((s[pos]).toNat:Int):=by rcases hr with h|h;exact h;omega
  refine Z ?_
  exact .rk (pos+1) (⟨by omega,HW hpos hall (GV om)⟩) om O
 refine .condF Y (.sr ?_)
 refine' G.joinM (ts:=[0,4,6,7,8,10,16,22]) (t:=28) (φ:=(48≤r∧r≤57)) (.cons rfl (.cons rfl (.cons rfl (.cons rfl (.cons rfl (.cons rfl (.cons rfl (.cons rfl (.nil))))))))) ?w7_0 ?k7_0
 case w7_0=>
  intro JT JF
  refine Z ?_
  refine .dec (t:=25) Y (fun h7_25=>?_) (fun h7_25=>?_)
  ·refine .kDT (t:=24) Y h7_25 (.gr (.m Y (.gr (.ui Y Y Y (.pT Y Y ?_)))))
   exact .midD JT JF O om
  refine .kDF (t:=24) Y h7_25 (.gk (.gk (.pF Y Y ?_)))
  exact JF om O
 refine Z ?_
 refine .dec (t:=10) Y (fun h10=>?_) (fun h10=>?_)
 ·obtain ⟨rfl,rfl⟩:m=pos+1∧r=((s[pos]).toNat:Int):=by rcases hr with h|h;exact h;omega
  refine Z ?_
  exact .rk (pos+1) (⟨by omega,HW hpos hall (GV om)⟩) om O
 refine Z ?_
 refine .dec (t:=10) Y (fun h10=>?_) (fun h10=>?_)
 ·obtain ⟨rfl,rfl⟩:m=pos+1∧r=((s[pos]).toNat:Int):=by rcases hr with h|h;exact h;omega
  refine Z ?_
  exact .rk (pos+1) (⟨by omega,HW hpos hall (GV om)⟩) om O
 refine Z ?_
 refine .dec (t:=10) Y (fun h10=>?_) (fun h10=>?_)
 ·obtain ⟨rfl,rfl⟩:m=pos+1∧r=((s[pos]).toNat:Int):=by rcases hr with h|h;exact h;omega
  refine Z ?_
  exact .rk (pos+1) (⟨by omega,HW hpos hall (GV om)⟩) om O
 refine Z ?_
 refine .dec (t:=10) Y (fun h10=>?_) (fun h10=>?_)
 ·obtain ⟨rfl,rfl⟩:m=pos+1∧r=((s[pos]).toNat:Int):=by rcases hr with h|h;exact h;omega
  refine Z ?_
  exact .rk (pos+1) (⟨by omega,HW hpos hall (GV om)⟩) om O
 refine Z ?_
 have hz:CY s=false:=ACs hpos (X1 om)
 rw [hz]
 exact .vv
theorem Xc {s:Bs}:∃h t,Ax s=h::t:=by
 rcases h:Ax s with _|⟨a,t⟩
 ·exact absurd h (Jr s)
 ·exact ⟨a,t,rfl⟩
theorem EU (s:Bs) (hs:s.length≤1048576):Fn prog 114 #[AF s] [] fun v L=>v=AA (BQ s)∧L=[]:=by
 refine Fn.intro func114 Y Y fun F W=>?_
 obtain ⟨hd,tl,hspl⟩:=Xc (s:=s)
 have hspn:=Qy s
 have hcl:s.count 47≤s.length:=count_le_length
 have hln:(Ax s).length=tl.length+1:=by rw [hspl];rfl
 refine Z ?_
 refine .condD Y (fun h7=>?_) (fun h7=>?_)
 ·refine Z ?_
  have e:BQ s=0:=by unfold BQ;rw [if_pos h7]
  rw [e]
  exact .vv
 refine Z ?_
 refine .oq (.c func165 [_,_] (WW _ ?hs6)) ?_
 case hs6=>assumption
 rintro v L' ⟨bb,rfl,rfl⟩
 refine Z ?_
 refine .q (.indexAddr Y Y Br om) Y (.q (.loadSl (v:=AF hd) (i:=0) Y HL O (by rw [hspl];rfl)) Y (Z ?_))
 refine .ndec (t:=14) Y (fun h4_14=>?_) (fun h4_14=>?_)
 ·refine .kNT (t:=13) Y h4_14 (Z ?_)
  have e:BQ s=40:=by unfold BQ;rw [if_neg h7,if_pos (by rw [hspl];first|exact .inl (by simpa using h4_14)|exact .inr (.inl (by rw [←hspl];omega)))]
  rw [e]
  exact .vv
 refine .kNF (t:=13) Y h4_14 (Z ?_)
 refine .condD Y (fun h18=>?_) (fun h18=>?_)
 ·refine Z ?_
  have e:BQ s=40:=by unfold BQ;rw [if_neg h7,if_pos (by rw [hspl];first|exact .inl (by simpa using h4_14)|exact .inr (.inl (by rw [←hspl];omega)))]
  rw [e]
  exact .vv
 refine Z ?_
 have hh0:hd=[]:=by simpa using h4_14
 have hn1:(Ax s).length≠1:=by omega
 refine Z ?_
 refine .q (.to (v':= .slice (some ⟨bb,1,none⟩) tl.length tl.length) (.slSlice (i:=1) (j:=((Ax s).length:Int)) Y Br Y Y om) (by rw [hln,if_neg (show ¬tl.length+1=(1:Int).toNat by rw [show (1:Int).toNat=1 from rfl];omega)];simp)) Y (Z ?_)
 refine .loopK (ι:=Nat) (fun q E=>(22,AA q)::E) (fun q=>[]) (fun q=>q≤tl.length∧(tl.take q).all CY=true) (fun q=>tl.length-q) (0) (ts:=[0,3,20,21]) O (⟨Nat.zero_le _,Y⟩) O O ?_
 rintro i ⟨hi,hall⟩
 refine Z ?_
 refine .condD Y (fun h23=>?_) (fun h23=>?_)
 ·have hi2:i<tl.length:=by omega
  have hname0:=rfl (a:=CY tl[i])
  refine Z ?_
  refine .q (.indexAddr Y Y Br om) Y (.q (.loadRd (sz:=1) (j:=i+1) (p:=At 9 1 (.slice (some ⟨bb,0,none⟩) (Ax s).length (Ax s).length) (Ax s).length (A1 (Ax s))) (v:=AF tl[i]) Y HL O (fun h hp=>Ad hp) (by simp;omega) (by rw [hspl];simp [hi2])) Y (Z ?_))
  refine .cv func166 [_] (UF _) ?_
  refine Z ?_
  refine .condB Y (fun h28=>?_) (fun h28=>?_)
  ·have hname:CY tl[i]=false:=by simpa using h28
   refine Z ?_
   have e:BQ s=40:=by unfold BQ;rw [if_neg h7,if_pos (.inr (.inr (by rw [hspl,tail_cons,←Bool.not_eq_true];intro g;have:=all_eq_true.1 g _ (getElem_mem hi2);rw [hname] at this;cases this)))]
   rw [e]
   exact .vv
  have hname:CY tl[i]=true:=by simpa using h28
  refine Z ?_
  exact .rk (i+1) (⟨by omega,by rw [take_succ_eq_append_getElem hi2,all_append,hall];simp [hname]⟩) om O
 have hii:i=tl.length:=by omega
 rw [hii,take_length] at hall
 refine Z ?_
 refine .dec (t:=33) Y (fun h12_33=>?_) (fun h12_33=>?_)
 ·refine .kDT (t:=32) Y h12_33 (Z ?_)
  have e:BQ s=41:=by unfold BQ;rw [if_neg h7,if_neg (by rw [hspl,List.head?_cons,tail_cons,hall,hh0];rintro (h|h|h);exact h rfl;rw [←hh0,←hspl] at h;exact hn1 h;cases h),if_pos (by first|exact .inl om|exact .inr om)]
  rw [e]
  exact .vv
 refine .kDF (t:=32) Y h12_33 (Z ?_)
 refine .condD Y (fun h38=>?_) (fun h38=>?_)
 ·refine Z ?_
  have e:BQ s=41:=by unfold BQ;rw [if_neg h7,if_neg (by rw [hspl,List.head?_cons,tail_cons,hall,hh0];rintro (h|h|h);exact h rfl;rw [←hh0,←hspl] at h;exact hn1 h;cases h),if_pos (by first|exact .inl om|exact .inr om)]
  rw [e]
  exact .vv
 refine Z ?_
 have e:BQ s=0:=by unfold BQ;rw [if_neg h7,if_neg (by rw [hspl,List.head?_cons,tail_cons,hall,hh0];rintro (h|h|h);exact h rfl;rw [←hh0,←hspl] at h;exact hn1 h;cases h),if_neg (by rintro (h|h)<;>omega)]
 rw [e]
 exact .vv
theorem Ps (s:Bs) (hs:s.length≤1099511627776):Fn prog 283 #[AF s, .int .u8 47] [] fun v L=>v=AA (CI s)∧L=[]:=by
 refine Fn.intro func283 Y Y fun F W=>?_
 have hbs:=Bz s
 refine Z ?_
 refine .loopK (ι:=Nat) (fun q E=>(5,AA (dnL s.length q))::E) (fun q=>[]) (fun q=>q≤s.length∧Cm s (s.length-q)=CI s) (fun q=>s.length-q) (0) (ts:=[0,1]) O (⟨Nat.zero_le _,Y⟩) O O ?_
 rintro k ⟨hk,hl⟩
 have hdn:=AIF s.length k
 refine Z ?_
 refine .condD Y (fun h10=>?_) (fun h10=>?_)
 ·have hk2:k<s.length:=by omega
  have hat:s[s.length-(k+1)]=s.getD (s.length-(k+1)) 0:=by rw [getD_eq_getElem?_getD,List.getElem?_eq_getElem om,Option.getD_some]
  refine Z ?_
  refine .q (.strIndex (c:=s[s.length-(k+1)]) Y Y underlying9 om (by rw [show (dnL s.length k).toNat=s.length-(k+1) by omega];simp [show s.length-(k+1)<s.length by omega])) Y (Z ?_)
  refine .condD Y (fun h17=>?_) (fun h17=>?_)
  ·have he:s.getD (s.length-(k+1)) 0=47:=by rw [←hat];exact AF8 h17
   refine Z ?_
   exact .dn Y Y ⟨by rw [←hl,show s.length-k=(s.length-(k+1))+1 by omega,Cm,if_pos he,hdn];congr 1;omega,rfl⟩
  have hne:¬s.getD (s.length-(k+1)) 0=47:=by rw [←hat];exact fun e=>h17 (by rw [e];rfl)
  refine Z ?_
  exact .rk (k+1) (⟨by omega,by rw [←hl,show s.length-k=(s.length-(k+1))+1 by omega,Cm,if_neg hne]⟩) om O
 refine Z ?_
 exact .dn Y Y ⟨by rw [←hl,show s.length-k=0 by omega];rfl,rfl⟩
theorem LI (s:Bs) (hs:s.length≤1099511627776):Fn prog 225 #[AF s, .int .u8 47] [] fun v L=>v=AA (CI s)∧L=[]:=by
 refine Fn.intro func225 Y Y fun F W=>?_
 refine Z ?_
 refine .oq (.c func283 [_,_] (Ps _ ?hs4)) ?_
 case hs4=>assumption
 rintro v L' ⟨rfl,rfl⟩
 refine Z ?_
 exact .vv
theorem Dl (s:Bs) (hs:s.length≤1099511627776):Fn prog 176 #[AF s] [] fun v L=>v=AF (AK s)∧L=[]:=by
 refine Fn.intro func176 Y Y fun F W=>?_
 have hr:=Gr s
 refine Z ?_
 refine .oq (.c func225 [_,_] (LI _ ?hs3)) ?_
 case hs3=>assumption
 rintro v L' ⟨rfl,rfl⟩
 refine Z ?_
 refine .dec (t:=12) Y (fun h3_12=>?_) (fun h3_12=>?_)
 ·refine .kDT (t:=11) Y h3_12 (Z ?_)
  exact .dn Y Y ⟨by unfold AK;rw [if_pos (by first|exact .inl om|exact .inr (by assumption))],rfl⟩
 refine .kDF (t:=11) Y h3_12 (Z ?_)
 refine .dec (t:=9) Y (fun h9=>?_) (fun h9=>?_)
 ·refine Z ?_
  exact .dn Y Y ⟨by unfold AK;rw [if_pos (by first|exact .inl om|exact .inr (by assumption))],rfl⟩
 refine Z ?_
 refine .condD Y (fun h16=>?_) (fun h16=>?_)
 ·refine Z ?_
  exact .dn Y Y ⟨by unfold AK;rw [if_neg (by rintro (g|g);omega;exact absurd g h9),if_pos h16],rfl⟩
 refine Z ?_
 refine .q (.strTo Y Y underlying9 om) Y (Z ?_)
 exact .dn Y Y ⟨by unfold AK;rw [if_neg (by rintro (g|g);omega;exact absurd g h9),if_neg h16],rfl⟩
theorem AAq (s:Bs) (hs:s.length≤1099511627776):Fn prog 281 #[AF s] [] fun v L=>v=AF (DL s)∧L=[]:=by
 refine Fn.intro func281 Y Y fun F W=>?_
 have hr:=Gr s
 refine Z ?_
 refine .oq (.c func225 [_,_] (LI _ ?hs4)) ?_
 case hs4=>assumption
 rintro v L' ⟨rfl,rfl⟩
 refine Z ?_
 refine .q (.strFrom Y Y underlying9 om) Y (Z ?_)
 exact .vv
theorem Nb (s q:Bs):Fn prog 294 #[AF s,AF q] [] fun v L=>v= .bool (decide (pfx q s))∧L=[]:=by
 refine Fn.intro func294 Y Y fun F W=>?_
 have h1:=Bz s
 have h2:=Bz q
 refine Z ?_
 refine .dec (t:=10) Y (fun h1_10=>?_) (fun h1_10=>?_)
 ·refine .kDT (t:=9) Y h1_10 (Z ?_)
  refine .q (.to (v':=AF (s.take q.length)) (.strTo Y Y underlying9 om) (by rw [Int.toNat_natCast])) Y (Z ?_)
  exact .vv
 refine .kDF (t:=9) Y h1_10 (Z ?_)
 exact .dn Y Y ⟨by rw [decide_eq_false (fun e=>by unfold pfx at e;have:=congrArg List.length e;rw [length_take] at this;omega)],rfl⟩
theorem N1 (s q:Bs):Fn prog 257 #[AF s,AF q] [] fun v L=>v= .bool (decide (pfx q s))∧L=[]:=by
 refine Fn.intro func257 Y Y fun F W=>?_
 refine Z ?_
 refine .cv func294 [_,_] (Nb _ _) ?_
 refine Z ?_
 exact .vv
theorem NV (s q:Bs) (hs:s.length≤1099511627776) (hq:q.length≤1099511627776):Fn prog 343 #[AF s,AF q] [] fun v L=>v= .bool (decide (sfx q s))∧L=[]:=by
 refine Fn.intro func343 Y Y fun F W=>?_
 have h1:=Bz s
 have h2:=Bz q
 refine Z ?_
 refine .dec (t:=10) Y (fun h1_10=>?_) (fun h1_10=>?_)
 ·refine .kDT (t:=9) Y h1_10 (Z ?_)
  refine .q (.to (v':=AF (s.drop (s.length-q.length))) (.strFrom Y Y underlying9 om) (by rw [show ((s.length:Int)-(q.length:Int)).toNat=s.length-q.length by omega])) Y (Z ?_)
  exact .dn Y Y ⟨by congr 1;exact decide_eq_decide.2 ⟨fun e=>⟨by omega,e⟩,fun e=>e.2⟩,rfl⟩
 refine .kDF (t:=9) Y h1_10 (Z ?_)
 exact .dn Y Y ⟨by rw [decide_eq_false (fun e=>by have:=e.1;omega)],rfl⟩
theorem MB (s q:Bs) (hs:s.length≤1099511627776) (hq:q.length≤1099511627776):Fn prog 328 #[AF s,AF q] [] fun v L=>v=AF (Ii s q)∧L=[]:=by
 refine Fn.intro func328 Y Y fun F W=>?_
 have h1:=Bz s
 have h2:=Bz q
 refine Z ?_
 refine .oq (.c func343 [_,_] (NV _ _ ?hs4 ?hq5)) ?_
 case hs4=>assumption
 case hq5=>assumption
 rintro v L' ⟨rfl,rfl⟩
 refine .nt (.condD Y (fun h7=>?_) (fun h7=>?_))
 ·have hsf:=h7.1
  refine Z ?_
  refine .q (.to (v':=AF (Ii s q)) (.strTo Y Y underlying9 om) (by unfold Ii;rw [if_pos h7,show ((s.length:Int)-(q.length:Int)).toNat=s.length-q.length by omega])) Y (Z ?_)
  exact .vv
 refine Z ?_
 exact .dn Y Y ⟨by unfold Ii;rw [if_neg h7],rfl⟩
theorem NU (s q:Bs) (hs:s.length≤1099511627776) (hq:q.length≤1099511627776):Fn prog 297 #[AF s,AF q] [] fun v L=>v=AF (Ii s q)∧L=[]:=by
 refine Fn.intro func297 Y Y fun F W=>?_
 refine Z ?_
 refine .oq (.c func328 [_,_] (MB _ _ ?hs4 ?hq5)) ?_
 case hs4=>assumption
 case hq5=>assumption
 rintro v L' ⟨rfl,rfl⟩
 refine Z ?_
 exact .vv
theorem SV (s:Bs):Fn prog 298 #[AF s] [] fun v L=>v=AF (if s=[47] then [47] else [])∧L=[]:=by
 refine Fn.intro func298 Y Y fun F W=>?_
 refine Z ?_
 refine .condD Y (fun h4=>?_) (fun h4=>?_)
 ·refine Z ?_
  exact .dn Y Y ⟨by rw [if_pos h4],rfl⟩
 refine Z ?_
 exact .dn Y Y ⟨by rw [if_neg h4],rfl⟩
theorem ADU (s name:Bs) (hs:s.length≤1099511627776) (hn:name.length≤1099511627776):Fn prog 265 #[AF s,AF name] [] fun v L=>v=AF (Ip s name)∧L=[]:=by
 refine Fn.intro func265 Y Y fun F W=>?_
 have htl:(Ii s (if s=[47] then [47] else [])).length≤s.length:=AEt _ _
 refine Z ?_
 refine .cv func298 [_] (SV _) ?_
 refine .oq (.c func297 [_,_] (NU _ _ ?hs6 ?hq7)) ?_
 case hs6=>assumption
 case hq7=>first|assumption|(split<;>simp)|simp
 rintro v L' ⟨rfl,rfl⟩
 refine .q (.concat Y Y (by simp;omega)) Y (Z ?_)
 refine .q (.concat Y Y (by simp;omega)) Y (Z ?_)
 exact .dn Y Y ⟨by rw [ADY],rfl⟩
theorem Or (s q:Bs) (hq:q.length≤1099511627776):Fn prog 206 #[AF s,AF q] [] fun v L=>v= .bool (decide (PG s q))∧L=[]:=by
 refine Fn.intro func206 Y Y fun F W=>?_
 refine Z ?_
 refine .oq (.c func265 [_,_] (ADU _ _ ?hs3 ?hn4)) ?_
 case hs3=>first|assumption|omega
 case hn4=>first|assumption|omega|simp
 rintro v L' ⟨rfl,rfl⟩
 refine Z ?_
 refine .cv func257 [_,_] (N1 _ _) ?_
 refine Z ?_
 refine .dec (t:=11) Y (fun h2_11=>?_) (fun h2_11=>?_)
 ·refine .kDT (t:=10) Y h2_11 (Z ?_)
  exact .dn Y Y ⟨by rw [←decide_not];congr 1;exact decide_eq_decide.2 ⟨fun e=>⟨h2_11,e⟩,fun e=>e.2⟩,rfl⟩
 refine .kDF (t:=10) Y h2_11 (Z ?_)
 exact .dn Y Y ⟨by rw [decide_eq_false (fun e=>h2_11 e.1)],rfl⟩
end Go.Proofs.YtbhkloaagkkioaaGreatDoor
/-
 DERIVED:THE SHELF's CONTRACTS AT THIS DUMP,IN PLAIN WORDS (tools/lay-plain.mjs out of 'YtbhkloaagkkioaaGreatDoorLayS.lean',which tools/lay-shelf.mjs wrote):THE SAME DECLARATIONS UNDER THE SAME NAMES:'import','namespace','open','def','theorem' AND NOTHING ELSE:no command of the shelf's:FOR A HAND-IN. Each laying:the table of numbers ('.._ren') and one theorem,a field a fact of the dump's own or the kernel's comparison;each Gt:ONE APPLICATION.
-/
namespace Go.Proofs
open Go List Go.Proofs.Tryz Go.Shelf
def Tryz.keysS_ren:Go.Shelf.Ren:=⟨fun|7=>146|10=>209|n=>n,fun|23=>120|26=>9|3=>128|28=>242|0=>0|27=>241|33=>252|4=>4|n=>n,fun|n=>n⟩
theorem Tryz.keysS:Go.Proofs.SlLaysZ.n7 prog Tryz.keysS_ren:={
 mixed:=by kernel_rfl
 f7:=⟨f146.name,by decide,func146.trans (congrArg some (by kernel_rfl))⟩
 f10:=⟨f209.name,by decide,func209.trans (congrArg some (by kernel_rfl))⟩
 t0:=underlying0
 a0:=Tryz.isAgg0
 z0:=Tryz.sizeOf0
 v0:=Tryz.zeroValue0
 t4:=underlying4
 a4:=Tryz.isAgg4
 z4:=Tryz.sizeOf4
 v4:=Tryz.zeroValue4
 t23:=underlying120
 a23:=Tryz.isAgg120
 z23:=Tryz.sizeOf120
 v23:=Tryz.zeroValue120
 t26:=underlying9
 a26:=Tryz.isAgg9
 z26:=Tryz.sizeOf9
 v26:=Tryz.zeroValue9
 t27:=underlying241
 a27:=Tryz.isAgg241
 z27:=Tryz.sizeOf241
 v27:=Tryz.zeroValue241
 t28:=underlying242
 a28:=Tryz.isAgg242
 z28:=Tryz.sizeOf242
 v28:=Tryz.zeroValue242
 t33:=underlying252
 a33:=Tryz.isAgg252
 z33:=Tryz.sizeOf252
 v33:=Tryz.zeroValue252}
def Tryz.sortedS_ren:Go.Shelf.Ren:=⟨fun|6=>145|8=>207|9=>208|11=>266|13=>218|12=>267|23=>276|24=>277|14=>299|15=>300|16=>301|17=>302|18=>303|19=>304|20=>305|21=>306|22=>307|25=>329|26=>309|27=>310|28=>330|29=>331|30=>332|31=>344|n=>n,fun|26=>9|28=>242|24=>63|0=>0|3=>3|37=>117|48=>230|50=>237|4=>4|40=>342|39=>341|45=>104|5=>5|9=>9|51=>365|55=>194|57=>384|58=>112|33=>252|n=>n,fun|n=>n⟩
theorem Tryz.sortedS:Go.Proofs.SlLaysZ.n6 prog Tryz.sortedS_ren:={
 mixed:=by kernel_rfl
 f6:=⟨f145.name,by decide,func145.trans (congrArg some (by kernel_rfl))⟩
 f8:=⟨f207.name,by decide,func207.trans (congrArg some (by kernel_rfl))⟩
 f11:=⟨f266.name,by decide,func266.trans (congrArg some (by kernel_rfl))⟩
 t0:=underlying0
 a0:=Tryz.isAgg0
 z0:=Tryz.sizeOf0
 v0:=Tryz.zeroValue0
 t24:=underlying63
 a24:=Tryz.isAgg63
 z24:=Tryz.sizeOf63
 v24:=Tryz.zeroValue63
 t26:=underlying9
 a26:=Tryz.isAgg9
 z26:=Tryz.sizeOf9
 v26:=Tryz.zeroValue9
 t28:=underlying242
 a28:=Tryz.isAgg242
 z28:=Tryz.sizeOf242
 v28:=Tryz.zeroValue242
 i26:=by kernel_rfl}
def Tryz.sortS_ren:Go.Shelf.Ren:=⟨fun|6=>208|8=>218|9=>267|19=>276|20=>277|21=>299|22=>300|23=>301|24=>302|25=>303|26=>304|27=>305|28=>306|29=>307|36=>329|31=>309|32=>310|37=>330|38=>331|39=>332|41=>344|n=>n,fun|27=>63|29=>9|3=>3|32=>117|26=>63|0=>0|44=>230|46=>237|4=>4|36=>342|35=>341|41=>104|5=>5|9=>9|53=>365|57=>194|63=>384|64=>112|n=>n,fun|n=>n⟩
theorem Tryz.sortS:Go.Proofs.SlLaysM.n6 prog Tryz.sortS_ren:={
 mixed:=by kernel_rfl
 f6:=⟨f208.name,by decide,func208.trans (congrArg some (by kernel_rfl))⟩
 f8:=func218.trans (congrArg some (by kernel_rfl))
 f9:=⟨f267.name,by decide,func267.trans (congrArg some (by kernel_rfl))⟩
 f19:=func276.trans (congrArg some (by kernel_rfl))
 f20:=func277.trans (congrArg some (by kernel_rfl))
 f21:=⟨f299.name,by decide,func299.trans (congrArg some (by kernel_rfl))⟩
 f22:=⟨f300.name,by decide,func300.trans (congrArg some (by kernel_rfl))⟩
 f23:=⟨f301.name,by decide,func301.trans (congrArg some (by kernel_rfl))⟩
 f24:=⟨f302.name,by decide,func302.trans (congrArg some (by kernel_rfl))⟩
 f25:=⟨f303.name,by decide,func303.trans (congrArg some (by kernel_rfl))⟩
 f26:=⟨f304.name,by decide,func304.trans (congrArg some (by kernel_rfl))⟩
 f27:=⟨f305.name,by decide,func305.trans (congrArg some (by kernel_rfl))⟩
 f28:=⟨f306.name,by decide,func306.trans (congrArg some (by kernel_rfl))⟩
 f29:=⟨f307.name,by decide,func307.trans (congrArg some (by kernel_rfl))⟩
 f31:=func309.trans (congrArg some (by kernel_rfl))
 f32:=func310.trans (congrArg some (by kernel_rfl))
 f36:=⟨f329.name,by decide,func329.trans (congrArg some (by kernel_rfl))⟩
 f37:=⟨f330.name,by decide,func330.trans (congrArg some (by kernel_rfl))⟩
 f38:=⟨f331.name,by decide,func331.trans (congrArg some (by kernel_rfl))⟩
 f39:=⟨f332.name,by decide,func332.trans (congrArg some (by kernel_rfl))⟩
 f41:=⟨f344.name,by decide,func344.trans (congrArg some (by kernel_rfl))⟩
 t0:=underlying0
 a0:=Tryz.isAgg0
 z0:=Tryz.sizeOf0
 v0:=Tryz.zeroValue0
 t3:=underlying3
 a3:=Tryz.isAgg3
 z3:=Tryz.sizeOf3
 v3:=Tryz.zeroValue3
 t4:=underlying4
 a4:=Tryz.isAgg4
 z4:=Tryz.sizeOf4
 v4:=Tryz.zeroValue4
 t5:=underlying5
 a5:=Tryz.isAgg5
 z5:=Tryz.sizeOf5
 v5:=Tryz.zeroValue5
 t9:=underlying9
 a9:=Tryz.isAgg9
 z9:=Tryz.sizeOf9
 v9:=Tryz.zeroValue9
 t26:=underlying63
 a26:=Tryz.isAgg63
 z26:=Tryz.sizeOf63
 v26:=Tryz.zeroValue63
 t27:=underlying63
 a27:=Tryz.isAgg63
 z27:=Tryz.sizeOf63
 v27:=Tryz.zeroValue63
 t29:=underlying9
 a29:=Tryz.isAgg9
 z29:=Tryz.sizeOf9
 v29:=Tryz.zeroValue9
 t32:=underlying117
 a32:=Tryz.isAgg117
 z32:=Tryz.sizeOf117
 v32:=Tryz.zeroValue117
 t35:=underlying341
 a35:=Tryz.isAgg341
 z35:=Tryz.sizeOf341
 v35:=Tryz.zeroValue341
 t36:=underlying342
 a36:=Tryz.isAgg342
 z36:=Tryz.sizeOf342
 v36:=Tryz.zeroValue342
 t41:=underlying104
 a41:=Tryz.isAgg104
 z41:=Tryz.sizeOf104
 v41:=Tryz.zeroValue104
 t44:=underlying230
 a44:=Tryz.isAgg230
 z44:=Tryz.sizeOf230
 v44:=Tryz.zeroValue230
 t46:=underlying237
 a46:=Tryz.isAgg237
 z46:=Tryz.sizeOf237
 v46:=Tryz.zeroValue237
 t53:=underlying365
 a53:=Tryz.isAgg365
 z53:=Tryz.sizeOf365
 v53:=Tryz.zeroValue365
 t57:=underlying194
 a57:=Tryz.isAgg194
 z57:=Tryz.sizeOf194
 v57:=Tryz.zeroValue194
 t63:=underlying384
 a63:=Tryz.isAgg384
 z63:=Tryz.sizeOf384
 v63:=Tryz.zeroValue384
 t64:=underlying112
 a64:=Tryz.isAgg112
 z64:=Tryz.sizeOf112
 v64:=Tryz.zeroValue112}
end Go.Proofs
namespace Go.Proofs.YtbhkloaagkkioaaGreatDoor
open Go List Go.Proofs.Tryz
section
variable {P:Program} {E:Bi} {L R:List HP} {ty:TypeId} {w:World}
theorem AE.shl {t t':TypeId} {x y:Operand} {k yk:IntKind} {a b:Int} (hx:ev E x=some (.int k a)) (hy:ev E y=some (.int yk b)) (hb:0≤b):
  AE P ⟨none, .binOp .shl t x y t',ty, "",#[],none⟩ E L (.int k (k.wrap (a*2^min b.toNat k.bits))):=by
 intro ρ w ha _
 have hb':¬b<0:=by omega
 simp [execOp,ha x _ hx,ha y _ hy,eqGuard,binOp,Op.shift,Bind.bind,Sem.bind,Pure.pure,Sem.run,hb']
theorem AE.shr {t t':TypeId} {x y:Operand} {k yk:IntKind} {a b:Int} (hx:ev E x=some (.int k a)) (hy:ev E y=some (.int yk b)) (hb:0≤b):
  AE P ⟨none, .binOp .shr t x y t',ty, "",#[],none⟩ E L (.int k (a.fdiv (2^min b.toNat k.bits))):=by
 intro ρ w ha _
 have hb':¬b<0:=by omega
 simp [execOp,ha x _ hx,ha y _ hy,eqGuard,binOp,Op.shift,Bind.bind,Sem.bind,Pure.pure,Sem.run,hb']
theorem AE.or {t t':TypeId} {x y:Operand} {k:IntKind} {a b:Int} (hx:ev E x=some (.int k a)) (hy:ev E y=some (.int k b)):
  AE P ⟨none, .binOp .or t x y t',ty, "",#[],none⟩ E L (.int k (k.wrap (BitVec.ofInt k.bits a ||| BitVec.ofInt k.bits b).toNat)):=by
 intro ρ w ha _
 simp [execOp,ha x _ hx,ha y _ hy,eqGuard,binOp,Op.intBits,Bind.bind,Sem.bind,Pure.pure,Sem.run]
theorem AE.xor {t t':TypeId} {x y:Operand} {k:IntKind} {a b:Int} (hx:ev E x=some (.int k a)) (hy:ev E y=some (.int k b)):
  AE P ⟨none, .binOp .xor t x y t',ty, "",#[],none⟩ E L (.int k (k.wrap (BitVec.ofInt k.bits a^^^BitVec.ofInt k.bits b).toNat)):=by
 intro ρ w ha _
 simp [execOp,ha x _ hx,ha y _ hy,eqGuard,binOp,Op.intBits,Bind.bind,Sem.bind,Pure.pure,Sem.run]
theorem AE.and {t t':TypeId} {x y:Operand} {k:IntKind} {a b:Int} (hx:ev E x=some (.int k a)) (hy:ev E y=some (.int k b)):
  AE P ⟨none, .binOp .and t x y t',ty, "",#[],none⟩ E L (.int k (k.wrap (BitVec.ofInt k.bits a &&& BitVec.ofInt k.bits b).toNat)):=by
 intro ρ w ha _
 simp [execOp,ha x _ hx,ha y _ hy,eqGuard,binOp,Op.intBits,Bind.bind,Sem.bind,Pure.pure,Sem.run]
theorem NR {t e:TypeId} {a:Option Addr} {n c:Nat} (ht:P.underlying t=some (.slice e)):(Op.equal t (.slice a n c) (.slice none 0 0)).run P w= .ok a.isNone w:=by
 unfold Op.equal
 rw [show Op.maxDepth=9999+1 from rfl]
 generalize 9999=d
 unfold Op.equalIn
 rw [run_bind (AN ht)];cases a<;>rfl
theorem AE.sleq {t t' e:TypeId} {x y:Operand} {a:Option Addr} {n c:Nat} (hx:ev E x=some (.slice a n c)) (hy:ev E y=some (.slice none 0 0)) (ht:P.underlying t=some (.slice e)):AE P ⟨none, .binOp .eql t x y t',ty, "",#[],none⟩ E L (.bool a.isNone):=
 fun _ _ ha _=>SZ (ha x _ hx) (ha y _ hy) rfl rfl (NR ht)
end
theorem AAF (n:Int) {c:Int} (hc:0≤c∧c<256):((BitVec.ofInt 64 (n*256) ||| BitVec.ofInt 64 c).toNat:Int)=(n*256+c)%18446744073709551616:=by
 have h0:BitVec.ofInt 64 (n*256) &&& BitVec.ofInt 64 c=0#64:=by
  have e1:BitVec.ofInt 64 (n*256)=BitVec.ofInt 64 n <<< 8:=by
   apply BitVec.eq_of_toNat_eq
   rw [BitVec.toNat_shiftLeft,BitVec.toNat_ofInt,BitVec.toNat_ofInt,Nat.shiftLeft_eq]
   have e:((2^64:Nat):Int)=18446744073709551616:=rfl
   have e':(2^64:Nat)=18446744073709551616:=rfl
   have e8:(2^8:Nat)=256:=rfl
   rw [e,e',e8]
   omega
  have e2:BitVec.ofInt 64 c=BitVec.setWidth 64 (BitVec.ofInt 8 c):=by
   apply BitVec.eq_of_toNat_eq
   simp only [BitVec.toNat_ofInt,BitVec.toNat_setWidth]
   omega
  rw [e1,e2]
  apply BitVec.eq_of_getLsbD_eq
  intro i hi
  simp only [BitVec.getLsbD_and,BitVec.getLsbD_shiftLeft,BitVec.getLsbD_setWidth,BitVec.getLsbD_zero]
  by_cases h8:i<8
  ·simp [h8]
  ·have:(BitVec.ofInt 8 c).getLsbD i=false:=BitVec.getLsbD_of_ge _ _ om
   simp [this]
 rw [←BitVec.add_eq_or_of_and_eq_zero _ _ h0,BitVec.toNat_add,BitVec.toNat_ofInt,BitVec.toNat_ofInt]
 omega
def P0:List UInt8→Int→Int
 |[],n=>n
 |c::s,n=>P0 s (n*256+c.toNat)
theorem HO (x:Int):IntKind.i64.wrap x=(x+9223372036854775808)%18446744073709551616-9223372036854775808:=by rw [IntKind.wrap_i64]
theorem YG (n:Int) (c:UInt8):IntKind.i64.wrap (BitVec.ofInt 64 (IntKind.i64.wrap (n*256)) ||| BitVec.ofInt 64 (IntKind.i64.wrap c.toNat)).toNat=IntKind.i64.wrap (n*256+c.toNat):=by
 have hc:c.toNat<256:=c.toNat_lt
 have e1:IntKind.i64.wrap (c.toNat:Int)=c.toNat:=JA om
 have e2:BitVec.ofInt 64 (IntKind.i64.wrap (n*256))=BitVec.ofInt 64 (n*256):=by
  apply BitVec.eq_of_toNat_eq
  rw [BitVec.toNat_ofInt,BitVec.toNat_ofInt,HO];omega
 rw [e1,e2,AAF n om,HO,HO]
 omega
theorem Ze (l:List Ac):∀y∈l.flatMap CJ,AB y=true:=by
 intro y hy
 obtain ⟨a,-,h⟩:=mem_flatMap.1 hy
 simp only [CJ,mem_cons,not_mem_nil,or_false] at h
 rcases h with rfl|rfl<;>rfl
theorem GT (d:Bs) (ad:Option Addr) (n c:Nat) (s0 s1 s2 s3 s4 s5 s6 s7 s8:Value):Instr.fill (fun i=>[(0,1),(1,1),(2,9)].toArray[i]?) ([.string (bs []), .slice none 0 0, .int .i64 0, .int .i64 0, .int .i64 0, .int .i64 0, .int .i64 0, .int .i64 0, .int .i64 0, .int .i64 0, .int .i64 0]:List Value).toArray [(0,AF d),(1, .slice ad n c),(2, .agg ([s0,s1,s2,s3,s4,s5,s6,s7,s8]:List Value).toArray)]=some (([AF d, .slice ad n c]++[s0,s1,s2,s3,s4,s5,s6,s7,s8]:List Value).toArray):=by kernel_rfl
structure PtA (p:HP) (x:Pt):Prop where
 acl:∀h:Hp,p h→CA 2 h x.aclV x.acl.length (x.acl.flatMap CJ)
 few:x.acl.length≤1048576
 plen:x.path.length≤1048576
 subs:AB x.subsV=true
 cell:AB x.aclV=true
theorem PtA.all {p:HP} {x:Pt} (h:PtA p x):∀v∈A0 x,AB v=true:=by
 intro v hv
 simp only [A0,mem_cons,not_mem_nil,or_false] at hv
 rcases hv with rfl|rfl|rfl|rfl|rfl|rfl|rfl|rfl
 ·rfl
 ·rfl
 ·rfl
 ·exact h.cell
 ·rfl
 ·rfl
 ·rfl
 ·exact h.subs
structure TxA (p:HP) (x:Pt) (subs:List Pt):Prop where
 own:PtA p x
 rd:∀h:Hp,p h→CA 8 h x.subsV subs.length (subs.flatMap A0)
 few:subs.length≤1048576
 each:∀y∈subs,PtA p y
theorem QL (l:List Ev):∀y∈l.flatMap FP,AB y=true:=by
 intro y hy
 obtain ⟨a,-,h⟩:=mem_flatMap.1 hy
 simp only [FP,mem_cons,not_mem_nil,or_false] at h
 rcases h with rfl|rfl|rfl<;>rfl
theorem B8 (v:Value) (xs:List Ac) (p:HP) (hp:∀h:Hp,p h→CA 2 h v xs.length (xs.flatMap CJ)) (hn:xs.length≤1048576):Fn prog 136 #[v] [p] fun u L=>(∃a c,u= .slice a xs.length c)∧L=[p,At 133 2 u xs.length (xs.flatMap CJ)]:=by
 refine Fn.intro func136 Y Y fun F W=>?_
 refine .rdAny (p:=p) hp O fun a c e0 hl=>?_
 subst e0
 refine Z ?_
 refine .q (.sleq Y Y underlying35) Y (.nt (.condB Y (fun h4=>?_) (fun h4=>?_)))
 ·have ha:a=none:=by simpa using h4
  subst ha
  refine .rdNil (p:=p) hp O fun hx0=>?_
  have hxs:xs=[]:=eq_nil_of_length_eq_zero hx0
  subst hxs
  refine .add (AU 133 2) (Z ?_)
  exact .dn Y Y ⟨⟨_,_,Y⟩,Y⟩
 refine Z ?_
 refine .oq (.buildSlice (vs:=[]) GN EI Y Y Y Y cQ dQ) ?_
 rintro v L' ⟨b0,rfl,rfl⟩
 refine Z ?_
 refine .slMakeN 2 0 (b:=b0) (xs:=([]:List Ac).flatMap CJ) O Y Y (.oq (.append (n:=0) (m:=xs.length) (ys:=xs.flatMap CJ) (p:=p) Y Y Y GN (.inl ⟨_,underlying35⟩) EI Y Y ?hc8 hp ?hb9 dQ) ?_)
 case hc8=>exact Ze _
 case hb9=>omega
 rintro v L' ⟨⟨a3,c3,rfl⟩,rfl⟩;rw [Nat.zero_add,show ([]:List Ac).flatMap CJ++xs.flatMap CJ=xs.flatMap CJ from rfl]
 refine Z ?_
 exact .dn Y Y ⟨⟨_,_,Y⟩,Y⟩
theorem RX (p:Bs) (hs:p.length≤1048576):Fn prog 204 #[AF p] [] fun v L=>v= .bool (decide (Bm p))∧L=[]:=by
 refine Fn.intro func204 Y Y fun F W=>?_
 refine Z ?_
 refine .ndec (t:=5) Y (fun h1_5=>?_) (fun h1_5=>?_)
 ·refine .kNT (t:=4) Y h1_5 (Z ?_)
  refine .cv func114 [_] (EU p hs) ?_
  refine Z ?_
  exact .dn Y Y ⟨congrArg Value.bool (decide_eq_decide.2 ⟨fun e=>⟨h1_5,e⟩,fun e=>e.2⟩),Y⟩
 refine .kNF (t:=4) Y h1_5 (Z ?_)
 exact .dn Y Y ⟨by rw [decide_eq_false (fun e=>e.1 h1_5)],rfl⟩
theorem IF:Fn prog 28 #[] [] fun v L=> ∃t,v=AD t∧L=[AV t BV]:=by
 refine Fn.intro func28 Y Y fun F W=>?_
 refine Z ?_
 refine .oq (.makeMap underlying120) ?_
 rintro v L' ⟨rn,rfl,rfl⟩
 refine .q (.build (us:=[(0,_),(1,_)]) SK EI Y Y (by simp [AB])) Y (.oq (.buildSlice (vs:=[_]) GN EI Y Y Y Y cQ dQ) ?_)
 rintro v L' ⟨ba,rfl,rfl⟩
 refine .q (.buildN (pl:=[(0,1),(1,1),(2,9)]) (us:=[(1, .slice (some ⟨ba,0,none⟩) 1 1)]) (cells:=Sz (.slice (some ⟨ba,0,none⟩) 1 1) ⟨[],[(31,[119,111,114,108,100])],st0⟩) underlying130 kQ Kk Y Y) Y (.oq (.box Y) ?_)
 rintro v L' ⟨tn,rfl,rfl⟩
 refine .fold (p:=mapR rn []) (.cons (p:=pt rn (.map #[] 0)) O .nil) (fun h hp=>E8 (Gx hp)) (.oq (.mapInsert (m:=([]:G2)) (enc:=G1) (v:=(tn,(.slice (some ⟨ba,0,none⟩) 1 1,⟨[],[(31,[119,111,114,108,100])],st0⟩))) (k:=[47]) (Aa.str underlying9) Y Y Y underlying120 ?he10) ?_)
 case he10=>rfl
 rintro v L' rfl
 refine Z ?_
 refine .oq (.makeMap underlying121) ?_
 rintro v L' ⟨rs,rfl,rfl⟩
 refine .q (.build (us:=[(0,_),(1,_)]) X7 WA Y Y (by simp [AB])) Y (.oq (.box Y) ?_)
 rintro v L' ⟨t,rfl,rfl⟩
 refine Z ?_
 refine .fold (p:=mapR rs []) (.cons (p:=pt rs (.map #[] 0)) O .nil) (fun h hp=>E8 (Gx hp)) (.slMakeN 2 1 (b:=ba) (xs:=([(31,[119,111,114,108,100])]:List Ac).flatMap CJ) O Y Y (.toRd (m:=1) O (.ndFold (x:=(([47]:Bs),((tn,(.slice (some ⟨ba,0,none⟩) 1 1,⟨[],[(31,[119,111,114,108,100])],st0⟩)):Nm))) O Y Y Y Y (.fold (p:=Am HB [(([47]:Bs),((tn,(.slice (some ⟨ba,0,none⟩) 1 1,⟨[],[(31,[119,111,114,108,100])],st0⟩)):Nm))]) (.cons (p:=HB (([47]:Bs),((tn,(.slice (some ⟨ba,0,none⟩) 1 1,⟨[],[(31,[119,111,114,108,100])],st0⟩)):Nm))) O .nil) (fun h hp=>hp) ?_))))
 have hI:Ey BV [(([47]:Bs),((tn,(.slice (some ⟨ba,0,none⟩) 1 1,⟨[],[(31,[119,111,114,108,100])],st0⟩)):Nm))] []:=⟨by simp,fun q=>(by unfold BV;simp only [AC];split<;>rfl),by simp,fun i=>rfl⟩
 refine .trFold (τ:=BV) hI O Y Y Y ?_
 exact .dn Y Y ⟨_,Y,Y⟩
theorem ID (t:Nat) (τ:Tr) (p:Bs) (num zx:Int):Fn prog 205 #[AD t,AF p,AA num,AA zx] [AV t τ] fun v L=>v= .tuple #[]∧L=[AV t (G3 τ p num zx)]:=by
 refine Fn.intro func205 Y Y fun F W=>?_
 refine .trOpen (τ:=τ) O fun rn rs m s hI=>(.sr ?_)
 rcases hal:AC m p with _|x
 ·refine Z ?_
  refine .q (.lookupN (m:=m) (enc:=G1) (Aa.str underlying9) (hal) Y Y underlying120 DF O Y) Y (Z ?_)
  refine .done_n (.trFold (τ:=τ) hI O Y Y Y (.trCast (τ':=G3 τ p num zx) O (hI.kidN hal _) ?_))
  exact .vv
 refine Z ?_
 refine .q (.lookupY (m:=m) (enc:=G1) (Aa.str underlying9) (hal) Y Y underlying120 DF O Y) Y (Z ?_)
 refine .bigTake hal O (.ndOpen (x:=(p,x)) O (Z ?_))
 refine .done_n (.ndFold (x:=(p,(x.1,(x.2.1,kidN num zx x.2.2)))) O Y Y Y Y (.bigPut (f:=HB) (m:=m) p (x.1,(x.2.1,kidN num zx x.2.2)) Y O (.trFold (τ:=(G3 τ p num zx)) (hI.mod hal (kidN num zx) (y:=(x.1,(x.2.1,kidN num zx x.2.2))) Y) O Y (Se (y:=(x.1,(x.2.1,kidN num zx x.2.2))) hal Y).symm Y ?_)))
 exact .vv
theorem KI (t:Nat) (τ:Tr) (x:Pt) (zx:Int) (p:HP) (hx:PtA p x):Fn prog 134 #[AD t, .agg (A0 x).toArray,AA zx] [AV t τ,p] fun v L=> ∃a c,v= .slice a (A5 τ x zx).2.length c∧L=[AV t (A5 τ x zx).1,p,At 208 3 v (A5 τ x zx).2.length ((A5 τ x zx).2.flatMap FP)]:=by
 refine Fn.intro func134 Y Y fun F W=>?_
 have hfew:=hx.few
 have hpl:=hx.plen
 have hpar:=PX x.path
 refine .sr (.oq (.box Y) ?_)
 rintro v L' ⟨bx,rfl,rfl⟩
 refine Z ?_
 refine .ptCast (b:=bx) (l':=A0 x) O Y ?_
 refine Z ?_
 refine .cv func176 [_] (Dl x.path om) ?_
 refine Z ?_
 refine .cv func204 [_] (RX x.path hpl) ?_
 refine Z ?_
 refine .ndec (t:=16) Y (fun h2_16=>?_) (fun h2_16=>?_)
 ·refine .kNT (t:=15) Y h2_16 (Z ?_)
  refine .add (AU 208 3) ?_
  have hc:A5 τ x zx=(τ,[]):=by unfold A5;rw [if_neg (fun g=>h2_16 g.1)]
  refine .trCast (τ':=(A5 τ x zx).1) O (by rw [hc]) (.slCast (T:=208) (sz:=3) (m':=(A5 τ x zx).2.length) (xs':=(A5 τ x zx).2.flatMap FP) O (by rw [hc];rfl) (by first|(rw [hc];done)|(rw [hc];rfl)) ?_)
  exact .dn Y Y ⟨_,_,by rw [hc];rfl,rfl⟩
 refine .kNF (t:=15) Y h2_16 (.trOpen (τ:=τ) O fun rn rs m s hI=>(Z ?_))
 rcases hup:AC m (AK x.path) with _|pu
 ·refine Z ?_
  refine .q (.lookupN (m:=m) (enc:=G1) (Aa.str underlying9) (hup) Y Y underlying120 DF O Y) Y (Z ?_)
  refine .add (AU 208 3) ?_
  have hc:A5 τ x zx=(τ,[]):=by unfold A5;rw [if_neg (fun g=>hI.none_iff.1 hup g.2)]
  refine .trFold (τ:=τ) hI O Y Y Y (.trCast (τ':=(A5 τ x zx).1) O (by rw [hc]) (.slCast (T:=208) (sz:=3) (m':=(A5 τ x zx).2.length) (xs':=(A5 τ x zx).2.flatMap FP) O (by rw [hc];rfl) (by first|(rw [hc];done)|(rw [hc];rfl)) ?_))
  exact .dn Y Y ⟨_,_,by rw [hc];rfl,rfl⟩
 refine Z ?_
 refine .q (.lookupY (m:=m) (enc:=G1) (Aa.str underlying9) (hup) Y Y underlying120 DF O Y) Y (Z ?_)
 refine .draw [] [[0,1,2,3,4,5,6,7]] mixed kQ (.g0 ?_)
 rcases hal:AC m x.path with _|px
 ·refine Z ?_
  refine D.kv Y (.lookupN (m:=m) (enc:=G1) (Aa.str underlying9) (hal) Y Y underlying120 DF O Y) (Z ?_)
  refine .draw [10,18,19] [[0,1,2,3,4,5,6,7,8,9,11,12,13,14,15,16,10,17,18],[19]] mixed kQ (.go [AW bx _ _,AW t _ _] O (Z ?_))
  refine D.k Y (.build (us:=[(0,_),(1,_),(2,_),(6,_)]) ZW FU Y Y (by simp [AB])) (.hh Y (.c func136 [_] (B8 x.aclV x.acl p hx.acl hfew)) ?_)
  rintro v L' ⟨⟨a7,c7,rfl⟩,rfl⟩
  refine D.kv Y (.buildN (pl:=[(0,1),(1,1),(2,9)]) (us:=[(0,AF x.data),(1, .slice a7 x.acl.length c7),(2, .agg ([AA zx,AA zx,AA zx,AA 0,AA 0,AA 0,AA x.own,AA 0,AA 0]:List Value).toArray)]) (cells:=[AF x.data, .slice a7 x.acl.length c7]++[AA zx,AA zx,AA zx,AA 0,AA 0,AA 0,AA x.own,AA 0,AA 0]) underlying130 kQ Kk Y (GT _ _ _ _ _ _ _ _ _ _ _ _ _)) (.hh Y (.box Y) ?_)
  rintro v L' ⟨tn,rfl,rfl⟩
  refine D.ph (.g0 (.hh Y (.mapSet (m:=m) (enc:=G1) (v:=((tn,(.slice a7 x.acl.length c7,EZ x zx)):Nm)) (k:=x.path) (Aa.str underlying9) Y Y Y underlying120 ?he54) ?_))
  case he54=>rfl
  rintro v L' rfl
  refine D.ph (.fin (.toRd O (.ndFold (x:=(x.path,((tn,(.slice a7 x.acl.length c7,EZ x zx)):Nm))) O Y Y Y Y ?_)))
  have hdel:=Eq hal
  refine .bigPut (f:=HB) (m:=m) x.path ((tn,(.slice a7 x.acl.length c7,EZ x zx)):Nm) Y (by rw [hdel];(repeat' constructor)) (.trFold (τ:=({τ with nodes:=sset τ.nodes x.path (EZ x zx)}:Tr)) (hI.lay x.path ((tn,(.slice a7 x.acl.length c7,EZ x zx)):Nm)) O Y Y Y (Z ?_))
  refine .cv func205 [_,_,_,_] (ID t ({τ with nodes:=sset τ.nodes x.path (EZ x zx)}:Tr) (AK x.path) x.num zx) ?_
  refine Z ?_
  refine .q (.build (us:=[(0,_),(1,_),(2,_)]) Kw Dc Y Y (by simp [AB])) Y (Z ?_)
  refine .q (.build (us:=[(0,_),(1,_),(2,_)]) Kw Dc Y Y (by simp [AB])) Y (.oq (.buildSlice (vs:=[_,_]) JI Dc Y Y Y Y cQ dQ) ?_)
  rintro v L' ⟨bo,rfl,rfl⟩
  refine Z ?_
  refine .slMakeN 3 2 (b:=bo) (xs:=([(1,(x.path,zx)),(4,(AK x.path,zx))]:List Ev).flatMap FP) O Y Y (Z ?_)
  have hc:A5 τ x zx=(G3 ({τ with nodes:=sset τ.nodes x.path (EZ x zx)}:Tr) (AK x.path) x.num zx,[(1,(x.path,zx)),(4,(AK x.path,zx))]):=by unfold A5;rw [if_pos ⟨h2_16,hI.some_iff hup⟩,if_neg (hI.none_iff.1 hal)]
  refine .trCast (τ':=(A5 τ x zx).1) O (by rw [hc]) (.slCast (T:=208) (sz:=3) (m':=(A5 τ x zx).2.length) (xs':=(A5 τ x zx).2.flatMap FP) O (by rw [hc];rfl) (by first|(rw [hc];done)|(rw [hc];rfl)) ?_)
  exact .dn Y Y ⟨_,_,by rw [hc];rfl,rfl⟩
 refine Z ?_
 refine D.kv Y (.lookupY (m:=m) (enc:=G1) (Aa.str underlying9) (hal) Y Y underlying120 DF O Y) (Z ?_)
 refine .draw [10,18,19] [[0,1,2,3,4,5,6,7,8,9,11,12,13,14,15,16,10,17,18],[19]] mixed kQ (.go [AW bx _ _,AW t _ _] O (Z ?_))
 refine D.k Y (.build (us:=[(0,_),(1,_),(2,_),(6,_)]) ZW FU Y Y (by simp [AB])) (.hh Y (.c func136 [_] (B8 x.aclV x.acl p hx.acl hfew)) ?_)
 rintro v L' ⟨⟨a7,c7,rfl⟩,rfl⟩
 refine D.kv Y (.buildN (pl:=[(0,1),(1,1),(2,9)]) (us:=[(0,AF x.data),(1, .slice a7 x.acl.length c7),(2, .agg ([AA zx,AA zx,AA zx,AA 0,AA 0,AA 0,AA x.own,AA 0,AA 0]:List Value).toArray)]) (cells:=[AF x.data, .slice a7 x.acl.length c7]++[AA zx,AA zx,AA zx,AA 0,AA 0,AA 0,AA x.own,AA 0,AA 0]) underlying130 kQ Kk Y (GT _ _ _ _ _ _ _ _ _ _ _ _ _)) (.hh Y (.box Y) ?_)
 rintro v L' ⟨tn,rfl,rfl⟩
 refine D.ph (.g0 (.hh Y (.mapSet (m:=m) (enc:=G1) (v:=((tn,(.slice a7 x.acl.length c7,EZ x zx)):Nm)) (k:=x.path) (Aa.str underlying9) Y Y Y underlying120 ?he100) ?_))
 case he100=>rfl
 rintro v L' rfl
 refine D.ph (.fin (.toRd O (.ndFold (x:=(x.path,((tn,(.slice a7 x.acl.length c7,EZ x zx)):Nm))) O Y Y Y Y (.bigTake hal O (.bigPut (f:=HB) (m:=m) x.path ((tn,(.slice a7 x.acl.length c7,EZ x zx)):Nm) Y O (.trFold (τ:=({τ with nodes:=sset τ.nodes x.path (EZ x zx)}:Tr)) (hI.lay x.path ((tn,(.slice a7 x.acl.length c7,EZ x zx)):Nm)) O Y Y Y (Z ?_)))))))
 refine .cv func205 [_,_,_,_] (ID t ({τ with nodes:=sset τ.nodes x.path (EZ x zx)}:Tr) (AK x.path) x.num zx) ?_
 refine Z ?_
 refine .q (.build (us:=[(0,_),(1,_),(2,_)]) Kw Dc Y Y (by simp [AB])) Y (Z ?_)
 refine .q (.build (us:=[(0,_),(1,_),(2,_)]) Kw Dc Y Y (by simp [AB])) Y (.oq (.buildSlice (vs:=[_,_]) JI Dc Y Y Y Y cQ dQ) ?_)
 rintro v L' ⟨bo,rfl,rfl⟩
 refine Z ?_
 refine .slMakeN 3 2 (b:=bo) (xs:=([(3,(x.path,zx)),(4,(AK x.path,zx))]:List Ev).flatMap FP) O Y Y (Z ?_)
 have hc:A5 τ x zx=(G3 ({τ with nodes:=sset τ.nodes x.path (EZ x zx)}:Tr) (AK x.path) x.num zx,[(3,(x.path,zx)),(4,(AK x.path,zx))]):=by unfold A5;rw [if_pos ⟨h2_16,hI.some_iff hup⟩,if_pos (hI.some_iff hal)]
 refine .trCast (τ':=(A5 τ x zx).1) O (by rw [hc]) (.slCast (T:=208) (sz:=3) (m':=(A5 τ x zx).2.length) (xs':=(A5 τ x zx).2.flatMap FP) O (by rw [hc];rfl) (by first|(rw [hc];done)|(rw [hc];rfl)) ?_)
 exact .dn Y Y ⟨_,_,by rw [hc];rfl,rfl⟩
theorem UC (mb:Option Nat):Fn prog 146 #[.map mb] [] fun v L=> ∃b,v= .func (.func 209) #[] #[AD b]∧L=[AW b [.map mb] 120]:=
 AEG Tryz.keysS mb
theorem P5 {b r:Nat} {T:TypeId} (m:G2) (hnd:(m.map (·.1)).Nodup) (hbd:∀x∈m,x.1.length≤60) (hlen:m.length≤1099511627776):
  Fn prog 145 #[.func (.func 209) #[] #[AD b]] [AW b [.map (some r)] T,mapR r (TG m)] fun v L=>(∃a c,v= .slice a m.length c)∧L=[At 9 1 v m.length (A1 (sortS (m.map (·.1)))),mapR r (TG m)]:=
 YB Tryz.keysS Tryz.sortedS Tryz.sortS rfl (enters_of func208 rfl rfl) (enters_of func209 rfl rfl) underlying9 (enc:=G1) (b:=b) (r:=r) (T:=T) m hnd (fun x hx=>Nat.le_trans (hbd x hx) dQ) hlen
theorem Sa (v:Value) (n:Nat) (xs:List Bs) (hn:n<4611686018427387904):Fn prog 208 #[v] [At 9 1 v n (A1 xs)] fun u L=>u= .tuple #[]∧L=[At 9 1 v n (A1 (sortS xs))]:=
 ACv Tryz.sortS 9 v n xs hn
theorem Rk (t rn:Nat) (vs vz:Value) (m:G2) (p:Bs) (hlen:∀x∈m,x.1.length≤60) (hm0:m.length≤1099511627776):Fn prog 220 #[AD t,AF p] [AW t [.map (some rn),vs,vz] 123,mapR rn (TG m)] fun v L=>(∃a c,v= .slice a (HC m p).length c)∧L=[AW t [.map (some rn),vs,vz] 123,mapR rn (TG m),At 9 1 v (HC m p).length (A1 (sortS (HC m p)))]:=by
 refine Fn.intro func220 Y Y fun F W=>?_
 refine Z ?_
 refine .add (AU 9 1) (Z ?_)
 refine .oq (.range (f:=fun x:Bs×Nm=>(AF x.1,G1 x.2)) (m:=m) Y underlying120 ?he7) ?_
 case he7=>rfl
 rintro v L' ⟨it,rfl,rfl⟩
 refine Z ?_
 refine .loopK (ι:=G2×Value×(List Bs)) (fun q E=>(5,q.2.1)::E) (fun q=>[EE (fun x:Bs×Nm=>(AF x.1,G1 x.2)) it rn m q.1,At 9 1 q.2.1 q.2.2.length (A1 q.2.2)]) (fun q=>q.2.2=HC q.1 p∧(∃rest,m.Perm (q.1++rest))∧∃a c,q.2.1= .slice a q.2.2.length c) (fun q=>m.length-q.1.length) ([], .slice none 0 0,[]) (ts:=[1,4,11]) O (⟨Y,⟨m, .refl _⟩,none,0,Y⟩) O O ?_
 rintro ⟨ss,u,acc⟩ ⟨hacc,⟨rest,hm⟩,au,cu,hu⟩
 dsimp only
 dsimp only at hacc hm hu
 subst hu
 have hml:=hm.length_eq
 rw [length_append] at hml
 have hkl:=Rb ss p
 rw [←hacc] at hkl
 refine .sr (.oq (.next Y) ?_)
 rintro v L' (⟨rfl,hp3,rfl⟩|⟨x,rest3,rfl,hp3,rfl⟩)
 ·refine .rangeDone O ?_
  have hperm:acc.Perm (HC m p):=by rw [hacc];unfold HC;exact ((hp3.symm.filter _).map _)
  have hpl:=hperm.length_eq
  have hsp:=HN hperm
  have hkm:=Rb m p
  refine Z ?_
  refine .oq (.call func208 Y Y (vs:=[_]) Y (Sa _ acc.length acc om)) ?_
  rintro v L' ⟨rfl,rfl⟩;rw [hsp,hpl]
  refine Z ?_
  exact .dn Y Y ⟨⟨_,_,Y⟩,Y⟩
 refine Z ?_
 refine .q (.entryE (v:= .tuple #[AF x.1,G1 x.2]) Y O Y) Y (Z ?_)
 have hxm:x∈m:=hp3.mem_iff.2 (by simp)
 have hxl:=hlen x hxm
 refine Z ?_
 refine .ndec (t:=18) Y (fun h5_18=>?_) (fun h5_18=>?_)
 ·refine .kNT (t:=17) Y h5_18 (Z ?_)
  refine .cv func176 [_] (Dl x.1 om) ?_
  refine Z ?_
  refine .condD Y (fun h23=>?_) (fun h23=>?_)
  ·refine Z ?_
   refine .cv func281 [_] (AAq x.1 om) ?_
   refine .oq (.buildSlice1 (vs:=[_]) Br Gf Y Y Y Y Y dQ) ?_
   rintro v L' ⟨b6_3,rfl,rfl⟩
   refine .oq (.append1 Y Y Y Br Gf Y Y ?c31 ?c32 (Nat.le_refl _) ?c33 dQ) ?_
   case c31=>(first|(simp [AB];done)|(simp [AB,AQ,Value.cells];done))
   case c32=>rfl
   case c33=>omega
   rintro v L' ⟨⟨a6_4,c6_4,rfl⟩,rfl⟩
   refine Z ?_
   have hl:=hp3.length_eq
   simp at hl
   have hsel:¬x.1=[47]∧AK x.1=p:=⟨h5_18,h23⟩
   rw [show A1 acc++[AF (DL x.1)]=A1 (acc++[DL x.1]) by simp [A1],show acc.length+1=(acc++[DL x.1]).length by simp]
   exact .rk ((ss++[x], .slice a6_4 (acc++[DL x.1]).length c6_4,acc++[DL x.1])) (⟨by dsimp only;rw [hacc];unfold HC;rw [filter_append,map_append];simp [hsel],⟨_,by simpa using hp3⟩,_,_,rfl⟩) (by dsimp only;simp;omega) O
  refine Z ?_
  have hl:=hp3.length_eq
  simp at hl
  have hsel:¬x.1=[47]→¬AK x.1=p:=fun g1 g2=>h23 g2
  exact .rk ((ss++[x], .slice au acc.length cu,acc)) (⟨by dsimp only;rw [hacc];unfold HC;rw [filter_append,map_append];simp;exact hsel,⟨_,by simpa using hp3⟩,_,_,rfl⟩) (by dsimp only;simp;omega) O
 refine .kNF (t:=17) Y h5_18 (Z ?_)
 have hl:=hp3.length_eq
 simp at hl
 have hsel:¬x.1=[47]→¬AK x.1=p:=fun g1 g2=>g1 h5_18
 exact .rk ((ss++[x], .slice au acc.length cu,acc)) (⟨by dsimp only;rw [hacc];unfold HC;rw [filter_append,map_append];simp;exact hsel,⟨_,by simpa using hp3⟩,_,_,rfl⟩) (by dsimp only;simp;omega) O
theorem E0 (t:Nat) (τ:Tr) (N:Nat) (ho:τ.Ok N) (hN:N≤1099511627776):Fn prog 88 #[AD t] [AV t τ] fun v L=>(∃a c,v= .slice a (AX τ).length c)∧L=[AV t τ,At 9 1 v (AX τ).length (A1 (AX τ))]:=by
 refine Fn.intro func88 Y Y fun F W=>?_
 refine .trOpen (τ:=τ) O fun rn rs m s hI=>?_
 have hlen:=hI.len ho
 have hfew:=ho.few
 have hpz:(AX τ).length=τ.nodes.length:=length_map _
 refine Z ?_
 refine .oq (.c func146 [_] (UC _)) ?_
 rintro v L' ⟨bk,rfl,rfl⟩
 refine .oq (.c func145 [_] (P5 m hI.keys (hI.plen ho) om)) ?_
 rintro v L' ⟨⟨ap,cp,rfl⟩,rfl⟩;rw [hI.paths ho,show m.length=(AX τ).length by omega]
 refine Z ?_
 refine .trFold (τ:=τ) hI O Y Y Y ?_
 exact .dn Y Y ⟨⟨_,_,Y⟩,Y⟩
theorem Su (t:Nat) (τ:Tr) (z:Int):Fn prog 113 #[AD t,AA z] [AV t τ] fun v L=>v= .tuple #[]∧L=[AV t (zxT τ z)]:=by
 refine Fn.intro func113 Y Y fun F W=>?_
 refine .trOpen (τ:=τ) O fun rn rs m s hI=>(Z ?_)
 refine .done_n (.trFold (τ:=(zxT τ z)) (hI.zx z) O Y Y Y ?_)
 exact .vv
theorem Dm (t:Nat) (τ:Tr):Fn prog 52 #[AD t] [AV t τ] fun v L=>v=AA τ.zx∧L=[AV t τ]:=by
 refine Fn.intro func52 Y Y fun F W=>?_
 refine .trOpen (τ:=τ) O fun rn rs m s hI=>(Z ?_)
 refine .trFold (τ:=τ) hI O Y Y Y ?_
 exact .vv
theorem K6 (t:Nat) (τ:Tr) (x:Pt) (zx:Int) (p:HP) (hx:PtA p x) (N:Nat) (ho:τ.Ok N) (hN:N≤1099511627776):Fn prog 135 #[AD t, .agg (A0 x).toArray,AA zx] [AV t τ] fun v L=> ∃a c,v= .slice a (BS τ x zx).2.length c∧L=[AV t (BS τ x zx).1,At 208 3 v (BS τ x zx).2.length ((BS τ x zx).2.flatMap FP)]:=by
 refine Fn.intro func135 Y Y fun F W=>?_
 have hfew:=hx.few
 have hpl:=hx.plen
 have hpar:=PX x.path
 have hpz:(AX τ).length=τ.nodes.length:=length_map _
 have hofew:=ho.few
 refine .sr (.oq (.box Y) ?_)
 rintro v L' ⟨bx,rfl,rfl⟩
 refine Z ?_
 refine .ptCast (b:=bx) (l':=A0 x) O Y ?_
 refine Z ?_
 refine .cv func204 [_] (RX x.path hpl) ?_
 refine Z ?_
 refine .condN Y (fun h16=>?_) (fun h16=>?_)
 ·refine Z ?_
  refine .add (AU 208 3) ?_
  have hc:BS τ x zx=(τ,[]):=by unfold BS;rw [if_neg h16]
  refine .trCast (τ':=(BS τ x zx).1) O (by rw [hc]) (.slCast (T:=208) (sz:=3) (m':=(BS τ x zx).2.length) (xs':=(BS τ x zx).2.flatMap FP) O (by (rw [hc];try rfl)) (by (rw [hc];try rfl)) ?_)
  exact .dn Y Y ⟨_,_,by (rw [hc];try rfl),rfl⟩
 refine Z ?_
 refine .cv func176 [_] (Dl x.path om) ?_
 refine Z ?_
 refine .trOpen (τ:=τ) O fun rn rs m s hI=>(.draw [] [[0,1,2,3,4,5,6,7,8,9,10,11]] mixed kQ (.g0 ?_))
 rcases hal:AC m x.path with _|px
 ·have hth:¬AL τ x.path:=hI.none_iff.1 hal
  refine Z ?_
  refine D.kv Y (.lookupOkN (m:=m) (enc:=G1) (Aa.str underlying9) hal Y Y underlying120 DF O Y) (Z ?_)
  refine .trFold (τ:=τ) hI O Y Y Y (Z ?_)
  refine .oq (.c func88 [_] (E0 t τ N ho hN)) ?_
  rintro v L' ⟨⟨ap,cp,rfl⟩,rfl⟩
  refine Z ?_
  refine .trCast (τ':=cutL τ x.path ((AX τ).take 0)) O (by rw [take_zero,TO]) (.loopK (ι:=Nat) (fun q E=>(33,AA q)::E) (fun q=>[AV t (cutL τ x.path ((AX τ).take q))]) (fun q=>q≤(AX τ).length) (fun q=>(AX τ).length-q) (0) (ts:=[0,2,4,6,7,9,31,32]) O (Nat.zero_le _) O O ?_)
  rintro i hi
  refine Z ?_
  refine .condD Y (fun h34=>?_) (fun h34=>?_)
  ·have hi2:i<(AX τ).length:=by omega
   refine .slShape (v:= .slice ap _ cp) O om fun bp cp' e0 mp _=>?_
   simp only [Value.slice.injEq,true_and] at e0
   obtain ⟨rfl,rfl⟩:=e0
   refine Z ?_
   refine .q (.indexAddr Y Y Br om) Y (.q (.loadSl (v:=AF (AX τ)[i]) (i:=i*1) Y HL O (by simp [hi2])) Y (Z ?_))
   refine .dec (t:=41) Y (fun h8_41=>?_) (fun h8_41=>?_)
   ·refine .kDT (t:=40) Y h8_41 (Z ?_)
    have hhit:B6 (AX τ)[i] x.path=true:=by unfold B6;rw [decide_eq_true h8_41];rfl
    refine .trOpen (τ:=(cutL τ x.path ((AX τ).take i))) O fun rn rs m s hI=>(Z ?_)
    refine .oq (.mapDel (m:=m) (enc:=G1) (k:=(AX τ)[i]) (Aa.str underlying9) Y Y Y underlying120 ?he39) ?_
    case he39=>rfl
    rintro v L' rfl
    refine .nil (.bigDel (f:=HB) (AX τ)[i] O (.trFold (τ:=({(cutL τ x.path ((AX τ).take i)) with nodes:=(cutL τ x.path ((AX τ).take i)).nodes.filter fun y=> !decide (y.1=(AX τ)[i])}:Tr)) (hI.del (AX τ)[i]) O Y Y Y (Z ?_)))
    refine .trCast (τ':=cutL τ x.path ((AX τ).take (i+1))) O (by rw [take_succ_eq_append_getElem hi2,LE τ _ hhit]) ?_
    exact .rk (i+1) om om O
   refine .kDF (t:=40) Y h8_41 (Z ?_)
   refine .cv func206 [_,_] (Or (AX τ)[i] x.path om) ?_
   refine Z ?_
   refine .condD Y (fun h46=>?_) (fun h46=>?_)
   ·have hhit:B6 (AX τ)[i] x.path=true:=by unfold B6;rw [decide_eq_true h46,Bool.or_true]
    refine .trOpen (τ:=(cutL τ x.path ((AX τ).take i))) O fun rn rs m s hI=>(Z ?_)
    refine .oq (.mapDel (m:=m) (enc:=G1) (k:=(AX τ)[i]) (Aa.str underlying9) Y Y Y underlying120 ?he50) ?_
    case he50=>rfl
    rintro v L' rfl
    refine .nil (.bigDel (f:=HB) (AX τ)[i] O (.trFold (τ:=({(cutL τ x.path ((AX τ).take i)) with nodes:=(cutL τ x.path ((AX τ).take i)).nodes.filter fun y=> !decide (y.1=(AX τ)[i])}:Tr)) (hI.del (AX τ)[i]) O Y Y Y (Z ?_)))
    refine .trCast (τ':=cutL τ x.path ((AX τ).take (i+1))) O (by rw [take_succ_eq_append_getElem hi2,LE τ _ hhit]) ?_
    exact .rk (i+1) om om O
   have hhit:B6 (AX τ)[i] x.path=false:=by unfold B6;rw [decide_eq_false h8_41,decide_eq_false h46];rfl
   refine Z ?_
   refine .trCast (τ':=cutL τ x.path ((AX τ).take (i+1))) O (by rw [take_succ_eq_append_getElem hi2,Qs τ _ hhit]) ?_
   exact .rk (i+1) om om O
  have hii:i=(AX τ).length:=by omega
  rw [hii,take_length,TV]
  refine Z ?_
  refine .cv func205 [_,_,_,_] (ID t (IR τ x.path) (AK x.path) x.num zx) ?_
  refine Z ?_
  refine .add (AU 208 3) ?_
  have hc:BS τ x zx=((G3 (IR τ x.path) (AK x.path) x.num zx),[]):=by unfold BS;rw [if_pos h16,if_neg hth]
  refine .trCast (τ':=(BS τ x zx).1) O (by rw [hc]) (.slCast (T:=208) (sz:=3) (m':=(BS τ x zx).2.length) (xs':=(BS τ x zx).2.flatMap FP) O (by (rw [hc];try rfl)) (by (rw [hc];try rfl)) ?_)
  exact .dn Y Y ⟨_,_,by (rw [hc];try rfl),rfl⟩
 have hth:AL τ x.path:=hI.some_iff hal
 refine Z ?_
 refine D.kv Y (.lookupOkY (m:=m) (enc:=G1) (Aa.str underlying9) hal Y Y underlying120 DF O Y) (Z ?_)
 refine .trFold (τ:=τ) hI O Y Y Y (Z ?_)
 refine .oq (.c func88 [_] (E0 t τ N ho hN)) ?_
 rintro v L' ⟨⟨ap,cp,rfl⟩,rfl⟩
 refine Z ?_
 refine .trCast (τ':=cutL τ x.path ((AX τ).take 0)) O (by rw [take_zero,TO]) (.loopK (ι:=Nat) (fun q E=>(33,AA q)::E) (fun q=>[AV t (cutL τ x.path ((AX τ).take q))]) (fun q=>q≤(AX τ).length) (fun q=>(AX τ).length-q) (0) (ts:=[0,2,4,6,7,9,31,32]) O (Nat.zero_le _) O O ?_)
 rintro i hi
 refine Z ?_
 refine .condD Y (fun h34=>?_) (fun h34=>?_)
 ·have hi2:i<(AX τ).length:=by omega
  refine .slShape (v:= .slice ap _ cp) O om fun bp cp' e0 mp _=>?_
  simp only [Value.slice.injEq,true_and] at e0
  obtain ⟨rfl,rfl⟩:=e0
  refine Z ?_
  refine .q (.indexAddr Y Y Br om) Y (.q (.loadSl (v:=AF (AX τ)[i]) (i:=i*1) Y HL O (by simp [hi2])) Y (Z ?_))
  refine .dec (t:=41) Y (fun h8_41=>?_) (fun h8_41=>?_)
  ·refine .kDT (t:=40) Y h8_41 (Z ?_)
   have hhit:B6 (AX τ)[i] x.path=true:=by unfold B6;rw [decide_eq_true h8_41];rfl
   refine .trOpen (τ:=(cutL τ x.path ((AX τ).take i))) O fun rn rs m s hI=>(Z ?_)
   refine .oq (.mapDel (m:=m) (enc:=G1) (k:=(AX τ)[i]) (Aa.str underlying9) Y Y Y underlying120 ?he89) ?_
   case he89=>rfl
   rintro v L' rfl
   refine .nil (.bigDel (f:=HB) (AX τ)[i] O (.trFold (τ:=({(cutL τ x.path ((AX τ).take i)) with nodes:=(cutL τ x.path ((AX τ).take i)).nodes.filter fun y=> !decide (y.1=(AX τ)[i])}:Tr)) (hI.del (AX τ)[i]) O Y Y Y (Z ?_)))
   refine .trCast (τ':=cutL τ x.path ((AX τ).take (i+1))) O (by rw [take_succ_eq_append_getElem hi2,LE τ _ hhit]) ?_
   exact .rk (i+1) om om O
  refine .kDF (t:=40) Y h8_41 (Z ?_)
  refine .cv func206 [_,_] (Or (AX τ)[i] x.path om) ?_
  refine Z ?_
  refine .condD Y (fun h46=>?_) (fun h46=>?_)
  ·have hhit:B6 (AX τ)[i] x.path=true:=by unfold B6;rw [decide_eq_true h46,Bool.or_true]
   refine .trOpen (τ:=(cutL τ x.path ((AX τ).take i))) O fun rn rs m s hI=>(Z ?_)
   refine .oq (.mapDel (m:=m) (enc:=G1) (k:=(AX τ)[i]) (Aa.str underlying9) Y Y Y underlying120 ?he100) ?_
   case he100=>rfl
   rintro v L' rfl
   refine .nil (.bigDel (f:=HB) (AX τ)[i] O (.trFold (τ:=({(cutL τ x.path ((AX τ).take i)) with nodes:=(cutL τ x.path ((AX τ).take i)).nodes.filter fun y=> !decide (y.1=(AX τ)[i])}:Tr)) (hI.del (AX τ)[i]) O Y Y Y (Z ?_)))
   refine .trCast (τ':=cutL τ x.path ((AX τ).take (i+1))) O (by rw [take_succ_eq_append_getElem hi2,LE τ _ hhit]) ?_
   exact .rk (i+1) om om O
  have hhit:B6 (AX τ)[i] x.path=false:=by unfold B6;rw [decide_eq_false h8_41,decide_eq_false h46];rfl
  refine Z ?_
  refine .trCast (τ':=cutL τ x.path ((AX τ).take (i+1))) O (by rw [take_succ_eq_append_getElem hi2,Qs τ _ hhit]) ?_
  exact .rk (i+1) om om O
 have hii:i=(AX τ).length:=by omega
 rw [hii,take_length,TV]
 refine Z ?_
 refine .cv func205 [_,_,_,_] (ID t (IR τ x.path) (AK x.path) x.num zx) ?_
 refine Z ?_
 refine .q (.build (us:=[(0,_),(1,_),(2,_)]) Kw Dc Y Y (by simp [AB])) Y (.oq (.buildSlice (vs:=[_]) JI Dc Y Y Y Y cQ dQ) ?_)
 rintro v L' ⟨bo,rfl,rfl⟩
 refine Z ?_
 refine .slMakeN 3 1 (b:=bo) (xs:=([(2,(x.path,zx))]:List Ev).flatMap FP) O Y Y (Z ?_)
 refine .trOpen (τ:=(G3 (IR τ x.path) (AK x.path) x.num zx)) O fun rn rs m s hI=>(Z ?_)
 rcases hup:AC m (AK x.path) with _|pu
 ·refine Z ?_
  refine .q (.lookupN (m:=m) (enc:=G1) (Aa.str underlying9) (hup) Y Y underlying120 DF O Y) Y (Z ?_)
  have hc:BS τ x zx=((G3 (IR τ x.path) (AK x.path) x.num zx),[(2,(x.path,zx))]):=by unfold BS;rw [if_pos h16,if_pos hth,if_neg (fun g=>hI.none_iff.1 hup (Qb.2 g))]
  refine .trFold (τ:=(G3 (IR τ x.path) (AK x.path) x.num zx)) hI O Y Y Y (.trCast (τ':=(BS τ x zx).1) O (by rw [hc]) (.slCast (T:=208) (sz:=3) (m':=(BS τ x zx).2.length) (xs':=(BS τ x zx).2.flatMap FP) O (by (rw [hc];try rfl)) (by (rw [hc];try rfl)) ?_))
  exact .dn Y Y ⟨_,_,by (rw [hc];try rfl),rfl⟩
 refine Z ?_
 refine .q (.lookupY (m:=m) (enc:=G1) (Aa.str underlying9) (hup) Y Y underlying120 DF O Y) Y (Z ?_)
 refine .q (.build (us:=[(0,_),(1,_),(2,_)]) Kw Dc Y Y (by simp [AB])) Y (.oq (.buildSlice (vs:=[_]) JI Dc Y Y Y Y cQ dQ) ?_)
 rintro v L' ⟨b16_4,rfl,rfl⟩
 refine .oq (.append1 Y Y Y JI Dc Y Y ?c138 ?c139 (Nat.le_refl _) ?c140 dQ) ?_
 case c138=>(first|(simp [AB];done)|(simp [AB,AQ,Value.cells];done))
 case c139=>rfl
 case c140=>omega
 rintro v L' ⟨⟨a16_5,c16_5,rfl⟩,rfl⟩
 refine Z ?_
 have hc:BS τ x zx=((G3 (IR τ x.path) (AK x.path) x.num zx),[(2,(x.path,zx)),(4,(AK x.path,zx))]):=by unfold BS;rw [if_pos h16,if_pos hth,if_pos (Qb.1 (hI.some_iff hup))]
 refine .trFold (τ:=(G3 (IR τ x.path) (AK x.path) x.num zx)) hI O Y Y Y (.trCast (τ':=(BS τ x zx).1) O (by rw [hc]) (.slCast (T:=208) (sz:=3) (m':=(BS τ x zx).2.length) (xs':=(BS τ x zx).2.flatMap FP) O (by (rw [hc];try rfl)) (by (rw [hc];try rfl)) ?_))
 exact .dn Y Y ⟨_,_,by (rw [hc];try rfl),rfl⟩
theorem JW (t:Nat) (τ:Tr) (x:Pt) (zx:Int) (p:HP) (hx:PtA p x) (N:Nat) (ho:τ.Ok N) (hN:N≤1099511627776):Fn prog 68 #[AD t, .agg (A0 x).toArray,AA zx] [AV t τ,p] fun v L=> ∃a c,v= .slice a (AI τ x zx).2.length c∧L=[AV t (AI τ x zx).1,p,At 208 3 v (AI τ x zx).2.length ((AI τ x zx).2.flatMap FP)]:=by
 refine Fn.intro func68 Y Y fun F W=>?_
 have hfew:=hx.few
 have hpl:=hx.plen
 refine .sr (.oq (.box Y) ?_)
 rintro v L' ⟨bx,rfl,rfl⟩
 refine Z ?_
 refine .ptCast (b:=bx) (l':=A0 x) O Y ?_
 refine Z ?_
 refine .trOpen (τ:=τ) O fun rn rs m s hI=>(.draw [] [[0,1,2,3,4,5,6,7]] mixed kQ (.g0 ?_))
 rcases hal:AC m x.path with _|px
 ·refine Z ?_
  refine D.kv Y (.lookupN (m:=m) (enc:=G1) (Aa.str underlying9) (hal) Y Y underlying120 DF O Y) (Z ?_)
  refine .condD Y (fun h15=>?_) (fun h15=>?_)
  ·refine .trFold (τ:=τ) hI O Y Y Y (Z ?_)
   refine .q (.loadAs (vs:=A0 x) Y A3 O (by simp [A0]) Y) Y (Z ?_)
   refine .oq (.c func134 [_,_,_] (KI t τ x zx p hx)) ?_
   rintro v L' ⟨a3,c3,rfl,rfl⟩
   refine Z ?_
   have hc:AI τ x zx=A5 τ x zx:=by unfold AI;rw [if_pos h15]
   refine .trCast (τ':=(AI τ x zx).1) O (by rw [hc]) (.slCast (T:=208) (sz:=3) (m':=(AI τ x zx).2.length) (xs':=(AI τ x zx).2.flatMap FP) O (by (rw [hc];try rfl)) (by (rw [hc];try rfl)) ?_)
   exact .dn Y Y ⟨_,_,by (rw [hc];try rfl),rfl⟩
  refine Z ?_
  refine .condD Y (fun h23=>?_) (fun h23=>?_)
  ·refine .trFold (τ:=τ) hI O Y Y Y (Z ?_)
   refine .q (.loadAs (vs:=A0 x) Y A3 O (by simp [A0]) Y) Y (Z ?_)
   refine .oq (.c func135 [_,_,_] (K6 t τ x zx p hx N ho hN)) ?_
   rintro v L' ⟨a5,c5,rfl,rfl⟩
   refine Z ?_
   have hc:AI τ x zx=BS τ x zx:=by unfold AI;rw [if_neg h15,if_pos h23]
   refine .trCast (τ':=(AI τ x zx).1) O (by rw [hc]) (.slCast (T:=208) (sz:=3) (m':=(AI τ x zx).2.length) (xs':=(AI τ x zx).2.flatMap FP) O (by (rw [hc];try rfl)) (by (rw [hc];try rfl)) ?_)
   exact .dn Y Y ⟨_,_,by (rw [hc];try rfl),rfl⟩
  refine Z ?_
  refine .dec (t:=35) Y (fun h6_35=>?_) (fun h6_35=>?_)
  ·refine .kDT (t:=34) Y h6_35 (Z ?_)
   refine .dec (t:=64) Y (fun h9_64=>?_) (fun h9_64=>?_)
   ·refine .kDT (t:=63) Y h9_64 (Z ?_)
    refine .trFold (τ:=τ) hI O Y Y Y (.add (AU 208 3) ?_)
    have hc:AI τ x zx=(τ,[]):=by unfold AI;rw [if_neg h15,if_neg h23,if_neg (fun g=>hI.none_iff.1 hal g.2),if_neg (fun g=>hI.none_iff.1 hal g.2)]
    refine .trCast (τ':=(AI τ x zx).1) O (by rw [hc]) (.slCast (T:=208) (sz:=3) (m':=(AI τ x zx).2.length) (xs':=(AI τ x zx).2.flatMap FP) O (by (rw [hc];try rfl)) (by (rw [hc];try rfl)) ?_)
    exact .dn Y Y ⟨_,_,by (rw [hc];try rfl),rfl⟩
   refine .kDF (t:=63) Y h9_64 (Z ?_)
   refine .trFold (τ:=τ) hI O Y Y Y (.add (AU 208 3) ?_)
   have hc:AI τ x zx=(τ,[]):=by unfold AI;rw [if_neg h15,if_neg h23,if_neg (fun g=>hI.none_iff.1 hal g.2),if_neg (fun g=>h9_64 g.1)]
   refine .trCast (τ':=(AI τ x zx).1) O (by rw [hc]) (.slCast (T:=208) (sz:=3) (m':=(AI τ x zx).2.length) (xs':=(AI τ x zx).2.flatMap FP) O (by (rw [hc];try rfl)) (by (rw [hc];try rfl)) ?_)
   exact .dn Y Y ⟨_,_,by (rw [hc];try rfl),rfl⟩
  refine .kDF (t:=34) Y h6_35 (Z ?_)
  refine .dec (t:=64) Y (fun h9_64=>?_) (fun h9_64=>?_)
  ·refine .kDT (t:=63) Y h9_64 (Z ?_)
   refine .trFold (τ:=τ) hI O Y Y Y (.add (AU 208 3) ?_)
   have hc:AI τ x zx=(τ,[]):=by unfold AI;rw [if_neg h15,if_neg h23,if_neg (fun g=>h6_35 g.1),if_neg (fun g=>hI.none_iff.1 hal g.2)]
   refine .trCast (τ':=(AI τ x zx).1) O (by rw [hc]) (.slCast (T:=208) (sz:=3) (m':=(AI τ x zx).2.length) (xs':=(AI τ x zx).2.flatMap FP) O (by (rw [hc];try rfl)) (by (rw [hc];try rfl)) ?_)
   exact .dn Y Y ⟨_,_,by (rw [hc];try rfl),rfl⟩
  refine .kDF (t:=63) Y h9_64 (Z ?_)
  refine .trFold (τ:=τ) hI O Y Y Y (.add (AU 208 3) ?_)
  have hc:AI τ x zx=(τ,[]):=by unfold AI;rw [if_neg h15,if_neg h23,if_neg (fun g=>h6_35 g.1),if_neg (fun g=>h9_64 g.1)]
  refine .trCast (τ':=(AI τ x zx).1) O (by rw [hc]) (.slCast (T:=208) (sz:=3) (m':=(AI τ x zx).2.length) (xs':=(AI τ x zx).2.flatMap FP) O (by (rw [hc];try rfl)) (by (rw [hc];try rfl)) ?_)
  exact .dn Y Y ⟨_,_,by (rw [hc];try rfl),rfl⟩
 refine Z ?_
 refine D.kv Y (.lookupY (m:=m) (enc:=G1) (Aa.str underlying9) (hal) Y Y underlying120 DF O Y) (Z ?_)
 refine .condD Y (fun h15=>?_) (fun h15=>?_)
 ·refine .trFold (τ:=τ) hI O Y Y Y (Z ?_)
  refine .q (.loadAs (vs:=A0 x) Y A3 O (by simp [A0]) Y) Y (Z ?_)
  refine .oq (.c func134 [_,_,_] (KI t τ x zx p hx)) ?_
  rintro v L' ⟨a3,c3,rfl,rfl⟩
  refine Z ?_
  have hc:AI τ x zx=A5 τ x zx:=by unfold AI;rw [if_pos h15]
  refine .trCast (τ':=(AI τ x zx).1) O (by rw [hc]) (.slCast (T:=208) (sz:=3) (m':=(AI τ x zx).2.length) (xs':=(AI τ x zx).2.flatMap FP) O (by (rw [hc];try rfl)) (by (rw [hc];try rfl)) ?_)
  exact .dn Y Y ⟨_,_,by (rw [hc];try rfl),rfl⟩
 refine Z ?_
 refine .condD Y (fun h23=>?_) (fun h23=>?_)
 ·refine .trFold (τ:=τ) hI O Y Y Y (Z ?_)
  refine .q (.loadAs (vs:=A0 x) Y A3 O (by simp [A0]) Y) Y (Z ?_)
  refine .oq (.c func135 [_,_,_] (K6 t τ x zx p hx N ho hN)) ?_
  rintro v L' ⟨a5,c5,rfl,rfl⟩
  refine Z ?_
  have hc:AI τ x zx=BS τ x zx:=by unfold AI;rw [if_neg h15,if_pos h23]
  refine .trCast (τ':=(AI τ x zx).1) O (by rw [hc]) (.slCast (T:=208) (sz:=3) (m':=(AI τ x zx).2.length) (xs':=(AI τ x zx).2.flatMap FP) O (by (rw [hc];try rfl)) (by (rw [hc];try rfl)) ?_)
  exact .dn Y Y ⟨_,_,by (rw [hc];try rfl),rfl⟩
 refine Z ?_
 refine .dec (t:=35) Y (fun h6_35=>?_) (fun h6_35=>?_)
 ·refine .kDT (t:=34) Y h6_35 (Z ?_)
  refine .bigTake hal O (.ndOpen (x:=(x.path,px)) O (.draw [10,14,18] [[0,1,2,3,4,5,6,7,8,9,10,11,12,13,14],[15,16,17,18]] mixed kQ (.go [AW bx _ _] O (Z ?_))))
  refine D.hh Y (.store Y Y Y Xz ?c80 (Bd _ _)) ?_
  case c80=>simp [Sz]
  rintro v L' rfl
  refine Z ?_
  refine D.hh Y (.store Y Y Y IV ?c86 (Bd _ _)) ?_
  case c86=>simp [Sz]
  rintro v L' rfl
  refine D.ph (.g0 (Z ?_))
  refine D.hh Y (.store Y Y Y IV ?c92 (Bd _ _)) ?_
  case c92=>simp [Sz]
  rintro v L' rfl
  refine D.ph (.fin (.ndFold (x:=(x.path,(px.1,(px.2.1,HQ x.data x.num zx px.2.2)))) O Y Y Y Y (.bigPut (f:=HB) (m:=m) x.path ((x.path,(px.1,(px.2.1,HQ x.data x.num zx px.2.2)))).2 Y O (.trFold (τ:=({τ with nodes:=amod τ.nodes x.path (HQ x.data x.num zx)}:Tr)) (hI.mod hal (HQ x.data x.num zx) (y:=((x.path,(px.1,(px.2.1,HQ x.data x.num zx px.2.2)))).2) Y) O Y (Se (y:=((x.path,(px.1,(px.2.1,HQ x.data x.num zx px.2.2)))).2) hal Y).symm Y (Z ?_)))))
  refine .q (.build (us:=[(0,_),(1,_),(2,_)]) Kw Dc Y Y (by simp [AB])) Y (.oq (.buildSlice (vs:=[_]) JI Dc Y Y Y Y cQ dQ) ?_)
  rintro v L' ⟨bo,rfl,rfl⟩
  refine Z ?_
  refine .slMakeN 3 1 (b:=bo) (xs:=([(3,(x.path,zx))]:List Ev).flatMap FP) O Y Y (Z ?_)
  have hc:AI τ x zx=(({τ with nodes:=amod τ.nodes x.path (HQ x.data x.num zx)}:Tr),[(3,(x.path,zx))]):=by unfold AI;rw [if_neg h15,if_neg h23,if_pos ⟨h6_35,hI.some_iff hal⟩]
  refine .trCast (τ':=(AI τ x zx).1) O (by rw [hc]) (.slCast (T:=208) (sz:=3) (m':=(AI τ x zx).2.length) (xs':=(AI τ x zx).2.flatMap FP) O (by (rw [hc];try rfl)) (by (rw [hc];try rfl)) ?_)
  exact .dn Y Y ⟨_,_,by (rw [hc];try rfl),rfl⟩
 refine .kDF (t:=34) Y h6_35 (Z ?_)
 refine .dec (t:=64) Y (fun h9_64=>?_) (fun h9_64=>?_)
 ·refine .kDT (t:=63) Y h9_64 (Z ?_)
  refine .bigTake hal O (.ndOpen (x:=(x.path,px)) O (.draw [4,9,13] [[0,1,2,3,5,6,4,7,8,9],[10,11,12,13]] mixed kQ (.go [AW bx _ _] O (Z ?_))))
  refine D.hh Y (.c func136 [_] (B8 x.aclV x.acl p hx.acl hfew)) ?_
  rintro v L' ⟨⟨a10,c10,rfl⟩,rfl⟩
  refine Z ?_
  refine D.hh Y (.store Y Y Y AJm ?c114 (Bd _ _)) ?_
  case c114=>simp [Sz]
  rintro v L' rfl
  refine D.ph (.g0 (Z ?_))
  refine D.hh Y (.store Y Y Y IV ?c120 (Bd _ _)) ?_
  case c120=>simp [Sz]
  rintro v L' rfl
  refine D.ph (.fin (.toRd (v:= .slice a10 x.acl.length c10) O (.ndFold (x:=(x.path,(px.1,(.slice a10 x.acl.length c10,Gd x.acl x.num px.2.2)))) (v:= .slice a10 x.acl.length c10) O Y Y Y Y (.bigPut (f:=HB) (m:=m) x.path ((x.path,(px.1,(.slice a10 x.acl.length c10,Gd x.acl x.num px.2.2)))).2 Y O (.trFold (τ:=({τ with nodes:=amod τ.nodes x.path (Gd x.acl x.num)}:Tr)) (hI.mod hal (Gd x.acl x.num) (y:=((x.path,(px.1,(.slice a10 x.acl.length c10,Gd x.acl x.num px.2.2)))).2) Y) O Y (Se (y:=((x.path,(px.1,(.slice a10 x.acl.length c10,Gd x.acl x.num px.2.2)))).2) hal Y).symm Y (Z ?_))))))
  refine .add (AU 208 3) ?_
  have hc:AI τ x zx=(({τ with nodes:=amod τ.nodes x.path (Gd x.acl x.num)}:Tr),[]):=by unfold AI;rw [if_neg h15,if_neg h23,if_neg (fun g=>h6_35 g.1),if_pos ⟨h9_64,hI.some_iff hal⟩]
  refine .trCast (τ':=(AI τ x zx).1) O (by rw [hc]) (.slCast (T:=208) (sz:=3) (m':=(AI τ x zx).2.length) (xs':=(AI τ x zx).2.flatMap FP) O (by (rw [hc];try rfl)) (by (rw [hc];try rfl)) ?_)
  exact .dn Y Y ⟨_,_,by (rw [hc];try rfl),rfl⟩
 refine .kDF (t:=63) Y h9_64 (Z ?_)
 refine .trFold (τ:=τ) hI O Y Y Y (.add (AU 208 3) ?_)
 have hc:AI τ x zx=(τ,[]):=by unfold AI;rw [if_neg h15,if_neg h23,if_neg (fun g=>h6_35 g.1),if_neg (fun g=>h9_64 g.1)]
 refine .trCast (τ':=(AI τ x zx).1) O (by rw [hc]) (.slCast (T:=208) (sz:=3) (m':=(AI τ x zx).2.length) (xs':=(AI τ x zx).2.flatMap FP) O (by (rw [hc];try rfl)) (by (rw [hc];try rfl)) ?_)
 exact .dn Y Y ⟨_,_,by (rw [hc];try rfl),rfl⟩
def Iq (l:List (Bs×Nd)) (s:Int):List Bs:=(l.filter fun y=> !decide (s=0)&&decide (y.2.st.own=s)).map (·.1)
theorem AB8 (l:List (Bs×Nd)) (s:Int):(Iq l s).length≤l.length:=by unfold Iq;rw [length_map];exact length_filter_le _ _
theorem ADX {l:List (Bs×Nd)} {s:Int} {i:Nat} (hi:i<l.length) (h0:s≠0) (h:l[i].2.st.own=s):Iq (l.take (i+1)) s=Iq (l.take i) s++[l[i].1]:=by
 unfold Iq;rw [take_succ_eq_append_getElem hi,filter_append,map_append];simp [h0,h]
theorem ZI {l:List (Bs×Nd)} {s:Int} {i:Nat} (hi:i<l.length) (h:s≠0→l[i].2.st.own≠s):Iq (l.take (i+1)) s=Iq (l.take i) s:=by
 unfold Iq;rw [take_succ_eq_append_getElem hi,filter_append,map_append]
 simp;intro h0;exact h h0
theorem Ey.getAt {τ:Tr} {m:G2} {s:KR} (h:Ey τ m s) {N:Nat} (ho:τ.Ok N) {i:Nat} (hi:i<τ.nodes.length):∃px,AC m τ.nodes[i].1=some px∧px.2.2=τ.nodes[i].2:=by
 have h1:AC τ.nodes τ.nodes[i].1=some τ.nodes[i].2:=Bu (ho.sorted.nodup CS) (getElem_mem hi)
 rw [←h.look] at h1
 rcases e:AC m τ.nodes[i].1 with _|px
 ·rw [e] at h1;cases h1
 ·rw [e] at h1;exact ⟨px,rfl,by simpa using h1⟩
def Na (τ:Tr) (id:Int):Int×Bs:=(AC τ.sess id).getD (0,[])
def PE (τ:Tr) (id:Int):Prop:=(AC τ.sess id).isSome=true
instance (τ:Tr) (id:Int):Decidable (PE τ id):=inferInstanceAs (Decidable (_=_))
theorem Lf (t:Nat) (τ:Tr) (id:Int) (N:Nat) (ho:τ.Ok N) (hN:N≤1099511627776):Fn prog 175 #[AD t,AA id] [AV t τ] fun v L=>(∃a c,v= .slice a (AG τ id).length c)∧L=[AV t τ,At 9 1 v (AG τ id).length (A1 (AG τ id))]:=by
 refine Fn.intro func175 Y Y fun F W=>?_
 have hfew:=ho.few
 have hpz:(AX τ).length=τ.nodes.length:=length_map _
 refine Z ?_
 refine .add (AU 9 1) (Z ?_)
 refine .oq (.c func88 [_] (E0 t τ N ho hN)) ?_
 rintro v L' ⟨⟨ap,cp,rfl⟩,rfl⟩
 refine Z ?_
 refine .loopK (ι:=Nat×Value) (fun q E=>(11,AA q.1)::(5,q.2)::E) (fun q=>[AV t τ,At 9 1 q.2 (Iq (τ.nodes.take q.1) id).length (A1 (Iq (τ.nodes.take q.1) id))]) (fun q=>q.1≤(AX τ).length∧∃a c,q.2= .slice a (Iq (τ.nodes.take q.1) id).length c) (fun q=>(AX τ).length-q.1) (0, .slice none 0 0) (ts:=[0,1,4,9,10]) O (⟨Nat.zero_le _,none,0,Y⟩) O O ?_
 rintro ⟨i,u⟩ ⟨hi,au,cu,hu⟩
 dsimp only
 dsimp only at hi hu
 subst hu
 have hkl:=AB8 (τ.nodes.take i) id
 rw [length_take] at hkl
 refine Z ?_
 refine .condD Y (fun h12=>?_) (fun h12=>?_)
 ·have hi2:i<(AX τ).length:=by omega
  have hin:i<τ.nodes.length:=by omega
  refine .slShape (v:= .slice ap _ cp) O om fun bp cp' e0 mp _=>?_
  simp only [Value.slice.injEq,true_and] at e0
  obtain ⟨rfl,rfl⟩:=e0
  have hpi:(AX τ)[i]=τ.nodes[i].1:=by simp [AX]
  refine Z ?_
  refine .q (.indexAddr Y Y Br om) Y (.q (.loadSl (v:=AF (AX τ)[i]) (i:=i*1) Y HL O (by simp [hi2])) Y (Z ?_))
  refine .trOpen (τ:=τ) O fun rn rs m s hI=>?_
  obtain ⟨px,hal,hpx⟩:=hI.getAt ho hin
  rw [←hpi] at hal
  refine .bigTake hal O (.ndOpen (x:=((AX τ)[i],px)) O (Z ?_))
  refine .ndec (t:=17) Y (fun h5_17=>?_) (fun h5_17=>?_)
  ·refine .kNT (t:=16) Y h5_17 (Z ?_)
   refine .q (.lookupY (m:=m) (enc:=G1) (Aa.str underlying9) (hal) Y Y underlying120 DF O Y) Y (.gr (.u (.nilp Y) (.gr (.fa Y AD6 (.gr (.fa Y AGP (.gr (.q (.to (v':=AA τ.nodes[i].2.st.own) (.load Y CT O Y) (by rw [←hpx])) Y (Z ?_)))))))))
   refine .ndFold (x:=((AX τ)[i],px)) O Y Y Y Y (.bigPut (f:=HB) (m:=m) (AX τ)[i] px Y O ?_)
   rw [Cj hal]
   refine .trFold (τ:=τ) hI O Y Y Y (Z ?_)
   refine .condD Y (fun h30=>?_) (fun h30=>?_)
   ·refine Z ?_
    refine .oq (.buildSlice1 (vs:=[_]) Br Gf Y Y Y Y Y dQ) ?_
    rintro v L' ⟨b6_2,rfl,rfl⟩
    refine .oq (.append1 Y Y Y Br Gf Y Y ?c27 ?c28 (Nat.le_refl _) ?c29 dQ) ?_
    case c27=>(first|(simp [AB];done)|(simp [AB,AQ,Value.cells];done))
    case c28=>rfl
    case c29=>first|omega|(simp;omega)
    rintro v L' ⟨⟨a6_3,c6_3,rfl⟩,rfl⟩
    refine Z ?_
    have hst:=ADX hin h5_17 h30
    rw [show A1 (Iq (τ.nodes.take i) id)++[AF (AX τ)[i]]=A1 (Iq (τ.nodes.take (i+1)) id) by rw [hst];simp [A1,AX],show (Iq (τ.nodes.take i) id).length+1=(Iq (τ.nodes.take (i+1)) id).length by rw [hst,length_append];rfl]
    exact .rk ((i+1, .slice a6_3 (Iq (τ.nodes.take (i+1)) id).length c6_3)) (⟨by dsimp only;omega,_,_,rfl⟩) (by dsimp only;omega) O
   refine Z ?_
   have hst:=ZI (s:=id) hin (fun g=>h30)
   rw [←hst]
   exact .rk ((i+1, .slice au (Iq (τ.nodes.take (i+1)) id).length cu)) (⟨by dsimp only;omega,_,_,rfl⟩) (by dsimp only;omega) O
  refine .kNF (t:=16) Y h5_17 (Z ?_)
  refine .ndFold (x:=((AX τ)[i],px)) O Y Y Y Y (.bigPut (f:=HB) (m:=m) (AX τ)[i] px Y O ?_)
  rw [Cj hal]
  refine .trFold (τ:=τ) hI O Y Y Y (Z ?_)
  have hst:=ZI (s:=id) hin (fun g=>absurd h5_17 g)
  rw [←hst]
  exact .rk ((i+1, .slice au (Iq (τ.nodes.take (i+1)) id).length cu)) (⟨by dsimp only;omega,_,_,rfl⟩) (by dsimp only;omega) O
 have hii:i=τ.nodes.length:=by omega
 rw [hii,take_length]
 refine Z ?_
 exact .dn Y Y ⟨⟨_,_,Y⟩,Y⟩
theorem FG (t:Nat) (τ:Tr) (id:Int):Fn prog 67 #[AD t,AA id] [AV t τ] fun v L=>v= .tuple #[AA (Na τ id).1,AF (Na τ id).2, .bool (decide (PE τ id))]∧L=[AV t τ]:=by
 refine Fn.intro func67 Y Y fun F W=>?_
 refine .trOpen (τ:=τ) O fun rn rs m s hI=>(Z ?_)
 rcases hal:AC s id with _|y
 ·have hz:Na τ id=(0,[])∧¬PE τ id:=by unfold Na PE;rw [←hI.slook,hal];exact ⟨rfl,by simp⟩
  refine Z ?_
  refine .q (.lookupOkN (m:=s) (enc:=ZJ) (Aa.int underlying3) hal Y Y underlying121 Gl O Y) Y (Z ?_)
  refine .oq (.allocA Gl) ?_
  rintro v L' ⟨b7,rfl,rfl⟩
  refine .sa Y Y O7 (by (first|(simp [AB];done)|(simp [AB,AQ,Value.cells];done))) ?_
  refine Z ?_
  refine .ptCast (b:=b7) (l':=[AA (Na τ id).1,AF (Na τ id).2]) O (by rw [hz.1];rfl) ?_
  refine Z ?_
  refine .draw [] [[0,1,2,3,4,5,6,7]] mixed kQ (.g0 (Z ?_))
  refine .trFold (τ:=τ) hI O Y Y Y ?_
  exact .dn Y Y ⟨by rw [decide_eq_false hz.2],rfl⟩
 have hz:Na τ id=y∧PE τ id:=by unfold Na PE;rw [←hI.slook,hal];exact ⟨rfl,rfl⟩
 refine Z ?_
 refine .q (.lookupOkY (m:=s) (enc:=ZJ) (Aa.int underlying3) hal Y Y underlying121 Gl O Y) Y (Z ?_)
 refine .oq (.allocA Gl) ?_
 rintro v L' ⟨b7,rfl,rfl⟩
 refine .sa Y Y O7 (by (first|(simp [AB];done)|(simp [AB,AQ,Value.cells];done))) ?_
 refine Z ?_
 refine .ptCast (b:=b7) (l':=[AA (Na τ id).1,AF (Na τ id).2]) O (by rw [hz.1];rfl) ?_
 refine Z ?_
 refine .draw [] [[0,1,2,3,4,5,6,7]] mixed kQ (.g0 (Z ?_))
 refine .trFold (τ:=τ) hI O Y Y Y ?_
 exact .dn Y Y ⟨by rw [decide_eq_true hz.2],rfl⟩
theorem Uk:Fn prog 210 #[.slice none 0 0] [At 133 2 (.slice none 0 0) 0 []] fun u L=>u= .slice none 0 0∧L=[At 133 2 u 0 []]:=by
 refine Fn.intro func210 Y Y fun F W=>?_
 refine Z ?_
 refine .q (.clip (n:=0) Y GN Y Y (Nat.le_refl _) (.inl Y)) Y (Z ?_)
 exact .dn Y Y ⟨Y,Y⟩
theorem U9 (b n c:Nat) (hc:n≤c) (xs:List Value):Fn prog 210 #[.slice (some ⟨b,0,none⟩) n c] [At 133 2 (.slice (some ⟨b,0,none⟩) n c) n xs] fun u L=>u= .slice (some ⟨b,0,none⟩) n n∧L=[At 133 2 u n xs]:=by
 refine Fn.intro func210 Y Y fun F W=>?_
 refine Z ?_
 refine .q (.clip (n:=n) Y GN Y Y hc (.inr ⟨_,_,Y⟩)) Y (Z ?_)
 refine .slClip O ?_
 exact .dn Y Y ⟨Y,Y⟩
theorem WK (v:Value) (n:Nat) (xs:List Value):Fn prog 210 #[v] [At 133 2 v n xs] fun u L=>(∃a c,u= .slice a n c)∧L=[At 133 2 u n xs]:=by
 intro F w hs
 obtain ⟨g1,-,hp⟩:=Ae hs
 rcases hp with ⟨rfl,rfl,rfl⟩|⟨b,cap,rest,fr,rfl,-,-,-,h4,-⟩
 ·exact (Uk F w hs).mono fun e w' ⟨u,L,⟨h1,h2⟩,h3⟩=>⟨u,L,⟨⟨_,_,h1⟩,h2⟩,h3⟩
 ·exact (U9 b n cap h4 xs F w hs).mono fun e w' ⟨u,L,⟨h1,h2⟩,h3⟩=>⟨u,L,⟨⟨_,_,h1⟩,h2⟩,h3⟩
def KB (τ:Tr) (p:Bs):List Ac:=((AC τ.nodes p).map (·.acl)).getD []
def NY (τ:Tr):List Int:=τ.sess.map (·.1)
theorem OI (t:Nat) (τ:Tr) (p:Bs) (N:Nat) (ho:τ.Ok N):Fn prog 148 #[AD t,AF p] [AV t τ] fun v L=> ∃u:Value,v= .tuple #[u,AA (if AL τ p then 0 else 60)]∧(∃a c,u= .slice a (KB τ p).length c)∧L=[AV t τ,At 133 2 u (KB τ p).length ((KB τ p).flatMap CJ)]:=by
 refine Fn.intro func148 Y Y fun F W=>?_
 refine .trOpen (τ:=τ) O fun rn rs m s hI=>(Z ?_)
 rcases hal:AC m p with _|px
 ·refine Z ?_
  refine .q (.lookupN (m:=m) (enc:=G1) (Aa.str underlying9) (hal) Y Y underlying120 DF O Y) Y (Z ?_)
  refine .trFold (τ:=τ) hI O Y Y Y (.add (AU 133 2) ?_)
  have hth:¬AL τ p:=hI.none_iff.1 hal
  have hac:KB τ p=[]:=by unfold KB;rw [←hI.look,hal];rfl
  exact .dn Y Y ⟨.slice none 0 0,by rw [if_neg hth];try rfl,⟨none,0,by rw [hac];rfl⟩,by rw [hac];try rfl⟩
 refine Z ?_
 refine .q (.lookupY (m:=m) (enc:=G1) (Aa.str underlying9) (hal) Y Y underlying120 DF O Y) Y (Z ?_)
 refine .bigTake hal O (.ndOpen (x:=(p,px)) O (Z ?_))
 refine .oq (.c func136 [_] (B8 px.2.1 px.2.2.acl _ (fun h hp=>hp) (hI.acl ho hal))) ?_
 rintro v L' ⟨⟨a5,c5,rfl⟩,rfl⟩
 refine .oq (.c func210 [_] (WK _ _ _)) ?_
 rintro v L' ⟨⟨a6,c6,rfl⟩,rfl⟩
 refine Z ?_
 refine .ndFold (x:=(p,px)) O Y Y Y Y (.bigPut (f:=HB) (m:=m) p px Y O ?_)
 rw [Cj hal]
 refine Z ?_
 refine .trFold (τ:=τ) hI O Y Y Y ?_
 have hth:AL τ p:=hI.some_iff hal
 have hac:KB τ p=px.2.2.acl:=by unfold KB;rw [hI.at hal];rfl
 rw [←hac]
 exact .dn Y Y ⟨_,by rw [if_pos hth],⟨_,_,rfl⟩,rfl⟩
theorem Xo (mb:Option Nat):Fn prog 117 #[.map mb] [] fun v L=> ∃b,v= .func (.func 167) #[] #[AD b]∧L=[AW b [.map mb] 121]:=
 Yy Tryz.keysA mb
theorem R0 {b r:Nat} {T:TypeId} (s:KR) (hnd:(s.map (·.1)).Nodup) (hbd:∀x∈s, -9223372036854775808≤x.1∧x.1≤9223372036854775807) (hlen:s.length≤1099511627776):
  Fn prog 99 #[.func (.func 167) #[] #[AD b]] [AW b [.map (some r)] T,mapR r (Y4 s)] fun v L=>(∃a c,v= .slice a s.length c)∧L=[At 3 1 v s.length (BZ (Ce (s.map (·.1)))),mapR r (Y4 s)]:=
 Qa Tryz.keysA Tryz.sortedA Tryz.sortA rfl (enters_of func159 rfl rfl) (enters_of func167 rfl rfl) underlying3 (enc:=ZJ) (b:=b) (r:=r) (T:=T) s hnd hbd hlen
theorem ACt {l:List Int} (h:l.Pairwise (· < ·)):Ce l=l:=by
 unfold Ce
 refine mergeSort_of_pairwise (h.imp fun hab=>?_)
 simp only [decide_eq_true_eq];omega
theorem Ey.ids {τ:Tr} {m:G2} {s:KR} (h:Ey τ m s) {N:Nat} (ho:τ.Ok N):Ce (s.map (·.1))=NY τ:=by
 have hp:(s.map (·.1)).Perm (NY τ):=(h.sperm ho).map _
 unfold Ce
 rw [mergeSort_of_perm_i hp]
 exact ACt ho.ssorted
theorem Io (t:Nat) (τ:Tr) (N:Nat) (ho:τ.Ok N) (hb:∀x∈τ.sess,x.1≤9223372036854775807) (hN:N≤1099511627776):Fn prog 58 #[AD t] [AV t τ] fun v L=>(∃a c,v= .slice a (NY τ).length c)∧L=[AV t τ,At 3 1 v (NY τ).length (BZ (NY τ))]:=by
 refine Fn.intro func58 Y Y fun F W=>?_
 refine .trOpen (τ:=τ) O fun rn rs m s hI=>?_
 have hsf:=ho.sfew
 have hsp:=hI.sperm ho
 have hsl:=hsp.length_eq
 have hiz:(NY τ).length=τ.sess.length:=length_map _
 have hbd:∀x∈s, -9223372036854775808≤x.1∧x.1≤9223372036854775807:=fun x hx=>by have h1:=hsp.mem_iff.1 hx;have h2:=ho.ids x h1;have h3:=hb x h1;omega
 refine Z ?_
 refine .oq (.c func117 [_] (Xo _)) ?_
 rintro v L' ⟨bk,rfl,rfl⟩
 refine .oq (.c func99 [_] (R0 s hI.skeys hbd om)) ?_
 rintro v L' ⟨⟨ap,cp,rfl⟩,rfl⟩;rw [hI.ids ho,show s.length=(NY τ).length by omega]
 refine Z ?_
 refine .trFold (τ:=τ) hI O Y Y Y ?_
 exact .dn Y Y ⟨⟨_,_,Y⟩,Y⟩
def GI (d:Bs) (acl:List Ac) (s:Ie):Nd:=⟨d,acl,{s with len:=0,kids:=0}⟩
def NS (τ:Tr) (p d:Bs) (acl:List Ac) (s:Ie):Tr:=if BQ p=0 then {τ with nodes:=sset τ.nodes p (GI d acl s)} else τ
theorem Oj {p:Bs} (h:BQ p=0):p=[47]∨Bm p:=by
 by_cases e:p=[47]
 ·exact .inl e
 ·exact .inr ⟨e,h⟩
theorem YM (t:Nat) (τ:Tr) (p d:Bs) (va:Value) (acl:List Ac) (s:Ie) (q:HP) (hq:∀h:Hp,q h→CA 2 h va acl.length (acl.flatMap CJ)) (hacl:acl.length≤1048576) (hpl:p.length≤1048576):Fn prog 115 #[AD t,AF p,AF d,va, .agg (Ca s).toArray] [AV t τ,q] fun v L=>v= .tuple #[]∧L=[AV t (NS τ p d acl s),q]:=by
 refine Fn.intro func115 Y Y fun F W=>?_
 refine .sr (.oq (.box Y) ?_)
 rintro v L' ⟨b9,rfl,rfl⟩
 refine .nil (.ptCast (b:=b9) (l':=Ca s) O Y ?_)
 refine Z ?_
 refine .cv func114 [_] (EU p hpl) ?_
 refine Z ?_
 refine .condN Y (fun h12=>?_) (fun h12=>?_)
 ·refine .rt ?_
  have hz:NS τ p d acl s=τ:=by unfold NS;rw [if_neg h12]
  refine .trCast (τ':=NS τ p d acl s) O hz ?_
  exact .vv
 refine Z ?_
 refine .ptCast (b:=b9) (l':=Ca ({s with len:=0,kids:=0}:Ie)) O Y ?_
 refine Z ?_
 refine .trOpen (τ:=τ) O fun rn rs m s0 hI=>(.draw [7,10,11] [[0,1,2,3,4,5,6,8,7,9,10],[11]] mixed kQ (.go [AW b9 _ _,AW t _ _] O ?_))
 rcases hal:AC m p with _|px
 ·refine Z ?_
  refine D.k Y (.loadAs (vs:=Ca ({s with len:=0,kids:=0}:Ie)) Y GK O (by simp [Ca]) Y) (.hh Y (.c func136 [_] (B8 va acl q hq hacl)) ?_)
  rintro v L' ⟨⟨a7,c7,rfl⟩,rfl⟩
  refine D.kv Y (.buildN (pl:=[(0,1),(1,1),(2,9)]) (us:=[(0,AF d),(1, .slice a7 acl.length c7),(2, .agg (Ca ({s with len:=0,kids:=0}:Ie)).toArray)]) (cells:=Sz (.slice a7 acl.length c7) (GI d acl s)) underlying130 kQ Kk Y (GT _ _ _ _ _ _ _ _ _ _ _ _ _)) (.hh Y (.box Y) ?_)
  rintro v L' ⟨tn,rfl,rfl⟩
  refine D.ph (.g0 (.hh Y (.mapSet (m:=m) (enc:=G1) (v:=((tn,(.slice a7 acl.length c7,GI d acl s)):Nm)) (k:=p) (Aa.str underlying9) Y Y Y underlying120 ?he28) ?_))
  case he28=>rfl
  rintro v L' rfl
  refine D.ph (.fin (.toRd O (.ndFold (x:=(p,((tn,(.slice a7 acl.length c7,GI d acl s)):Nm))) O Y Y Y Y ?_)))
  have hdel:=Eq hal
  refine .bigPut (f:=HB) (m:=m) p ((tn,(.slice a7 acl.length c7,GI d acl s)):Nm) Y (by rw [hdel];(repeat' constructor)) (.trFold (τ:=({τ with nodes:=sset τ.nodes p (GI d acl s)}:Tr)) (hI.lay p ((tn,(.slice a7 acl.length c7,GI d acl s)):Nm)) O Y Y Y (.done_n ?_))
  have hz:NS τ p d acl s=({τ with nodes:=sset τ.nodes p (GI d acl s)}:Tr):=by unfold NS;rw [if_pos h12]
  refine .trCast (τ':=NS τ p d acl s) O hz ?_
  exact .vv
 refine Z ?_
 refine D.k Y (.loadAs (vs:=Ca ({s with len:=0,kids:=0}:Ie)) Y GK O (by simp [Ca]) Y) (.hh Y (.c func136 [_] (B8 va acl q hq hacl)) ?_)
 rintro v L' ⟨⟨a7,c7,rfl⟩,rfl⟩
 refine D.kv Y (.buildN (pl:=[(0,1),(1,1),(2,9)]) (us:=[(0,AF d),(1, .slice a7 acl.length c7),(2, .agg (Ca ({s with len:=0,kids:=0}:Ie)).toArray)]) (cells:=Sz (.slice a7 acl.length c7) (GI d acl s)) underlying130 kQ Kk Y (GT _ _ _ _ _ _ _ _ _ _ _ _ _)) (.hh Y (.box Y) ?_)
 rintro v L' ⟨tn,rfl,rfl⟩
 refine D.ph (.g0 (.hh Y (.mapSet (m:=m) (enc:=G1) (v:=((tn,(.slice a7 acl.length c7,GI d acl s)):Nm)) (k:=p) (Aa.str underlying9) Y Y Y underlying120 ?he43) ?_))
 case he43=>rfl
 rintro v L' rfl
 refine D.ph (.fin (.toRd O (.ndFold (x:=(p,((tn,(.slice a7 acl.length c7,GI d acl s)):Nm))) O Y Y Y Y (.bigTake hal O (.bigPut (f:=HB) (m:=m) p ((tn,(.slice a7 acl.length c7,GI d acl s)):Nm) Y O (.trFold (τ:=({τ with nodes:=sset τ.nodes p (GI d acl s)}:Tr)) (hI.lay p ((tn,(.slice a7 acl.length c7,GI d acl s)):Nm)) O Y Y Y (.done_n ?_)))))))
 have hz:NS τ p d acl s=({τ with nodes:=sset τ.nodes p (GI d acl s)}:Tr):=by unfold NS;rw [if_pos h12]
 refine .trCast (τ':=NS τ p d acl s) O hz ?_
 exact .vv
def XC (τ:Tr) (id n:Int) (s:Bs):Tr:=if 0<id then openS τ id n s else τ
theorem P9 (t:Nat) (τ:Tr) (id n:Int) (s:Bs):Fn prog 116 #[AD t,AA id,AA n,AF s] [AV t τ] fun v L=>v= .tuple #[]∧L=[AV t (XC τ id n s)]:=by
 refine Fn.intro func116 Y Y fun F W=>?_
 refine Z ?_
 refine .condD Y (fun h9=>?_) (fun h9=>?_)
 ·refine .trOpen (τ:=τ) O fun rn rs m s0 hI=>(Z ?_)
  refine .q (.build (us:=[(0,_),(1,_)]) ABt Gl Y Y (by simp [AB])) Y (.oq (.mapSet (m:=s0) (enc:=ZJ) (v:=(n,s)) (k:=id) (Aa.int underlying3) Y Y Y underlying121 ?he11) ?_)
  case he11=>rfl
  rintro v L' rfl
  refine .nil (.trFold (τ:=(openS τ id n s)) (hI.open id n s) O Y Y Y (.done_n (.trCast (τ':=XC τ id n s) O (by unfold XC;rw [if_pos h9]) ?_)))
  exact .vv
 refine .skip (.done_n (.trCast (τ':=XC τ id n s) O (by unfold XC;rw [if_neg h9]) ?_))
 exact .vv
end Go.Proofs.YtbhkloaagkkioaaGreatDoor
/-
 DERIVED:THE SHELF's CONTRACTS AT THIS DUMP,IN PLAIN WORDS (tools/lay-plain.mjs out of 'YtbhkloaagkkioaaGreatDoorLayC.lean',which tools/lay-shelf.mjs wrote):THE SAME DECLARATIONS UNDER THE SAME NAMES:'import','namespace','open','def','theorem' AND NOTHING ELSE:no command of the shelf's:FOR A HAND-IN. Each laying:the table of numbers ('.._ren') and one theorem,a field a fact of the dump's own or the kernel's comparison;each Gt:ONE APPLICATION.
-/
namespace Go.Proofs
open Go List Go.Proofs.Tryz Go.Shelf
def Tryz.cloneI_ren:Go.Shelf.Ren:=⟨fun|5=>223|7=>282|n=>n,fun|23=>121|25=>3|3=>126|4=>4|20=>20|n=>n,fun|n=>n⟩
theorem Tryz.cloneI:Go.Proofs.SlLaysW.n5 prog Tryz.cloneI_ren:={
 mixed:=by kernel_rfl
 f5:=⟨f223.name,by decide,func223.trans (congrArg some (by kernel_rfl))⟩
 f7:=func282.trans (congrArg some (by kernel_rfl))
 t4:=underlying4
 a4:=Tryz.isAgg4
 z4:=Tryz.sizeOf4
 v4:=Tryz.zeroValue4
 t20:=underlying20
 a20:=Tryz.isAgg20
 z20:=Tryz.sizeOf20
 v20:=Tryz.zeroValue20
 t23:=underlying121
 a23:=Tryz.isAgg121
 z23:=Tryz.sizeOf121
 v23:=Tryz.zeroValue121}
end Go.Proofs
namespace Go.Proofs.YtbhkloaagkkioaaGreatDoor
open Go List Go.Proofs.Tryz
theorem KK (r:Nat) (ents:List (Value×Value)):Fn prog 223 #[.map (some r)] [mapR r ents] fun v L=> ∃r',v= .map (some r')∧L=[mapR r ents,mapR r' ents]:=by
 intro F w hs
 obtain ⟨h1,hle,es,clock,hb,he,hc,hn⟩:=Ae (show CP (mapR r ents::F) _ from hs)
 have hr:w.heap[r]?=some (.map es.toArray clock):=hle _ _ hb
 refine (AnyW.maps_Clone Tryz.cloneI r es.toArray clock w hr).mono ?_
 rintro e w' ⟨rfl,rfl⟩
 refine ⟨_,[mapR r ents,mapR w.heap.size ents],⟨_,rfl,rfl⟩,rfl,?_,As.new w _⟩
 have h2:=St.new hs (.map es.toArray clock)
 exact EJ (B0 (fun _ hp=>⟨es,clock,hp,he,hc,hn⟩) h2)
theorem AO.makeMapN {P:Program} {E:Bi} {ty t:TypeId} {k e:TypeId} {x:Operand} {n:Int} (ht:P.underlying t=some (.map k e)) (hx:ev E x=some (AA n)):AO P ⟨none, .makeMap t (some x),ty, "",#[],none⟩ E [] fun u L'=> ∃b,u= .map (some b)∧L'=[pt b (.map #[] 0)]:=by
 intro ρ w F ha hs
 have:(execOp ρ ⟨none, .makeMap t (some x),ty, "",#[],none⟩).run P w= .ok (.value (.map (some w.heap.size))) {w with heap:=w.heap.push (.map #[] 0)}:=by
  refine Bn ?_
  show (Instr.makeMap t (some (ρ x))).run P w=_
  rw [ha x _ hx]
  unfold Instr.makeMap
  simp [AN ht,go_sem,asInt,Result.andThen]
 unfold DC;rw [this]
 exact ⟨_,⟨_,rfl,rfl⟩,St.new (L:=F) hs _,As.new _ _⟩
theorem RE {m ss rest:G2} {x:Bs×Nm} (hn:(m.map (·.1)).Nodup) (hp:m.Perm (ss++x::rest)):AC ss x.1=none:=by
 rw [Fl]
 intro h
 have h1:((ss++x::rest).map (·.1)).Nodup:=(hp.map _).nodup_iff.1 hn
 rw [map_append,map_cons] at h1
 exact (nodup_append.1 h1).2.2 _ h _ mem_cons_self rfl
theorem ZL {β:Type}:∀(l:List (Bs×β)) (x:Bs×β) (p:Bs),AC l x.1=none→AC (l++[x]) p=if p=x.1 then some x.2 else AC l p
 |[],x,p,_=>by simp only [nil_append,AC]
 |y::l,x,p,h=>by
  simp only [cons_append,AC] at h ⊢
  by_cases e:p=y.1
  ·rw [if_pos e]
   have:¬p=x.1:=fun g=>by rw [if_pos (g.symm.trans e)] at h;cases h
   rw [if_neg this,if_pos e]
  ·rw [if_neg e,if_neg e]
   by_cases e2:x.1=y.1
   ·rw [if_pos e2] at h;cases h
   ·rw [if_neg e2] at h
    exact ZL l x p h
theorem OS {m2 ss:G2} {x:Bs×Nm} {y:Nm} (h:∀p,(AC m2 p).map (fun y:Nm=>y.2.2)=(AC ss p).map (fun y:Nm=>y.2.2)) (hx:AC ss x.1=none) (hy:y.2.2=x.2.2.2) (p:Bs):(AC (CF m2 x.1 y) p).map (fun y:Nm=>y.2.2)=(AC (ss++[x]) p).map (fun y:Nm=>y.2.2):=by
 rw [Fr,ZL ss x p hx]
 split
 ·simp [hy]
 ·exact h p
theorem Lh (t:Nat) (τ:Tr) (N:Nat) (ho:τ.Ok N) (hN:N≤1099511627776):Fn prog 173 #[AD t] [AV t τ] fun v L=> ∃c,v=AD c∧L=[AV c τ,AV t τ]:=by
 refine Fn.intro func173 Y Y fun F W=>?_
 refine .trOpen (τ:=τ) O fun rn rs m s hI=>?_
 have hlen:=hI.len ho
 have hfew:=ho.few
 refine Z ?_
 refine .draw [5,10,16] [[0,1,2,3,4,6,7,8,9,11,12,13,14,5,10],[15,16],[17]] mixed kQ (.go [AW t _ _] O (Z ?_))
 refine D.kv Y (.maplen Y underlying120 Y O) (Z ?_)
 refine D.h2 (k:=10) Y Y kQ Y (.makeMapN underlying120 Y) O (.c func223 [_] (KK rs (Y4 s))) O ?_ ?_
 ·rintro v L' ⟨rn2,rfl,rfl⟩
  refine D.hh Y (.c func223 [_] (KK rs (Y4 s))) ?_
  rintro v L' ⟨rs2,rfl,rfl⟩
  refine D.ph (.g0 (.kv Y (.to (v':= .agg ([.map (some rn2), .map (some rs2),AA τ.zx]:List Value).toArray) (.build (us:=[(0,_),(1,_),(2,_)]) X7 WA Y Y (by simp [AB])) Y) (.hh Y (.box Y) ?_)))
  rintro v L' ⟨c,rfl,rfl⟩
  refine D.ph (.g0 (Z ?_))
  refine .ptCast (b:=c) (l':=[.map (some rn2), .map (some rs2),AA τ.zx]) O Y ?_
  refine .fold (p:=mapR rn2 []) (.cons (p:=pt rn2 (.map #[] 0)) O .nil) (fun h hp=>E8 (Gx hp)) (.add (p:=Am HB []) CH (Z ?_))
  refine .oq (.range (f:=fun x:Bs×Nm=>(AF x.1,G1 x.2)) (m:=m) Y underlying120 ?he27) ?_
  case he27=>rfl
  rintro v L' ⟨it,rfl,rfl⟩
  refine Z ?_
  refine .loopK (ι:=G2×G2) (fun q E=>E) (fun q=>[EE (fun x:Bs×Nm=>(AF x.1,G1 x.2)) it rn m q.1,Am HB m,mapR rn2 (TG q.2),Am HB q.2,AW c [.map (some rn2), .map (some rs2),AA τ.zx] 123]) (fun q=>((q.2.map (·.1)).Nodup∧∀p,(AC q.2 p).map (fun y:Nm=>y.2.2)=(AC q.1 p).map (fun y:Nm=>y.2.2))∧∃rest,m.Perm (q.1++rest)) (fun q=>m.length-q.1.length) ([],[]) (ts:=[2,3,27]) O (⟨⟨by simp,fun p=>rfl⟩,m, .refl _⟩) O O ?_
  rintro ⟨ss,m2⟩ ⟨⟨hnd2,hm2⟩,rest,hm⟩
  dsimp only
  dsimp only at hnd2 hm2 hm
  have hml:=hm.length_eq
  rw [length_append] at hml
  refine .sr (.oq (.next Y) ?_)
  rintro v L' (⟨rfl,hp3,rfl⟩|⟨x,rest3,rfl,hp3,rfl⟩)
  ·refine .rangeDone O (Z ?_)
   have hI2:Ey τ m2 s:=⟨hnd2,fun p=>by rw [hm2,←ZO hp3 hI.keys p];exact hI.look p,hI.skeys,hI.slook⟩
   refine .trFold (t:=c) (rn:=rn2) (rs:=rs2) (τ:=τ) hI2 O Y Y Y (.trFold (t:=t) (τ:=τ) hI O Y Y Y ?_)
   exact .dn Y Y ⟨_,Y,Y⟩
  refine Z ?_
  refine .q (.entryE (v:= .tuple #[AF x.1,G1 x.2]) Y O Y) Y (Z ?_)
  have hxm:x∈m:=hp3.mem_iff.2 (by simp)
  have hal:AC m x.1=some x.2:=Bu hI.keys hxm
  have hxa:=hI.acl ho hal
  refine .bigTake hal O (.ndOpen (x:=(x.1,x.2)) O (Z ?_))
  refine .draw [13,19,20] [[0,1,2,3,4,5,6,7,8,9,10,11,12,14,15,16,17,13,18,19],[20]] mixed kQ (.go [AW x.2.1 _ _,AW c _ _] O (Z ?_))
  refine D.k Y (.loadAs (vs:=Ca x.2.2.2.st) Y GK O (by simp [Sz]) Y) (.hh Y (.c func136 [_] (B8 x.2.2.1 x.2.2.2.acl _ (fun h hp=>hp) hxa)) ?_)
  rintro v L' ⟨⟨a5,c5,rfl⟩,rfl⟩
  refine D.kv Y (.buildN (pl:=[(0,1),(1,1),(2,9)]) (us:=[(0,AF x.2.2.2.data),(1, .slice a5 x.2.2.2.acl.length c5),(2, .agg (Ca x.2.2.2.st).toArray)]) (cells:=Sz (.slice a5 x.2.2.2.acl.length c5) x.2.2.2) underlying130 kQ Kk Y (GT _ _ _ _ _ _ _ _ _ _ _ _ _)) (.hh Y (.box Y) ?_)
  rintro v L' ⟨tn,rfl,rfl⟩
  refine D.ph (.g0 (.hh Y (.mapSet (m:=m2) (enc:=G1) (v:=((tn,(.slice a5 x.2.2.2.acl.length c5,x.2.2.2)):Nm)) (k:=x.1) (Aa.str underlying9) Y Y Y underlying120 ?he57) ?_))
  case he57=>rfl
  rintro v L' rfl
  refine Z ?_
  have hl:=hp3.length_eq
  simp at hl
  refine .ndFold (x:=(x.1,x.2)) O Y Y Y Y (.bigPut (f:=HB) (m:=m) x.1 x.2 Y O ?_)
  rw [Cj hal]
  refine .toRd (v:= .slice a5 x.2.2.2.acl.length c5) O (.ndFold (x:=(x.1,((tn,(.slice a5 x.2.2.2.acl.length c5,x.2.2.2)):Nm))) O Y Y Y Y ?_)
  have hnx:AC ss x.1=none:=RE hI.keys hp3
  have hn2:AC m2 x.1=none:=by have h:=hm2 x.1;rw [hnx] at h;simpa using h
  have hdel:=Eq hn2
  refine .bigPut (f:=HB) (m:=m2) x.1 ((tn,(.slice a5 x.2.2.2.acl.length c5,x.2.2.2)):Nm) Y (by rw [hdel];(repeat' constructor)) ?_
  exact .rk ((ss++[x],CF m2 x.1 ((tn,(.slice a5 x.2.2.2.acl.length c5,x.2.2.2)):Nm))) (⟨⟨C6 hnd2 _ _,OS hm2 hnx Y⟩,_,by simpa using hp3⟩) (by dsimp only;simp;omega) O
 rintro v L' ⟨rs2,rfl,rfl⟩
 refine D.hh Y (.makeMapN underlying120 Y) ?_
 rintro v L' ⟨rn2,rfl,rfl⟩
 refine D.ph (.g0 (.kv Y (.to (v':= .agg ([.map (some rn2), .map (some rs2),AA τ.zx]:List Value).toArray) (.build (us:=[(0,_),(1,_),(2,_)]) X7 WA Y Y (by simp [AB])) Y) (.hh Y (.box Y) ?_)))
 rintro v L' ⟨c,rfl,rfl⟩
 refine D.ph (.g0 (Z ?_))
 refine .ptCast (b:=c) (l':=[.map (some rn2), .map (some rs2),AA τ.zx]) O Y ?_
 refine .fold (p:=mapR rn2 []) (.cons (p:=pt rn2 (.map #[] 0)) O .nil) (fun h hp=>E8 (Gx hp)) (.add (p:=Am HB []) CH (Z ?_))
 refine .oq (.range (f:=fun x:Bs×Nm=>(AF x.1,G1 x.2)) (m:=m) Y underlying120 ?he69) ?_
 case he69=>rfl
 rintro v L' ⟨it,rfl,rfl⟩
 refine Z ?_
 refine .loopK (ι:=G2×G2) (fun q E=>E) (fun q=>[EE (fun x:Bs×Nm=>(AF x.1,G1 x.2)) it rn m q.1,Am HB m,mapR rn2 (TG q.2),Am HB q.2,AW c [.map (some rn2), .map (some rs2),AA τ.zx] 123]) (fun q=>((q.2.map (·.1)).Nodup∧∀p,(AC q.2 p).map (fun y:Nm=>y.2.2)=(AC q.1 p).map (fun y:Nm=>y.2.2))∧∃rest,m.Perm (q.1++rest)) (fun q=>m.length-q.1.length) ([],[]) (ts:=[2,3,27]) O (⟨⟨by simp,fun p=>rfl⟩,m, .refl _⟩) O O ?_
 rintro ⟨ss,m2⟩ ⟨⟨hnd2,hm2⟩,rest,hm⟩
 dsimp only
 dsimp only at hnd2 hm2 hm
 have hml:=hm.length_eq
 rw [length_append] at hml
 refine .sr (.oq (.next Y) ?_)
 rintro v L' (⟨rfl,hp3,rfl⟩|⟨x,rest3,rfl,hp3,rfl⟩)
 ·refine .rangeDone O (Z ?_)
  have hI2:Ey τ m2 s:=⟨hnd2,fun p=>by rw [hm2,←ZO hp3 hI.keys p];exact hI.look p,hI.skeys,hI.slook⟩
  refine .trFold (t:=c) (rn:=rn2) (rs:=rs2) (τ:=τ) hI2 O Y Y Y (.trFold (t:=t) (τ:=τ) hI O Y Y Y ?_)
  exact .dn Y Y ⟨_,Y,Y⟩
 refine Z ?_
 refine .q (.entryE (v:= .tuple #[AF x.1,G1 x.2]) Y O Y) Y (Z ?_)
 have hxm:x∈m:=hp3.mem_iff.2 (by simp)
 have hal:AC m x.1=some x.2:=Bu hI.keys hxm
 have hxa:=hI.acl ho hal
 refine .bigTake hal O (.ndOpen (x:=(x.1,x.2)) O (Z ?_))
 refine .draw [13,19,20] [[0,1,2,3,4,5,6,7,8,9,10,11,12,14,15,16,17,13,18,19],[20]] mixed kQ (.go [AW x.2.1 _ _,AW c _ _] O (Z ?_))
 refine D.k Y (.loadAs (vs:=Ca x.2.2.2.st) Y GK O (by simp [Sz]) Y) (.hh Y (.c func136 [_] (B8 x.2.2.1 x.2.2.2.acl _ (fun h hp=>hp) hxa)) ?_)
 rintro v L' ⟨⟨a5,c5,rfl⟩,rfl⟩
 refine D.kv Y (.buildN (pl:=[(0,1),(1,1),(2,9)]) (us:=[(0,AF x.2.2.2.data),(1, .slice a5 x.2.2.2.acl.length c5),(2, .agg (Ca x.2.2.2.st).toArray)]) (cells:=Sz (.slice a5 x.2.2.2.acl.length c5) x.2.2.2) underlying130 kQ Kk Y (GT _ _ _ _ _ _ _ _ _ _ _ _ _)) (.hh Y (.box Y) ?_)
 rintro v L' ⟨tn,rfl,rfl⟩
 refine D.ph (.g0 (.hh Y (.mapSet (m:=m2) (enc:=G1) (v:=((tn,(.slice a5 x.2.2.2.acl.length c5,x.2.2.2)):Nm)) (k:=x.1) (Aa.str underlying9) Y Y Y underlying120 ?he99) ?_))
 case he99=>rfl
 rintro v L' rfl
 refine Z ?_
 have hl:=hp3.length_eq
 simp at hl
 refine .ndFold (x:=(x.1,x.2)) O Y Y Y Y (.bigPut (f:=HB) (m:=m) x.1 x.2 Y O ?_)
 rw [Cj hal]
 refine .toRd (v:= .slice a5 x.2.2.2.acl.length c5) O (.ndFold (x:=(x.1,((tn,(.slice a5 x.2.2.2.acl.length c5,x.2.2.2)):Nm))) O Y Y Y Y ?_)
 have hnx:AC ss x.1=none:=RE hI.keys hp3
 have hn2:AC m2 x.1=none:=by have h:=hm2 x.1;rw [hnx] at h;simpa using h
 have hdel:=Eq hn2
 refine .bigPut (f:=HB) (m:=m2) x.1 ((tn,(.slice a5 x.2.2.2.acl.length c5,x.2.2.2)):Nm) Y (by rw [hdel];(repeat' constructor)) ?_
 exact .rk ((ss++[x],CF m2 x.1 ((tn,(.slice a5 x.2.2.2.acl.length c5,x.2.2.2)):Nm))) (⟨⟨C6 hnd2 _ _,OS hm2 hnx Y⟩,_,by simpa using hp3⟩) (by dsimp only;simp;omega) O
def CW (P:Program) (v:Value) (vs:List Value) (pre:List HP) (post:Value→List HP→Prop):Prop:=
 ∃(f:FuncId) (fn:Func) (c:Code) (us ws:List Value),v= .func (.func f) us.toArray ws.toArray∧P.funcs[f]?=some fn∧fn.body=some c∧(fn.name== "runtime.NumGoroutine")=false∧Fn P f (us++vs++ws).toArray pre post
theorem CW.of {P:Program} {f:FuncId} {fn:Func} {c:Code} {us vs ws:List Value} {pre:List HP} {post:Value→List HP→Prop} (hf:P.funcs[f]?=some fn) (hb:fn.body=some c) (hn:(fn.name== "runtime.NumGoroutine")=false) (h:Fn P f (us++vs++ws).toArray pre post):
  CW P (.func (.func f) us.toArray ws.toArray) vs pre post:=⟨f,fn,c,us,ws,rfl,hf,hb,hn,h⟩
theorem AO.callD {P:Program} {E:Bi} {x:Operand} {xs:Array Operand} {ts:Array TypeId} {ty:TypeId} {v:Value} {vs:List Value} {pre:List HP} {post:Value→List HP→Prop} (hv:ev E x=some v) (hx:xs.toList.map (ev E)=vs.map some) (h:CW P v vs pre post):
  AO P ⟨none, .call {callee:= .value x,args:=xs,argTypes:=ts},ty, "",#[],none⟩ E pre post:=by
 obtain ⟨f,fn,c,us,ws,rfl,hf,hb,hn,hF⟩:=h
 exact AO.callV hf hb hn hv hx hF
theorem AE.andNot {P:Program} {E:Bi} {L:List HP} {ty:TypeId} {t t':TypeId} {x y:Operand} {k:IntKind} {a b:Int} (hx:ev E x=some (.int k a)) (hy:ev E y=some (.int k b)):
  AE P ⟨none, .binOp .andNot t x y t',ty, "",#[],none⟩ E L (.int k (k.wrap (BitVec.ofInt k.bits a &&& ~~~ BitVec.ofInt k.bits b).toNat)):=by
 intro ρ w ha _
 simp [execOp,ha x _ hx,ha y _ hy,eqGuard,binOp,Op.intBits,Bind.bind,Sem.bind,Pure.pure,Sem.run]
theorem XJ {P:Program} {fv:Value} {vs:List Value} {pre:List HP} {post:Value→List HP→Prop} (h:CW P fv vs pre post):fv.cells.toList=[fv]:=by
 obtain ⟨f,fn,c,us,ws,rfl,-⟩:=h
 rfl
def CM:List Int→Int
 |[]=>0
 |e::l=>if e≠0 then e else CM l
theorem Vj:∀{es:List Int} {i:Nat} (hi:i<es.length),(∀j (hj:j<i),es[j]'om=0)→es[i]≠0→CM es=es[i]
 |e::es,0,_,_,h=>if_pos h
 |e::es,i+1,hi,hb,h=>by
  have h0:e=0:=hb 0 om
  show (if e≠0 then e else CM es)=es[i]'(by simpa using hi)
  rw [if_neg (fun g=>g h0)]
  exact Vj (by simpa using hi) (fun j hj=>hb (j+1) om) h
theorem Pg:∀{es:List Int},(∀j (hj:j<es.length),es[j]=0)→CM es=0
 |[],_=>rfl
 |e::es,h=>by
  have h0:e=0:=h 0 (by simp)
  show (if e≠0 then e else CM es)=0
  rw [if_neg (fun g=>g h0)]
  exact Pg fun j hj=>h (j+1) (by simpa using hj)
abbrev DB (n:Int):Int:=IntKind.i64.wrap n
def orI (a b:Int):Int:=IntKind.i64.wrap (BitVec.ofInt 64 a ||| BitVec.ofInt 64 b).toNat
def andI (a b:Int):Int:=IntKind.i64.wrap (BitVec.ofInt 64 a &&& BitVec.ofInt 64 b).toNat
def YT (a b:Int):Int:=IntKind.i64.wrap (BitVec.ofInt 64 a &&& ~~~ BitVec.ofInt 64 b).toNat
def EC:Bs:=[119,111,114,108,100]
/-! ### Rows of who may what -/
def AF4 (c:UInt8):Bool:=decide (48≤c.toNat)&&decide (c.toNat≤57)
def ADn (c:UInt8):Bool:=AF4 c||(decide (97≤c.toNat)&&decide (c.toNat≤122))
def AGg (c:UInt8):Bool:=AF4 c||(decide (97≤c.toNat)&&decide (c.toNat≤102))
def QO (s:Bs):Bool:= !decide (s=[])&&decide (s.length≤12)&&s.all ADn
def HS:Bs→Bs
 |[]=>[]
 |c::s=>if c=58 then [] else c::HS s
def GG:Bs→Bs
 |[]=>[]
 |c::s=>if c=58 then s else GG s
def RL (s:Bs):Bool:=decide (s=EC)||(decide ((58:UInt8)∈s)&&QO (HS s)&&decide ((GG s).length=16)&&(GG s).all AGg)
def L6 (a:Ac):Bool:=decide (a.1<1)||decide (a.1>31)|| !RL a.2
def GE (l:List Ac):Bool:=decide (0<l.length)&&decide (l.length≤4)&& !l.any L6
def VL (ids:List Bs) (a:Ac):Bool:=decide (a.2=EC)||decide (a.2∈ids)
def ED (ids:List Bs) (l:List Ac):Int:=l.foldl (fun g a=>if VL ids a=true then orI g a.1 else g) 0
def ACy (l:List Ac) (perm:Int) (ids:List Bs):Bool:=decide (0≤perm)&&decide (perm≤31)&&decide (YT perm (ED ids l)=0)
/-! ### Colons -/
def Hq:Bs→Int
 |[]=> -1
 |b::l=>if b=58 then 0 else if Hq l= -1 then -1 else Hq l+1
theorem ACh (s:Bs):Go.Lib.indexByte s 58=Hq s:=by
 induction s with
 |nil=>rfl
 |cons b l ih=>
  unfold Go.Lib.indexByte Hq
  rw [ih]
  simp
theorem Ti {P:Program} (s:Bs) (w:World):(Extern.BytealgIndexByte.indexByte #[AF s, .int .u8 58]).run P w= .ok (AA (Hq s)) w:=by
 rw [show AF s= .string (bs s) from rfl,Go.Lib.run_indexByteString]
 rw [show (bs s).data.toList=s from rfl,show (58:Int).toNat.toUInt8=58 from rfl,ACh]
theorem U1 {s:Bs} (h:(58:UInt8)∈s):∃k:Nat,Hq s=k∧k<s.length∧HS s=s.take k∧GG s=s.drop (k+1):=by
 induction s with
 |nil=>cases h
 |cons b l ih=>
  by_cases hb:b=58
  ·subst hb
   exact ⟨0,if_pos rfl,by simp,if_pos rfl,if_pos rfl⟩
  ·have hl:(58:UInt8)∈l:=by
    rcases mem_cons.1 h with h|h
    ·exact absurd h.symm hb
    ·exact h
   obtain ⟨k,e1,e2,e3,e4⟩:=ih hl
   refine ⟨k+1,?_,by rw [length_cons];omega,?_,?_⟩
   ·show (if b=58 then (0:Int) else if Hq l= -1 then -1 else Hq l+1)=_
    rw [if_neg hb,e1,if_neg om];rfl
   ·show (if b=58 then [] else b::HS l)=_
    rw [if_neg hb,e3,take_succ_cons]
   ·show (if b=58 then l else GG l)=_
    rw [if_neg hb,e4,drop_succ_cons]
theorem ACc {s:Bs} (h:(58:UInt8)∉s):Hq s= -1:=by
 induction s with
 |nil=>rfl
 |cons b l ih=>
  show (if b=58 then (0:Int) else if Hq l= -1 then -1 else Hq l+1)=_
  rw [if_neg (fun e:b=58=>h (by rw [e];exact mem_cons_self)),ih (fun g=>h (mem_cons_of_mem _ g)),if_pos rfl]
/-! ### Runes -/
structure AIN (T:Int→Bool):Prop where
 high:∀r:Int,128≤r→T r=false
def SS (r:Int):Bool:=decide (48≤r)&&decide (r≤57)
def KG (r:Int):Bool:=SS r||(decide (97≤r)&&decide (r≤122))
def N8 (r:Int):Bool:=SS r||(decide (97≤r)&&decide (r≤102))
theorem AAh:AIN KG:=⟨fun r h=>by unfold KG SS;simp;omega⟩
theorem ACl:AIN N8:=⟨fun r h=>by unfold N8 SS;simp;omega⟩
theorem YD (c:UInt8):KG (c.toNat:Int)=ADn c:=by
 unfold KG ADn SS AF4
 congr 1<;>congr 1<;>(apply decide_eq_decide.2;omega)
theorem AA2 (c:UInt8):N8 (c.toNat:Int)=AGg c:=by
 unfold N8 AGg SS AF4
 congr 1<;>congr 1<;>(apply decide_eq_decide.2;omega)
theorem Nz (s:Bs):QO s=(!decide (s=[])&&decide (s.length≤12)&&s.all fun c:UInt8=>KG (c.toNat:Int)):=by
 unfold QO
 congr 2;funext c;rw [YD]
theorem AGd (s:Bs):s.all AGg=s.all fun c:UInt8=>N8 (c.toNat:Int):=by
 congr 1;funext c;rw [AA2]
theorem Le (s:Bs):RL s=(decide (s=EC)||(decide ((58:UInt8)∈s)&&QO (HS s)&&decide ((GG s).length=16)&&(GG s).all fun c:UInt8=>N8 (c.toNat:Int))):=by
 unfold RL;rw [AGd]
theorem AEg {T:UInt8→Bool} {s:Bs} {pos:Nat} (h:pos<s.length) (ha:(s.take pos).all T=true) (ht:T s[pos]=true):(s.take (pos+1)).all T=true:=by
 rw [take_succ_eq_append_getElem h,all_append,ha];simp [ht]
theorem YX {T:UInt8→Bool} {s:Bs} {pos:Nat} (h:pos<s.length) (ht:T s[pos]=false):s.all T=false:=by
 rw [all_eq_false];exact ⟨s[pos],getElem_mem h,by rw [ht];decide⟩
end Go.Proofs.YtbhkloaagkkioaaGreatDoor
