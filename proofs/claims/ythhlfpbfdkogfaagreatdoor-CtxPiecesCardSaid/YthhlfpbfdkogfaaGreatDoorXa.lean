/-
  A machine that reckons what loaded Go code does, and its soundness: first part. It is no claim by itself; it has no conditions.
-/
import Derived.Scope
import Derived.ScopeJumps
import Derived.Orders
import Derived.Below
import Derived.Deep.MidRow
import Derived.Deep.AppendSrc
import Derived.ChangeKeysEq
import Derived.Laws.MakeOwn
import Derived.Lib.ConvBytes
import Derived.Deep.Upon
set_option linter.unusedVariables false
set_option linter.unusedSectionVars false
set_option linter.unusedSimpArgs false
namespace Go.Scr
theorem tq:True:=trivial
inductive Id where
 |k (n:Nat)
 |d (dst j:Nat)
 deriving DecidableEq,Inhabited
def Id.eq:Id->Id->Bool
 | .k a,.k b=>Nat.beq a b
 | .d a i,.d b j=>and (Nat.beq a b) (Nat.beq i j)
 |_,_=>false
theorem Id.eq_iff {a b:Id}:Id.eq a b=true↔a=b:=by
 cases a<;>cases b<;>simp[Id.eq]
theorem Id.eq_false {a b:Id} (h:a≠b):Id.eq a b=false:=by
 cases h':Id.eq a b
 ·rfl
 ·exact absurd (Id.eq_iff.1 h') h
theorem Id.eq_self (a:Id):Id.eq a a=true:=Id.eq_iff.2 rfl
inductive V where
 |u
 |s (v:Value)
 |z (n:Nat) (vs:List Value)
 |zz (e n:Nat) (xs:List V)
 |o (e:Nat) (id:Id) (off n:Nat)
 |p (id:Id) (off:Nat)
 |qv (vs:List Value) (off:Nat)
 |q (xs:List V) (off:Nat)
 |a (cs:List V)
 |t (vs:List V)
 |f (fn:Fn) (first caps:List V)
 |i (t:TypeId) (v:V)
 |ub
 deriving Inhabited
inductive B where
 |sc (vs:List Value)
 |pl (xs:List V)
 |mx (xs:List V)
 |dead
def B.len:B->Nat
 | .sc vs=>vs.length
 | .pl xs=>xs.length
 | .mx xs=>xs.length
 | .dead=>0
abbrev Hp:=Id->Option B
abbrev Io:=Id->Option (Nat×Nat)
def bD (w:World) (F:Nat->Prop) (a:Addr) (vs:List Value):Prop:=
 F a.block/\a.spot=none/\∀j x,vs[j]? =some x->w.cell? ⟨a.block,a.off+j,none⟩=some x/\x.oneCell'=true
mutual
inductive RF (w:World) (F:Nat->Prop):V->Value->Prop
 |u {x}:RF w F .u x
 |s {x}:RF w F (.s x) x
 |z0 {a cap}:RF w F (.z 0 []) (.slice a 0 cap)
 |z {n vs a cap}:n<=cap->bD w F a vs->RF w F (.z n vs) (.slice (some a) n cap)
 |zz0 {e a cap}:RF w F (.zz e 0 []) (.slice a 0 cap)
 |zz {e n xs vs a cap}:n<=cap->n7 w F xs vs->bD w F a vs->RF w F (.zz e n xs) (.slice (some a) n cap)
 |qv {vs off a}:bD w F a vs->RF w F (.qv vs off) (.pointer (some ⟨a.block,a.off+off,none⟩))
 |q {xs off vs a}:n7 w F xs vs->bD w F a vs->RF w F (.q xs off) (.pointer (some ⟨a.block,a.off+off,none⟩))
 |a {xs vs}:n7 w F xs vs.toList->RF w F (.a xs) (.agg vs)
 |t {xs vs}:n7 w F xs vs.toList->RF w F (.t xs) (.tuple vs)
 |f {fn xs ys vs us}:n7 w F xs vs.toList->n7 w F ys us.toList->RF w F (.f fn xs ys) (.func fn vs us)
 |i {t x v}:RF w F x v->RF w F (.i t x) (.iface t v)
 |ub {b}:RF w F .ub (.bool b)
inductive n7 (w:World) (F:Nat->Prop):List V->List Value->Prop
 |nil:n7 w F [] []
 |cons {x v xs vs}:RF w F x v->n7 w F xs vs->n7 w F (x::xs) (v::vs)
end
def ab (w:World) (b n:Nat):Prop:=∃arr t fr,w.heap[b]? =some (.cells arr t fr)/\n<=arr.size
mutual
inductive R (w:World) (F:Nat->Prop) (ι:Io):V->Value->Prop
 |fz {x v}:RF w F x v->R w F ι x v
 |o {e id off n cap b base}:ι id=some (b,base)->n<=cap->ab w b (base+off+cap*e)->R w F ι (.o e id off n) (.slice (some ⟨b,base+off,none⟩) n cap)
 |o0 {e id off a}:R w F ι (.o e id off 0) (.slice a 0 0)
 |p {id off b base}:ι id=some (b,base)->R w F ι (.p id off) (.pointer (some ⟨b,base+off,none⟩))
 |a {xs vs}:RL w F ι xs vs.toList->R w F ι (.a xs) (.agg vs)
 |t {xs vs}:RL w F ι xs vs.toList->R w F ι (.t xs) (.tuple vs)
 |f {fn xs ys vs us}:RL w F ι xs vs.toList->RL w F ι ys us.toList->R w F ι (.f fn xs ys) (.func fn vs us)
 |i {t x v}:R w F ι x v->R w F ι (.i t x) (.iface t v)
inductive RL (w:World) (F:Nat->Prop) (ι:Io):List V->List Value->Prop
 |nil:RL w F ι [] []
 |cons {x v xs vs}:R w F ι x v->RL w F ι xs vs->RL w F ι (x::xs) (v::vs)
end
structure Ev (w w':World) (F:Nat->Prop):Prop where
 fz:∀b:Nat,F b->w'.heap[b]? =w.heap[b]?
 shp:∀(b:Nat) (arr:Array Value) (t:TypeId) (fr:Nat×Nat),w.heap[b]? =some (Obj.cells arr t fr)->∃(arr':Array Value) (fr':Nat×Nat),w'.heap[b]? =some (Obj.cells arr' t fr')/\arr'.size=arr.size
theorem Ev.refl (w:World) (F:Nat->Prop):Ev w w F:=⟨fun _ _=>rfl,fun _ arr _ fr h=>⟨arr,fr,h,rfl⟩⟩
theorem Ev.trans {w w1 w2:World} {F:Nat->Prop} (h:Ev w w1 F) (k:Ev w1 w2 F):Ev w w2 F:=
 ⟨fun b hb=>(k.fz b hb).trans (h.fz b hb),fun b arr t fr hh=>by
  obtain⟨a1,g1,h1,s1⟩:=h.shp b arr t fr hh;obtain⟨a2,g2,h2,s2⟩:=k.shp b a1 t g1 h1;exact⟨a2,g2,h2,s2.trans s1⟩⟩
theorem Ev.sub {w w':World} {F F':Nat->Prop} (h:Ev w w' F) (hf:∀b,F' b->F b):Ev w w' F':=⟨fun b hb=>h.fz b (hf b hb),h.shp⟩
theorem Pd {w w':World} {b:Nat} (h:w'.heap[b]? =w.heap[b]?) (o:Nat):w'.cell? ⟨b,o,none⟩=w.cell? ⟨b,o,none⟩:=by
 simp[World.cell?,h]
theorem bD.ev {w w':World} {F F':Nat->Prop} {a:Addr} {vs:List Value} (h:bD w F a vs) (e:Ev w w' F) (hf:∀b,F b->F' b):bD w' F' a vs:=
 ⟨hf _ h.1,h.2.1,fun j x hx=>by rw[Pd (e.fz _ h.1)];exact h.2.2 j x hx⟩
theorem ab.ev {w w':World} {F:Nat->Prop} {b n:Nat} (h:ab w b n) (e:Ev w w' F):ab w' b n:=by
 obtain⟨arr,t,fr,hh,hn⟩:=h;obtain⟨arr',fr',hh',hs⟩:=e.shp _ _ _ _ hh;exact⟨arr',t,fr',hh',by omega⟩
section
variable {w w':World} {F F':Nat->Prop} (e:Ev w w' F) (hf:∀b,F b->F' b)
include e hf
mutual
theorem RF.ev:∀{x v},RF w F x v->RF w' F' x v
 |_,_,.u=> .u
 |_,_,.s=> .s
 |_,_,.z0=> .z0
 |_,_,.z h k=> .z h (k.ev e hf)
 |_,_,.zz0=> .zz0
 |_,_,.zz h l k=> .zz h (n7.ev l) (k.ev e hf)
 |_,_,.qv k=> .qv (k.ev e hf)
 |_,_,.q l k=> .q (n7.ev l) (k.ev e hf)
 |_,_,.a l=> .a (n7.ev l)
 |_,_,.t l=> .t (n7.ev l)
 |_,_,.f l l'=> .f (n7.ev l) (n7.ev l')
 |_,_,.i h=> .i (RF.ev h)
 |_,_,.ub=> .ub
theorem n7.ev:∀{x v},n7 w F x v->n7 w' F' x v
 |_,_,.nil=> .nil
 |_,_,.cons h l=> .cons (RF.ev h) (n7.ev l)
end
variable {ι ι':Io} (hi:∀id x,ι id=some x->ι' id=some x)
include hi
mutual
theorem R.ev:∀{x v},R w F ι x v->R w' F' ι' x v
 |_,_,.fz h=> .fz (RF.ev e hf h)
 |_,_,.o h k r=> .o (hi _ _ h) k (ab.ev (F:=F) r e)
 |_,_,.o0=> .o0
 |_,_,.p h=> .p (hi _ _ h)
 |_,_,.a l=> .a (RL.ev l)
 |_,_,.t l=> .t (RL.ev l)
 |_,_,.f l l'=> .f (RL.ev l) (RL.ev l')
 |_,_,.i h=> .i (R.ev h)
theorem RL.ev:∀{x v},RL w F ι x v->RL w' F' ι' x v
 |_,_,.nil=> .nil
 |_,_,.cons h l=> .cons (R.ev h) (RL.ev l)
end
end
theorem n7.length {w:World} {F:Nat->Prop}:∀{xs vs},n7 w F xs vs->xs.length=vs.length
 |_,_,.nil=>rfl
 |_,_,.cons _ l=>by simp[n7.length l]
theorem RL.length {w:World} {F:Nat->Prop} {ι:Io}:∀{xs vs},RL w F ι xs vs->xs.length=vs.length
 |_,_,.nil=>rfl
 |_,_,.cons _ l=>by simp[RL.length l]
theorem n7.rl {w:World} {F:Nat->Prop} {ι:Io}:∀{xs vs},n7 w F xs vs->RL w F ι xs vs
 |_,_,.nil=> .nil
 |_,_,.cons h l=> .cons (.fz h) l.rl
theorem RL.get {w:World} {F:Nat->Prop} {ι:Io}:∀{xs vs},RL w F ι xs vs->∀{j:Nat} {x},xs[j]? =some x->∃v,vs[j]? =some v/\R w F ι x v
 |_,_,.nil,j,x,h=>by simp at h
 |_,_,.cons hr l,0,x,h=>by simp at h;subst h;exact⟨_,by simp,hr⟩
 |_,_,.cons hr l,j+1,x,h=>by simpa using l.get (by simpa using h)
theorem n7.get {w:World} {F:Nat->Prop}:∀{xs vs},n7 w F xs vs->∀{j:Nat} {x},xs[j]? =some x->∃v,vs[j]? =some v/\RF w F x v
 |_,_,.nil,j,x,h=>by simp at h
 |_,_,.cons hr l,0,x,h=>by simp at h;subst h;exact⟨_,by simp,hr⟩
 |_,_,.cons hr l,j+1,x,h=>by simpa using l.get (by simpa using h)
theorem RL.take {w:World} {F:Nat->Prop} {ι:Io}:∀{xs vs},RL w F ι xs vs->∀n,RL w F ι (xs.take n) (vs.take n)
 |_,_,.nil,n=>by simpa using RL.nil
 |_,_,.cons h l,0=>by simpa using RL.nil
 |_,_,.cons h l,n+1=>by simpa using RL.cons h (l.take n)
theorem RL.drop {w:World} {F:Nat->Prop} {ι:Io}:∀{xs vs},RL w F ι xs vs->∀n,RL w F ι (xs.drop n) (vs.drop n)
 |_,_,.nil,n=>by simpa using RL.nil
 |_,_,.cons h l,0=>by simpa using RL.cons h l
 |_,_,.cons h l,n+1=>by simpa using l.drop n
theorem n7.take {w:World} {F:Nat->Prop}:∀{xs vs},n7 w F xs vs->∀n,n7 w F (xs.take n) (vs.take n)
 |_,_,.nil,n=>by simpa using n7.nil
 |_,_,.cons h l,0=>by simpa using n7.nil
 |_,_,.cons h l,n+1=>by simpa using n7.cons h (l.take n)
theorem n7.drop {w:World} {F:Nat->Prop}:∀{xs vs},n7 w F xs vs->∀n,n7 w F (xs.drop n) (vs.drop n)
 |_,_,.nil,n=>by simpa using n7.nil
 |_,_,.cons h l,0=>by simpa using n7.cons h l
 |_,_,.cons h l,n+1=>by simpa using l.drop n
theorem RL.append {w:World} {F:Nat->Prop} {ι:Io}:∀{xs vs ys us},RL w F ι xs vs->RL w F ι ys us->RL w F ι (xs++ys) (vs++us)
 |_,_,_,_,.nil,k=>by simpa using k
 |_,_,_,_,.cons h l,k=>by simpa using RL.cons h (l.append k)
theorem n7.append {w:World} {F:Nat->Prop}:∀{xs vs ys us},n7 w F xs vs->n7 w F ys us->n7 w F (xs++ys) (vs++us)
 |_,_,_,_,.nil,k=>by simpa using k
 |_,_,_,_,.cons h l,k=>by simpa using n7.cons h (l.append k)
theorem RL.set {w:World} {F:Nat->Prop} {ι:Io}:∀{xs vs},RL w F ι xs vs->∀(j:Nat) {x v},R w F ι x v->RL w F ι (xs.set j x) (vs.set j v)
 |_,_,.nil,j,_,_,h=>by simpa using RL.nil
 |_,_,.cons h l,0,_,_,hx=>by simpa using RL.cons hx l
 |_,_,.cons h l,j+1,_,_,hx=>by simpa using RL.cons h (l.set j hx)
theorem n7.set {w:World} {F:Nat->Prop}:∀{xs vs},n7 w F xs vs->∀(j:Nat) {x v},RF w F x v->n7 w F (xs.set j x) (vs.set j v)
 |_,_,.nil,j,_,_,h=>by simpa using n7.nil
 |_,_,.cons h l,0,_,_,hx=>by simpa using n7.cons hx l
 |_,_,.cons h l,j+1,_,_,hx=>by simpa using n7.cons h (l.set j hx)
theorem n7.maps {w:World} {F:Nat->Prop}:∀(vs:List Value),n7 w F (vs.map .s) vs
 |[]=> .nil
 |_::vs=> .cons .s (n7.maps vs)
theorem RL.maps {w:World} {F:Nat->Prop} {ι:Io} (vs:List Value):RL w F ι (vs.map .s) vs:=(n7.maps vs).rl
end Go.Scr
namespace Go.Scr
def BR (w:World) (F:Nat->Prop) (ι:Io) (X:B) (vs:List Value):Prop:=
 match X with
 | .sc us=>us=vs
 | .pl xs=>n7 w F xs vs
 | .mx xs=>RL w F ι xs vs
 | .dead=>True
def ka (fr:Nat×Nat) (n:Nat):Prop:=fr.1=fr.2\/n<=fr.1
theorem ka.no {fr:Nat×Nat} {n:Nat} (h:ka fr n):∀j,j<n->¬(fr.1<=j/\j<fr.2):=by
 intro j hj hh;rcases h with h|h<;>omega
structure St (w0:World) (L:Nat->Prop) (w:World) (F:Nat->Prop) (ι:Io) (H:Hp):Prop where
 os:w.os=w0.os
 tape:w.tape=w0.tape
 output:w.output=w0.output
 size:w0.heap.size<=w.heap.size
 old:∀b:Nat,b<w0.heap.size->¬L b->w.heap[b]? =w0.heap[b]?
 shp:∀(b:Nat) (arr:Array Value) (t:TypeId) (fr:Nat×Nat),w0.heap[b]? =some (Obj.cells arr t fr)->∃(arr':Array Value) (fr':Nat×Nat),w.heap[b]? =some (Obj.cells arr' t fr')/\arr'.size=arr.size
 fr:∀b,F b->b<w.heap.size
 own:∀id X,H id=some X->X≠ .dead->(X.len=0/\ι id=none)\/∃b base,ι id=some (b,base)/\¬F b/\(L b\/w0.heap.size<=b)/\
  ∃(arr:Array Value) (t:TypeId) (fr:Nat×Nat),w.heap[b]? =some (Obj.cells arr t fr)/\ka fr arr.size/\
   ∃vs:List Value,(∀j x,vs[j]? =some x->arr[base+j]? =some x/\x.oneCell'=true)/\
    BR w F ι X vs
 inj:∀id id' X X' b base base',H id=some X->X≠ .dead->H id'=some X'->X'≠ .dead->ι id=some (b,base)->ι id'=some (b,base')->id=id'
def sub {α:Type} (xs:List α) (off n:Nat):List α:=(xs.drop off).take n
theorem db {α:Type} {xs:List α} {off n j:Nat} {x:α} (h:(sub xs off n)[j]? =some x):xs[off+j]? =some x:=by
 unfold sub at h;rw[List.getElem?_take]at h;split at h
 ·simpa using h
 ·exact absurd h (by simp)
theorem RL.sub {w:World} {F:Nat->Prop} {ι:Io} {xs:List V} {vs:List Value} (h:RL w F ι xs vs) (off n:Nat):RL w F ι (Scr.sub xs off n) (Scr.sub vs off n):=(h.drop off).take n
theorem n7.sub {w:World} {F:Nat->Prop} {xs:List V} {vs:List Value} (h:n7 w F xs vs) (off n:Nat):n7 w F (Scr.sub xs off n) (Scr.sub vs off n):=(h.drop off).take n
def I3:List Id->Id->Option Nat
 |[],_=>none
 |a::r,id=>bif Id.eq a id then some 0 else (I3 r id).map (· +1)
theorem fW:∀{d7:List Id} {id k},I3 d7 id=some k->d7[k]? =some id
 |[],_,_,h=>by simp[I3]at h
 |a::r,id,k,h=>by
  unfold I3 at h;cases ha:Id.eq a id
  ·rw[ha]at h;simp only[cond_false,Option.map_eq_some_iff]at h;obtain⟨j,hj,rfl⟩:=h;simpa using fW hj
  ·rw[ha]at h;simp only[cond_true,Option.some.injEq]at h;subst h;simp[Id.eq_iff.1 ha]
theorem jF:∀{d7:List Id} {id},I3 d7 id=none->id∉d7
 |[],_,_=>by simp
 |a::r,id,h=>by
  unfold I3 at h;cases ha:Id.eq a id
  ·rw[ha]at h;simp only[cond_false,Option.map_eq_none_iff]at h;have h1:=jF h;intro hm;rcases List.mem_cons.1 hm with rfl|hm
   ·rw[Id.eq_self]at ha;cases ha
   ·exact h1 hm
  ·rw[ha]at h;simp at h
mutual
def F7 (H:Hp) (d7:List Id):Nat->V->V
 |0,_=> .u
 |n+1,v=>match v with
  | .o e id off m=>match I3 d7 id with
   |some _=> .u
   |none=>match H id with
    |some (.sc vs)=> .z m (sub vs off m)
    |some (.pl xs)=> .zz e m (sub xs off (m*e))
    |some (.mx xs)=> .zz e m ((sub xs off (m*e)).map (F7 H d7 n))
    |_=> .u
  | .p id off=>match I3 d7 id with
   |some _=> .u
   |none=>match H id with
    |some (.sc vs)=> .qv vs off
    |some (.pl xs)=> .q xs off
    |some (.mx xs)=> .q (xs.map (F7 H d7 n)) off
    |_=> .u
  | .a cs=> .a (cs.map (F7 H d7 n))
  | .t cs=> .t (cs.map (F7 H d7 n))
  | .f fn a b=> .f fn (a.map (F7 H d7 n)) (b.map (F7 H d7 n))
  | .i t v=> .i t (F7 H d7 n v)
  |v=>v
end
def p5 (H:Hp) (d7:List Id):Nat->V->V
 |0,_=> .u
 |n+1,v=>match v with
  | .o e id off m=>match I3 d7 id with
   |some k=> .o e (.k k) off m
   |none=>F7 H d7 n (.o e id off m)
  | .p id off=>match I3 d7 id with
   |some k=> .p (.k k) off
   |none=>F7 H d7 n (.p id off)
  | .a cs=> .a (cs.map (p5 H d7 n))
  | .t cs=> .t (cs.map (p5 H d7 n))
  | .f fn a b=> .f fn (a.map (p5 H d7 n)) (b.map (p5 H d7 n))
  | .i t v=> .i t (p5 H d7 n v)
  |v=>v
def cK (H:Hp) (d7:List Id):B->B
 | .mx xs=> .mx (xs.map (p5 H d7 6))
 |b=>b
def Fx (F:Nat->Prop) (ι:Io) (H:Hp) (d7:List Id) (b:Nat):Prop:=
 F b\/∃id X base,H id=some X/\X≠ .dead/\id∉d7/\ι id=some (b,base)
def Ik (ι:Io) (d7:List Id):Io
 | .k k=>(d7[k]?).bind ι
 |_=>none
theorem kS {w:World} {b:Nat} {arr:Array Value} {t:TypeId} {fr:Nat×Nat} (h:w.heap[b]? =some (Obj.cells arr t fr)) (o:Nat):w.cell? ⟨b,o,none⟩=arr[o]? :=by
 simp[World.cell?,h]
section
variable {w0:World} {L:Nat->Prop} {w:World} {F:Nat->Prop} {ι:Io} {H Hr:Hp} (st:St w0 L w F ι H) (hHr:∀id b,Hr id=some b->H id=some b) (d7:List Id)
include st hHr
theorem sw (n:Nat):∀{v x},R w F ι v x->RF w (Fx F ι H d7) (F7 Hr d7 n v) x:=by
 induction n with
 |zero=>intro v x _;unfold F7;exact .u
 |succ n ih=>
  have ihl:∀{xs vs},RL w F ι xs vs->n7 w (Fx F ι H d7) (xs.map (F7 Hr d7 n)) vs:=by
   intro xs vs h;induction h using RL.rec (motive_1:=fun _ _ _=>True)with
   |nil=>exact .nil
   |cons h _ _ ih2=>exact .cons (ih h) ih2
   |_=>trivial
  have up:∀{v x},RF w F v x->RF w (Fx F ι H d7) v x:=fun h=>RF.ev (Ev.refl w F) (fun _=> .inl) h;have upl:∀{v x},n7 w F v x->n7 w (Fx F ι H d7) v x:=fun h=>n7.ev (Ev.refl w F) (fun _=> .inl) h;intro v x h;cases h with
  |fz h=>
   cases h with
   |a l=>unfold F7;exact .a (ihl l.rl)
   |t l=>unfold F7;exact .t (ihl l.rl)
   |f l l'=>unfold F7;exact .f (ihl l.rl) (ihl l'.rl)
   |i h=>unfold F7;exact .i (ih (.fz h))
   |u=>unfold F7;exact .u
   |s=>unfold F7;exact .s
   |z0=>unfold F7;exact .z0
   |z a b=>unfold F7;exact up (.z a b)
   |zz0=>unfold F7;exact .zz0
   |ub=>unfold F7;exact .ub
   |zz a b c=>unfold F7;exact up (.zz a b c)
   |qv a=>unfold F7;exact up (.qv a)
   |q a b=>unfold F7;exact up (.q a b)
  |a l=>unfold F7;exact .a (ihl l)
  |t l=>unfold F7;exact .t (ihl l)
  |f l l'=>unfold F7;exact .f (ihl l) (ihl l')
  |i h=>unfold F7;exact .i (ih h)
  | @o e id off m cap b base hi hn hr=>
   dsimp only[F7];cases hx:I3 d7 id with
   |some k=>exact .u
   |none=>
    have l4:=jF hx;cases hH:Hr id with
    |none=>exact .u
    |some X=>
     by_cases hd:X= .dead
     ·subst hd;exact .u
     ·obtain⟨b',base',hi',_,_,arr,t,fr,hh,_,vs,hc,hX⟩:=(st.own id X (hHr _ _ hH) hd).resolve_left (by simp[hi]);rw[hi]at hi';simp only[Option.some.injEq,Prod.mk.injEq]at hi';obtain⟨rfl,rfl⟩:=hi';have hF:Fx F ι H d7 b:= .inr ⟨id,X,base,hHr _ _ hH,hd,l4,hi⟩;have hcell:∀k,bD w (Fx F ι H d7) ⟨b,base+off,none⟩ (sub vs off k):=fun k=>
       ⟨hF,rfl,fun j y hy=>by rw[kS hh,Nat.add_assoc];exact hc _ _ (db hy)⟩
      cases X with
      |sc us=>obtain rfl:us=vs:=hX;exact .z hn (hcell m)
      |pl xs=>exact .zz hn (upl (n7.sub hX _ _)) (hcell _)
      |mx xs=>exact .zz hn (ihl (RL.sub hX _ _)) (hcell _)
      |dead=>exact absurd rfl hd
  | @o0 e id off a=>
   dsimp only[F7];cases hx:I3 d7 id with
   |some k=>exact .u
   |none=>
    cases hH:Hr id with
    |none=>exact .u
    |some X=>
     cases X with
     |sc us=>simpa [sub]using RF.z0
     |pl xs=>simpa [sub]using RF.zz0
     |mx xs=>simpa [sub]using RF.zz0
     |dead=>exact .u
  | @p id off b base hi=>
   dsimp only[F7];cases hx:I3 d7 id with
   |some k=>exact .u
   |none=>
    have l4:=jF hx;cases hH:Hr id with
    |none=>exact .u
    |some X=>
     by_cases hd:X= .dead
     ·subst hd;exact .u
     ·obtain⟨b',base',hi',_,_,arr,t,fr,hh,_,vs,hc,hX⟩:=(st.own id X (hHr _ _ hH) hd).resolve_left (by simp[hi]);rw[hi]at hi';simp only[Option.some.injEq,Prod.mk.injEq]at hi';obtain⟨rfl,rfl⟩:=hi';have hF:Fx F ι H d7 b:= .inr ⟨id,X,base,hHr _ _ hH,hd,l4,hi⟩;have hcell:bD w (Fx F ι H d7) ⟨b,base,none⟩ vs:=
       ⟨hF,rfl,fun j y hy=>by rw[kS hh];exact hc _ _ hy⟩
      cases X with
      |sc us=>obtain rfl:us=vs:=hX;exact .qv hcell
      |pl xs=>exact .q (upl hX) hcell
      |mx xs=>exact .q (ihl hX) hcell
      |dead=>exact absurd rfl hd
theorem io (n:Nat):∀{v x},R w F ι v x->R w (Fx F ι H d7) (Ik ι d7) (p5 Hr d7 n v) x:=by
 induction n with
 |zero=>intro v x _;unfold p5;exact .fz .u
 |succ n ih=>
  have ihl:∀{xs vs},RL w F ι xs vs->RL w (Fx F ι H d7) (Ik ι d7) (xs.map (p5 Hr d7 n)) vs:=by
   intro xs vs h;induction h using RL.rec (motive_1:=fun _ _ _=>True)with
   |nil=>exact .nil
   |cons h _ _ ih2=>exact .cons (ih h) ih2
   |_=>trivial
  have up:∀{v x},RF w F v x->R w (Fx F ι H d7) (Ik ι d7) v x:=fun h=> .fz (RF.ev (Ev.refl w F) (fun _=> .inl) h);intro v x h;cases h with
  |fz h=>
   cases h with
   |a l=>unfold p5;exact .a (ihl l.rl)
   |t l=>unfold p5;exact .t (ihl l.rl)
   |f l l'=>unfold p5;exact .f (ihl l.rl) (ihl l'.rl)
   |i h=>unfold p5;exact .i (ih (.fz h))
   |u=>unfold p5;exact .fz .u
   |s=>unfold p5;exact .fz .s
   |z0=>unfold p5;exact .fz .z0
   |z a b=>unfold p5;exact up (.z a b)
   |zz0=>unfold p5;exact .fz .zz0
   |ub=>unfold p5;exact .fz .ub
   |zz a b c=>unfold p5;exact up (.zz a b c)
   |qv a=>unfold p5;exact up (.qv a)
   |q a b=>unfold p5;exact up (.q a b)
  |a l=>unfold p5;exact .a (ihl l)
  |t l=>unfold p5;exact .t (ihl l)
  |f l l'=>unfold p5;exact .f (ihl l) (ihl l')
  |i h=>unfold p5;exact .i (ih h)
  | @o e id off m cap b base hi hn hr=>
   dsimp only[p5];cases hx:I3 d7 id with
   |some k=>exact .o (by simp[Ik,fW hx,hi]) hn hr
   |none=>exact .fz (sw st hHr d7 n (.o hi hn hr))
  | @o0 e id off a=>
   dsimp only[p5];cases hx:I3 d7 id with
   |some k=>exact .o0
   |none=>exact .fz (sw st hHr d7 n .o0)
  | @p id off b base hi=>
   dsimp only[p5];cases hx:I3 d7 id with
   |some k=>exact .p (by simp[Ik,fW hx,hi])
   |none=>exact .fz (sw st hHr d7 n (.p hi))
theorem rx (n:Nat) {xs:List V} {vs:List Value} (h:RL w F ι xs vs):RL w (Fx F ι H d7) (Ik ι d7) (xs.map (p5 Hr d7 n)) vs:=by
 induction h using RL.rec (motive_1:=fun _ _ _=>True)with
 |nil=>exact .nil
 |cons h _ _ ih2=>exact .cons (io st hHr d7 n h) ih2
 |_=>trivial
end
def Hof (bs:List B):Hp
 | .k k=>bs[k]?
 |_=>none
theorem St.keep {w0:World} {L:Nat->Prop} {w:World} {F:Nat->Prop} {ι:Io} {H Hr:Hp} (st:St w0 L w F ι H) (hr:∀id b,Hr id=some b->H id=some b) (d7:List Id) (hnd:d7.Nodup)
  {bs:List B} (hbs:∀(k:Nat) (X:B),bs[k]? =some X->X≠ .dead->∃id Y,d7[k]? =some id/\H id=some Y/\X=cK Hr d7 Y):St w0 L w (Fx F ι H d7) (Ik ι d7) (Hof bs) where
 os:=st.os
 tape:=st.tape
 output:=st.output
 size:=st.size
 old:=st.old
 shp:=st.shp
 fr:=by
  rintro b (h|⟨id,X,base,hH,hd,_,hi⟩)
  ·exact st.fr b h
  ·obtain⟨b',base',hi',_,_,arr,t,fr,hh,_⟩:=(st.own id X hH hd).resolve_left (by simp[hi]);rw[hi]at hi';simp only[Option.some.injEq,Prod.mk.injEq]at hi';obtain⟨rfl,rfl⟩:=hi';exact(Array.getElem?_eq_some_iff.1 hh).1
 own:=by
  intro id X h hX;cases id with
  |d=>simp[Hof]at h
  |k k=>
   obtain⟨id,Y,l4,hY,rfl⟩:=hbs k X h hX;have hYd:Y≠ .dead:=by rintro rfl;exact hX rfl
   rcases st.own id Y hY hYd with ⟨h0,h0'⟩|⟨b,base,hi,hF,hL,arr,t,fr,hh,hfr,vs,hc,hm⟩
   ·refine .inl ⟨?_,by simp[Ik,l4,h0']⟩;cases Y<;>first|exact h0|simpa [cK,B.len]using h0
   refine .inr ⟨b,base,by simp[Ik,l4,hi],?_,hL,arr,t,fr,hh,hfr,vs,hc,?_⟩
   ·rintro (h|⟨id',X',base',hH,hd,hn,hi'⟩)
    ·exact hF h
    ·exact hn (st.inj id id' Y X' b base base' hY hYd hH hd hi hi'▸List.mem_of_getElem? l4)
   ·cases Y with
    |sc us=>exact hm
    |pl xs=>exact n7.ev (Ev.refl w F) (fun _=> .inl) hm
    |mx xs=>exact rx st hr d7 6 hm
    |dead=>exact absurd rfl hYd
 inj:=by
  intro id id' X X' b base base' h hX h' hX' hi hi';cases id with
  |d=>simp[Hof]at h
  |k k=>
   cases id' with
   |d=>simp[Hof]at h'
   |k k'=>
    obtain⟨i,Y,l4,hY,rfl⟩:=hbs k X h hX;obtain⟨i',Y',hid',hY',rfl⟩:=hbs k' X' h' hX';simp only[Ik,l4,hid',Option.bind_some]at hi hi';have hYd:Y≠ .dead:=by rintro rfl;exact hX rfl
    have hYd':Y'≠ .dead:=by rintro rfl;exact hX' rfl
    have he:=st.inj i i' Y Y' b base base' hY hYd hY' hYd' hi hi';subst he;rw[(List.getElem?_inj (List.getElem?_eq_some_iff.1 l4).1 hnd).1 (l4.trans hid'.symm)]
end Go.Scr
namespace Go.Scr
structure TI where
 desc:TypeDesc
 size:Nat
 bytes:Nat
 zero:List Value
structure m6 where
 P:Program
 ty:Nat->Option TI
 gl:Nat->V
inductive Oc where
 |ret (v:V)
 |pan (v:V)
def gptr (g:Nat):Value:= .pointer (some ⟨g,0,none⟩)
def Lb (ι:Io) (bs:List B) (b:Nat):Prop:=∃(k:Nat) (X:B) (base:Nat),bs[k]? =some X/\X≠ .dead/\ι (.k k)=some (b,base)
def aT (w:World) (F:Nat->Prop) (ι:Io):Oc->Ending->Prop
 | .ret v,e=>∃x,e= .returned x/\R w F ι v x
 | .pan v,e=>∃x,e= .panicked [{v:=x,recovered:=false}]/\R w F ι v x
def b9 (C:m6) (f:FuncId) (args:List V) (bs:List B) (r:Oc) (bs':List B):Prop:=
 (∀(as:Array Value) (w:World),(callFunc f as).run C.P w= .ok (.enter f as) w)/\
 ∀(w:World) (F:Nat->Prop) (ι:Io) (vs:Array Value),St w (Lb ι bs) w F ι (Hof bs)->(∀g,RF w F (C.gl g) (gptr g))->
  (∀id x,ι id=some x->∃k,k<bs.length/\id= .k k)->RL w F ι args vs.toList->
  Calls C.P f vs w fun e w'=>∃(F':Nat->Prop) (ι':Io),(∀b,F b->F' b)/\(∀b,F' b->F b\/Lb ι bs b\/w.heap.size<=b)/\(∀id x,ι id=some x->ι' id=some x)/\
   St w (Lb ι bs) w' F' ι' (Hof bs')/\(∀id x,ι' id=some x->∃k,k<bs'.length/\id= .k k)/\aT w' F' ι' r e
def up {α:Type} (f:Nat->α) (i:Nat) (x:α):Nat->α:=fun j=>bif Nat.beq i j then x else f j
def x5 {α:Type} (f:Id->α) (i:Id) (x:α):Id->α:=fun j=>bif Id.eq i j then x else f j
def cd (b:Bool) (x y:Prop):Prop:=match b with|true=>x|false=>y
def w6 (b:Bool) (x:Prop):Prop:=match b with|true=>x|false=>False
def U7 (v:V) (K:V->Prop):Prop:=
 match v with
 | .u=>K .u
 | .s x=>K (.s x)
 | .z n vs=>K (.z n vs)
 | .zz e n xs=>K (.zz e n xs)
 | .o e id off n=>K (.o e id off n)
 | .p id off=>K (.p id off)
 | .qv vs off=>K (.qv vs off)
 | .q xs off=>K (.q xs off)
 | .a cs=>K (.a cs)
 | .t cs=>K (.t cs)
 | .f fn a b=>K (.f fn a b)
 | .i t v=>K (.i t v)
 | .ub=>K .ub
theorem X8 (v:V) (K:V->Prop):U7 v K=K v:=by cases v<;>rfl
def qE:List Nat->Nat->(Nat->Prop)->Prop
 |[],e,K=>K e
 |a::r,e,K=>match Nat.beq e a with
  |true=>K a
  |false=>qE r e K
theorem Bn:∀(l:List Nat) (e:Nat) (K:Nat->Prop),qE l e K=K e
 |[],_,_=>rfl
 |a::r,e,K=>by
  unfold qE;cases h:Nat.beq e a
  ·exact Bn r e K
  ·rw[Nat.eq_of_beq_eq_true h]
def fN (e:Nat) (K:Nat->Prop):Prop:=qE [1,2,3,4,7,8,16,256] e K
theorem bN (e:Nat) (K:Nat->Prop):fN e K=K e:=Bn _ e K
def Cj (b:B) (K:B->Prop):Prop:=
 match b with
 | .sc vs=>K (.sc vs)
 | .pl xs=>K (.pl xs)
 | .mx xs=>K (.mx xs)
 | .dead=>K .dead
theorem VX (b:B) (K:B->Prop):Cj b K=K b:=by cases b<;>rfl
def Ck (i:Id) (K:Id->Prop):Prop:=
 match i with
 | .k n=>K (.k n)
 | .d a j=>K (.d a j)
theorem VY (i:Id) (K:Id->Prop):Ck i K=K i:=by cases i<;>rfl
def jB:List V->(List V->Prop)->Prop
 |[],K=>K []
 |x::r,K=>U7 x fun x=>jB r fun r=>K (x::r)
theorem ol:∀(l:List V) (K:List V->Prop),jB l K=K l
 |[],_=>rfl
 |x::r,K=>by rw[jB,X8,ol r]
def kZ (ev:Operand->V):List Operand->(List V->Prop)->Prop
 |[],K=>K []
 |x::r,K=>U7 (ev x) fun v=>kZ ev r fun vs=>K (v::vs)
theorem vg (ev:Operand->V):∀(l:List Operand) (K:List V->Prop),kZ ev l K=K (l.map ev)
 |[],_=>rfl
 |x::r,K=>by rw[kZ,X8,vg ev r];rfl
def lf (ev:Operand->V):List (Nat×Operand)->(List (Nat×V)->Prop)->Prop
 |[],K=>K []
 |(i,x)::r,K=>U7 (ev x) fun v=>lf ev r fun vs=>K ((i,v)::vs)
theorem qD (ev:Operand->V):∀(l:List (Nat×Operand)) (K:List (Nat×V)->Prop),lf ev l K=K (l.map fun p=>(p.1,ev p.2))
 |[],_=>rfl
 |(i,x)::r,K=>by rw[lf,X8,qD ev r];rfl
def cv:Value->V
 | .agg vs=> .a (vs.toList.map .s)
 | .tuple vs=> .t (vs.toList.map .s)
 |v=> .s v
def dC (C:m6) (T:Nat->V):Operand->V
 | .tmp t=>T t
 | .const v=>cv v
 | .global g=>C.gl g
 | .func f=> .f (.func f) [] []
def oM:List V->Bool
 |[]=>true
 |x::r=>(match x with
  | .u=>false
  | .a _=>false
  | .t _=>false
  | .s y=>y.oneCell'
  |_=>true)&&oM r
def iX (v:V) (K:List V->Prop):Prop:=
 match v with
 | .u=>False
 | .t _=>False
 | .a cs=>w6 (oM cs) (K cs)
 | .s y=>w6 y.oneCell' (K [.s y])
 | .z n vs=>K [.z n vs]
 | .zz e n xs=>K [.zz e n xs]
 | .o e id off n=>K [.o e id off n]
 | .p id off=>K [.p id off]
 | .qv vs off=>K [.qv vs off]
 | .q xs off=>K [.q xs off]
 | .f fn a b=>K [.f fn a b]
 | .i t v=>K [.i t v]
 | .ub=>K [.ub]
mutual
def dI:V->Bool
 | .o .. =>false
 | .p .. =>false
 | .a cs=>bP cs
 | .t cs=>bP cs
 | .f _ a b=>bP a&&bP b
 | .i _ v=>dI v
 |_=>true
def bP:List V->Bool
 |[]=>true
 |x::r=>dI x&&bP r
end
mutual
def aG:V->Bool
 | .z .. =>false
 | .zz .. =>false
 | .qv .. =>false
 | .q .. =>false
 | .a cs=>iA cs
 | .t cs=>iA cs
 | .f _ a b=>iA a&&iA b
 | .i _ v=>aG v
 |_=>true
def iA:List V->Bool
 |[]=>true
 |x::r=>aG x&&iA r
end
def oL:B->Bool
 | .pl _=>false
 | .mx xs=>iA xs
 |_=>true
def iy:List B->Bool
 |[]=>true
 |x::r=>oL x&&iy r
def jH:Oc->Bool
 | .ret v=>aG v
 | .pan v=>aG v
mutual
def fJ (d7:List Id):V->Bool
 | .o _ id _ _=>(I3 d7 id).isSome
 | .p id _=>(I3 d7 id).isSome
 | .a cs=>V8 d7 cs
 | .t cs=>V8 d7 cs
 | .f _ a b=>V8 d7 a&&V8 d7 b
 | .i _ v=>fJ d7 v
 |_=>true
def V8 (d7:List Id):List V->Bool
 |[]=>true
 |x::r=>fJ d7 x&&V8 d7 r
end
def Pm (d7:List Id):Option B->Bool
 |some (.mx xs)=>V8 d7 xs
 |_=>true
def gN (H:Hp) (d7:List Id):List Id->Bool
 |[]=>true
 |x::r=>Pm d7 (H x)&&gN H d7 r
def dQ:List Id->Bool
 |[]=>true
 |x::r=>(I3 r x).isNone&&dQ r
def lay {α:Type} (xs:List α) (j:Nat) (cs:List α):List α:=
 match cs with
 |[c]=>xs.set j c
 |cs=>xs.take j++cs++xs.drop (j+cs.length)
def lZ:TypeDesc->Bool
 | .struct _| .array _ _=>true
 |_=>false
def lW (op:BinOp) (k:IntKind) (x y:Int) (K:Value->Prop):Prop:=
 match op with
 | .add=>K (.int k (k.wrap (x+y)))
 | .sub=>K (.int k (k.wrap (x-y)))
 | .mul=>K (.int k (k.wrap (x*y)))
 | .quo=>y≠0/\K (.int k (k.wrap (x.tdiv y)))
 | .rem=>y≠0/\K (.int k (x.tmod y))
 | .and=>K (.int k (k.wrap (BitVec.ofInt k.bits x&&&BitVec.ofInt k.bits y).toNat))
 | .or=>K (.int k (k.wrap (BitVec.ofInt k.bits x|||BitVec.ofInt k.bits y).toNat))
 | .xor=>K (.int k (k.wrap (BitVec.ofInt k.bits x^^^BitVec.ofInt k.bits y).toNat))
 | .andNot=>K (.int k (k.wrap (BitVec.ofInt k.bits x&&& ~~~(BitVec.ofInt k.bits y)).toNat))
 | .shl=>0<=y/\K (.int k (k.wrap (x*2^(min y.toNat k.bits))))
 | .shr=>0<=y/\K (.int k (x.fdiv (2^(min y.toNat k.bits))))
 | .lss=>K (.bool (decide (x<y)))
 | .leq=>K (.bool (decide (x<=y)))
 | .gtr=>K (.bool (decide (x>y)))
 | .geq=>K (.bool (decide (x>=y)))
 | .eql=>K (.bool (x==y))
 | .neq=>K (.bool (x != y))
def IntKind.beq:IntKind->IntKind->Bool
 | .i8,.i8| .i16,.i16| .i32,.i32| .i64,.i64| .u8,.u8| .u16,.u16| .u32,.u32| .u64,.u64=>true
 |_,_=>false
def vX:BinOp->Bool
 | .shl| .shr=>true
 |_=>false
def qC (C:m6) (t:Nat) (x y:V) (K:V->Prop) (f:Bool->Bool):Prop:=
 match C.ty t with
 |none=>False
 |some ti=>match ti.desc with
  | .bool=>match x,y with
   | .s (.bool a),.s (.bool b)=>K (.s (.bool (f (a==b))))
   |_,_=>False
  | .pointer _=>match x,y with
   | .s (.pointer none),.s (.pointer none)=>K (.s (.bool (f true)))
   | .p _ _,.s (.pointer none)=>K (.s (.bool (f false)))
   | .q _ _,.s (.pointer none)=>K (.s (.bool (f false)))
   | .qv _ _,.s (.pointer none)=>K (.s (.bool (f false)))
   |_,_=>False
  | .slice _=>match y with
   | .s (.slice none 0 0)=>match x with
    | .s (.slice none 0 0)=>K (.s (.bool (f true)))
    | .z n _=>(0<n/\K (.s (.bool (f false))))\/K .ub
    | .zz _ n _=>(0<n/\K (.s (.bool (f false))))\/K .ub
    | .o _ _ _ n=>(0<n/\K (.s (.bool (f false))))\/K .ub
    |_=>False
   |_=>False
  | .array n el=>match C.ty el with
   |none=>False
   |some te=>match te.desc with
    | .bool=>match x,y with
     | .a xs,.a ys=>w6 (Nat.beq te.size 1) (∃as bs:List Bool,xs=as.map (fun b=> .s (.bool b))/\ys=bs.map (fun b=> .s (.bool b))/\as.length=n/\bs.length=n/\K (.s (.bool (f (decide (as=bs))))))
     |_,_=>False
    |_=>False
  |_=>False
def tX (C:m6) (op:BinOp) (t:Nat) (x y:V) (K:V->Prop):Prop:=
 match x,y with
 | .s (.int k a),.s (.int k' b)=>match vX op with
  |true=>lW op k a b fun v=>K (.s v)
  |false=>w6 (IntKind.beq k k') (lW op k a b fun v=>K (.s v))
 | .s (.string a),.s (.string b)=>match op with
  | .eql=>K (.s (.bool (a.toList==b.toList)))
  | .neq=>K (.s (.bool !(a.toList==b.toList)))
  | .add=>a.size+b.size<=1099511627776/\K (.s (.string (a++b)))
  |_=>False
 |x,y=>match op with
  | .eql=>qC C t x y K fun b=>b
  | .neq=>qC C t x y K fun b=> !b
  |_=>False
def wi:V->(Nat->Prop)->Prop
 | .z n _,K=>K n
 | .zz _ n _,K=>K n
 | .o _ _ _ n,K=>K n
 | .s (.slice none 0 0),K=>K 0
 |_,_=>False
def vU (C:m6) (t:Nat) (x i:V) (K:V->Prop):Prop:=
 match i with
 | .s (.int _ i)=>match C.ty t with
  |none=>False
  |some ti=>match ti.desc with
   | .slice el=>match C.ty el with
    |none=>False
    |some te=>match x with
     | .z n vs=>w6 (Nat.beq te.size 1) (0<=i/\i<n/\K (.qv vs i.toNat))
     | .zz e n xs=>w6 (Nat.beq te.size e) (0<=i/\i<n/\K (.q xs (i.toNat*e)))
     | .o e id off n=>w6 (Nat.beq te.size e) (0<=i/\i<n/\K (.p id (off+i.toNat*e)))
     |_=>False
   | .array n el=>match C.ty el with
    |none=>False
    |some te=>fN te.size fun sz=>match x with
     | .p id off=>0<=i/\i<n/\K (.p id (off+i.toNat*sz))
     | .q xs off=>0<=i/\i<n/\K (.q xs (off+i.toNat*sz))
     | .qv vs off=>0<=i/\i<n/\K (.qv vs (off+i.toNat*sz))
     |_=>False
   |_=>False
 |_=>False
def bV (C:m6) (t:Nat) (xs:List V) (j:Nat) (K:V->Prop):Prop:=
 match C.ty t with
 |none=>False
 |some ti=>match lZ ti.desc with
  |false=>∃v,xs[j]? =some v/\K v
  |true=>fN ti.size fun sz=>∃cs,sub xs j sz=cs/\cs.length=sz/\K (.a cs)
def rW (C:m6) (t:Nat) (vs:List Value) (j:Nat) (K:V->Prop):Prop:=
 match C.ty t with
 |none=>False
 |some ti=>match lZ ti.desc with
  |false=>∃v,vs[j]? =some v/\K (.s v)
  |true=>fN ti.size fun sz=>∃cs,sub vs j sz=cs/\cs.length=sz/\K (.a (cs.map .s))
def oD (C:m6) (t:Nat) (H:Hp) (x:V) (K:V->Prop):Prop:=
 match x with
 | .qv vs j=>rW C t vs j K
 | .q xs j=>bV C t xs j K
 | .p id j=>match H id with
  |some (.sc vs)=>rW C t vs j K
  |some (.pl xs)=>bV C t xs j K
  |some (.mx xs)=>bV C t xs j K
  |_=>False
 |_=>False
abbrev KO:=V->List (Id×B)->Prop
def xz (C:m6) (t:Nat) (H:Hp) (x v:V) (K:KO):Prop:=
 match x with
 | .p id j=>match C.ty t with
  |none=>False
  |some ti=>match H id with
   |some (.sc vs)=>match v with
    | .s y=>w6 (y.oneCell'&&Nat.beq ti.size 1) (j<vs.length/\K .u [(id,.sc (vs.set j y))])
    |v=>iX v fun cs=>w6 (Nat.beq cs.length ti.size) (j+cs.length<=vs.length/\K .u [(id,.mx (lay (vs.map .s) j cs))])
   |some (.pl xs)=>iX v fun cs=>w6 (Nat.beq cs.length ti.size&&bP cs) (j+cs.length<=xs.length/\K .u [(id,.pl (lay xs j cs))])
   |some (.mx xs)=>iX v fun cs=>w6 (Nat.beq cs.length ti.size) (j+cs.length<=xs.length/\K .u [(id,.mx (lay xs j cs))])
   |_=>False
 |_=>False
def lJ (C:m6) (t f:Nat) (K:Nat->Nat->Prop):Prop:=
 match C.ty t with
 |some ti=>match ti.desc with
  | .struct fs=>match fs[f]? with
   |some fl=>K fl.offset fl.type
   |none=>False
  |_=>False
 |none=>False
def fQ (place:Nat->(Nat->Nat->Prop)->Prop):List V->List (Nat×V)->(List V->Prop)->Prop
 |cells,[],K=>K cells
 |cells,(i,v)::r,K=>place i fun off size=>iX v fun cs=>w6 (Nat.beq cs.length size&&Nat.ble (off+cs.length) cells.length) (jB (lay cells off cs) fun cells=>fQ place cells r K)
def bp (C:m6) (t:Nat) (K:Nat->Prop):Prop:=
 match C.ty t with
 |some ti=>fN ti.size K
 |none=>False
def jj:List V->Bool
 |[]=>true
 | .s _::r=>jj r
 |_=>false
def jW:List V->List Value
 |[]=>[]
 | .s v::r=>v::jW r
 |_::r=>undef::jW r
def pf:List V->(List Value->Prop)->Prop
 |[],K=>K []
 | .s v::r,K=>pf r fun l=>K (v::l)
 |_::r,K=>pf r fun l=>K (undef::l)
theorem GM:∀(l:List V) (K:List Value->Prop),pf l K=K (jW l)
 |[],_=>rfl
 |x::r,K=>by
  cases x<;>(unfold pf jW;exact GM r _)
def blk (cs:List V):B:=match jj cs with
 |true=> .sc (jW cs)
 |false=>match bP cs with
  |true=> .pl cs
  |false=> .mx cs
def ua (cs:List V) (K:B->Prop):Prop:=match jj cs with
 |true=>pf cs fun vs=>K (.sc vs)
 |false=>match bP cs with
  |true=>K (.pl cs)
  |false=>K (.mx cs)
theorem If (cs:List V) (K:B->Prop):ua cs K=K (blk cs):=by
 unfold ua blk;cases jj cs
 ·cases bP cs<;>rfl
 ·exact GM cs _
def ah (C:m6) (t:Nat) (K:Nat->TI->Prop):Prop:=
 match C.ty t with
 |some ti=>match ti.desc with
  | .slice el=>match C.ty el with
   |some te=>K el te
   |none=>False
  |_=>False
 |none=>False
def R5 (v:Option V) (d:Nat) (K:Nat->Prop):Prop:=
 match v with
 |none=>K d
 |some (.s (.int _ i))=>0<=i/\K i.toNat
 |_=>False
def xw (C:m6) (t:Nat) (x:V) (lo hi mx:Option V) (K:V->Prop):Prop:=
 match C.ty t with
 |none=>False
 |some ti=>match ti.desc with
  | .string=>match x with
   | .s (.string b)=>R5 hi b.size fun h=>R5 lo 0 fun l=>w6 mx.isNone (l<=h/\h<=b.size/\K (.s (.string (b.extract l h))))
   |_=>False
  | .slice el=>match C.ty el with
   |none=>False
   |some te=>R5 hi (match x with| .z n _=>n| .zz _ n _=>n| .o _ _ _ n=>n|_=>0) fun h=>R5 lo 0 fun l=>w6 (mx.isNone||hi.isSome) (R5 mx h fun m=>l<=h/\h<=m/\match x with
    | .z n vs=>w6 (Nat.beq te.size 1) (m<=n/\K (.z (h-l) (sub vs l (h-l))))
    | .zz e n xs=>w6 (Nat.beq te.size e) (m<=n/\K (.zz e (h-l) (sub xs (l*e) ((h-l)*e))))
    | .o e id off n=>w6 (Nat.beq te.size e) (m<=n/\K (.o e id (off+l*e) (h-l)))
    | .s (.slice none 0 0)=>m<=0/\K (.s (.slice none 0 0))
    |_=>False)
  |_=>False
def sv (C:m6) (t:Nat) (x:V) (lo hi mx:Option V) (K:V->Prop):Prop:=
 match C.ty t with
 |none=>False
 |some ti=>match ti.desc with
  | .string=>match x with
   | .s (.string b)=>R5 hi b.size fun h=>R5 lo 0 fun l=>w6 mx.isNone (l<=h/\h<=b.size/\K (.s (.string (b.extract l h))))
   |_=>False
  | .slice el=>match C.ty el with
   |none=>False
   |some te=>match x with
    | .z n vs=>R5 hi n fun h=>R5 lo 0 fun l=>w6 (mx.isNone||hi.isSome) (R5 mx h fun m=>l<=h/\h<=m/\w6 (Nat.beq te.size 1) (m<=n/\K (.z (h-l) (sub vs l (h-l)))))
    | .zz e n xs=>R5 hi n fun h=>R5 lo 0 fun l=>w6 (mx.isNone||hi.isSome) (R5 mx h fun m=>l<=h/\h<=m/\w6 (Nat.beq te.size e) (m<=n/\K (.zz e (h-l) (sub xs (l*e) ((h-l)*e)))))
    | .o e id off n=>R5 hi n fun h=>R5 lo 0 fun l=>w6 (mx.isNone||hi.isSome) (R5 mx h fun m=>l<=h/\h<=m/\w6 (Nat.beq te.size e) (m<=n/\K (.o e id (off+l*e) (h-l))))
    | .s (.slice none 0 0)=>R5 hi 0 fun h=>R5 lo 0 fun l=>w6 (mx.isNone||hi.isSome) (R5 mx h fun m=>l<=h/\h<=m/\m<=0/\K (.s (.slice none 0 0)))
    |_=>False
  |_=>False
theorem a1z {C:m6} {t:Nat} {x:V} {lo hi mx:Option V} {K:V->Prop} (h:sv C t x lo hi mx K):xw C t x lo hi mx K:=by
 unfold sv at h;unfold xw;cases ht:C.ty t with
 |none=>rw[ht]at h;exact h
 |some ti=>
  rw[ht]at h;simp only at h ⊢;cases hd:ti.desc<;>rw[hd]at h<;>simp only at h ⊢ <;>try exact h
  rename_i el;cases hel:C.ty el with
  |none=>rw[hel]at h;exact h
  |some te=>
   rw[hel]at h;simp only at h ⊢;split at h
   ·exact h
   ·exact h
   ·exact h
   ·exact h
   ·exact h.elim
def np (C:m6):List Field->Bool
 |[]=>true
 |f::r=>(C.ty f.type).isSome&&np C r
def mH (H:Hp) (x:V) (K:Nat->List Value->Prop):Prop:=
 match x with
 | .z n vs=>vs.length=n/\K n vs
 | .o _ id off n=>match H id with
  |some (.sc vs)=>off+n<=vs.length/\K n (sub vs off n)
  |_=>False
 | .s (.slice none 0 0)=>K 0 []
 |_=>False
def zk (vs:List Value) (l:List UInt8):Prop:=vs=l.map fun b=>Value.int .u8 b.toNat
inductive Src where
 |sc (n:Nat) (vs:List Value)
 |pl (n:Nat) (xs:List V)
 |mx (n:Nat) (xs:List V)
def xy (e:Nat) (H:Hp) (x:V) (K:Src->Prop):Prop:=
 match x with
 | .z n vs=>vs.length=n/\w6 (Nat.beq e 1) (K (.sc n vs))
 | .zz e' n xs=>xs.length=n*e/\w6 (Nat.beq e e') (K (.pl n xs))
 | .o e' id off n=>w6 (Nat.beq e e') (match H id with
  |some (.sc vs)=>off+n*e<=vs.length/\K (.sc n (sub vs off (n*e)))
  |some (.pl xs)=>off+n*e<=xs.length/\K (.pl n (sub xs off (n*e)))
  |some (.mx xs)=>off+n*e<=xs.length/\K (.mx n (sub xs off (n*e)))
  |_=>False)
 | .s (.slice none 0 0)=>K (.sc 0 [])
 |_=>False
def tU (C:m6) (t u:Nat) (H:Hp) (dst:Nat) (s x:V) (K:KO):Prop:=
 ah C t fun _ te=>ah C u fun _ _=>w6 (Nat.ble 1 te.size&&Nat.ble te.bytes 4096) (fN te.size fun sz=>xy sz H x fun src=>
  match s with
  | .s (.slice none 0 0)=>match src with
   | .sc n vs=>n<=1073741824/\K (.o sz (.d dst 0) 0 n) [(.d dst 0,.sc vs)]
   | .pl n xs=>n<=1073741824/\K (.o sz (.d dst 0) 0 n) [(.d dst 0,.pl xs)]
   | .mx n xs=>n<=1073741824/\K (.o sz (.d dst 0) 0 n) [(.d dst 0,.mx xs)]
  | .o e id off m=>w6 (Nat.beq e sz) (match H id with
   |some (.sc us)=>match src with
    | .sc n vs=>m+n<=1073741824/\off+m*e<=us.length/\K (.o e (.d dst 0) 0 (m+n)) [(id,.dead),(.d dst 0,.sc (sub us off (m*e)++vs))]
    | .pl n xs=>m+n<=1073741824/\off+m*e<=us.length/\K (.o e (.d dst 0) 0 (m+n)) [(id,.dead),(.d dst 0,.pl ((sub us off (m*e)).map .s++xs))]
    | .mx n xs=>m+n<=1073741824/\off+m*e<=us.length/\K (.o e (.d dst 0) 0 (m+n)) [(id,.dead),(.d dst 0,.mx ((sub us off (m*e)).map .s++xs))]
   |some (.pl ys)=>match src with
    | .sc n vs=>m+n<=1073741824/\off+m*e<=ys.length/\K (.o e (.d dst 0) 0 (m+n)) [(id,.dead),(.d dst 0,.pl (sub ys off (m*e)++vs.map .s))]
    | .pl n xs=>m+n<=1073741824/\off+m*e<=ys.length/\K (.o e (.d dst 0) 0 (m+n)) [(id,.dead),(.d dst 0,.pl (sub ys off (m*e)++xs))]
    | .mx n xs=>m+n<=1073741824/\off+m*e<=ys.length/\K (.o e (.d dst 0) 0 (m+n)) [(id,.dead),(.d dst 0,.mx (sub ys off (m*e)++xs))]
   |some (.mx ys)=>match src with
    | .sc n vs=>m+n<=1073741824/\off+m*e<=ys.length/\K (.o e (.d dst 0) 0 (m+n)) [(id,.dead),(.d dst 0,.mx (sub ys off (m*e)++vs.map .s))]
    | .pl n xs=>m+n<=1073741824/\off+m*e<=ys.length/\K (.o e (.d dst 0) 0 (m+n)) [(id,.dead),(.d dst 0,.mx (sub ys off (m*e)++xs))]
    | .mx n xs=>m+n<=1073741824/\off+m*e<=ys.length/\K (.o e (.d dst 0) 0 (m+n)) [(id,.dead),(.d dst 0,.mx (sub ys off (m*e)++xs))]
   |_=>False)
  |_=>False)
def uP (C:m6) (t:Nat) (H:Hp) (d x:V) (K:KO):Prop:=
 ah C t fun _ te=>w6 (Nat.beq te.size 1) (match d with
  | .o _ id off m=>match H id with
   |some (.sc us)=>mH H x fun n vs=>off+m<=us.length/\K (.s (.int .i64 (min n m:Nat))) [(id,.sc (us.take off++vs.take (min n m)++us.drop (off+min n m)))]
   |_=>False
  | .s (.slice none 0 0)=>mH H x fun _ _=>K (.s (.int .i64 0)) []
  |_=>False)
def uO (C:m6) (src dst:Nat) (H:Hp) (d:Nat) (x:V) (K:KO):Prop:=
 match C.ty src with
 |none=>False
 |some ts=>match C.ty dst with
  |none=>False
  |some td=>match td.desc with
   | .int k=>match x with
    | .s (.int _ n)=>K (.s (.int k (k.wrap n))) []
    |_=>False
   | .string=>match ts.desc with
    | .slice e=>match C.ty e with
     |some te=>match te.desc with
      | .int .u8=>mH H x fun _ vs=>∃l,zk vs l/\K (.s (.string ⟨l.toArray⟩)) []
      |_=>False
     |none=>False
    | .string=>match x with
     | .s (.string b)=>K (.s (.string b)) []
     |_=>False
    |_=>False
   | .slice e=>match C.ty e with
    |some te=>match te.desc with
     | .int .u8=>match x with
      | .s (.string b)=>b.size<=1073741824/\K (.o 1 (.d d 0) 0 b.size) [(.d d 0,.sc (b.data.toList.map fun b=> .int .u8 b.toNat))]
      | .o e id off n=>w6 (Nat.beq src dst&&Nat.blt 0 n) (match H id with
       |some (.sc us)=>K (.o e id off n) []
       |_=>False)
      |_=>False
     |_=>False
    |none=>False
   |_=>False
def B6 (d7:List Id) (dst k:Nat):Id:=match d7[k]? with|some id=>id|none=> .d dst k
mutual
def back (d7:List Id) (dst:Nat):V->V
 | .o e (.k k) off n=> .o e (B6 d7 dst k) off n
 | .p (.k k) off=> .p (B6 d7 dst k) off
 | .a cs=> .a (bG d7 dst cs)
 | .t cs=> .t (bG d7 dst cs)
 | .f fn a b=> .f fn (bG d7 dst a) (bG d7 dst b)
 | .i t v=> .i t (back d7 dst v)
 |v=>v
def bG (d7:List Id) (dst:Nat):List V->List V
 |[]=>[]
 |x::r=>back d7 dst x::bG d7 dst r
end
def kv (d7:List Id) (dst:Nat):B->B
 | .mx xs=> .mx (bG d7 dst xs)
 |b=>b
def bH (d7:List Id) (dst:Nat):Nat->List B->List (Id×B)
 |_,[]=>[]
 |k,b::r=>(B6 d7 dst k,kv d7 dst b)::bH d7 dst (k+1) r
def M6 (H:Hp) (d7:List Id):List Id->List B
 |[]=>[]
 |id::r=>cK H d7 (match H id with|some b=>b|none=> .dead)::M6 H d7 r
def gC (H:Hp):List Id->Bool
 |[]=>true
 |id::r=>(H id).isSome&&gC H r
def O9 (dst:Nat):Id->Bool
 | .d d _=>Nat.beq d dst
 |_=>false
def gd (dst:Nat):List Id->Bool
 |[]=>true
 |id::r=> !(O9 dst id)&&gd dst r
mutual
def Cq:V->List Id
 | .o _ id _ _=>[id]
 | .p id _=>[id]
 | .a cs=>jD cs
 | .t cs=>jD cs
 | .f _ a b=>jD a++jD b
 | .i _ v=>Cq v
 |_=>[]
def jD:List V->List Id
 |[]=>[]
 |x::r=>Cq x++jD r
end
def mE (H:Hp) (d7:List Id):Nat->List Id->List Id->List Id
 |0,_,acc=>acc
 |_+1,[],acc=>acc
 |n+1,x::r,acc=>match (I3 d7 x).isSome||(I3 acc x).isSome with
  |true=>mE H d7 n r acc
  |false=>match H x with
   |some (.mx xs)=>mE H d7 n (jD xs++r) (x::acc)
   |some .dead=>mE H d7 n r acc
   |some _=>mE H d7 n r (x::acc)
   |none=>mE H d7 n r acc
def nX (H:Hp) (d7:List Id) (args:List V) (r:Oc) (bs':List B):Bool:= !(V8 d7 args&&gN H d7 d7||jH r&&iy bs')
def mb (H:Hp) (d7:List Id) (args:List V):List Id:=mE H d7 60 (jD args) []
def rs (H:Hp) (l:List Id):Hp:=fun id=>match I3 l id with
 |some _=>H id
 |none=>none
def hq (H:Hp) (d7:List Id) (args:List V) (r:Oc) (bs':List B):Hp:=match nX H d7 args r bs' with
 |false=>H
 |true=>rs H (d7++mb H d7 args)
def ao:List Id->List (Id×B)->List (Id×B)
 |[],l=>l
 |x::r,l=>(x,.dead)::ao r l
def kl (H:Hp) (d7:List Id) (args:List V) (r:Oc) (bs':List B) (l:List (Id×B)):List (Id×B):=match nX H d7 args r bs' with
 |false=>l
 |true=>ao (mb H d7 args) l
def qw (d7:List Id):List Id->Bool
 |[]=>true
 |x::r=>(I3 d7 x).isNone&&qw d7 r
def uM (H:Hp) (dst:Nat) (d7:List Id) (args:List V) (r:Oc) (bs':List B):Bool:=
 dQ d7&&gd dst d7&&gC H d7&&Nat.ble d7.length bs'.length&&(match nX H d7 args r bs' with
  |false=>true
  |true=>qw d7 (mb H d7 args)&&gd dst (mb H d7 args)&&gC H (mb H d7 args))
def AF (C:m6) (f:FuncId) (args:List V) (H:Hp) (dst:Nat) (KN:KO) (KP:V->List (Id×B)->Prop):Prop:=
 ∃(d7:List Id) (as:List V) (bs:List B) (r:Oc) (bs':List B),b9 C f as bs r bs'/\args.map (p5 (hq H d7 args r bs') d7 6)=as/\M6 (hq H d7 args r bs') d7 d7=bs/\
  w6 (uM H dst d7 args r bs') (match r with
   | .ret v=>U7 (back d7 dst v) fun v=>KN v (kl H d7 args r bs' (bH d7 dst 0 bs'))
   | .pan v=>U7 (back d7 dst v) fun v=>KP v (kl H d7 args r bs' (bH d7 dst 0 bs')))
def a34 (l:List V) (i:Nat):V:=match l[i]? with|some v=>v|none=> .u
def a4l (l:List Nat) (i:Nat):Nat:=match l[i]? with|some v=>v|none=>0
def uc (C:m6) (ev:Operand->V) (H:Hp) (dst:Nat) (b:Builtin) (args:List Operand) (sH:List Nat) (KN:KO):Prop:=
 match b,args,sH with
 | .len,[x],[t]=>match C.ty t with
  |none=>False
  |some ti=>match ti.desc with
   | .string=>match ev x with
    | .s (.string b)=>KN (.s (.int .i64 b.size)) []
    |_=>False
   | .slice _=>wi (ev x) fun n=>KN (.s (.int .i64 n)) []
   |_=>False
 | .append,[s,x],[t,u]=>match C.ty u with
  |none=>False
  |some tu=>match tu.desc with
   | .int _=>ah C t fun _ te=>w6 (Nat.beq te.size 1&&Nat.ble te.bytes 4096) (match ev s,ev x with
    | .s (.slice none 0 0),.s (.int _ n)=>0<n/\n<=1073741824/\∃z,te.zero=[z]/\fN te.size fun sz=>KN (.o sz (.d dst 0) 0 n.toNat) [(.d dst 0,.sc (List.replicate n.toNat z))]
    | .o e id off m,.s (.int _ n)=>w6 (Nat.beq e 1) (match H id with
     |some (.sc us)=>0<=n/\n<=1073741824/\m+n.toNat<=1073741824/\off+m*e<=us.length/\∃z,te.zero=[z]/\KN (.o e (.d dst 0) 0 (m+n.toNat)) [(id,.dead),(.d dst 0,.sc (sub us off (m*e)++List.replicate n.toNat z))]
     |_=>False)
    |_,_=>False)
   |_=>tU C t u H dst (ev s) (ev x) KN
 | .cap,[x],[t]=>ah C t fun _ _=>match ev x with
  | .s (.slice none 0 0)=>KN (.s (.int .i64 0)) []
  |_=>False
 | .copy,[s,x],[t,_]=>uP C t H (ev s) (ev x) KN
 | .min,[x,y],_=>match ev x,ev y with
  | .s (.int k a),.s (.int _ b)=>KN (.s (.int k (if b<a then b else a))) []
  |_,_=>False
 | .min,[x,y,z],_=>match ev x,ev y,ev z with
  | .s (.int k a),.s (.int _ b),.s (.int _ c)=>KN (.s (.int k (if c<(if b<a then b else a)then c else (if b<a then b else a)))) []
  |_,_,_=>False
 |_,_,_=>False
def oN (C:m6) (ev:Operand->V) (H:Hp) (dst:Nat) (o:Op) (KN:KO) (KP:V->List (Id×B)->Prop):Prop:=
 match o with
 | .move x=>U7 (ev x) fun v=>KN v []
 | .assign x=>U7 (ev x) fun v=>KN v []
 | .pick c a b=>match ev c with
  | .s (.bool t)=>cd t (U7 (ev a) fun v=>KN v []) (U7 (ev b) fun v=>KN v [])
  |_=>False
 | .alloc el=>match C.ty el with
  |some ti=>KN (.p (.d dst 0) 0) [(.d dst 0,.sc ti.zero)]
  |none=>False
 | .box _ x=>match ev x with
  | .s y=>w6 y.oneCell' (KN (.p (.d dst 0) 0) [(.d dst 0,.sc [y])])
  |v=>iX v fun cs=>KN (.p (.d dst 0) 0) [(.d dst 0,.mx cs)]
 | .build t ps=>match C.ty t with
  |some ti=>match ti.desc with
   | .struct fs=>w6 (np C fs.toList) (lf ev ps.toList fun ps=>fQ (fun i K=>match fs[i]? with|some f=>bp C f.type fun n=>K f.offset n|none=>False) (ti.zero.map .s) ps fun cs=>jB cs fun cs=>KN (.a cs) [])
   | .array _ el=>lf ev ps.toList fun ps=>bp C el fun n=>fQ (fun i K=>K (i*n) n) (ti.zero.map .s) ps fun cs=>jB cs fun cs=>KN (.a cs) []
   |_=>False
  |none=>False
 | .buildSlice t len ps=>ah C t fun _ te=>fN te.size fun sz=>lf ev ps.toList fun ps=>w6 (Nat.ble (len*sz) 16777216) (fQ (fun i K=>K (i*sz) sz) ((List.replicate len (te.zero.map .s)).flatten) ps fun cs=>jB cs fun cs=>ua cs fun X=>KN (.o sz (.d dst 0) 0 len) [(.d dst 0,X)])
 | .load t x=>oD C t H (ev x) fun v=>U7 v fun v=>KN v []
 | .store t x v=>bp C t fun n=>w6 (Nat.ble 1 n) (U7 (ev v) fun v=>xz C t H (ev x) v KN)
 | .nilCheck x=>match ev x with
  | .p id off=>KN (.p id off) []
  | .q xs off=>KN (.q xs off) []
  | .qv xs off=>KN (.qv xs off) []
  | .f (.func f) a b=>KN (.f (.func f) a b) []
  |_=>False
 | .binOp op t x y _=>tX C op t (ev x) (ev y) fun v=>KN v []
 | .unOp op _ x=>match ev x with
  | .s (.bool b)=>match op with
   | .not=>KN (.s (.bool !b)) []
   |_=>False
  | .s (.int k n)=>match op with
   | .neg=>KN (.s (.int k (k.wrap (0-n)))) []
   |_=>False
  |_=>False
 | .convert a b x=>uO C a b H dst (ev x) KN
 | .makeInterface t x=>match C.ty t with
  |some ti=>match ti.desc with
   | .interface _=>False
   |_=>U7 (ev x) fun v=>KN (.i t v) []
  |none=>False
 | .makeFunc fn a b=>kZ ev a.toList fun a=>kZ ev b.toList fun b=>KN (.f fn a b) []
 | .makeSlice t l c=>ah C t fun _ te=>w6 (Nat.ble te.bytes 4096) (match ev l,ev c with
  | .s (.int _ l),.s (.int _ c)=>0<=l/\l<=c/\c<=1073741824/\fN te.size fun sz=>KN (.o sz (.d dst 0) 0 l.toNat) [(.d dst 0,match te.desc with
   | .int _| .bool| .string=>(match te.zero with|[z]=> .sc (List.replicate l.toNat z)|_=> .dead)
   |_=> .pl ((List.replicate l.toNat (te.zero.map .s)).flatten))]
  |_,_=>False)
 | .slice t x lo hi mx=>U7 (ev x) fun x=>sv C t x (lo.map ev) (hi.map ev) (mx.map ev) fun v=>KN v []
 | .fieldAddr t x f=>lJ C t f fun off ft=>bp C ft fun n=>w6 (Nat.ble 1 n) (match ev x with
  | .p id o=>KN (.p id (o+off)) []
  | .q xs o=>KN (.q xs (o+off)) []
  | .qv xs o=>KN (.qv xs (o+off)) []
  |_=>False)
 | .field t x f=>lJ C t f fun off ft=>match ev x with
  | .a cs=>bV C ft cs off fun v=>U7 v fun v=>KN v []
  |_=>False
 | .indexAddr t x i=>vU C t (ev x) (ev i) fun v=>KN v []
 | .index t x i=>match ev i with
  | .s (.int _ i)=>match C.ty t with
   |none=>False
   |some ti=>match ti.desc with
    | .string=>match ev x with
     | .s (.string b)=>0<=i/\i<b.size/\∃y:UInt8,b.data.toList[i.toNat]? =some y/\KN (.s (.int .u8 y.toNat)) []
     |_=>False
    | .array n el=>match ev x with
     | .a cs=>bp C el fun k=>0<=i/\i<n/\bV C el cs (i.toNat*k) fun v=>U7 v fun v=>KN v []
     |_=>False
    |_=>False
  |_=>False
 | .extract x i=>match ev x with
  | .t vs=>match vs[i]? with
   |some v=>U7 v fun v=>KN v []
   |none=>False
  |_=>False
 | .panic x=>match ev x with
  | .i t v=>KP (.i t v) []
  |_=>False
 | .call c=>match c.callee with
  | .builtin b=>uc C ev H dst b c.args.toList c.argTypes.toList KN
  | .value g=>match ev g with
   | .f (.func f) a b=>kZ ev c.args.toList fun as=>AF C f (a++as++b) H dst KN KP
   |_=>False
  | .invoke _ _=>False
 |_=>False
def dv (dst:Nat) (H:Hp):List (Id×B)->(Hp->Prop)->Prop
 |[],K=>K H
 |(id,b)::r,K=>Ck id fun id=>Cj b fun b=>match O9 dst id with
  |true=>match H id with
   |none=>dv dst (x5 H id (some b)) r K
   |some _=>False
  |false=>dv dst (x5 H id (some b)) r K
def mB (T:Nat->V) (d:Option Nat) (v:V) (K:(Nat->V)->Prop):Prop:=
 match d with
 |some d=>K (up T d v)
 |none=>K T
def z6:Option Nat->Nat
 |some d=>d
 |none=>1000000
def jP (C:m6) (ops:List Oper) (Hr:Hp) (ck:List (Id×B)->Bool) (o:Oper) (T:Nat->V) (H:Hp) (K:(Nat->V)->Hp->Prop) (KP:V->(Nat->V)->Hp->Prop):Prop:=
 match o.guard with
 |none=>oN C (dC C T) Hr (z6 o.dst) o.op (fun v hs=>w6 (ck hs) (dv (z6 o.dst) H hs fun H=>mB T o.dst v fun T=>K T H)) (fun v hs=>dv (z6 o.dst) H hs fun H=>KP v T H)
 |some (j,want)=>match ops[j]? with
  |none=>False
  |some g=>match g.dst with
   |none=>False
   |some d=>match T d with
    | .s (.bool b)=>
     let go (T:Nat->V):Prop:=oN C (dC C T) Hr (z6 o.dst) o.op (fun v hs=>w6 (ck hs) (dv (z6 o.dst) H hs fun H=>mB T o.dst v fun T=>K T H)) (fun v hs=>dv (z6 o.dst) H hs fun H=>KP v T H)
     let no (T:Nat->V):Prop:=mB T o.dst (.t []) fun T=>K T H
     match want with
     |true=>cd b (go (up T d (.s (.bool true)))) (no (up T d (.s (.bool false))))
     |false=>cd b (no (up T d (.s (.bool true)))) (go (up T d (.s (.bool false))))
    | .t _=>mB T o.dst (.t []) fun T=>K T H
    |_=>False
noncomputable def gh (C:m6) (ops l:List Oper):(Nat->V)->Hp->((Nat->V)->Hp->Prop)->(V->(Nat->V)->Hp->Prop)->Prop:=
 List.rec (motive:=fun _=>(Nat->V)->Hp->((Nat->V)->Hp->Prop)->(V->(Nat->V)->Hp->Prop)->Prop)
  (fun T H K _=>K T H)
  (fun o _ ih T H K KP=>jP C ops H (fun _=>true) o T H (fun T H=>ih T H K KP) KP) l
theorem DI (C:m6) (ops:List Oper) (o:Oper) (r:List Oper) (T:Nat->V) (H:Hp) (K:(Nat->V)->Hp->Prop) (KP:V->(Nat->V)->Hp->Prop):
  gh C ops (o::r) T H K KP=jP C ops H (fun _=>true) o T H (fun T H=>gh C ops r T H K KP) KP:=rfl
structure C1 where
 look:Bool
 ex:Bool
 hide:List Nat
 anc:List Nat
 xs:List Nat
 xl:Option (List Nat)
abbrev i0 (a:List Nat):C1:=⟨false,false,[],a,[],none⟩
abbrev i1 (h a:List Nat):C1:=⟨true,false,h,a,[],none⟩
abbrev i2 (h a:List Nat):C1:=⟨true,true,h,a,[],none⟩
abbrev i3 (x h a:List Nat):C1:=⟨true,false,h,a,x,none⟩
abbrev i4 (l h a:List Nat):C1:=⟨true,false,h,a,[],some l⟩
def O8:List Nat->Nat->Bool
 |[],_=>false
 |a::r,x=>bif Nat.beq a x then true else O8 r x
def l4 (l:List Nat) (H:Hp):Hp:=fun id=>match id with
 | .d d j=>match O8 l d with
  |true=>none
  |false=>H (.d d j)
 | .k k=>H (.k k)
def C1.hr (i:C1) (H:Hp):Hp:=match i.look with
 |true=>l4 i.hide H
 |false=>fun _=>none
def mw (d:Option Nat) (id:Id):Bool:=match d with
 |some d=>O9 d id
 |none=>false
def vT (l:List Nat):Id->Bool
 | .d d _=>O8 l d
 |_=>false
def pA (T:Nat->V) (id:Id):List Nat->Bool
 |[]=>true
 |p::r=>match T p with
  | .p id' _=> !(Id.eq id' id)&&pA T id r
  |_=>false
def ve (l:Option (List Nat)) (T:Nat->V) (id:Id):Bool:=match l with
 |some l=>pA T id l
 |none=>false
open Classical in
noncomputable def xr (o:Option B) (b:B):Bool:=decide (o=some b)
noncomputable def C1.ck (i:C1) (d:Option Nat) (T:Nat->V) (H Hr:Hp):List (Id×B)->Bool
 |[]=>true
 |(id,b)::r=>(mw d id||((i.ex||vT i.xs id||ve i.xl T id||xr (H id) b)&&(Hr id).isSome))&&i.ck d T H Hr r
def dL (o:Op) (T:Nat->V) (Hr:Hp):Hp:=match o with
 | .load _ (.tmp p)=>match T p with
  | .p id _=>fun j=>bif Id.eq id j then Hr j else none
  |_=>Hr
 |_=>Hr
noncomputable def jJ (C:m6) (ops:List Oper) (is:List C1) (l:List Oper):(Nat->V)->Hp->((Nat->V)->Hp->Prop)->Prop:=
 List.rec (motive:=fun _=>List C1->(Nat->V)->Hp->((Nat->V)->Hp->Prop)->Prop)
  (fun _ T H K=>K T H)
  (fun o _ ih is T H K=>match is with
   |[]=>False
   |i::is=>jP C ops (dL o.op T (i.hr H)) (i.ck o.dst T H (dL o.op T (i.hr H))) o T H (fun T H=>ih is T H K) (fun _ _ _=>False)) l is
theorem XP (C:m6) (ops:List Oper) (i:C1) (is:List C1) (o:Oper) (r:List Oper) (T:Nat->V) (H:Hp) (K:(Nat->V)->Hp->Prop):
  jJ C ops (i::is) (o::r) T H K=jP C ops (dL o.op T (i.hr H)) (i.ck o.dst T H (dL o.op T (i.hr H))) o T H (fun T H=>jJ C ops is r T H K) (fun _ _ _=>False):=rfl
abbrev Rt:=List (Nat×List C1)
def Rt.at:Rt->Nat->List C1
 |[],_=>[]
 |(i,l)::r,j=>match Nat.beq i j with
  |true=>l
  |false=>Rt.at r j
structure S where
 T:Nat->V
 H:Hp
inductive X where
 |normal
 |exit (id:Nat)
 |goto (l:Nat)
 |ret
 |pan (v:V)
structure D where
 sl:List (Nat×V)
 bs:List B
def lk:List (Nat×V)->Nat->V
 |[],_=> .u
 |(i,v)::r,j=>bif Nat.beq i j then v else lk r j
def D.s (d:D):S:=⟨lk d.sl,Hof d.bs⟩
def pt (H:Hp) (d7:List Id) (T:Nat->V):List (Nat×V)->Prop
 |[]=>True
 |(j,v)::r=>p5 H d7 6 (T j)=v/\pt H d7 T r
def fA (H:Hp) (d7 all:List Id):List Id->List B->Prop
 |[],[]=>True
 |id::r,b::bs=>(∃x,H id=some x/\cK H all x=b)/\fA H d7 all r bs
 |_,_=>False
def ip:Nat->Nat->List Id->Bool
 |_,0,_=>true
 |k,m+1,.k j::r=>Nat.beq j k&&ip (k+1) m r
 |_,_,_=>false
def Mt (m:Nat) (s:S) (d:D):Prop:=∃d7:List Id,w6 (dQ d7&&ip 0 m d7) (pt s.H d7 s.T d.sl/\fA s.H d7 d7 d7 d.bs)
def rM:V->Bool
 | .s (.slice none 0 0)=>true
 |_=>false
def qz:B->Bool
 | .sc []=>true
 | .pl []=>true
 | .mx []=>true
 |_=>false
def ar:List (Nat×Nat×B)->Nat->S->(S->Prop)->Prop
 |[],_,s,K=>K s
 |(j,e,b)::r,k,s,K=>w6 (rM (s.T j)&&qz b&&(s.H (.d 900000 k)).isNone) (ar r (k+1) ⟨up s.T j (.o e (.d 900000 k) 0 0),x5 s.H (.d 900000 k) (some b)⟩ K)
def nh (m:Nat) (body:S->(X->S->Prop)->Prop) (s:S) (K:X->S->Prop):Prop:=
 ∃(α:Type) (I:α->D) (Q:α->Prop) (μ:α->Nat),(∃l x,Q x/\ar l 0 s fun s=>Mt m s (I x))/\
  ∀x,Q x->body (I x).s fun e s'=>match e with
   | .normal=>∃y,Q y/\μ y<μ x/\Mt m s' (I y)
   |e=>K e s'
noncomputable def vc (C:m6) (rt:Rt) (m:Nat) (c:Code):S->(X->S->Prop)->Prop:=
 Code.rec (motive:=fun _=>S->(X->S->Prop)->Prop)
  (skip:=fun s K=>K .normal s)
  (region:=fun id ops d s K=>match d with
   |false=>gh C ops.toList ops.toList s.T s.H (fun T H=>K .normal ⟨T,H⟩) (fun v T H=>K (.pan v) ⟨T,H⟩)
   |true=>jJ C ops.toList (rt.at id) ops.toList s.T s.H (fun T H=>K .normal ⟨T,H⟩))
  (seq:=fun _ _ ihx ihy s K=>ihx s fun e s'=>match e with
   | .normal=>ihy s' K
   |e=>K e s')
  (cond:=fun c _ _ ihx ihy s K=>match dC C s.T c with
   | .s (.bool b)=>cd b (ihx s K) (ihy s K)
   | .ub=>ihx s K/\ihy s K
   |_=>False)
  (block:=fun id _ ih s K=>ih s fun e s'=>match e with
   | .exit id'=>match Nat.beq id' id with
    |true=>K .normal s'
    |false=>K (.exit id') s'
   |e=>K e s')
  (loop:=fun _ ih s K=>nh m ih s K)
  (rangeFunc:=fun _ _ _ _ _ _ _ _=>False)
  (exit:=fun id s K=>K (.exit id) s)
  (scope:=fun _ _ _ _=>False)
  (label:=fun _ s K=>K .normal s)
  (goto:=fun l s K=>K (.goto l) s)
  (ret:=fun s K=>K .ret s)
  (refuse:=fun _ _ _=>False) c
section
variable {C:m6} {rt:Rt} {m:Nat} {s:S} {K:X->S->Prop}
theorem a3F {id:Nat} {ops:Array Oper} {d:Bool}:vc C rt m (.region id ops d) s K=match d with
  |false=>gh C ops.toList ops.toList s.T s.H (fun T H=>K .normal ⟨T,H⟩) (fun v T H=>K (.pan v) ⟨T,H⟩)
  |true=>jJ C ops.toList (rt.at id) ops.toList s.T s.H (fun T H=>K .normal ⟨T,H⟩):=rfl
theorem GO {x y:Code}:vc C rt m (.seq x y) s K=vc C rt m x s fun e s'=>match e with
  | .normal=>vc C rt m y s' K
  |e=>K e s':=rfl
theorem a3D {c:Operand} {x y:Code}:vc C rt m (.cond c x y) s K=match dC C s.T c with
  | .s (.bool b)=>cd b (vc C rt m x s K) (vc C rt m y s K)
  | .ub=>vc C rt m x s K/\vc C rt m y s K
  |_=>False:=rfl
theorem a3C {id:Nat} {c:Code}:vc C rt m (.block id c) s K=vc C rt m c s fun e s'=>match e with
  | .exit id'=>match Nat.beq id' id with
   |true=>K .normal s'
   |false=>K (.exit id') s'
  |e=>K e s':=rfl
theorem a3E {c:Code}:vc C rt m (.loop c) s K=nh m (vc C rt m c) s K:=rfl
end
def K3:Code->Nat->Option (Code×Code)
 | .seq x y,l=>match K3 x l with
  |some (p,q)=>some (p,.seq q y)
  |none=>match K3 y l with
   |some (p,q)=>some (.seq x p,q)
   |none=>none
 | .label l',l=>match Nat.beq l' l with
  |true=>some (.skip,.skip)
  |false=>none
 |_,_=>none
def jN (C:m6) (rt:Rt) (m:Nat) (c:Code) (s:S) (K:X->S->Prop):Prop:=
 ∃(l:Nat) (α:Type) (I:α->D) (Q:α->Prop) (μ:α->Nat),match K3 c l with
  |none=>False
  |some (p,q)=>(vc C rt m p s fun e s'=>match e with
    | .normal=>∃l y,Q y/\ar l 0 s' fun s'=>Mt m s' (I y)
    | .goto l'=>l'=l/\∃y,Q y/\Mt m s' (I y)
    |e=>K e s')/\
   ∀x,Q x->vc C rt m q (I x).s fun e s'=>match e with
    | .goto l'=>l'=l/\∃y,Q y/\μ y<μ x/\Mt m s' (I y)
    |e=>K e s'
noncomputable def cB (C:m6) (rt:Rt) (m:Nat) (c:Code):S->(X->S->Prop)->Prop:=
 Code.rec (motive:=fun _=>S->(X->S->Prop)->Prop)
  (skip:=fun s K=>vc C rt m .skip s K)
  (region:=fun id ops d s K=>vc C rt m (.region id ops d) s K)
  (seq:=fun _ _ ihx ihy s K=>ihx s fun e s'=>match e with
   | .normal=>ihy s' K
   |e=>K e s')
  (cond:=fun c x y _ _ s K=>vc C rt m (.cond c x y) s K)
  (block:=fun id c _ s K=>vc C rt m (.block id c) s K)
  (loop:=fun c _ s K=>vc C rt m (.loop c) s K)
  (rangeFunc:=fun _ _ _ _ _ _ _ _=>False)
  (exit:=fun id s K=>vc C rt m (.exit id) s K)
  (scope:=fun c _ s K=>jN C rt m c s K)
  (label:=fun l s K=>vc C rt m (.label l) s K)
  (goto:=fun l s K=>vc C rt m (.goto l) s K)
  (ret:=fun s K=>vc C rt m .ret s K)
  (refuse:=fun _ _ _=>False) c
theorem Ii {C:m6} {rt:Rt} {m:Nat} {s:S} {K:X->S->Prop} {x y:Code}:cB C rt m (.seq x y) s K=cB C rt m x s fun e s'=>match e with
  | .normal=>cB C rt m y s' K
  |e=>K e s':=rfl
def bZ (C:m6) (T:Nat->V) (H:Hp):List ResultVar->(List V->Prop)->Prop
 |[],K=>K []
 | .tmp t::r,K=>U7 (T t) fun v=>bZ C T H r fun vs=>K (v::vs)
 | .cell a t::r,K=>oD C t H (T a) fun v=>U7 v fun v=>bZ C T H r fun vs=>K (v::vs)
def dT:List V->V
 |[v]=>v
 |vs=> .t vs
def cu (m:Nat) (v:V) (s:S) (w:V) (bs':List B):Prop:=
 ∃d7:List Id,w6 (dQ d7&&ip 0 m d7) (p5 s.H d7 6 v=w/\fA s.H d7 d7 d7 bs')
def dn (C:m6) (m:Nat) (res:List ResultVar) (r:Oc) (bs':List B) (e:X) (s:S):Prop:=
 match e with
 | .normal=>bZ C s.T s.H res fun vs=>∃w,r= .ret w/\cu m (dT vs) s w bs'
 | .ret=>bZ C s.T s.H res fun vs=>∃w,r= .ret w/\cu m (dT vs) s w bs'
 | .pan v=>∃w,r= .pan w/\cu m v s w bs'
 |_=>False
mutual
inductive Wk:V->V->Prop
 |refl (v):Wk v v
 |nl:Wk (.s (.slice none 0 0)) (.z 0 [])
 |nlz {e}:Wk (.s (.slice none 0 0)) (.zz e 0 [])
 |z0 {vs}:Wk (.z 0 vs) (.z 0 [])
 |zz0 {e xs}:Wk (.zz e 0 xs) (.zz e 0 [])
 |u {x}:Wk x .u
 |t {xs ys}:aU xs ys->Wk (.t xs) (.t ys)
inductive aU:List V->List V->Prop
 |nil:aU [] []
 |cons {x y xs ys}:Wk x y->aU xs ys->aU (x::xs) (y::ys)
end
inductive E8:Oc->Oc->Prop
 |ret {v w}:Wk v w->E8 (.ret v) (.ret w)
 |pan {v w}:Wk v w->E8 (.pan v) (.pan w)
inductive kd:B->B->Prop
 |refl (b):kd b b
 |mx {xs ys}:aU xs ys->kd (.mx xs) (.mx ys)
inductive x7:List B->List B->Prop
 |nil:x7 [] []
 |dd {ys}:x7 [] ys->x7 [] (.dead::ys)
 |cons {x y xs ys}:kd x y->x7 xs ys->x7 (x::xs) (y::ys)
def po (C:m6) (m:Nat) (res:List ResultVar) (r:Oc) (bs':List B) (e:X) (s:S):Prop:=∃r0 bs0,dn C m res r0 bs0 e s/\E8 r0 r/\x7 bs0 bs'
def D3:List V->Nat->V
 |[],_=> .u
 |v::r,j=>match j with
  |0=>v
  |j+1=>D3 r j
def tj (C:m6) (rt:Rt) (fn:Func) (args:List V) (bs:List B) (r:Oc) (bs':List B):Prop:=
 match fn.body with
 |some c=>cB C rt bs.length c ⟨D3 args,Hof bs⟩ (dn C bs.length fn.results.toList r bs')
 |none=>False
def ye (C:m6) (rt:Rt) (fn:Func) (args:List V) (bs:List B) (r:Oc) (bs':List B):Prop:=
 match fn.body with
 |some c=>cB C rt bs.length c ⟨D3 args,Hof bs⟩ (po C bs.length fn.results.toList r bs')
 |none=>False
end Go.Scr
namespace Go.Scr
structure q6 (C:m6):Prop where
 ty:∀t ti,C.ty t=some ti->C.P.underlying t=some ti.desc/\∃i z,C.P.info? t=some i/\i.size=ti.size/\i.bytes=ti.bytes/\i.zero=some z/\z.cells.toList=ti.zero/\ti.zero.length=ti.size/\ti.zero.all (·.oneCell')=true
 mixed:C.P.follows .mixedOrders=true
structure Nx (w0:World) (L:Nat->Prop) (w:World) (F:Nat->Prop) (ι:Io) (w':World) (F':Nat->Prop) (ι':Io) (H':Hp):Prop where
 st:St w0 L w' F' ι' H'
 ev:Ev w w' F
 fm:∀b,F b->F' b
 fn:∀b,F' b->F b\/L b\/w0.heap.size<=b
 im:∀id x,ι id=some x->ι' id=some x
 dm:∀id x,ι' id=some x->H' id≠none
def A6 (dst:Nat) (H:Hp):List (Id×B)->Option Hp
 |[]=>some H
 |(id,b)::r=>match O9 dst id with
  |true=>match H id with
   |none=>A6 dst (x5 H id (some b)) r
   |some _=>none
  |false=>A6 dst (x5 H id (some b)) r
theorem pB (dst:Nat):∀(hs:List (Id×B)) (H:Hp) (K:Hp->Prop),dv dst H hs K↔∃H',A6 dst H hs=some H'/\K H'
 |[],H,K=>by simp[dv,A6]
 |(id,b)::r,H,K=>by
  unfold dv A6;rw[VY,VX];cases O9 dst id
  ·exact pB dst r _ K
  ·cases H id
   ·exact pB dst r _ K
   ·simp
def Sm (C:m6) (o:Oper) (ev:Operand->V) (Hr:Hp) (v:V) (hs:List (Id×B)):Prop:=
 ∀(w0:World) (L:Nat->Prop) (w:World) (F:Nat->Prop) (ι:Io) (H H':Hp) (a:Act),St w0 L w F ι H->(∀id b,Hr id=some b->H id=some b)->
  (∀x,x∈o.op.operands->R w F ι (ev x) (a.eval x))->(∀g,RF w F (C.gl g) (gptr g))->(∀id x,ι id=some x->H id≠none)->A6 (z6 o.dst) H hs=some H'->
  ∀(next:Act->World->Prop) (Q:Exit->Act->World->Prop),(∀x w' F' ι',Nx w0 L w F ι w' F' ι' H'->R w' F' ι' v x->next (a.put o.dst x) w')->o.wp C.P a w next Q
def tw (C:m6) (o:Oper) (ev:Operand->V) (Hr:Hp) (v:V) (hs:List (Id×B)):Prop:=
 ∀(w0:World) (L:Nat->Prop) (w:World) (F:Nat->Prop) (ι:Io) (H H':Hp) (a:Act),St w0 L w F ι H->(∀id b,Hr id=some b->H id=some b)->
  (∀x,x∈o.op.operands->R w F ι (ev x) (a.eval x))->(∀g,RF w F (C.gl g) (gptr g))->(∀id x,ι id=some x->H id≠none)->A6 (z6 o.dst) H hs=some H'->
  ∀(next:Act->World->Prop) (Q:Exit->Act->World->Prop),(∀x w' F' ι',Nx w0 L w F ι w' F' ι' H'->R w' F' ι' v x->Q (.panic [{v:=x,recovered:=false}]) a w')->o.wp C.P a w next Q
theorem Nx.same {w0:World} {L:Nat->Prop} {w:World} {F:Nat->Prop} {ι:Io} {H:Hp} (st:St w0 L w F ι H) (hd:∀id x,ι id=some x->H id≠none):Nx w0 L w F ι w F ι H:=
 ⟨st,Ev.refl w F,fun _ h=>h,fun _ h=> .inl h,fun _ _ h=>h,hd⟩
theorem F6 {C:m6} {o:Oper} {ev:Operand->V} {Hr:Hp} {v:V}
  (h:∀(w0:World) (L:Nat->Prop) (w:World) (F:Nat->Prop) (ι:Io) (H:Hp) (a:Act),St w0 L w F ι H->(∀id b,Hr id=some b->H id=some b)->(∀x,x∈o.op.operands->R w F ι (ev x) (a.eval x))->
   ∃x,(execOp a.eval o).run C.P w= .ok (.value x) w/\R w F ι v x):Sm C o ev Hr v []:=by
 intro w0 L w F ι H H' a st hr hx _ hd ha next Q hn
 obtain⟨x,hrun,hv⟩:=h w0 L w F ι H a st hr hx;simp only[A6,Option.some.injEq]at ha;subst ha;unfold Oper.wp;rw[hrun];exact hn x w F ι (Nx.same st hd) hv
section
variable {w:World} {F:Nat->Prop} {ι:Io}
theorem R.s_inv {x y:Value} (h:R w F ι (.s y) x):x=y:=by
 cases h with
 |fz h=>cases h with|s=>rfl
theorem R.ub_inv {x:Value} (h:R w F ι .ub x):∃b,x= .bool b:=by
 cases h with
 |fz h=>cases h with|ub=>exact⟨_,rfl⟩
theorem R.z_inv {n:Nat} {vs:List Value} {x:Value} (h:R w F ι (.z n vs) x):(∃a cap,x= .slice a 0 cap/\n=0/\vs=[])\/∃a cap,x= .slice (some a) n cap/\bD w F a vs/\n<=cap:=by
 cases h with
 |fz h=>cases h with
  |z0=>exact .inl ⟨_,_,rfl,rfl,rfl⟩
  |z k h=>exact .inr ⟨_,_,rfl,h,k⟩
theorem R.zz_inv {e n:Nat} {xs:List V} {x:Value} (h:R w F ι (.zz e n xs) x):(∃a cap,x= .slice a 0 cap/\n=0/\xs=[])\/∃a cap vs,x= .slice (some a) n cap/\n7 w F xs vs/\bD w F a vs/\n<=cap:=by
 cases h with
 |fz h=>cases h with
  |zz0=>exact .inl ⟨_,_,rfl,rfl,rfl⟩
  |zz k l h=>exact .inr ⟨_,_,_,rfl,l,h,k⟩
theorem R.o_inv {e n off:Nat} {id:Id} {x:Value} (h:R w F ι (.o e id off n) x):(∃a,x= .slice a 0 0/\n=0)\/∃b base cap,x= .slice (some ⟨b,base+off,none⟩) n cap/\ι id=some (b,base)/\n<=cap/\ab w b (base+off+cap*e):=by
 cases h with
 |fz h=>cases h
 |o h1 h2 h3=>exact .inr ⟨_,_,_,rfl,h1,h2,h3⟩
 |o0=>exact .inl ⟨_,rfl,rfl⟩
theorem R.p_inv {off:Nat} {id:Id} {x:Value} (h:R w F ι (.p id off) x):∃b base,x= .pointer (some ⟨b,base+off,none⟩)/\ι id=some (b,base):=by
 cases h with
 |fz h=>cases h
 |p h=>exact⟨_,_,rfl,h⟩
theorem R.qv_inv {vs:List Value} {off:Nat} {x:Value} (h:R w F ι (.qv vs off) x):∃a,x= .pointer (some ⟨a.block,a.off+off,none⟩)/\bD w F a vs:=by
 cases h with
 |fz h=>cases h with|qv h=>exact⟨_,rfl,h⟩
theorem R.q_inv {xs:List V} {off:Nat} {x:Value} (h:R w F ι (.q xs off) x):∃a vs,x= .pointer (some ⟨a.block,a.off+off,none⟩)/\n7 w F xs vs/\bD w F a vs:=by
 cases h with
 |fz h=>cases h with|q l h=>exact⟨_,_,rfl,l,h⟩
theorem R.a_inv {xs:List V} {x:Value} (h:R w F ι (.a xs) x):∃vs,x= .agg vs/\RL w F ι xs vs.toList:=by
 cases h with
 |fz h=>cases h with|a l=>exact⟨_,rfl,l.rl⟩
 |a l=>exact⟨_,rfl,l⟩
theorem R.t_inv {xs:List V} {x:Value} (h:R w F ι (.t xs) x):∃vs,x= .tuple vs/\RL w F ι xs vs.toList:=by
 cases h with
 |fz h=>cases h with|t l=>exact⟨_,rfl,l.rl⟩
 |t l=>exact⟨_,rfl,l⟩
theorem R.f_inv {fn:Fn} {xs ys:List V} {x:Value} (h:R w F ι (.f fn xs ys) x):∃vs us,x= .func fn vs us/\RL w F ι xs vs.toList/\RL w F ι ys us.toList:=by
 cases h with
 |fz h=>cases h with|f l l'=>exact⟨_,_,rfl,l.rl,l'.rl⟩
 |f l l'=>exact⟨_,_,rfl,l,l'⟩
theorem R.i_inv {t:TypeId} {v:V} {x:Value} (h:R w F ι (.i t v) x):∃y,x= .iface t y/\R w F ι v y:=by
 cases h with
 |fz h=>cases h with|i h=>exact⟨_,rfl,.fz h⟩
 |i h=>exact⟨_,rfl,h⟩
theorem R.sc {v:Value}:R w F ι (.s v) v:= .fz .s
end
theorem Or.l {v:V} {hs:List (Id×B)} {C:m6} {o:Oper} {ev:Operand->V} {Hr:Hp} {KN:V->List (Id×B)->Prop} {q:Prop} (h:KN v hs) (s:Sm C o ev Hr v hs):(∃v hs,KN v hs/\Sm C o ev Hr v hs)\/q:= .inl ⟨v,hs,h,s⟩
abbrev A9 (C:m6) (o:Oper) (ev:Operand->V) (Hr:Hp) (KN KP:V->List (Id×B)->Prop):Prop:=
 (∃v hs,KN v hs/\Sm C o ev Hr v hs)\/(∃v hs,KP v hs/\tw C o ev Hr v hs)
section
variable {C:m6} {ev:Operand->V} {Hr:Hp} {KN KP:V->List (Id×B)->Prop} {o:Oper}
theorem B0 {b:Bool} {x:Prop}:w6 b x↔b=true/\x:=by cases b<;>simp[w6]
theorem sy {b:Bool} {x y:Prop}:cd b x y↔(b=true/\x)\/(b=false/\y):=by cases b<;>simp[cd]
theorem Dp {x:Operand} (ho:o.op= .move x\/o.op= .assign x) (h:KN (ev x) []):A9 C o ev Hr KN KP:=by
 refine .inl ⟨_,_,h,F6 fun w0 L w F ι H a st hr hx=>⟨a.eval x,?_,hx x ?_⟩⟩
 ·unfold execOp;rcases ho with ho|ho<;>simp only[ho,Sem.run_pure]
 ·rcases ho with ho|ho<;>simp[ho,Op.operands]
theorem Ye {c x y:Operand} {t:Bool} (ho:o.op= .pick c x y) (hc:ev c= .s (.bool t)) (h:KN (if t then ev x else ev y) []):A9 C o ev Hr KN KP:=by
 refine .inl ⟨_,_,h,F6 fun w0 L w F ι H a st hr hx=>⟨if t then a.eval x else a.eval y,?_,?_⟩⟩
 ·have h1:=hx c (by simp[ho,Op.operands]);rw[hc]at h1;unfold execOp;simp[ho,h1.s_inv,asBool]
 ·cases t
  ·exact hx y (by simp[ho,Op.operands])
  ·exact hx x (by simp[ho,Op.operands])
theorem Ww {P:Program} {op:BinOp} {k:IntKind} {x y:Int} {K:Value->Prop} (t:TypeId) (h:lW op k x y K):
  ∃v,K v/\∀w,(Go.binOp op t (.int k x) (.int k y)).run P w= .ok v w:=by
 cases op<;>simp only[lW]at h
 case quo=>exact⟨_,h.2,fun w=>by simp[Go.binOp,Op.intDiv,h.1]⟩
 case rem=>exact⟨_,h.2,fun w=>by simp[Go.binOp,Op.intDiv,h.1]⟩
 case shl=>exact⟨_,h.2,fun w=>by simp[Go.binOp,Op.shift,Int.not_lt.2 h.1]⟩
 case shr=>exact⟨_,h.2,fun w=>by simp[Go.binOp,Op.shift,Int.not_lt.2 h.1]⟩
 all_goals exact⟨_,h,fun w=>by simp[Go.binOp,Op.intArith,Op.intBits,Op.intCmp]⟩
theorem a1x {P:Program} {op:BinOp} {k k':IntKind} {x y:Int} {K:Value->Prop} (t:TypeId) (hs:vX op=true) (h:lW op k x y K):
  ∃v,K v/\∀w,(Go.binOp op t (.int k x) (.int k' y)).run P w= .ok v w:=by
 cases op<;>simp[vX]at hs<;>simp only[lW]at h
 case shl=>exact⟨_,h.2,fun w=>by simp[Go.binOp,Op.shift,Int.not_lt.2 h.1]⟩
 case shr=>exact⟨_,h.2,fun w=>by simp[Go.binOp,Op.shift,Int.not_lt.2 h.1]⟩
theorem WG {k k':IntKind} (h:IntKind.beq k k'=true):k=k':=by cases k<;>cases k'<;>first|rfl|cases h
theorem a4j {hC:q6 C} {t:Nat} {ti:TI} (h:C.ty t=some ti) (w:World):(underlying t).run C.P w= .ok ti.desc w:=run_underlying (hC.ty t ti h).1 w
theorem gU {P:Program} (op:BinOp) (t:TypeId) (x y:Operand) (a b:Value) (w:World) (ha:∀cs,a≠ .agg cs) (hn:a≠ .nilIface):(eqGuard op t x y a b).run P w= .ok () w:=by
 unfold eqGuard;cases op<;>simp<;>(split<;>simp_all)
theorem Bh {P:Program} (d:Nat) {t:Nat} (hu:P.underlying t=some .bool) (a b:Bool) (w:World):(Op.equalIn (d+1) t (.bool a) (.bool b)).run P w= .ok (a==b) w:=by
 simp[Op.equalIn,run_underlying hu]
theorem Qi {P:Program} (d:Nat) {t e:Nat} (hu:P.underlying t=some (.pointer e)) (w:World):(Op.equalIn (d+1) t (.pointer none) (.pointer none)).run P w= .ok true w:=by
 simp[Op.equalIn,run_underlying hu]
theorem vf {P:Program} (d:Nat) {t e:Nat} (hu:P.underlying t=some (.pointer e)) (a:Addr) (w:World):(Op.equalIn (d+1) t (.pointer (some a)) (.pointer none)).run P w= .ok false w:=by
 simp[Op.equalIn,run_underlying hu]
theorem qB {P:Program} {t:Nat} {a b:Value} {r:Bool} {w:World} (h:(Op.equal t a b).run P w= .ok r w) (hs:(∃a',a= .bool a')\/(∃a',a= .pointer a'/\b= .pointer none)\/(∃x n c,a= .slice x n c)\/∃cs,a= .agg cs):
  (Go.binOp .eql t a b).run P w= .ok (.bool r) w/\(Go.binOp .neq t a b).run P w= .ok (.bool !r) w:=by
 rcases hs with ⟨a',rfl⟩|⟨a',rfl,rfl⟩|⟨x,n,c,rfl⟩|⟨cs,rfl⟩<;>constructor<;>simp[Go.binOp,h]
theorem Qj {P:Program} (d:Nat) {t e:Nat} (hu:P.underlying t=some (.slice e)) (a:Option Addr) (n c:Nat) (w:World):(Op.equalIn (d+1) t (.slice a n c) (.slice none 0 0)).run P w= .ok a.isNone w:=by
 cases a<;>simp[Op.equalIn,run_underlying hu]
theorem Qk {P:Program} {t e:Nat} (hu:P.underlying t=some (.slice e)) (a:Option Addr) (n c:Nat) (w:World):(Op.equal t (.slice a n c) (.slice none 0 0)).run P w= .ok a.isNone w:=Qj 9999 hu a n c w
theorem Qh {P:Program} {t n el:Nat} (hu:P.underlying t=some (.array n el)) (he:P.underlying el=some .bool) (op:BinOp) (x y:Operand) (as bs:Array Value) (w:World):(eqGuard op t x y (.agg as) (.agg bs)).run P w= .ok () w:=by
 have hg:P.eqGuardType P.depth t=false:=by
  unfold Program.depth;rw[show 2*(P.types.size+Made.depth)+2=(2*(P.types.size+Made.depth)+1)+1 from rfl];simp only[Program.eqGuardType,hu,he]
 unfold eqGuard;cases op<;>simp[hg]
theorem Bi {P:Program} {e:Nat} {i:TypeInfo} (he:P.underlying e=some .bool) (hi:P.info? e=some i) (hs:P.cellsOf e=1) (d:Nat) (w:World):∀(as bs:List Bool) (xs ys:Array Value) (k:Nat),as.length=bs.length->
  (∀j,j<as.length->xs[k+j]? =(as[j]?).map .bool)->(∀j,j<bs.length->ys[k+j]? =(bs[j]?).map .bool)->(Op.eqItems (d+1) e 1 xs ys (List.range' k as.length)).run P w= .ok (decide (as=bs)) w
 |[],[],xs,ys,k,_,_,_=>by simp[Op.eqItems]
 |[],_::_,_,_,_,h,_,_=>by simp at h
 |_::_,[],_,_,_,h,_,_=>by simp at h
 |a::as,b::bs,xs,ys,k,h,hx,hy=>by
  have ha:=hx 0 (by simp);have hb:=hy 0 (by simp);simp only[Nat.add_zero,List.getElem?_cons_zero,Option.map_some]at ha hb;have hp:∀(zs:Array Value) (v:Bool),zs[k]? =some (.bool v)->(part e zs (k*1)).run P w= .ok (.bool v) w:=by
   intro zs v hz;simp[part,isAgg,run_underlying he,hz]
  have ih:=Bi he hi hs d w as bs xs ys (k+1) (by simpa using h) (fun j hj=>by
   have:=hx (j+1) (by simpa using hj);rw[show k+1+j=k+(j+1) by omega];simpa using this) (fun j hj=>by
   have:=hy (j+1) (by simpa using hj);rw[show k+1+j=k+(j+1) by omega];simpa using this)
  simp only[List.length_cons,List.range'_succ,Op.eqItems,Sem.run_bind,hp xs a ha,hp ys b hb,Result.andThen_ok,Bh d he];by_cases hab:a=b
  ·subst hab;simp[ih]
  ·have:(a==b)=false:=by simpa using hab
   simp[this,hab]
theorem Bj (hC:q6 C) {t:Nat} {x y:V} {K:V->Prop} {f:Bool->Bool} (h:qC C t x y K f):
  ∃v,K v/\∀(w:World) (F:Nat->Prop) (ι:Io) (a b:Value),R w F ι x a->R w F ι y b->∃r,R w F ι v (.bool (f r))/\
   (∀op xo yo,(eqGuard op t xo yo a b).run C.P w= .ok () w)/\(Go.binOp .eql t a b).run C.P w= .ok (.bool r) w/\(Go.binOp .neq t a b).run C.P w= .ok (.bool !r) w:=by
 unfold qC at h;cases ht:C.ty t with
 |none=>simp[ht]at h
 |some ti=>
  have hu:=(hC.ty t ti ht).1;simp only[ht]at h;cases hd:ti.desc<;>simp only[hd]at h
  case bool=>
   rw[hd]at hu;split at h
   ·refine⟨_,h,fun w F ι a b ha hb=> ?_⟩;cases ha.s_inv;cases hb.s_inv;exact⟨_,.fz .s,fun _ _ _=>gU _ _ _ _ _ _ _ (by simp) (by simp),qB (Bh 9999 hu _ _ w) (.inl ⟨_,rfl⟩)⟩
   ·exact h.elim
  case pointer e=>
   rw[hd]at hu;have fin:∀(w:World) (a:Option Addr) (r:Bool),(Op.equal t (.pointer a) (.pointer none)).run C.P w= .ok r w->(∀op xo yo,(eqGuard op t xo yo (.pointer a) (.pointer none)).run C.P w= .ok () w)/\(Go.binOp .eql t (.pointer a) (.pointer none)).run C.P w= .ok (.bool r) w/\(Go.binOp .neq t (.pointer a) (.pointer none)).run C.P w= .ok (.bool !r) w:=
    fun w a r h=>⟨fun _ _ _=>gU _ _ _ _ _ _ _ (by simp) (by simp),qB h (.inr (.inl ⟨_,rfl,rfl⟩))⟩
   split at h
   ·refine⟨_,h,fun w F ι a b ha hb=> ?_⟩;cases ha.s_inv;cases hb.s_inv;exact⟨_,.fz .s,fin w none _ (Qi 9999 hu w)⟩
   ·refine⟨_,h,fun w F ι a b ha hb=> ?_⟩;obtain⟨_,_,rfl,_⟩:=ha.p_inv;cases hb.s_inv;exact⟨_,.fz .s,fin w _ _ (vf 9999 hu _ w)⟩
   ·refine⟨_,h,fun w F ι a b ha hb=> ?_⟩;obtain⟨_,_,rfl,_⟩:=ha.q_inv;cases hb.s_inv;exact⟨_,.fz .s,fin w _ _ (vf 9999 hu _ w)⟩
   ·refine⟨_,h,fun w F ι a b ha hb=> ?_⟩;obtain⟨_,rfl,_⟩:=ha.qv_inv;cases hb.s_inv;exact⟨_,.fz .s,fin w _ _ (vf 9999 hu _ w)⟩
   ·exact h.elim
  case slice e=>
   rw[hd]at hu;have fin:∀(w:World) (a:Option Addr) (n c:Nat),(∀op xo yo,(eqGuard op t xo yo (.slice a n c) (.slice none 0 0)).run C.P w= .ok () w)/\(Go.binOp .eql t (.slice a n c) (.slice none 0 0)).run C.P w= .ok (.bool a.isNone) w/\(Go.binOp .neq t (.slice a n c) (.slice none 0 0)).run C.P w= .ok (.bool !a.isNone) w:=
    fun w a n c=>⟨fun _ _ _=>gU _ _ _ _ _ _ _ (by simp) (by simp),qB (Qk hu a n c w) (.inr (.inr (.inl ⟨_,_,_,rfl⟩)))⟩
   split at h
   ·split at h
    ·refine⟨_,h,fun w F ι a b ha hb=> ?_⟩;cases ha.s_inv;cases hb.s_inv;exact⟨_,.fz .s,fin w none 0 0⟩
    ·rcases h with h|h
     ·refine⟨_,h.2,fun w F ι a b ha hb=> ?_⟩;cases hb.s_inv;rcases ha.z_inv with ⟨_,_,rfl,rfl,_⟩|⟨ad,cap,rfl,hc,_⟩
      ·exact absurd h.1 (Nat.lt_irrefl 0)
      ·exact⟨_,.fz .s,fin w _ _ _⟩
     ·refine⟨_,h,fun w F ι a b ha hb=> ?_⟩;cases hb.s_inv;rcases ha.z_inv with ⟨_,_,rfl,rfl,_⟩|⟨ad,cap,rfl,hc,_⟩
      ·exact⟨_,.fz .ub,fin w _ _ _⟩
      ·exact⟨_,.fz .ub,fin w _ _ _⟩
    ·rcases h with h|h
     ·refine⟨_,h.2,fun w F ι a b ha hb=> ?_⟩;cases hb.s_inv;rcases ha.zz_inv with ⟨_,_,rfl,rfl,_⟩|⟨ad,cap,vs,rfl,_⟩
      ·exact absurd h.1 (Nat.lt_irrefl 0)
      ·exact⟨_,.fz .s,fin w _ _ _⟩
     ·refine⟨_,h,fun w F ι a b ha hb=> ?_⟩;cases hb.s_inv;rcases ha.zz_inv with ⟨_,_,rfl,rfl,_⟩|⟨ad,cap,vs,rfl,_⟩
      ·exact⟨_,.fz .ub,fin w _ _ _⟩
      ·exact⟨_,.fz .ub,fin w _ _ _⟩
    ·rcases h with h|h
     ·refine⟨_,h.2,fun w F ι a b ha hb=> ?_⟩;cases hb.s_inv;rcases ha.o_inv with ⟨_,rfl,rfl⟩|⟨bl,base,cap,rfl,_⟩
      ·exact absurd h.1 (Nat.lt_irrefl 0)
      ·exact⟨_,.fz .s,fin w _ _ _⟩
     ·refine⟨_,h,fun w F ι a b ha hb=> ?_⟩;cases hb.s_inv;rcases ha.o_inv with ⟨_,rfl,rfl⟩|⟨bl,base,cap,rfl,_⟩
      ·exact⟨_,.fz .ub,fin w _ _ _⟩
      ·exact⟨_,.fz .ub,fin w _ _ _⟩
    ·exact h.elim
   ·exact h.elim
  case array n el=>
   rw[hd]at hu;cases hel:C.ty el with
   |none=>simp[hel]at h
   |some te=>
    simp only[hel]at h;split at h
    ·rename_i hte;obtain⟨hue,i,z,hi,hsz,_,_,hzc,hzl,_⟩:=hC.ty el te hel;rw[hte]at hue;split at h
     ·obtain⟨hs1,as,bs,rfl,rfl,hla,hlb,hk⟩:=B0.1 h;have hs1:=Nat.eq_of_beq_eq_true hs1;refine⟨_,hk,fun w F ι a b ha hb=> ?_⟩;obtain⟨xs,rfl,hxs⟩:=ha.a_inv;obtain⟨ys,rfl,hys⟩:=hb.a_inv;have vals:∀(l:List Bool) (zs:List Value),RL w F ι (l.map fun b=> .s (.bool b)) zs->zs=l.map .bool:=by
       intro l;induction l with
       |nil=>intro zs h;cases h;rfl
       |cons b r ih=>
        intro zs h;cases h with
        |cons h1 h2=>rw[h1.s_inv,ih _ h2];rfl
      have ex:=vals as _ hxs;have ey:=vals bs _ hys;have c1:C.P.cellsOf el=1:=by
       rw[show C.P.cellsOf el=i.size by simp[Program.cellsOf,hi],hsz];exact hs1
      have heq:(Op.equal t (.agg xs) (.agg ys)).run C.P w= .ok (decide (as=bs)) w:=by
       show(Op.equalIn (9999+1) t _ _).run C.P w=_;rw[run_equalIn_array w 9999 xs ys hu hi,c1,List.range_eq_range',<-hla];refine Bi hue hi c1 9998 w as bs xs ys 0 (hla.trans hlb.symm) (fun j hj=> ?_) (fun j hj=> ?_)
       ·rw[Nat.zero_add,<-Array.getElem?_toList,ex,List.getElem?_map]
       ·rw[Nat.zero_add,<-Array.getElem?_toList,ey,List.getElem?_map]
      exact⟨_,.fz .s,fun _ _ _=>Qh hu hue _ _ _ _ _ _,qB heq (.inr (.inr (.inr ⟨_,rfl⟩)))⟩
     ·exact h.elim
    ·exact h.elim
theorem HX (hC:q6 C) {op:BinOp} {t ty:Nat} {x y:Operand} (ho:o.op= .binOp op t x y ty) (h:tX C op t (ev x) (ev y) fun v=>KN v []):A9 C o ev Hr KN KP:=by
 suffices hh:∃v,KN v []/\∀(w:World) (F:Nat->Prop) (ι:Io) (a b:Value),R w F ι (ev x) a->R w F ι (ev y) b->
   (eqGuard op t x y a b).run C.P w= .ok () w/\∃z,(Go.binOp op t a b).run C.P w= .ok z w/\R w F ι v z by
  obtain⟨v,hk,hv⟩:=hh;refine .inl ⟨_,_,hk,F6 fun w0 L w F ι H a st hr hx=> ?_⟩;obtain⟨h1,z,h2,h3⟩:=hv w F ι _ _ (hx x (by simp[ho,Op.operands])) (hx y (by simp[ho,Op.operands]));refine⟨z,?_,h3⟩;unfold execOp;simp[ho,h1,h2]
 unfold tX at h;split at h
 ·rename_i k a k' b hx hy;rw[hx,hy];split at h
  ·rename_i hs;obtain⟨v,hk,hv⟩:=a1x (P:=C.P) (k':=k') t hs h;refine⟨.s v,hk,fun w F ι a b ha hb=> ?_⟩;cases ha.s_inv;cases hb.s_inv;exact⟨gU _ _ _ _ _ _ _ (by simp) (by simp),_,hv w,.fz .s⟩
  ·rename_i hs;obtain⟨hkk,h'⟩:=B0.1 h;obtain rfl:=WG hkk;obtain⟨v,hk,hv⟩:=Ww (P:=C.P) t h';refine⟨.s v,hk,fun w F ι a b ha hb=> ?_⟩;cases ha.s_inv;cases hb.s_inv;exact⟨gU _ _ _ _ _ _ _ (by simp) (by simp),_,hv w,.fz .s⟩
 ·rename_i a b hx hy;rw[hx,hy];split at h
  ·refine⟨_,h,fun w F ι a b ha hb=> ?_⟩;cases ha.s_inv;cases hb.s_inv;exact⟨gU _ _ _ _ _ _ _ (by simp) (by simp),_,by simp[Go.binOp,Op.stringOp],.fz .s⟩
  ·refine⟨_,h,fun w F ι a b ha hb=> ?_⟩;cases ha.s_inv;cases hb.s_inv;exact⟨gU _ _ _ _ _ _ _ (by simp) (by simp),_,by simp[Go.binOp,Op.stringOp],.fz .s⟩
  ·refine⟨_,h.2,fun w F ι a' b' ha hb=> ?_⟩;cases ha.s_inv;cases hb.s_inv;refine⟨gU _ _ _ _ _ _ _ (by simp) (by simp),_,?_,.fz .s⟩;have h1:¬(((a.size+b.size:Nat):Int)>IntKind.i64.max):=by
    have h2:IntKind.i64.max=9223372036854775807:=rfl;have:=h.1;omega
   simp only[Go.binOp,Op.stringOp];rw[if_neg h1];rfl
  ·exact h.elim
 ·split at h
  ·obtain⟨r,hk,hr⟩:=Bj hC h;refine⟨_,hk,fun w F ι a b ha hb=> ?_⟩;obtain⟨rb,hR,h1,h2,_⟩:=hr w F ι a b ha hb;exact⟨h1 _ _ _,_,h2,hR⟩
  ·obtain⟨r,hk,hr⟩:=Bj hC h;refine⟨_,hk,fun w F ι a b ha hb=> ?_⟩;obtain⟨rb,hR,h1,_,h2⟩:=hr w F ι a b ha hb;exact⟨h1 _ _ _,_,h2,hR⟩
  ·exact h.elim
theorem a3y {t:Nat} {x:Operand} {b:Bool} (ho:o.op= .unOp .not t x) (hx:ev x= .s (.bool b)) (h:KN (.s (.bool !b)) []):A9 C o ev Hr KN KP:=by
 refine .inl ⟨_,_,h,F6 fun w0 L w F ι H a st hr hR=>⟨.bool !b,?_,.sc⟩⟩;have h1:=hR x (by simp[ho,Op.operands]);rw[hx]at h1;unfold execOp;simp[ho,h1.s_inv,Op.unary]
theorem a3x {t:Nat} {x:Operand} {k:IntKind} {n:Int} (ho:o.op= .unOp .neg t x) (hx:ev x= .s (.int k n)) (h:KN (.s (.int k (k.wrap (0-n)))) []):A9 C o ev Hr KN KP:=by
 refine .inl ⟨_,_,h,F6 fun w0 L w F ι H a st hr hR=>⟨.int k (k.wrap (0-n)),?_,.sc⟩⟩;have h1:=hR x (by simp[ho,Op.operands]);rw[hx]at h1;unfold execOp;simp[ho,h1.s_inv,Op.unary,Op.intArith]
theorem Xd (hC:q6 C) {t:Nat} {x:Operand} {ti:TI} (ho:o.op= .makeInterface t x) (ht:C.ty t=some ti) (hd:∀ms,ti.desc≠ .interface ms) (h:KN (.i t (ev x)) []):A9 C o ev Hr KN KP:=by
 refine .inl ⟨_,_,h,F6 fun w0 L w F ι H a st hr hR=>⟨.iface t (a.eval x),?_,.i (hR x (by simp[ho,Op.operands]))⟩⟩;unfold execOp;have hu:=(hC.ty t ti ht).1;generalize ti.desc=d at*
 simp only[ho,Instr.makeInterface,Sem.run_bind,run_underlying hu w,Result.andThen_ok];cases d<;>first|rfl|exact absurd rfl (hd _)
theorem tn {w:World} {F:Nat->Prop} {ι:Io} {a:Act} (l:List Operand) (h:∀x∈l,R w F ι (ev x) (a.eval x)):RL w F ι (l.map ev) (l.map a.eval):=by
 induction l with
 |nil=>exact .nil
 |cons x r ih=>exact .cons (h x (by simp)) (ih fun y hy=>h y (by simp[hy]))
theorem Xc {fn:Fn} {xs ys:Array Operand} (ho:o.op= .makeFunc fn xs ys) (h:KN (.f fn (xs.toList.map ev) (ys.toList.map ev)) []):A9 C o ev Hr KN KP:=by
 refine .inl ⟨_,_,h,F6 fun w0 L w F ι H a st hr hR=>⟨.func fn (xs.map a.eval) (ys.map a.eval),?_,.f ?_ ?_⟩⟩
 ·unfold execOp;simp[ho,Instr.makeFunc]
 ·rw[Array.toList_map];exact tn _ fun x hx=>hR x (by simp[ho,Op.operands];exact .inl (by simpa using hx))
 ·rw[Array.toList_map];exact tn _ fun x hx=>hR x (by simp[ho,Op.operands];exact .inr (by simpa using hx))
theorem rO {x:Operand} (ho:o.op= .nilCheck x) (hx:(∃id off,ev x= .p id off)\/(∃xs off,ev x= .q xs off)\/(∃vs off,ev x= .qv vs off)\/∃f a b,ev x= .f (.func f) a b) (h:KN (ev x) []):A9 C o ev Hr KN KP:=by
 refine .inl ⟨_,_,h,F6 fun w0 L w F ι H a st hr hR=>⟨a.eval x,?_,hR x (by simp[ho,Op.operands])⟩⟩;have h1:=hR x (by simp[ho,Op.operands]);unfold execOp;rcases hx with ⟨_,_,hx⟩|⟨_,_,hx⟩|⟨_,_,hx⟩|⟨_,_,_,hx⟩<;>rw[hx]at h1
 ·obtain⟨_,_,he,_⟩:=h1.p_inv;simp[ho,he]
 ·obtain⟨_,_,he,_⟩:=h1.q_inv;simp[ho,he]
 ·obtain⟨_,he,_⟩:=h1.qv_inv;simp[ho,he]
 ·obtain⟨_,_,he,_⟩:=h1.f_inv;simp[ho,he]
theorem Ql {x:Operand} {i:Nat} {vs:List V} {v:V} (ho:o.op= .extract x i) (hx:ev x= .t vs) (hv:vs[i]? =some v) (h:KN v []):A9 C o ev Hr KN KP:=by
 refine .inl ⟨_,_,h,F6 fun w0 L w F ι H a st hr hR=> ?_⟩;have h1:=hR x (by simp[ho,Op.operands]);rw[hx]at h1;obtain⟨us,he,hl⟩:=h1.t_inv;obtain⟨y,hy,hr⟩:=hl.get hv;refine⟨y,?_,hr⟩;unfold execOp;have hy':us[i]? =some y:=by simpa using hy
 simp[ho,he,Instr.extract,hy']
theorem add_lit (b o n:Nat):(⟨b,o,none⟩:Addr).add n=⟨b,o+n,none⟩:=by unfold Addr.add;split<;>simp_all
theorem ko {a:Addr} (h:a.spot=none) (n:Nat):a.add n=⟨a.block,a.off+n,none⟩:=by
 obtain⟨b,o,s⟩:=a;simp at h;subst h;exact add_lit b o n
theorem bq (hC:q6 C) {t:Nat} {ti:TI} (ht:C.ty t=some ti) (w:World):(sizeOf t).run C.P w= .ok ti.size w:=by
 obtain⟨_,i,z,hi,hs,_⟩:=hC.ty t ti ht;simp[sizeOf,typeInfo,hi,hs]
theorem vW (hC:q6 C) {t:Nat} {ti:TI} (ht:C.ty t=some ti) (w:World):(isAgg t).run C.P w= .ok (lZ ti.desc) w:=by
 unfold isAgg;rw[Sem.run_bind,run_underlying (hC.ty t ti ht).1 w];cases ti.desc<;>simp[lZ]
theorem DN (hC:q6 C) {t j:Nat} {xs:List V} {K:V->Prop} (h:bV C t xs j K):∃v,K v/\∀(w u:World) (F:Nat->Prop) (ι:Io) (vs:Array Value),RL w F ι xs vs.toList->∃x,(part t vs j).run C.P u= .ok x u/\R w F ι v x:=by
 unfold bV at h;cases ht:C.ty t with
 |none=>simp[ht]at h
 |some ti=>
  simp only[ht]at h;split at h
  ·rename_i ha;obtain⟨v,hv,hk⟩:=h;refine⟨v,hk,fun w u F ι vs hl=> ?_⟩;obtain⟨x,hx,hr⟩:=hl.get hv;have hx':vs[j]? =some x:=by simpa using hx
   exact⟨x,by simp[part,vW hC ht,ha,hx'],hr⟩
  ·rename_i ha;rw[bN]at h;obtain⟨cs,hs,hn,hk⟩:=h;refine⟨_,hk,fun w u F ι vs hl=> ?_⟩;refine⟨.agg (vs.extract j (j+ti.size)),by simp[part,vW hC ht,ha,bq hC ht],.a ?_⟩;rw[<-hs];have:=hl.sub j ti.size;rw[Array.toList_extract,List.extract_eq_take_drop];simpa [sub]using this
theorem VV (hC:q6 C) {t f:Nat} {x:Operand} (ho:o.op= .field t x f) (h:lJ C t f fun off ft=>match ev x with
  | .a cs=>bV C ft cs off fun v=>KN v []
  |_=>False):A9 C o ev Hr KN KP:=by
 unfold lJ at h;cases ht:C.ty t with
 |none=>simp[ht]at h
 |some ti=>
  have hu:=(hC.ty t ti ht).1;simp only[ht]at h;cases hd:ti.desc<;>simp only[hd]at h
  case struct fs=>
   rw[hd]at hu;cases hf:fs[f]? with
   |none=>simp[hf]at h
   |some fl=>
    simp only[hf]at h;split at h
    ·rename_i cs hx;obtain⟨v,hk,hp⟩:=DN hC h;refine .inl ⟨_,_,hk,F6 fun w0 L w F ι H a st hr hR=> ?_⟩;have h1:=hR x (by simp[ho,Op.operands]);rw[hx]at h1;obtain⟨vs,he,hl⟩:=h1.a_inv;obtain⟨y,hy,hr⟩:=hp w w F ι vs hl;refine⟨y,?_,hr⟩;unfold execOp;simp[ho,he,Instr.field,run_underlying hu,hf,asAgg,hy]
    ·exact h.elim
theorem Wu (hC:q6 C) {t:Nat} {x i:Operand} (ho:o.op= .indexAddr t x i) (h:vU C t (ev x) (ev i) fun v=>KN v []):A9 C o ev Hr KN KP:=by
 suffices hh:∃v,KN v []/\∀(w:World) (F:Nat->Prop) (ι:Io) (a b:Value),R w F ι (ev x) a->R w F ι (ev i) b->
   ∃y,(Instr.indexAt t a b).run C.P w= .ok y w/\R w F ι v y by
  obtain⟨v,hk,hv⟩:=hh;refine .inl ⟨_,_,hk,F6 fun w0 L w F ι H a st hr hx=> ?_⟩;obtain⟨y,h1,h2⟩:=hv w F ι _ _ (hx x (by simp[ho,Op.operands])) (hx i (by simp[ho,Op.operands]));refine⟨y,?_,h2⟩;unfold execOp;simp[ho,h1]
 unfold vU at h;split at h
 ·rename_i k n hi;rw[hi];cases ht:C.ty t with
  |none=>simp[ht]at h
  |some ti=>
   have hu:=(hC.ty t ti ht).1;simp only[ht]at h;cases hd:ti.desc<;>simp only[hd]at h
   case slice el=>
    rw[hd]at hu;cases hel:C.ty el with
    |none=>simp[hel]at h
    |some te=>
     simp only[hel]at h;split at h
     ·rename_i m vs hx;rw[hx];obtain⟨hsz,h0,h1,hk⟩:=B0.1 h;have hsz':=Nat.eq_of_beq_eq_true hsz;refine⟨_,hk,fun w F ι a b ha hb=> ?_⟩;cases hb.s_inv;rcases ha.z_inv with ⟨_,_,rfl,rfl,_⟩|⟨ad,cap,rfl,hc,_⟩
      ·omega
      ·refine⟨_,?_,.fz (.qv (off:=n.toNat) hc)⟩;simp[Instr.indexAt,asIntOf,run_underlying hu,h0,h1,bq hC hel,hsz',ko hc.2.1]
     ·rename_i e m xs hx;rw[hx];obtain⟨hsz,h0,h1,hk⟩:=B0.1 h;have hsz':=Nat.eq_of_beq_eq_true hsz;refine⟨_,hk,fun w F ι a b ha hb=> ?_⟩;cases hb.s_inv;rcases ha.zz_inv with ⟨_,_,rfl,rfl,_⟩|⟨ad,cap,vs,rfl,hl,hc,_⟩
      ·omega
      ·refine⟨_,?_,.fz (.q (off:=n.toNat*e) hl hc)⟩;simp[Instr.indexAt,asIntOf,run_underlying hu,h0,h1,bq hC hel,hsz',ko hc.2.1]
     ·rename_i e id off m hx;rw[hx];obtain⟨hsz,h0,h1,hk⟩:=B0.1 h;have hsz':=Nat.eq_of_beq_eq_true hsz;refine⟨_,hk,fun w F ι a b ha hb=> ?_⟩;cases hb.s_inv;rcases ha.o_inv with ⟨_,rfl,rfl⟩|⟨bl,base,cap,rfl,hi,_,_⟩
      ·omega
      ·refine⟨_,?_,.p hi⟩;simp[Instr.indexAt,asIntOf,run_underlying hu,h0,h1,bq hC hel,hsz',add_lit,Nat.add_assoc]
     ·exact h.elim
   case array m el=>
    rw[hd]at hu;cases hel:C.ty el with
    |none=>simp[hel]at h
    |some te=>
     simp only[hel,bN]at h;split at h
     ·rename_i id off hx;rw[hx];obtain⟨h0,h1,hk⟩:=h;refine⟨_,hk,fun w F ι a b ha hb=> ?_⟩;cases hb.s_inv;obtain⟨bl,base,rfl,hi⟩:=ha.p_inv;refine⟨_,?_,.p hi⟩;simp[Instr.indexAt,Instr.sureAddr,asIntOf,run_underlying hu,h0,h1,bq hC hel,add_lit,Nat.add_assoc]
     ·rename_i xs off hx;rw[hx];obtain⟨h0,h1,hk⟩:=h;refine⟨_,hk,fun w F ι a b ha hb=> ?_⟩;cases hb.s_inv;obtain⟨ad,vs,rfl,hl,hc⟩:=ha.q_inv;refine⟨_,?_,.fz (.q (off:=off+n.toNat*te.size) hl hc)⟩;simp[Instr.indexAt,Instr.sureAddr,asIntOf,run_underlying hu,h0,h1,bq hC hel,add_lit,Nat.add_assoc]
     ·rename_i xs off hx;rw[hx];obtain⟨h0,h1,hk⟩:=h;refine⟨_,hk,fun w F ι a b ha hb=> ?_⟩;cases hb.s_inv;obtain⟨ad,rfl,hc⟩:=ha.qv_inv;refine⟨_,?_,.fz (.qv (off:=off+n.toNat*te.size) hc)⟩;simp[Instr.indexAt,Instr.sureAddr,asIntOf,run_underlying hu,h0,h1,bq hC hel,add_lit,Nat.add_assoc]
     ·exact h.elim
 ·exact h.elim
theorem Wv (hC:q6 C) {t:Nat} {x i:Operand} {k:IntKind} {n:Int} {ti:TI} {b:ByteArray} {y:UInt8} (ho:o.op= .index t x i) (hi:ev i= .s (.int k n)) (ht:C.ty t=some ti) (hd:ti.desc= .string)
  (hx:ev x= .s (.string b)) (h0:0<=n) (h1:n<b.size) (hy:b.data.toList[n.toNat]? =some y) (hk:KN (.s (.int .u8 y.toNat)) []):A9 C o ev Hr KN KP:=by
 have hu:=(hC.ty t ti ht).1;rw[hd]at hu;refine .inl ⟨_,_,hk,F6 fun w0 L w F ι H a st hr hR=>⟨.int .u8 y.toNat,?_,.sc⟩⟩;have e1:=hR x (by simp[ho,Op.operands]);have e2:=hR i (by simp[ho,Op.operands]);rw[hx]at e1;rw[hi]at e2;have hn:n.toNat<b.size:=by omega
 have hb:b[n.toNat]? =some y:=by
  rw[getElem?_pos b n.toNat hn];have h3:n.toNat<b.data.size:=hn;rw[Array.getElem?_toList,Array.getElem?_eq_getElem h3]at hy;exact hy
 unfold execOp;simp[ho,e1.s_inv,e2.s_inv,Instr.index,asIntOf,run_underlying hu,h0,hb]
theorem Wt (hC:q6 C) {t m el:Nat} {x i:Operand} {k:IntKind} {n:Int} {ti:TI} {cs:List V} (ho:o.op= .index t x i) (hi:ev i= .s (.int k n)) (ht:C.ty t=some ti) (hd:ti.desc= .array m el)
  (hx:ev x= .a cs) (h:bp C el fun e=>0<=n/\n<m/\bV C el cs (n.toNat*e) fun v=>KN v []):A9 C o ev Hr KN KP:=by
 have hu:=(hC.ty t ti ht).1;rw[hd]at hu;unfold bp at h;cases hel:C.ty el with
 |none=>simp[hel]at h
 |some te=>
  simp only[hel,bN]at h;obtain⟨h0,h1,h⟩:=h;obtain⟨v,hk,hp⟩:=DN hC h;refine .inl ⟨_,_,hk,F6 fun w0 L w F ι H a st hr hR=> ?_⟩;have e1:=hR x (by simp[ho,Op.operands]);have e2:=hR i (by simp[ho,Op.operands]);rw[hx]at e1;rw[hi]at e2;obtain⟨vs,he,hl⟩:=e1.a_inv;obtain⟨y,hy,hr⟩:=hp w w F ι vs hl;refine⟨y,?_,hr⟩;unfold execOp;simp[ho,he,e2.s_inv,Instr.index,asIntOf,run_underlying hu,h0,h1,bq hC hel,hy]
theorem VU (hC:q6 C) {t f:Nat} {x:Operand} (ho:o.op= .fieldAddr t x f) (h:lJ C t f fun off ft=>bp C ft fun n=>w6 (Nat.ble 1 n) (match ev x with
  | .p id o=>KN (.p id (o+off)) []
  | .q xs o=>KN (.q xs (o+off)) []
  | .qv xs o=>KN (.qv xs (o+off)) []
  |_=>False)):A9 C o ev Hr KN KP:=by
 unfold lJ at h;cases ht:C.ty t with
 |none=>simp[ht]at h
 |some ti=>
  have hu:=(hC.ty t ti ht).1;simp only[ht]at h;cases hd:ti.desc<;>simp only[hd]at h
  case struct fs=>
   rw[hd]at hu;cases hf:fs[f]? with
   |none=>simp[hf]at h
   |some fl=>
    simp only[hf]at h;unfold bp at h;cases hft:C.ty fl.type with
    |none=>simp[hft]at h
    |some tf=>
     simp only[hft,bN]at h;obtain⟨hsz,h⟩:=B0.1 h;have hsz':tf.size≠0:=by have:=Nat.le_of_ble_eq_true hsz;omega
     have key:∀(w:World) (b q:Nat),(Instr.fieldAt t (.pointer (some ⟨b,q,none⟩)) f).run C.P w= .ok (.pointer (some ⟨b,q+fl.offset,none⟩)) w:=by
      intro w b q;simp[Instr.fieldAt,Instr.sureAddr,run_underlying hu,hf,fieldPlace,bq hC hft,hsz',add_lit]
     split at h
     ·rename_i id off hx;refine .inl ⟨_,_,h,F6 fun w0 L w F ι H a st hr hR=> ?_⟩;have h1:=hR x (by simp[ho,Op.operands]);rw[hx]at h1;obtain⟨bl,base,he,hi⟩:=h1.p_inv;refine⟨_,?_,.p hi⟩;unfold execOp;simp[ho,he,key,Nat.add_assoc]
     ·rename_i xs off hx;refine .inl ⟨_,_,h,F6 fun w0 L w F ι H a st hr hR=> ?_⟩;have h1:=hR x (by simp[ho,Op.operands]);rw[hx]at h1;obtain⟨ad,vs,he,hl,hc⟩:=h1.q_inv;refine⟨_,?_,.fz (.q (off:=off+fl.offset) hl hc)⟩;unfold execOp;simp[ho,he,key,Nat.add_assoc]
     ·rename_i xs off hx;refine .inl ⟨_,_,h,F6 fun w0 L w F ι H a st hr hR=> ?_⟩;have h1:=hR x (by simp[ho,Op.operands]);rw[hx]at h1;obtain⟨ad,he,hc⟩:=h1.qv_inv;refine⟨_,?_,.fz (.qv (off:=off+fl.offset) hc)⟩;unfold execOp;simp[ho,he,key,Nat.add_assoc]
     ·exact h.elim
theorem oC (hC:q6 C) {t j:Nat} {xs:List V} {K:V->Prop} (h:bV C t xs j K):
  ∃v,K v/\∀(w:World) (F:Nat->Prop) (ι:Io) (b base:Nat) (vs:List Value),RL w F ι xs vs->(∀j x,vs[j]? =some x->w.cell? ⟨b,base+j,none⟩=some x)->
   ∃x,(Instr.loadAt t (.pointer (some ⟨b,base+j,none⟩))).run C.P w= .ok x w/\R w F ι v x:=by
 unfold bV at h;cases ht:C.ty t with
 |none=>simp[ht]at h
 |some ti=>
  obtain⟨hu,i,z,hi,hsz,_⟩:=hC.ty t ti ht;simp only[ht]at h;split at h
  ·rename_i ha;obtain⟨v,hv,hk⟩:=h;refine⟨v,hk,fun w F ι b base vs hl hc=> ?_⟩;obtain⟨x,hx,hr⟩:=hl.get hv;refine⟨x,?_,hr⟩;simp[Instr.loadAt,Instr.sureAddr,loadVar,vW hC ht,ha,hc j x hx]
  ·rename_i ha;rw[bN]at h;obtain⟨cs,hs,hn,hk⟩:=h;refine⟨_,hk,fun w F ι b base vs hl hc=> ?_⟩;have hl2:=hl.sub j ti.size;rw[hs]at hl2;refine⟨.agg (sub vs j ti.size).toArray,?_,.a (by simpa using hl2)⟩;refine run_loadAt_mid w b (base+j) t (sub vs j ti.size) ti.desc (fun q y hy=> ?_) hu ?_ ?_
   ·rw[Nat.add_assoc];exact hc _ _ (db hy)
   ·cases hd:ti.desc<;>simp[hd,lZ]at ha<;>rfl
   ·simp[hi,hsz,<-hl2.length,hn]
theorem DO {t j:Nat} {vs:List Value} {K:V->Prop} (h:rW C t vs j K):bV C t (vs.map .s) j K:=by
 unfold rW at h;unfold bV;cases ht:C.ty t with
 |none=>simp[ht]at h
 |some ti=>
  simp only[ht]at h ⊢;cases ha:lZ ti.desc<;>simp only[ha]at h ⊢
  ·obtain⟨v,hv,hk⟩:=h;exact⟨_,by simp[hv],hk⟩
  ·rw[bN]at h ⊢;obtain⟨cs,hs,hn,hk⟩:=h;exact⟨_,by rw[<-hs];simp[sub,List.map_take,List.map_drop],by simpa using hn,hk⟩
theorem CP (hC:q6 C) {t:Nat} {x:V} {K:V->Prop} (h:oD C t Hr x K):
  ∃v,K v/\∀(w0:World) (L:Nat->Prop) (w:World) (F:Nat->Prop) (ι:Io) (H:Hp) (y:Value),St w0 L w F ι H->(∀id b,Hr id=some b->H id=some b)->R w F ι x y->
   ∃z,(Instr.loadAt t y).run C.P w= .ok z w/\R w F ι v z/\∃a,y= .pointer (some a):=by
 unfold oD at h;split at h
 ·rename_i vs j;obtain⟨v,hk,hp⟩:=oC hC (DO h);refine⟨v,hk,fun w0 L w F ι H y st hr hy=> ?_⟩;obtain⟨ad,rfl,hc⟩:=hy.qv_inv;obtain⟨z,h1,h2⟩:=hp w F ι ad.block ad.off vs (RL.maps vs) fun j x hx=>(hc.2.2 j x hx).1;exact⟨z,h1,h2,_,rfl⟩
 ·rename_i xs j;obtain⟨v,hk,hp⟩:=oC hC h;refine⟨v,hk,fun w0 L w F ι H y st hr hy=> ?_⟩;obtain⟨ad,vs,rfl,hl,hc⟩:=hy.q_inv;obtain⟨z,h1,h2⟩:=hp w F ι ad.block ad.off vs hl.rl fun j x hx=>(hc.2.2 j x hx).1;exact⟨z,h1,h2,_,rfl⟩
 ·rename_i id j;have own:∀(w0:World) (L:Nat->Prop) (w:World) (F:Nat->Prop) (ι:Io) (H:Hp) (y:Value) (X:B),St w0 L w F ι H->H id=some X->X≠ .dead->R w F ι (.p id j) y->
    ∃b base vs,y= .pointer (some ⟨b,base+j,none⟩)/\(∀j x,vs[j]? =some x->w.cell? ⟨b,base+j,none⟩=some x)/\BR w F ι X vs:=by
   intro w0 L w F ι H y X st hH hX hy;obtain⟨b,base,rfl,hi⟩:=hy.p_inv;obtain⟨b',base',hi',_,_,arr,t,fr,hh,_,vs,hc,hm⟩:=(st.own id X hH hX).resolve_left (by simp[hi]);rw[hi]at hi';simp only[Option.some.injEq,Prod.mk.injEq]at hi';obtain⟨rfl,rfl⟩:=hi';exact⟨b,base,vs,rfl,fun j x hx=>by rw[kS hh];exact(hc j x hx).1,hm⟩
  split at h
  ·rename_i vs hH;obtain⟨v,hk,hp⟩:=oC hC (DO h);refine⟨v,hk,fun w0 L w F ι H y st hr hy=> ?_⟩;obtain⟨b,base,us,rfl,hc,hm⟩:=own w0 L w F ι H y _ st (hr _ _ hH) (by simp) hy;obtain rfl:vs=us:=hm;obtain⟨z,h1,h2⟩:=hp w F ι b base _ (RL.maps _) hc;exact⟨z,h1,h2,_,rfl⟩
  ·rename_i xs hH;obtain⟨v,hk,hp⟩:=oC hC h;refine⟨v,hk,fun w0 L w F ι H y st hr hy=> ?_⟩;obtain⟨b,base,us,rfl,hc,hm⟩:=own w0 L w F ι H y _ st (hr _ _ hH) (by simp) hy;obtain⟨z,h1,h2⟩:=hp w F ι b base _ (n7.rl hm) hc;exact⟨z,h1,h2,_,rfl⟩
  ·rename_i xs hH;obtain⟨v,hk,hp⟩:=oC hC h;refine⟨v,hk,fun w0 L w F ι H y st hr hy=> ?_⟩;obtain⟨b,base,us,rfl,hc,hm⟩:=own w0 L w F ι H y _ st (hr _ _ hH) (by simp) hy;obtain⟨z,h1,h2⟩:=hp w F ι b base _ hm hc;exact⟨z,h1,h2,_,rfl⟩
  ·exact h.elim
 ·exact h.elim
theorem WZ (hC:q6 C) {t:Nat} {x:Operand} (ho:o.op= .load t x) (h:oD C t Hr (ev x) fun v=>KN v []):A9 C o ev Hr KN KP:=by
 obtain⟨v,hk,hv⟩:=CP hC h;refine .inl ⟨_,_,hk,F6 fun w0 L w F ι H a st hr hx=> ?_⟩;obtain⟨y,h1,h2,_⟩:=hv w0 L w F ι H _ st hr (hx x (by simp[ho,Op.operands]));refine⟨y,?_,h2⟩;unfold execOp;simp[ho,h1]
end
end Go.Scr
namespace Go.Scr
theorem Wo {w:World} {b o:Nat} {v:Value} {arr:Array Value} {t:TypeId} {fr:Nat×Nat} (h:w.heap[b]? =some (Obj.cells arr t fr)):
  (w.setCell ⟨b,o,none⟩ v).heap[b]? =some (Obj.cells (arr.setIfInBounds o v) t fr):=by
 simp[World.setCell,Array.getElem?_modify,h]
theorem Wn {w:World} {b b' o:Nat} {v:Value} (h:b'≠b):(w.setCell ⟨b,o,none⟩ v).heap[b']? =w.heap[b']? :=by
 simp[World.setCell,Array.getElem?_modify,Ne.symm h]
theorem EG (b:Nat):∀(vs:List Value) (o:Nat) (w:World),(w.setCells b o vs).os=w.os/\(w.setCells b o vs).tape=w.tape/\(w.setCells b o vs).output=w.output/\(w.setCells b o vs).heap.size=w.heap.size/\
  (∀b':Nat,b'≠b->(w.setCells b o vs).heap[b']? =w.heap[b']?)/\
  ∀(arr:Array Value) (t:TypeId) (fr:Nat×Nat),w.heap[b]? =some (Obj.cells arr t fr)->∃arr':Array Value,(w.setCells b o vs).heap[b]? =some (Obj.cells arr' t fr)/\arr'.size=arr.size/\
   (∀j,j<o\/o+vs.length<=j->arr'[j]? =arr[j]?)/\∀j,j<vs.length->o+j<arr.size->arr'[o+j]? =vs[j]?
 |[],o,w=>⟨rfl,rfl,rfl,rfl,fun _ _=>rfl,fun arr t fr h=>⟨arr,h,rfl,fun _ _=>rfl,fun j hj=>by simp at hj⟩⟩
 |v::r,o,w=>by
  obtain⟨h1,h2,h3,h4,h5,h6⟩:=EG b r (o+1) (w.setCell ⟨b,o,none⟩ v);refine⟨h1,h2,h3,?_,?_,?_⟩
  ·rw[World.setCells,h4];simp[World.setCell]
  ·intro b' hb';rw[World.setCells,h5 b' hb',Wn hb']
  ·intro arr t fr h;obtain⟨arr',e1,e2,e3,e4⟩:=h6 _ t fr (Wo h);refine⟨arr',e1,by simpa using e2,?_,?_⟩
   ·intro j hj;rw[e3 j (by simp at hj;omega),Array.getElem?_setIfInBounds_ne (by simp at hj;omega)]
   ·intro j hj d8;cases j with
    |zero=>
     rw[e3 (o+0) (by simp)];simp at d8;simp[d8]
    |succ j=>
     have:=e4 j (by simpa using hj) (by simp;omega);rw[show o+(j+1)=o+1+j by omega];simpa using this
section
variable {w0:World} {L:Nat->Prop} {w:World} {F:Nat->Prop} {ι:Io} {H:Hp}
theorem F8 {α:Type} (f:Id->α) (i:Id) (x:α):x5 f i x i=x:=by simp[x5,Id.eq_self]
theorem C4 {α:Type} (f:Id->α) {i j:Id} (x:α) (h:i≠j):x5 f i x j=f j:=by simp[x5,Id.eq_false h]
theorem tM (w:World) (o:Obj):(w.alloc o).heap=w.heap.push o:=rfl
theorem kp (w:World) (o:Obj) (b:Nat) (h:b<w.heap.size):(w.alloc o).heap[b]? =w.heap[b]? :=by
 rw[tM,Array.getElem?_push];simp[Nat.ne_of_lt h]
theorem Ev.alloc (w:World) (F:Nat->Prop) (hf:∀b,F b->b<w.heap.size) (ob:Obj):Ev w (w.alloc ob) F:=
 ⟨fun b hb=>kp w ob b (hf b hb),fun b arr t fr h=>⟨arr,fr,by rw[kp w ob b (Array.getElem?_eq_some_iff.1 h).1];exact h,rfl⟩⟩
theorem pz (w:World) (o:Obj):(w.alloc o).heap[w.heap.size]? =some o:=by rw[tM];simp
theorem tN (w:World) (o:Obj):(w.alloc o).heap.size=w.heap.size+1:=by rw[tM];simp
theorem BR.ev {w w':World} {F F':Nat->Prop} {ι ι':Io} {X:B} {vs:List Value} (h:BR w F ι X vs) (e:Ev w w' F) (hf:∀b,F b->F' b) (hi:∀id x,ι id=some x->ι' id=some x):BR w' F' ι' X vs:=by
 cases X with
 |sc us=>exact h
 |pl xs=>exact n7.ev e hf h
 |mx xs=>exact RL.ev e hf hi h
 |dead=>trivial
theorem St.drew (st:St w0 L w F ι H):St w0 L w.drew F ι H where
 os:=st.os
 tape:=st.tape
 output:=st.output
 size:=st.size
 old:=st.old
 shp:=st.shp
 fr:=st.fr
 own:=fun id X hH hX=>by
  rcases st.own id X hH hX with h0|⟨b,base,h1,h2,h3,arr,t,fr,h4,h5,vs,h6,h7⟩
  ·exact .inl h0
  exact .inr ⟨b,base,h1,h2,h3,arr,t,fr,h4,h5,vs,h6,h7.ev ⟨fun _ _=>rfl,fun _ arr _ fr h=>⟨arr,fr,h,rfl⟩⟩ (fun _ h=>h) (fun _ _ h=>h)⟩
 inj:=st.inj
theorem Ev.drew (w:World) (F:Nat->Prop):Ev w w.drew F:=⟨fun _ _=>rfl,fun _ arr _ fr h=>⟨arr,fr,h,rfl⟩⟩
theorem wC (st:St w0 L w F ι H) (hd:∀id x,ι id=some x->H id≠none) {id:Id} (l4:H id=none) {arr:Array Value} {t:TypeId} {fr:Nat×Nat} (hfr:ka fr arr.size)
  {vs:List Value} {Y:B} (hv:∀(j:Nat) x,vs[j]? =some x->arr[j]? =some x/\x.oneCell'=true) (hB:BR w F ι Y vs):
  Nx w0 L w F ι (w.alloc (.cells arr t fr)) F (x5 ι id (some (w.heap.size,0))) (x5 H id (some Y)):=by
 have hev:=Ev.alloc w F st.fr (.cells arr t fr);have him:∀id' x,ι id'=some x->x5 ι id (some (w.heap.size,0)) id'=some x:=by
  intro id' x hx;rw[C4]
  ·exact hx
  ·rintro rfl;exact hd _ _ hx l4
 have d8:∀{b:Nat} {arr:Array Value} {t:TypeId} {fr:Nat×Nat},w.heap[b]? =some (Obj.cells arr t fr)->b<w.heap.size:=fun h=>(Array.getElem?_eq_some_iff.1 h).1;refine⟨?_,hev,fun _ h=>h,fun _ h=> .inl h,him,?_⟩
 ·exact{
   os:=st.os
   tape:=st.tape
   output:=st.output
   size:=by rw[tN];have:=st.size;omega
   old:=fun b hb hL=>by rw[kp w _ b (by have:=st.size;omega)];exact st.old b hb hL
   shp:=fun b arr' t' fr' h=>by
    obtain⟨a2,f2,h2,h3⟩:=st.shp b arr' t' fr' h;exact⟨a2,f2,by rw[kp w _ b (d8 h2)];exact h2,h3⟩
   fr:=fun b hb=>by rw[tN];have:=st.fr b hb;omega
   own:=by
    intro id' X hH hX;by_cases he:id=id'
    ·subst he;rw[F8]at hH;simp only[Option.some.injEq]at hH;subst hH;refine .inr ⟨w.heap.size,0,F8 _ _ _,fun h=>Nat.lt_irrefl _ (st.fr _ h),.inr st.size,arr,t,fr,pz w _,hfr,vs,fun j x hx=>by simpa using hv j x hx,hB.ev hev (fun _ h=>h) him⟩
    ·rw[C4 _ _ he]at hH;rcases st.own id' X hH hX with ⟨h0,h0'⟩|⟨b,base,h1,h2,h3,arr',t',fr',h4,h5,us,h6,h7⟩
     ·exact .inl ⟨h0,by rw[C4 _ _ he];exact h0'⟩
     exact .inr ⟨b,base,him _ _ h1,h2,h3,arr',t',fr',by rw[kp w _ b (d8 h4)];exact h4,h5,us,h6,h7.ev hev (fun _ h=>h) him⟩
   inj:=by
    have big:∀id' X b base,id≠id'->H id'=some X->X≠ .dead->ι id'=some (b,base)->b<w.heap.size:=by
     intro id' X b base _ hH hX hi;obtain⟨b',base',h1,_,_,arr',t',fr',h4,_⟩:=(st.own id' X hH hX).resolve_left (by simp[hi]);rw[hi]at h1;simp only[Option.some.injEq,Prod.mk.injEq]at h1;rw[h1.1];exact d8 h4
    intro i1 i2 X1 X2 b base base' hH1 hX1 hH2 hX2 hi1 hi2;by_cases e1:id=i1<;>by_cases e2:id=i2
    ·exact e1.symm.trans e2
    ·subst e1;rw[C4 _ _ e2]at hH2 hi2;rw[F8]at hi1;simp only[Option.some.injEq,Prod.mk.injEq]at hi1;have:=big _ _ _ _ e2 hH2 hX2 hi2;omega
    ·subst e2;rw[C4 _ _ e1]at hH1 hi1;rw[F8]at hi2;simp only[Option.some.injEq,Prod.mk.injEq]at hi2;have:=big _ _ _ _ e1 hH1 hX1 hi1;omega
    ·rw[C4 _ _ e1]at hH1 hi1;rw[C4 _ _ e2]at hH2 hi2;exact st.inj i1 i2 X1 X2 b base base' hH1 hX1 hH2 hX2 hi1 hi2}
 ·intro id' x hx;by_cases he:id=id'
  ·subst he;rw[F8];simp
  ·rw[C4 _ _ he]at hx ⊢;exact hd id' x hx
theorem Nx.pre {w1 w':World} {F':Nat->Prop} {ι':Io} {H':Hp} (e:Ev w w1 F) (h:Nx w0 L w1 F ι w' F' ι' H'):Nx w0 L w F ι w' F' ι' H':=
 ⟨h.st,e.trans h.ev,h.fm,h.fn,h.im,h.dm⟩
theorem rQ (st:St w0 L w F ι H) (hd:∀id x,ι id=some x->H id≠none) {id:Id} {b base o:Nat} {X Y:B} (l4:H id=some X) (hX:X≠ .dead) (hi:ι id=some (b,base)) {us:List Value} (h1:∀u∈us,u.oneCell'=true)
  (hroom:ab w b (base+o+us.length)) (hY:∃vs':List Value,BR w F ι Y vs'/\∀(j:Nat) x,vs'[j]? =some x->(o<=j/\j<o+us.length/\us[j-o]? =some x)\/((j<o\/o+us.length<=j)/\w.cell? ⟨b,base+j,none⟩=some x/\x.oneCell'=true)):
  Nx w0 L w F ι (w.setCells b (base+o) us) F ι (x5 H id (some Y)):=by
 obtain⟨b',base',hi',hF,hL,arr,t,fr,hh,hfr,vs,hc,hm⟩:=(st.own id X l4 hX).resolve_left (by simp[hi]);rw[hi]at hi';simp only[Option.some.injEq,Prod.mk.injEq]at hi';obtain⟨rfl,rfl⟩:=hi';obtain⟨arr0,t0,fr0,hh0,hsz0⟩:=hroom;rw[hh]at hh0;simp only[Option.some.injEq,Obj.cells.injEq]at hh0;obtain⟨rfl,rfl,rfl⟩:=hh0;obtain⟨e1,e2,e3,e4,e5,e6⟩:=EG b us (base+o) w;obtain⟨arr',f1,f2,f3,f4⟩:=e6 arr t fr hh;have hne:∀b':Nat,F b'->b'≠b:=fun b' hb he=>hF (he▸hb);have hev:Ev w (w.setCells b (base+o) us) F:=by
  refine⟨fun b' hb=>e5 b' (hne b' hb),fun b' arr1 t1 fr1 h=> ?_⟩;by_cases hb:b'=b
  ·subst hb;rw[hh]at h;simp only[Option.some.injEq,Obj.cells.injEq]at h;obtain⟨rfl,rfl,rfl⟩:=h;exact⟨arr',fr,f1,f2⟩
  ·exact⟨arr1,fr1,by rw[e5 b' hb];exact h,rfl⟩
 refine⟨?_,hev,fun _ h=>h,fun _ h=> .inl h,fun _ _ h=>h,?_⟩
 ·exact{
   os:=by rw[e1];exact st.os
   tape:=by rw[e2];exact st.tape
   output:=by rw[e3];exact st.output
   size:=by rw[e4];exact st.size
   old:=fun b' hb hL'=>by
    rw[e5 b' (by rintro rfl;rcases hL with hL|hL;exact hL' hL;omega)];exact st.old b' hb hL'
   shp:=fun b' arr1 t1 fr1 h=>by
    obtain⟨a2,f2,h2,h3⟩:=st.shp b' arr1 t1 fr1 h;obtain⟨a4,f4,h4,h5⟩:=hev.shp b' a2 t1 f2 h2;exact⟨a4,f4,h4,h5.trans h3⟩
   fr:=fun b' hb=>by rw[e4];exact st.fr b' hb
   own:=by
    intro id' X' hH hX';by_cases he:id=id'
    ·subst he;rw[F8]at hH;simp only[Option.some.injEq]at hH;subst hH;obtain⟨vs',hB,hcs⟩:=hY;refine .inr ⟨b,base,hi,hF,hL,arr',t,fr,f1,by rw[f2];exact hfr,vs',?_,hB.ev hev (fun _ h=>h) (fun _ _ h=>h)⟩;intro j x hx;rcases hcs j x hx with ⟨g1,g2,g3⟩|⟨g1,g2⟩
     ·have g4:=f4 (j-o) (by omega) (by omega);rw[show base+o+(j-o)=base+j by omega]at g4;exact⟨g4.trans g3,h1 _ (List.mem_of_getElem? g3)⟩
     ·rw[f3 (base+j) (by omega)];rw[kS hh]at g2;exact g2
    ·rw[C4 _ _ he]at hH;rcases st.own id' X' hH hX' with h0|⟨b2,base2,g1,g2,g3,arr2,t2,fr2,g4,g5,vs2,g6,g7⟩
     ·exact .inl h0
     have hb2:b2≠b:=fun e=>he (st.inj id id' X X' b base base2 l4 hX hH hX' hi (e▸g1));exact .inr ⟨b2,base2,g1,g2,g3,arr2,t2,fr2,by rw[e5 b2 hb2];exact g4,g5,vs2,g6,g7.ev hev (fun _ h=>h) (fun _ _ h=>h)⟩
   inj:=by
    intro i1 i2 X1 X2 c c1 c2 hH1 hX1 hH2 hX2 hi1 hi2;have low:∀i X,x5 H id (some Y) i=some X->X≠ .dead->∃X',H i=some X'/\X'≠ .dead:=by
     intro i X' h h';by_cases he:id=i
     ·subst he;exact⟨X,l4,hX⟩
     ·rw[C4 _ _ he]at h;exact⟨X',h,h'⟩
    obtain⟨Z1,k1,k2⟩:=low i1 X1 hH1 hX1;obtain⟨Z2,k3,k4⟩:=low i2 X2 hH2 hX2;exact st.inj i1 i2 Z1 Z2 c c1 c2 k1 k2 k3 k4 hi1 hi2}
 ·intro id' x hx;by_cases he:id=id'
  ·subst he;rw[F8];simp
  ·rw[C4 _ _ he];exact hd id' x hx
theorem Wa (w:World) (b n:Nat) {arr:Array Value} {t:TypeId} {fr:Nat×Nat} (hh:w.heap[b]? =some (Obj.cells arr t fr)):
  (w.freeze ⟨b,n,none⟩ 1).heap[b]? =some (Obj.cells arr t (if fr.1==fr.2 then (n,n+1)else (min fr.1 n,max fr.2 (n+1)))):=by
 simp[World.freeze,Array.getElem?_modify,hh]
theorem Wb (w:World) {b b' n:Nat} (h:b'≠b):(w.freeze ⟨b,n,none⟩ 1).heap[b']? =w.heap[b']? :=by
 simp[World.freeze,Array.getElem?_modify,Ne.symm h]
theorem Wc (w:World) (b n:Nat):(w.freeze ⟨b,n,none⟩ 1).os=w.os/\(w.freeze ⟨b,n,none⟩ 1).tape=w.tape/\(w.freeze ⟨b,n,none⟩ 1).output=w.output/\(w.freeze ⟨b,n,none⟩ 1).heap.size=w.heap.size:=by
 simp[World.freeze]
theorem Xv (st:St w0 L w F ι H) (hd:∀id x,ι id=some x->H id≠none) {id:Id} {b base:Nat} {X:B} (l4:H id=some X) (hX:X≠ .dead) (hi:ι id=some (b,base)):
  ∃(n:Nat) (t:TypeId),w.shape? b=some (t,n)/\Nx w0 L w F ι (w.freeze ⟨b,n,none⟩ 1) F ι H:=by
 obtain⟨b',base',hi',hF,hL,arr,t,fr,hh,hfr,vs,hc,hm⟩:=(st.own id X l4 hX).resolve_left (by simp[hi]);rw[hi]at hi';simp only[Option.some.injEq,Prod.mk.injEq]at hi';obtain⟨rfl,rfl⟩:=hi';refine⟨arr.size,t,by unfold World.shape?;rw[hh],?_⟩;obtain⟨e1,e2,e3,e4⟩:=Wc w b arr.size;have e5:∀b':Nat,b'≠b->(w.freeze ⟨b,arr.size,none⟩ 1).heap[b']? =w.heap[b']? :=fun b' h=>Wb w h;have f1:=Wa w b arr.size hh;generalize w.freeze ⟨b,arr.size,none⟩ 1=w' at*
 have hfr':ka (if fr.1==fr.2 then (arr.size,arr.size+1)else (min fr.1 arr.size,max fr.2 (arr.size+1))) arr.size:=by
  split
  ·exact .inr (Nat.le_refl _)
  ·rename_i hne;rcases hfr with h|h
   ·simp[h]at hne
   ·exact .inr (by show arr.size<=min fr.1 arr.size;omega)
 generalize (if fr.1==fr.2 then (arr.size,arr.size+1)else (min fr.1 arr.size,max fr.2 (arr.size+1)))=fr' at*
 have hne:∀b':Nat,F b'->b'≠b:=fun b' hb he=>hF (he▸hb);have hev:Ev w w' F:=by
  refine⟨fun b' hb=>e5 b' (hne b' hb),fun b' arr1 t1 fr1 h=> ?_⟩;by_cases hb:b'=b
  ·subst hb;rw[hh]at h;simp only[Option.some.injEq,Obj.cells.injEq]at h;obtain⟨rfl,rfl,rfl⟩:=h;exact⟨arr,fr',f1,rfl⟩
  ·exact⟨arr1,fr1,by rw[e5 b' hb];exact h,rfl⟩
 refine⟨?_,hev,fun _ h=>h,fun _ h=> .inl h,fun _ _ h=>h,hd⟩;exact{
   os:=by rw[e1];exact st.os
   tape:=by rw[e2];exact st.tape
   output:=by rw[e3];exact st.output
   size:=by rw[e4];exact st.size
   old:=fun b' hb hL'=>by
    rw[e5 b' (by rintro rfl;rcases hL with hL|hL;exact hL' hL;omega)];exact st.old b' hb hL'
   shp:=fun b' arr1 t1 fr1 h=>by
    obtain⟨a2,f2,h2,h3⟩:=st.shp b' arr1 t1 fr1 h;obtain⟨a4,f4,h4,h5⟩:=hev.shp b' a2 t1 f2 h2;exact⟨a4,f4,h4,h5.trans h3⟩
   fr:=fun b' hb=>by rw[e4];exact st.fr b' hb
   own:=by
    intro id' X' hH hX';rcases st.own id' X' hH hX' with h0|⟨b2,base2,g1,g2,g3,arr2,t2,fr2,g4,g5,vs2,g6,g7⟩
    ·exact .inl h0
    by_cases hb2:b2=b
    ·subst hb2;rw[hh]at g4;simp only[Option.some.injEq,Obj.cells.injEq]at g4;obtain⟨rfl,rfl,rfl⟩:=g4;exact .inr ⟨b2,base2,g1,g2,g3,arr,t,fr',f1,hfr',vs2,g6,g7.ev hev (fun _ h=>h) (fun _ _ h=>h)⟩
    ·exact .inr ⟨b2,base2,g1,g2,g3,arr2,t2,fr2,by rw[e5 b2 hb2];exact g4,g5,vs2,g6,g7.ev hev (fun _ h=>h) (fun _ _ h=>h)⟩
   inj:=st.inj}
theorem sq {b:Nat} {base o:Nat} {us:List Value} {X:B} {id:Id} (st:St w0 L w F ι H) (l4:H id=some X) (hX:X≠ .dead) (hi:ι id=some (b,base)) (hroom:ab w b (base+o+us.length)):
  w.there b (base+o) us.length:=by
 obtain⟨b',base',hi',hF,hL,arr,t,fr,hh,hfr,vs,hc,hm⟩:=(st.own id X l4 hX).resolve_left (by simp[hi]);rw[hi]at hi';simp only[Option.some.injEq,Prod.mk.injEq]at hi';obtain⟨rfl,rfl⟩:=hi';obtain⟨arr0,t0,fr0,hh0,hsz0⟩:=hroom;rw[hh]at hh0;simp only[Option.some.injEq,Obj.cells.injEq]at hh0;obtain⟨rfl,rfl,rfl⟩:=hh0;intro j hj;have d8:base+o+j<arr.size:=by omega
 refine⟨by rw[kS hh];simp[d8],?_⟩;have:=hfr.no (base+o+j) d8;simp only[World.frozen?,hh];simp only[Bool.and_eq_false_iff,decide_eq_false_iff_not];omega
theorem iD (st:St w0 L w F ι H) {id:Id} {X:B} {b base:Nat} (hH:H id=some X) (hX:X≠ .dead) (hi:ι id=some (b,base)):
  ∃vs:List Value,BR w F ι X vs/\∀(j:Nat) x,vs[j]? =some x->w.cell? ⟨b,base+j,none⟩=some x/\x.oneCell'=true:=by
 obtain⟨b',base',hi',_,_,arr,t,fr,hh,_,vs,hc,hm⟩:=(st.own id X hH hX).resolve_left (by simp[hi]);rw[hi]at hi';simp only[Option.some.injEq,Prod.mk.injEq]at hi';obtain⟨rfl,rfl⟩:=hi';exact⟨vs,hm,fun j x hx=>by rw[kS hh];exact hc j x hx⟩
theorem BR.len {w:World} {F:Nat->Prop} {ι:Io} {X:B} {vs:List Value} (h:BR w F ι X vs) (hX:X≠ .dead):X.len=vs.length:=by
 cases X with
 |sc us=>obtain rfl:us=vs:=h;rfl
 |pl xs=>exact n7.length h
 |mx xs=>exact RL.length h
 |dead=>exact absurd rfl hX
theorem DL (st:St w0 L w F ι H) {id:Id} {X:B} {b base k:Nat} (hH:H id=some X) (hX:X≠ .dead) (hi:ι id=some (b,base)) (hpos:0<k) (hk:k<=X.len):ab w b (base+k):=by
 obtain⟨b',base',hi',hF,hL,arr,t',fr,hh,hfr,vs,hc,hm⟩:=(st.own id X hH hX).resolve_left (by simp[hi]);rw[hi]at hi';simp only[Option.some.injEq,Prod.mk.injEq]at hi';obtain⟨rfl,rfl⟩:=hi';have hvl:=BR.len hm hX;refine⟨arr,t',fr,hh,?_⟩;have d8:k-1<vs.length:=by omega
 have h3:=(hc (k-1) vs[k-1] (by simp[d8])).1;have:=(Array.getElem?_eq_some_iff.1 h3).1;omega
end
end Go.Scr
namespace Go.Scr
section
variable {w:World} {F:Nat->Prop} {ι:Io}
def wG:V->Bool
 | .u=>false
 | .a _=>false
 | .t _=>false
 | .s y=>y.oneCell'
 |_=>true
theorem DA {v:V} (h:wG v=true) {x:Value} (hr:R w F ι v x):x.oneCell'=true:=by
 cases v with
 |u=>cases h
 |a _=>cases h
 |t _=>cases h
 |s y=>rw[hr.s_inv];exact h
 |z n vs=>rcases hr.z_inv with ⟨_,_,rfl,_⟩|⟨_,_,rfl,_⟩<;>rfl
 |zz e n vs=>rcases hr.zz_inv with ⟨_,_,rfl,_⟩|⟨_,_,_,rfl,_⟩<;>rfl
 |o e id off n=>rcases hr.o_inv with ⟨_,rfl,_⟩|⟨_,_,_,rfl,_⟩<;>rfl
 |p id off=>obtain⟨_,_,rfl,_⟩:=hr.p_inv;rfl
 |qv vs off=>obtain⟨_,rfl,_⟩:=hr.qv_inv;rfl
 |q xs off=>obtain⟨_,_,rfl,_⟩:=hr.q_inv;rfl
 |f fn a b=>obtain⟨_,_,rfl,_⟩:=hr.f_inv;rfl
 |i t v=>obtain⟨_,rfl,_⟩:=hr.i_inv;rfl
 |ub=>cases hr with|fz h=>cases h;rfl
theorem Xy {x:V} {r:List V}:oM (x::r)=(wG x&&oM r):=by
 cases x<;>rfl
theorem Dz:∀{cs:List V} {vs:List Value},oM cs=true->RL w F ι cs vs->∀u∈vs,u.oneCell'=true
 |_,_,_,.nil=>by simp
 |_,_,h,.cons hr hl=>by
  rw[Xy,Bool.and_eq_true]at h;intro u hu;rcases List.mem_cons.1 hu with rfl|hu
  ·exact DA h.1 hr
  ·exact Dz h.2 hl u hu
theorem wH {x:Value} (h:x.oneCell'=true):x.cells= #[x]:=by cases x<;>first|rfl|cases h
theorem pi {v:V} {K:List V->Prop} (h:iX v K):∃cs,K cs/\∀(w:World) (F:Nat->Prop) (ι:Io) (x:Value),R w F ι v x->RL w F ι cs x.cells.toList/\∀u∈x.cells.toList,u.oneCell'=true:=by
 have one:∀v,wG v=true->∀(w:World) (F:Nat->Prop) (ι:Io) (x:Value),R w F ι v x->RL w F ι [v] x.cells.toList/\∀u∈x.cells.toList,u.oneCell'=true:=by
  intro v hv w F ι x hr;have h1:=DA hv hr;rw[wH h1];exact⟨.cons hr .nil,by simpa using h1⟩
 cases v with
 |u=>exact h.elim
 |t _=>exact h.elim
 |a cs=>
  obtain⟨h1,h2⟩:=B0.1 h;refine⟨cs,h2,fun w F ι x hr=> ?_⟩;obtain⟨vs,rfl,hl⟩:=hr.a_inv;exact⟨hl,Dz h1 hl⟩
 |s y=>
  obtain⟨h1,h2⟩:=B0.1 h;exact⟨_,h2,one _ h1⟩
 |_=>exact⟨_,h,one _ rfl⟩
theorem WL {α:Type} {xs:List α} {j:Nat} {cs:List α} (h:j+cs.length<=xs.length):(lay xs j cs).length=xs.length:=by
 unfold lay;split
 ·simp
 ·simp;omega
theorem CJ {α:Type} {xs cs:List α} {j k:Nat} {x:α} (hb:j+cs.length<=xs.length) (h:(lay xs j cs)[k]? =some x):
  (j<=k/\k<j+cs.length/\cs[k-j]? =some x)\/((k<j\/j+cs.length<=k)/\xs[k]? =some x):=by
 unfold lay at h;split at h
 ·rename_i c;by_cases hk:j=k
  ·subst hk;left;have d8:j<xs.length:=by simp at hb;omega
   simp[d8]at h;exact⟨Nat.le_refl _,by simp,by simpa using h⟩
  ·right;rw[List.getElem?_set_ne hk]at h;exact⟨by simp;omega,h⟩
 ·by_cases h1:k<j
  ·right;rw[List.append_assoc,List.getElem?_append_left (by simp;omega),List.getElem?_take_of_lt h1]at h;exact⟨.inl h1,h⟩
  ·by_cases h2:k<j+cs.length
   ·left;rw[List.append_assoc,List.getElem?_append_right (by simp;omega),List.getElem?_append_left (by simp;omega)]at h;have:min j xs.length=j:=by omega
    simp only[List.length_take,this]at h;exact⟨by omega,h2,h⟩
   ·right;rw[List.append_assoc,List.getElem?_append_right (by simp;omega),List.getElem?_append_right (by simp;omega)]at h;have:min j xs.length=j:=by omega
    simp only[List.length_take,this,List.getElem?_drop]at h;rw[show j+cs.length+(k-j-cs.length)=k by omega]at h;exact⟨.inr (by omega),h⟩
theorem RL.lay {xs:List V} {vs:List Value} {cs:List V} {us:List Value} (h:RL w F ι xs vs) (k:RL w F ι cs us) (j:Nat):RL w F ι (Scr.lay xs j cs) (Scr.lay vs j us):=by
 unfold Scr.lay;cases k with
 |nil=>exact((h.take j).append .nil).append (h.drop _)
 |cons hr l=>
  cases l with
  |nil=>exact h.set j hr
  |cons hr2 l=>
   have e:=l.length;simp only[List.length_cons,e];exact((h.take j).append (.cons hr (.cons hr2 l))).append (h.drop _)
theorem n7.lay {xs:List V} {vs:List Value} {cs:List V} {us:List Value} (h:n7 w F xs vs) (k:n7 w F cs us) (j:Nat):n7 w F (Scr.lay xs j cs) (Scr.lay vs j us):=by
 unfold Scr.lay;cases k with
 |nil=>exact((h.take j).append .nil).append (h.drop _)
 |cons hr l=>
  cases l with
  |nil=>exact h.set j hr
  |cons hr2 l=>
   have e:=l.length;simp only[List.length_cons,e];exact((h.take j).append (.cons hr (.cons hr2 l))).append (h.drop _)
mutual
theorem Cp:∀{v x},dI v=true->R w F ι v x->RF w F v x
 |_,_,_,.fz h=>h
 |_,_,h,.o .. =>by simp[dI]at h
 |_,_,h,.o0=>by simp[dI]at h
 |_,_,h,.p .. =>by simp[dI]at h
 |_,_,h,.a l=> .a (jC (by simpa [dI]using h) l)
 |_,_,h,.t l=> .t (jC (by simpa [dI]using h) l)
 |_,_,h,.f l l'=> .f (jC (by simp[dI]at h;exact h.1) l) (jC (by simp[dI]at h;exact h.2) l')
 |_,_,h,.i r=> .i (Cp (by simpa [dI]using h) r)
theorem jC:∀{v x},bP v=true->RL w F ι v x->n7 w F v x
 |_,_,_,.nil=> .nil
 |_,_,h,.cons r l=> .cons (Cp (by simp[bP]at h;exact h.1) r) (jC (by simp[bP]at h;exact h.2) l)
end
theorem Ci (off:Nat):∀(l:List Value) (k:Nat) (arr:Array Value),off+k+l.length<=arr.size->
  ((l.zipIdx k).foldl (fun cs (p:Value×Nat)=>cs.setIfInBounds (off+p.2) p.1) arr).toList=arr.toList.take (off+k)++l++arr.toList.drop (off+k+l.length)
 |[],k,arr,h=>by simp
 |v::r,k,arr,h=>by
  simp only[List.zipIdx_cons,List.foldl_cons];rw[Ci off r (k+1) _ (by simp at h ⊢;omega)];have d8:off+k<arr.toList.length:=by simp at h ⊢;omega
  simp only[Array.toList_setIfInBounds];rw[show off+(k+1)=off+k+1 by omega,List.take_add_one];simp only[List.getElem?_set_self d8,Option.toList_some,List.append_assoc,List.singleton_append,List.length_cons];rw[List.take_set_of_le (Nat.le_refl _),List.drop_set_of_lt (by omega)];rw[show off+k+1+r.length=off+k+(r.length+1) by omega]
theorem WK {arr us:Array Value} {off:Nat} (h:off+us.size<=arr.size):(us.zipIdx.foldl (fun cs (p:Value×Nat)=>cs.setIfInBounds (off+p.2) p.1) arr).toList=lay arr.toList off us.toList:=by
 have h1:=Ci off us.toList 0 arr (by simpa using h);have h2:us.zipIdx.foldl (fun cs (p:Value×Nat)=>cs.setIfInBounds (off+p.2) p.1) arr=(us.toList.zipIdx 0).foldl (fun cs (p:Value×Nat)=>cs.setIfInBounds (off+p.2) p.1) arr:=by
  rw[<-Array.foldl_toList,Array.toList_zipIdx]
 rw[h2,h1];unfold lay;split
 ·rename_i c hc;have d8:off<arr.toList.length:=by
   have:us.toList.length=1:=by rw[hc];rfl
   simp at this ⊢;omega
  simp only[Nat.add_zero,hc,List.length_singleton];rw[List.set_eq_take_append_cons_drop,if_pos d8];simp
 ·simp
end
end Go.Scr
namespace Go.Scr
section
variable {C:m6} {ev:Operand->V} {Hr:Hp} {KN KP:V->List (Id×B)->Prop} {o:Oper}
def jX (v:Option V) (d n:Nat):Prop:=(v=none/\n=d)\/∃k i,v=some (.s (.int k i))/\0<=i/\n=i.toNat
theorem nB {v:Option V} {d:Nat} {K:Nat->Prop} (h:R5 v d K):∃n,jX v d n/\K n:=by
 unfold R5 at h;split at h
 ·exact⟨_,.inl ⟨rfl,rfl⟩,h⟩
 ·exact⟨_,.inr ⟨_,_,rfl,h.1,rfl⟩,h.2⟩
 ·exact h.elim
theorem gz {P:Program} {k:IntKind} {i:Int} {y:Nat} (code:BoundsCode) (h0:0<=i) (h:i.toNat<=y) (w:World):(Instr.sliceBound (.int k i) y code).run P w= .ok i.toNat w:=by
 have h1:i<=(y:Int):=by omega
 simp[Instr.sliceBound,asIntOf,h0,h1]
theorem zd {P:Program} {w:World} {F:Nat->Prop} {ι:Io} (a:Act) {lo hi mx:Option Operand} {l h m len cap:Nat} (isS:Bool) (bl:jX (lo.map ev) 0 l) (bh:jX (hi.map ev) len h) (bm:jX (mx.map ev) h m)
  (hlo:∀x,lo=some x->R w F ι (ev x) (a.eval x)) (hhi:∀x,hi=some x->R w F ι (ev x) (a.eval x)) (hmx:∀x,mx=some x->R w F ι (ev x) (a.eval x))
  (hs:(mx.map ev).isNone=true\/(hi.map ev).isSome=true) (h1:l<=h) (h2:h<=m) (h3:m<=cap):
  ∃m',(Instr.sliceBounds isS len cap (lo.map a.eval) (hi.map a.eval) (mx.map a.eval)).run P w= .ok (l,h,m') w/\h<=m'/\m'<=cap:=by
 have val:∀{v:Option Operand} {d n:Nat},jX (v.map ev) d n->(∀x,v=some x->R w F ι (ev x) (a.eval x))->(v=none/\n=d)\/∃x k i,v=some x/\a.eval x= .int k i/\0<=i/\n=i.toNat:=by
  intro v d n hb hr;cases v with
  |none=>
   rcases hb with ⟨_,h⟩|⟨k,i,h,_⟩
   ·exact .inl ⟨rfl,h⟩
   ·simp at h
  |some x=>
   rcases hb with ⟨h,_⟩|⟨k,i,h,hi,hn⟩
   ·simp at h
   ·simp at h;have:=hr x rfl;rw[h]at this;exact .inr ⟨x,k,i,rfl,this.s_inv,hi,hn⟩
 have L:=val bl hlo;have Hh:=val bh hhi;have M:=val bm hmx;unfold Instr.sliceBounds;rcases M with ⟨rfl,rfl⟩|⟨xm,km,im,rfl,em,zm,rfl⟩
 ·refine⟨cap,?_,by omega,Nat.le_refl _⟩;rcases Hh with ⟨rfl,rfl⟩|⟨xh,kh,ih,rfl,eh,zh,rfl⟩<;>rcases L with ⟨rfl,rfl⟩|⟨xl,kl,il,rfl,el,zl,rfl⟩
  ·simp
  ·simp[el,gz (P:=P) (k:=kl) _ zl h1]
  ·simp[eh,gz (P:=P) (k:=kh) _ zh (Nat.le_trans h2 h3)]
  ·simp[eh,el,gz (P:=P) (k:=kh) _ zh (Nat.le_trans h2 h3),gz (P:=P) (k:=kl) _ zl h1]
 ·refine⟨im.toNat,?_,h2,h3⟩;rcases Hh with ⟨rfl,rfl⟩|⟨xh,kh,ih,rfl,eh,zh,rfl⟩
  ·simp at hs
  ·rcases L with ⟨rfl,rfl⟩|⟨xl,kl,il,rfl,el,zl,rfl⟩
   ·simp[em,eh,gz (P:=P) (k:=km) _ zm h3,gz (P:=P) (k:=kh) _ zh h2]
   ·simp[em,eh,el,gz (P:=P) (k:=km) _ zm h3,gz (P:=P) (k:=kh) _ zh h2,gz (P:=P) (k:=kl) _ zl h1]
theorem a1A (hC:q6 C) {t:Nat} {x:Operand} {lo hi mx:Option Operand} (ho:o.op= .slice t x lo hi mx) (h:sv C t (ev x) (lo.map ev) (hi.map ev) (mx.map ev) fun v=>KN v []):A9 C o ev Hr KN KP:=by
 have mem:∀(w:World) (F:Nat->Prop) (ι:Io) (a:Act),(∀y,y∈o.op.operands->R w F ι (ev y) (a.eval y))->R w F ι (ev x) (a.eval x)/\(∀y,lo=some y->R w F ι (ev y) (a.eval y))/\(∀y,hi=some y->R w F ι (ev y) (a.eval y))/\(∀y,mx=some y->R w F ι (ev y) (a.eval y)):=by
  intro w F ι a hR;refine⟨hR x (by simp[ho,Op.operands]),?_,?_,?_⟩<;>(rintro y rfl;exact hR y (by simp[ho,Op.operands]))
 have h:=a1z h;unfold xw at h;cases ht:C.ty t with
 |none=>simp[ht]at h
 |some ti=>
  have hu:=(hC.ty t ti ht).1;simp only[ht]at h;cases hd:ti.desc<;>simp only[hd]at h
  case string=>
   rw[hd]at hu;split at h
   ·rename_i b hx;obtain⟨hh,bh,h⟩:=nB h;obtain⟨ll,bl,h⟩:=nB h;obtain⟨hm,h1,h2,hk⟩:=B0.1 h;refine .inl ⟨_,_,hk,F6 fun w0 L w F ι H a st hr hR=>⟨.string (b.extract ll hh),?_,.sc⟩⟩;obtain⟨r1,r2,r3,r4⟩:=mem w F ι a hR;rw[hx]at r1;have hmx:mx=none:=by cases mx<;>simp_all
    subst hmx;obtain⟨m',hb,_⟩:=zd (P:=C.P) (ev:=ev) a (m:=hh) (cap:=b.size) false bl bh (.inl ⟨rfl,rfl⟩) r2 r3 r4 (.inl rfl) h1 (Nat.le_refl _) h2;unfold execOp;simp only[Option.map_none]at hb;simp[ho,r1.s_inv,Instr.sliceAt,Instr.slice,run_underlying hu,hb]
   ·exact h.elim
  case slice el=>
   rw[hd]at hu;cases hel:C.ty el with
   |none=>simp[hel]at h
   |some te=>
    simp only[hel]at h;obtain⟨hh,bh,h⟩:=nB h;obtain⟨ll,bl,h⟩:=nB h;obtain⟨hm,h⟩:=B0.1 h;obtain⟨mm,bm,h1,h2,h⟩:=nB h;have hs:(mx.map ev).isNone=true\/(hi.map ev).isSome=true:=by simpa using hm
    have run:∀(w:World) (F:Nat->Prop) (ι:Io) (a:Act) (ad:Option Addr) (len cap:Nat),(∀y,y∈o.op.operands->R w F ι (ev y) (a.eval y))->a.eval x= .slice ad len cap->jX (hi.map ev) len hh->mm<=cap->
      ∃m',(execOp a.eval o).run C.P w= .ok (.value (.slice (if m'=ll then ad else ad.map (·.add (ll*te.size))) (hh-ll) (m'-ll))) w/\hh<=m'/\m'<=cap:=by
     intro w F ι a ad len cap hR hv bh hc;obtain⟨r1,r2,r3,r4⟩:=mem w F ι a hR;obtain⟨m',hb,h5,h6⟩:=zd (P:=C.P) (ev:=ev) a true bl bh bm r2 r3 r4 hs h1 h2 hc;refine⟨m',?_,h5,h6⟩;unfold execOp;simp[ho,hv,Instr.sliceAt,Instr.slice,run_underlying hu,hb,bq hC hel]
    split at h
    ·rename_i n vs hx;obtain⟨hsz,h3,hk⟩:=B0.1 h;have hsz':=Nat.eq_of_beq_eq_true hsz;simp only[hx]at bh;refine .inl ⟨_,_,hk,F6 fun w0 L w F ι H a st hr hR=> ?_⟩;have r1:=hR x (by simp[ho,Op.operands]);rw[hx]at r1;rcases r1.z_inv with ⟨ad,cap,he,rfl,rfl⟩|⟨ad,cap,he,hc,hcap⟩
     ·obtain⟨m',e1,e2,e3⟩:=run w F ι a ad 0 cap hR he bh (by omega);refine⟨_,e1,?_⟩;rw[show hh-ll=0 by omega];simpa [sub]using R.fz RF.z0
     ·obtain⟨m',e1,e2,e3⟩:=run w F ι a (some ad) n cap hR he bh (by omega);refine⟨_,e1,?_⟩;by_cases hm':m'=ll
      ·rw[show hh-ll=0 by omega];simpa [sub,hm']using R.fz RF.z0
      ·simp only[hm',if_false,Option.map_some];refine .fz (.z (by omega) ?_);rw[hsz',Nat.mul_one,ko hc.2.1];exact⟨hc.1,rfl,fun j y hy=>by rw[Nat.add_assoc];exact hc.2.2 _ _ (db hy)⟩
    ·rename_i e n xs hx;obtain⟨hsz,h3,hk⟩:=B0.1 h;have hsz':=Nat.eq_of_beq_eq_true hsz;simp only[hx]at bh;refine .inl ⟨_,_,hk,F6 fun w0 L w F ι H a st hr hR=> ?_⟩;have r1:=hR x (by simp[ho,Op.operands]);rw[hx]at r1;rcases r1.zz_inv with ⟨ad,cap,he,rfl,rfl⟩|⟨ad,cap,vs,he,hl,hc,hcap⟩
     ·obtain⟨m',e1,e2,e3⟩:=run w F ι a ad 0 cap hR he bh (by omega);refine⟨_,e1,?_⟩;rw[show hh-ll=0 by omega];simpa [sub]using R.fz RF.zz0
     ·obtain⟨m',e1,e2,e3⟩:=run w F ι a (some ad) n cap hR he bh (by omega);refine⟨_,e1,?_⟩;by_cases hm':m'=ll
      ·rw[show hh-ll=0 by omega];simpa [sub,hm']using R.fz RF.zz0
      ·simp only[hm',if_false,Option.map_some];refine .fz (.zz (by omega) (hl.sub _ _) ?_);rw[hsz',ko hc.2.1];exact⟨hc.1,rfl,fun j y hy=>by rw[Nat.add_assoc];exact hc.2.2 _ _ (db hy)⟩
    ·rename_i e id off n hx;obtain⟨hsz,h3,hk⟩:=B0.1 h;have hsz':=Nat.eq_of_beq_eq_true hsz;simp only[hx]at bh;refine .inl ⟨_,_,hk,F6 fun w0 L w F ι H a st hr hR=> ?_⟩;have r1:=hR x (by simp[ho,Op.operands]);rw[hx]at r1;rcases r1.o_inv with ⟨ad,he,rfl⟩|⟨b,base,cap,he,hi,hcap,hroom⟩
     ·obtain⟨m',e1,e2,e3⟩:=run w F ι a ad 0 0 hR he bh (by omega);refine⟨_,e1,?_⟩;rw[show hh-ll=0 by omega,show m'-ll=0 by omega];exact .o0
     ·obtain⟨m',e1,e2,e3⟩:=run w F ι a (some ⟨b,base+off,none⟩) n cap hR he bh (by omega);refine⟨_,e1,?_⟩;by_cases hm':m'=ll
      ·rw[show hh-ll=0 by omega,show m'-ll=0 by omega];exact .o0
      ·simp only[hm',if_false,Option.map_some];rw[hsz',add_lit,Nat.add_assoc];refine .o hi (by omega) ?_;obtain⟨arr,t',fr,g1,g2⟩:=hroom;refine⟨arr,t',fr,g1,?_⟩;have:ll*e+(m'-ll)*e<=cap*e:=by
        rw[<-Nat.add_mul];exact Nat.mul_le_mul_right _ (by omega)
       omega
    ·rename_i hx;obtain⟨h3,hk⟩:=h;simp only[hx]at bh;refine .inl ⟨_,_,hk,F6 fun w0 L w F ι H a st hr hR=> ?_⟩;have r1:=hR x (by simp[ho,Op.operands]);rw[hx]at r1;obtain⟨m',e1,e2,e3⟩:=run w F ι a none 0 0 hR r1.s_inv bh (by omega);refine⟨_,e1,?_⟩;rw[show hh-ll=0 by omega,show m'-ll=0 by omega];have hn:∀(f:Addr->Addr) (p:Prop) [Decidable p],(if p then (none:Option Addr)else Option.map f none)=none:=by intro f p _;split<;>rfl
     rw[hn];exact .sc
    ·exact h.elim
theorem WR (hC:q6 C) {c:Call} {x:Operand} {b:ByteArray} {t:Nat} {ti:TI} (ho:o.op= .call c) (hc:c.callee= .builtin .len) (ha:c.args= #[x]) (htt:c.argTypes[0]? =some t) (ht:C.ty t=some ti) (hd:ti.desc= .string)
  (hx:ev x= .s (.string b)) (h:KN (.s (.int .i64 b.size)) []):A9 C o ev Hr KN KP:=by
 have hu:=(hC.ty t ti ht).1;rw[hd]at hu;refine .inl ⟨_,_,h,F6 fun w0 L w F ι H a st hr hR=>⟨_,?_,.sc⟩⟩;have h1:=hR x (by simp[ho,Op.operands,Call.operands,hc,ha]);rw[hx]at h1;unfold execOp;simp[ho,resolve,hc,ha,invoke,builtin,Builtin.len_,htt,h1.s_inv,run_underlying hu,goInt]
theorem WS (hC:q6 C) {c:Call} {x:Operand} {t el:Nat} {ti:TI} (ho:o.op= .call c) (hc:c.callee= .builtin .len) (ha:c.args= #[x]) (htt:c.argTypes[0]? =some t) (ht:C.ty t=some ti) (hd:ti.desc= .slice el)
  (h:wi (ev x) fun n=>KN (.s (.int .i64 n)) []):A9 C o ev Hr KN KP:=by
 have hu:=(hC.ty t ti ht).1;rw[hd]at hu;have run:∀(w:World) (a:Act) (ad:Option Addr) (n cap:Nat),a.eval x= .slice ad n cap->(execOp a.eval o).run C.P w= .ok (.value (.int .i64 n)) w:=by
  intro w a ad n cap he;unfold execOp;simp[ho,resolve,hc,ha,invoke,builtin,Builtin.len_,htt,he,run_underlying hu,goInt]
 unfold wi at h;split at h
 ·rename_i n vs K hx;refine .inl ⟨_,_,h,F6 fun w0 L w F ι H a st hr hR=>⟨_,?_,.sc⟩⟩;have h1:=hR x (by simp[ho,Op.operands,Call.operands,hc,ha]);rw[hx]at h1;rcases h1.z_inv with ⟨_,_,he,rfl,_⟩|⟨_,_,he,_⟩<;>exact run w a _ _ _ he
 ·rename_i e n vs K hx;refine .inl ⟨_,_,h,F6 fun w0 L w F ι H a st hr hR=>⟨_,?_,.sc⟩⟩;have h1:=hR x (by simp[ho,Op.operands,Call.operands,hc,ha]);rw[hx]at h1;rcases h1.zz_inv with ⟨_,_,he,rfl,_⟩|⟨_,_,_,he,_⟩<;>exact run w a _ _ _ he
 ·rename_i e id off n K hx;refine .inl ⟨_,_,h,F6 fun w0 L w F ι H a st hr hR=>⟨_,?_,.sc⟩⟩;have h1:=hR x (by simp[ho,Op.operands,Call.operands,hc,ha]);rw[hx]at h1;rcases h1.o_inv with ⟨_,he,rfl⟩|⟨_,_,_,he,_⟩<;>exact run w a _ _ _ he
 ·rename_i K hx;refine .inl ⟨_,_,h,F6 fun w0 L w F ι H a st hr hR=>⟨_,?_,.sc⟩⟩;have h1:=hR x (by simp[ho,Op.operands,Call.operands,hc,ha]);rw[hx]at h1;exact run w a _ _ _ h1.s_inv
 ·exact h.elim
end
end Go.Scr
namespace Go.Scr
section
variable {C:m6} {ev:Operand->V} {Hr:Hp} {KN KP:V->List (Id×B)->Prop} {o:Oper}
theorem yP {d:Nat} {H H':Hp} {X:B} (h:A6 d H [(.d d 0,X)]=some H'):H (.d d 0)=none/\H'=x5 H (.d d 0) (some X):=by
 simp only[A6,O9,Nat.beq_refl]at h;cases hh:H (.d d 0)with
 |none=>simp[hh]at h;exact⟨rfl,h.symm⟩
 |some x=>simp[hh]at h
theorem mN {v:V} {X:B} (h:∀(w0:World) (L:Nat->Prop) (w:World) (F:Nat->Prop) (ι:Io) (H:Hp) (a:Act),St w0 L w F ι H->(∀id b,Hr id=some b->H id=some b)->(∀x,x∈o.op.operands->R w F ι (ev x) (a.eval x))->
   ∃(w1:World) (arr:Array Value) (t:TypeId) (fr:Nat×Nat) (x:Value) (vs:List Value),(w1=w\/w1=w.drew)/\(execOp a.eval o).run C.P w= .ok (.value x) (w1.alloc (.cells arr t fr))/\ka fr arr.size/\
    (∀(j:Nat) y,vs[j]? =some y->arr[j]? =some y/\y.oneCell'=true)/\BR w F ι X vs/\
    ∀(w':World) (ι':Io),w'.heap[w1.heap.size]? =some (Obj.cells arr t fr)->ι' (.d (z6 o.dst) 0)=some (w1.heap.size,0)->R w' F ι' v x):Sm C o ev Hr v [(.d (z6 o.dst) 0,X)]:=by
 intro w0 L w F ι H H' a st hr hx _ hd ha next Q hn
 obtain⟨hnone,rfl⟩:=yP ha;obtain⟨w1,arr,t,fr,x,vs,hw,hrun,hfr,hv,hB,hR⟩:=h w0 L w F ι H a st hr hx;unfold Oper.wp;rw[hrun];have hnx:Nx w0 L w F ι (w1.alloc (.cells arr t fr)) F (x5 ι (.d (z6 o.dst) 0) (some (w1.heap.size,0))) (x5 H (.d (z6 o.dst) 0) (some X)):=by
  rcases hw with rfl|rfl
  ·exact wC st hd hnone hfr hv hB
  ·exact(wC st.drew hd hnone hfr hv (hB.ev (Ev.drew w F) (fun _ h=>h) (fun _ _ h=>h))).pre (Ev.drew w F)
 exact hn x _ F _ hnx (hR _ _ (pz _ _) (F8 _ _ _))
theorem ta (hC:q6 C) {t:Nat} {ti:TI} (ht:C.ty t=some ti):∃z:Value,(∀w,(zeroValue t).run C.P w= .ok z w)/\z.cells.toList=ti.zero/\ti.zero.length=ti.size/\∀u∈ti.zero,u.oneCell'=true:=by
 obtain⟨_,i,z,hi,hs,hb,hz,hc,hl,h1⟩:=hC.ty t ti ht;exact⟨z,fun w=>by simp[zeroValue,typeInfo,hi,hz],hc,hl,by simpa using h1⟩
theorem HD (hC:q6 C) {el:Nat} {ti:TI} (ho:o.op= .alloc el) (ht:C.ty el=some ti) (h:KN (.p (.d (z6 o.dst) 0) 0) [(.d (z6 o.dst) 0,.sc ti.zero)]):A9 C o ev Hr KN KP:=by
 obtain⟨z,hz,hc,hl,h1⟩:=ta hC ht;refine .inl ⟨_,_,h,mN fun w0 L w F ι H a st hr hR=>⟨w,z.cells,el,(0,0),.pointer (some ⟨w.heap.size,0,none⟩),ti.zero,.inl rfl,?_,?_,?_,rfl,?_⟩⟩
 ·unfold execOp;simp[ho,Instr.alloc,newVar,newRow,hz]
 ·exact .inl rfl
 ·intro j y hy;rw[<-hc]at hy;exact⟨by simpa using hy,h1 _ (by rw[<-hc];exact List.mem_of_getElem? hy)⟩
 ·intro w' ι' hh hi;have:=R.p (w:=w') (F:=F) (off:=0) hi;simpa using this
theorem zf {el:Nat} {x:Operand} {cs:List V} {X:B} (ho:o.op= .box el x) (hX:∀(w:World) (F:Nat->Prop) (ι:Io) y,R w F ι (ev x) y->BR w F ι X y.cells.toList/\∀u∈y.cells.toList,u.oneCell'=true)
  (h:KN (.p (.d (z6 o.dst) 0) 0) [(.d (z6 o.dst) 0,X)]):A9 C o ev Hr KN KP:=by
 refine .inl ⟨_,_,h,mN fun w0 L w F ι H a st hr hR=> ?_⟩;obtain⟨hB,h1⟩:=hX w F ι _ (hR x (by simp[ho,Op.operands]));refine⟨w,(a.eval x).cells,el,(0,0),.pointer (some ⟨w.heap.size,0,none⟩),(a.eval x).cells.toList,.inl rfl,?_,?_,?_,hB,?_⟩
 ·unfold execOp;simp[ho,Instr.box,newVar,newRow]
 ·exact .inl rfl
 ·intro j y hy;exact⟨by simpa using hy,h1 _ (List.mem_of_getElem? hy)⟩
 ·intro w' ι' hh hi;have:=R.p (w:=w') (F:=F) (off:=0) hi;simpa using this
def Y9 (z:List Value) (n:Nat):List Value:=(List.replicate n z).flatten
theorem yb (z:List Value):∀n,(Y9 z n).length=n*z.length
 |0=>by simp[Y9]
 |n+1=>by
  have:=yb z n;unfold Y9 at this ⊢;rw[List.replicate_succ,List.flatten_cons,List.length_append,this,Nat.add_mul];omega
theorem sZ (z:List Value):∀(n j:Nat),j<n*z.length->(Y9 z n)[j]? =z[j%z.length]?
 |0,j,h=>by simp at h
 |n+1,j,h=>by
  have ih:=sZ z n;unfold Y9 at ih ⊢;rw[List.replicate_succ,List.flatten_cons];by_cases hj:j<z.length
  ·rw[List.getElem?_append_left hj,Nat.mod_eq_of_lt hj]
  ·rw[List.getElem?_append_right (by omega),ih (j-z.length) (by rw[Nat.add_mul]at h;omega)];congr 1;rw[<-Nat.mod_eq_sub_mod (by omega)]
theorem wo {z:Value} {zs:List Value} (hz:z.cells.toList=zs) (n:Nat):(madeCells z.cells (n*zs.length)).toList=Y9 zs n:=by
 apply List.ext_getElem?;intro j;have hsz:z.cells.size=zs.length:=by rw[<-hz];simp
 by_cases hj:j<n*zs.length
 ·rw[sZ zs n j hj];have hpos:0<zs.length:=by
   rcases Nat.eq_zero_or_pos zs.length with h|h
   ·simp[h]at hj
   ·exact h
  have d8:j%zs.length<zs.length:=Nat.mod_lt _ hpos;unfold madeCells;simp only[Array.toList_map,Array.toList_range,List.getElem?_map,List.getElem?_range hj,Option.map_some,hsz];rw[List.getElem?_eq_getElem d8];congr 1;have h2:j%zs.length<z.cells.size:=by rw[hsz];exact d8
  rw[getElem!_pos z.cells (j%zs.length) h2];simp[<-hz]
 ·rw[List.getElem?_eq_none (by simp[madeCells];omega),List.getElem?_eq_none (by rw[yb];omega)]
theorem GN {w:World} {F:Nat->Prop} {ι:Io}:∀{cs:List V} {vs:List Value},jj cs=true->RL w F ι cs vs->jW cs=vs
 |_,_,_,.nil=>rfl
 |x::_,_::_,h,.cons hr hl=>by
  cases x<;>simp[jj]at h;simp[jW,GN h hl,hr.s_inv]
theorem Ig {cs:List V} {w:World} {F:Nat->Prop} {ι:Io} {vs:List Value} (h:RL w F ι cs vs):BR w F ι (blk cs) vs:=by
 unfold blk;cases hs:jj cs
 ·cases hi:bP cs
  ·exact h
  ·exact jC hi h
 ·exact GN hs h
theorem qT {place:Nat->(Nat->Nat->Prop)->Prop} {pc:Nat->Option (Nat×Nat)} (hp:∀i K,place i K->∃off size,pc i=some (off,size)/\K off size):
  ∀(ps:List (Nat×V)) (cells:List V) (K:List V->Prop),fQ place cells ps K->∃cs,K cs/\cs.length=cells.length/\∀(w:World) (F:Nat->Prop) (ι:Io) (arr:Array Value) (qs:List (Nat×Value)),
   RL w F ι cells arr.toList->qs.map (·.1)=ps.map (·.1)->RL w F ι (ps.map (·.2)) (qs.map (·.2))->(∀u∈arr.toList,u.oneCell'=true)->
    ∃arr',Instr.fill pc arr qs=some arr'/\RL w F ι cs arr'.toList/\∀u∈arr'.toList,u.oneCell'=true
 |[],cells,K,h=>by
  refine⟨cells,h,rfl,fun w F ι arr qs hl he _ h1=> ?_⟩;simp at he;subst he;exact⟨arr,rfl,hl,h1⟩
 |(i,v)::r,cells,K,h=>by
  unfold fQ at h;obtain⟨off,size,hpc,h⟩:=hp _ _ h;obtain⟨cs,h,hcs⟩:=pi h;obtain⟨hb,h⟩:=B0.1 h;rw[ol]at h;simp only[Bool.and_eq_true]at hb;have hsz:=Nat.eq_of_beq_eq_true hb.1;have hle:=Nat.le_of_ble_eq_true hb.2;obtain⟨cs',hk,s3,hrest⟩:=qT hp r _ K h;refine⟨cs',hk,s3.trans (WL hle),fun w F ι arr qs hl he hq h1=> ?_⟩;cases qs with
  |nil=>simp at he
  |cons q qs=>
   obtain⟨qi,qv⟩:=q;simp only[List.map_cons,List.cons.injEq]at he;obtain⟨rfl,he⟩:=he;cases hq with
   |cons hq1 hq2=>
    obtain⟨hl1,ho1⟩:=hcs w F ι qv hq1;have e1:qv.cells.size=cs.length:=by have:=hl1.length;simpa using this.symm
    have e2:cells.length=arr.size:=by have:=hl.length;simpa using this
    have hfit:off+qv.cells.size<=arr.size:=by omega
    have hlay:=WK (arr:=arr) (us:=qv.cells) (off:=off) hfit;have hnew:RL w F ι (lay cells off cs) (qv.cells.zipIdx.foldl (fun cs (p:Value×Nat)=>cs.setIfInBounds (off+p.2) p.1) arr).toList:=by
     rw[hlay];exact RL.lay hl hl1 off
    obtain⟨arr',g1,g2,g3⟩:=hrest w F ι _ qs hnew he hq2 (by
     rw[hlay];intro u hu;obtain⟨k,hk⟩:=List.getElem?_of_mem hu;rcases CJ (by simpa using hfit) hk with ⟨_,_,h⟩|⟨_,h⟩
     ·exact ho1 _ (List.mem_of_getElem? h)
     ·exact h1 _ (List.mem_of_getElem? h))
    refine⟨arr',?_,g2,g3⟩;simp only[Instr.fill,hpc];rw[if_neg]
    ·exact g1
    ·simp;omega
theorem wL {w:World} {F:Nat->Prop} {ι:Io} {a:Act} {ps:Array (Nat×Operand)} (h:∀p∈ps,R w F ι (ev p.2) (a.eval p.2)):
  (ps.map fun(p:Nat×Operand)=>(p.1,a.eval p.2)).toList.map (·.1)=(ps.toList.map fun p=>(p.1,ev p.2)).map (·.1)/\
  RL w F ι ((ps.toList.map fun p=>(p.1,ev p.2)).map (·.2)) ((ps.map fun(p:Nat×Operand)=>(p.1,a.eval p.2)).toList.map (·.2)):=by
 constructor
 ·simp
 ·simp only[Array.toList_map,List.map_map];have:∀l:List (Nat×Operand),(∀p∈l,R w F ι (ev p.2) (a.eval p.2))->RL w F ι (l.map ((·.2)∘fun p=>(p.1,ev p.2))) (l.map ((·.2)∘fun p=>(p.1,a.eval p.2))):=by
   intro l;induction l with
   |nil=>intro _;exact .nil
   |cons p r ih=>intro h;exact .cons (h p (by simp)) (ih fun q hq=>h q (by simp[hq]))
  exact this _ fun p hp=>h p (by simpa using hp)
theorem a4c {w:World} {F:Nat->Prop} {ι:Io} (vs:List Value):RL w F ι (vs.map .s) vs:=RL.maps vs
theorem a1p (hC:q6 C) {t el len:Nat} {te:TI} {z:Value} {parts:Array (Nat×Value)} {arr':Array Value} (hu:C.P.underlying t=some (.slice el)) (hel:C.ty el=some te) (hz:∀w,(zeroValue el).run C.P w= .ok z w)
  (hle:len*te.size<=16777216) (hf:Instr.fill (fun i=>some (i*te.size,te.size)) (madeCells z.cells (len*te.size)) parts.toList=some arr') (w:World):
  (Instr.buildSlice t len parts).run C.P w= .ok (.slice (some ⟨w.heap.size,0,none⟩) len len) (w.alloc (.cells arr' el)):=by
 have hn:¬(len*te.size>2^24):=by omega
 unfold Instr.buildSlice;simp only[Sem.run_bind,run_underlying hu,Result.andThen_ok,bq hC hel];rw[if_neg hn];by_cases h0:len*te.size=0
 ·rw[if_pos h0];have hf':Instr.fill (fun i=>some (i*te.size,te.size)) ((Array.range (len*te.size)).map ((#[]:Array Value)[· %(#[]:Array Value).size]!)) parts.toList=some arr':=by
   rw[<-hf];simp[h0,madeCells,Array.range_zero']
  simp only[Sem.run_bind,Sem.run_pure,Result.andThen_ok];rw[hf'];rfl
 ·rw[if_neg h0];have hf':Instr.fill (fun i=>some (i*te.size,te.size)) ((Array.range (len*te.size)).map (z.cells[· %z.cells.size]!)) parts.toList=some arr':=hf;simp only[Sem.run_bind,Sem.run_pure,Result.andThen_ok,hz];rw[hf'];rfl
theorem Iq (hC:q6 C) {t len:Nat} {ps:Array (Nat×Operand)} (ho:o.op= .buildSlice t len ps) (h:ah C t fun _ te=>w6 (Nat.ble (len*te.size) 16777216) (fQ (fun i K=>K (i*te.size) te.size) ((List.replicate len (te.zero.map .s)).flatten) (ps.toList.map fun p=>(p.1,ev p.2)) fun cs=>KN (.o te.size (.d (z6 o.dst) 0) 0 len) [(.d (z6 o.dst) 0,blk cs)])):A9 C o ev Hr KN KP:=by
 unfold ah at h;cases ht:C.ty t with
 |none=>simp[ht]at h
 |some ti=>
  have hu:=(hC.ty t ti ht).1;simp only[ht]at h;cases hd:ti.desc<;>simp only[hd]at h
  case slice el=>
   rw[hd]at hu;cases hel:C.ty el with
   |none=>simp[hel]at h
   |some te=>
    simp only[hel]at h;obtain⟨hb,h⟩:=B0.1 h;have hle:=Nat.le_of_ble_eq_true hb;obtain⟨cs,hk,s3,hf⟩:=qT (pc:=fun i=>some (i*te.size,te.size)) (fun i K h=>⟨_,_,rfl,h⟩) _ _ _ h;obtain⟨z,hz,hzc,hzl,hz1⟩:=ta hC hel;refine .inl ⟨_,_,hk,mN fun w0 L w F ι H a st hr hR=> ?_⟩;have hmem:∀p∈ps,R w F ι (ev p.2) (a.eval p.2):=fun p hp=>hR p.2 (by simp only[ho,Op.operands,List.mem_toArray,List.mem_map];exact⟨p,by simpa using hp,rfl⟩);obtain⟨q1,q2⟩:=wL (a:=a) hmem;have hcells:RL w F ι ((List.replicate len (te.zero.map .s)).flatten) (madeCells z.cells (len*te.size)).toList:=by
     rw[<-hzl,wo hzc];have:(List.replicate len (te.zero.map V.s)).flatten=(Y9 te.zero len).map .s:=by simp[Y9,List.map_flatten]
     rw[this];exact RL.maps _
    have hone:∀u∈(madeCells z.cells (len*te.size)).toList,u.oneCell'=true:=by
     rw[<-hzl,wo hzc];intro u hu;simp only[Y9,List.mem_flatten,List.mem_replicate]at hu;obtain⟨l,⟨_,rfl⟩,hu⟩:=hu;exact hz1 u hu
    obtain⟨arr',g1,g2,g3⟩:=hf w F ι _ _ hcells q1 q2 hone;have hasz:arr'.size=len*te.size:=by
     have:=g2.length;rw[s3]at this;have e:=hcells.length;simp[madeCells]at e this;omega
    refine⟨w,arr',el,(0,0),.slice (some ⟨w.heap.size,0,none⟩) len len,arr'.toList,.inl rfl,?_,?_,?_,Ig g2,?_⟩
    ·have:=a1p hC hu hel hz hle g1 w;unfold execOp;simp[ho,this]
    ·exact .inl rfl
    ·intro j y hy;exact⟨by simpa using hy,g3 _ (List.mem_of_getElem? hy)⟩
    ·intro w' ι' hh hi;have:=R.o (w:=w') (F:=F) (e:=te.size) (off:=0) (n:=len) (cap:=len) hi (Nat.le_refl _) ⟨arr',el,(0,0),hh,by simp[hasz]⟩;simpa using this
end
end Go.Scr
namespace Go.Scr
section
variable {C:m6} {ev:Operand->V} {Hr:Hp} {KN KP:V->List (Id×B)->Prop} {o:Oper}
theorem Dc {P:Program} {α β:Type} (f:α->Sem β) (g:α->β):∀(l:List α) (w:World),(∀x∈l,∀w,(f x).run P w= .ok (g x) w)->(l.mapM f).run P w= .ok (l.map g) w
 |[],w,_=>by simp
 |x::r,w,h=>by
  rw[List.mapM_cons];simp[h x (by simp),Dc f g r w fun y hy=>h y (by simp[hy])]
theorem Xf {P:Program} {α β:Type} (f:α->Sem β) (g:α->β) (l:Array α) (w:World) (h:∀x∈l.toList,∀w,(f x).run P w= .ok (g x) w):(l.mapM f).run P w= .ok (l.map g) w:=by
 rw[Array.mapM_eq_mapM_toList,Sem.run_map,Dc f g _ _ h];simp only[Result.andThen_ok];congr 1;apply Array.ext';simp
theorem HC {fs:List Field} (h:np C fs=true):∀f∈fs,∃ti,C.ty f.type=some ti:=by
 induction fs with
 |nil=>simp
 |cons f r ih=>
  simp only[np,Bool.and_eq_true]at h;intro g hg;rcases List.mem_cons.1 hg with rfl|hg
  ·exact Option.isSome_iff_exists.1 h.1
  ·exact ih h.2 g hg
theorem Ip (hC:q6 C) {t:Nat} {ti:TI} {fs:Array Field} {ps:Array (Nat×Operand)} (ho:o.op= .build t ps) (ht:C.ty t=some ti) (hd:ti.desc= .struct fs) (hall:np C fs.toList=true)
  (h:fQ (fun i K=>match fs[i]? with|some f=>bp C f.type fun n=>K f.offset n|none=>False) (ti.zero.map .s) (ps.toList.map fun p=>(p.1,ev p.2)) fun cs=>KN (.a cs) []):A9 C o ev Hr KN KP:=by
 have hu:=(hC.ty t ti ht).1;rw[hd]at hu;obtain⟨z,hz,hzc,hzl,hz1⟩:=ta hC ht
 let szf:Field->Nat×Nat:=fun f=>(f.offset,match C.ty f.type with|some ti=>ti.size|none=>0)
 obtain⟨cs,hk,s3,hf⟩:=qT (pc:=fun i=>(fs.map szf)[i]?) (by
  intro i K h;split at h
  ·rename_i f hf;unfold bp at h;cases hft:C.ty f.type with
   |none=>simp[hft]at h
   |some tf=>
    simp only[hft,bN]at h;exact⟨_,_,by simp[hf,szf,hft],h⟩
  ·exact h.elim) _ _ _ h
 refine .inl ⟨_,_,hk,F6 fun w0 L w F ι H a st hr hR=> ?_⟩;have hmem:∀p∈ps,R w F ι (ev p.2) (a.eval p.2):=fun p hp=>hR p.2 (by simp only[ho,Op.operands,List.mem_toArray,List.mem_map];exact⟨p,by simpa using hp,rfl⟩);obtain⟨q1,q2⟩:=wL (a:=a) hmem;obtain⟨arr',g1,g2,g3⟩:=hf w F ι z.cells _ (by rw[hzc];exact RL.maps _) q1 q2 (by rw[hzc];exact hz1);refine⟨.agg arr',?_,.a g2⟩;have hm:∀w,(fs.mapM (fun f=>(do pure (f.offset,<-sizeOf f.type):Sem (Nat×Nat)))).run C.P w= .ok (fs.map szf) w:=by
  intro w;refine Xf _ _ _ _ fun f hf w=> ?_;obtain⟨tf,hft⟩:=HC hall f hf;simp[bq hC hft,szf,hft]
 unfold execOp Instr.build;simp only[ho,Sem.run_bind,hz,Result.andThen_ok,run_underlying hu,hm];rw[g1];rfl
theorem Im (hC:q6 C) {t n el:Nat} {ti:TI} {ps:Array (Nat×Operand)} (ho:o.op= .build t ps) (ht:C.ty t=some ti) (hd:ti.desc= .array n el)
  (h:bp C el fun n=>fQ (fun i K=>K (i*n) n) (ti.zero.map .s) (ps.toList.map fun p=>(p.1,ev p.2)) fun cs=>KN (.a cs) []):A9 C o ev Hr KN KP:=by
 have hu:=(hC.ty t ti ht).1;rw[hd]at hu;obtain⟨z,hz,hzc,hzl,hz1⟩:=ta hC ht;unfold bp at h;cases hel:C.ty el with
 |none=>simp[hel]at h
 |some te=>
  simp only[hel,bN]at h;obtain⟨cs,hk,s3,hf⟩:=qT (pc:=fun i=>some (i*te.size,te.size)) (fun i K h=>⟨_,_,rfl,h⟩) _ _ _ h;refine .inl ⟨_,_,hk,F6 fun w0 L w F ι H a st hr hR=> ?_⟩;have hmem:∀p∈ps,R w F ι (ev p.2) (a.eval p.2):=fun p hp=>hR p.2 (by simp only[ho,Op.operands,List.mem_toArray,List.mem_map];exact⟨p,by simpa using hp,rfl⟩);obtain⟨q1,q2⟩:=wL (a:=a) hmem;obtain⟨arr',g1,g2,g3⟩:=hf w F ι z.cells _ (by rw[hzc];exact RL.maps _) q1 q2 (by rw[hzc];exact hz1);refine⟨.agg arr',?_,.a g2⟩;unfold execOp Instr.build;simp only[ho,Sem.run_bind,hz,Result.andThen_ok,run_underlying hu,bq hC hel];rw[g1];rfl
theorem Xe (hC:q6 C) {t el:Nat} {ti te:TI} {l c:Operand} {kl kc:IntKind} {nl nc:Int} (ho:o.op= .makeSlice t l c) (ht:C.ty t=some ti) (hd:ti.desc= .slice el) (hel:C.ty el=some te)
  (hb:te.bytes<=4096) (hl:ev l= .s (.int kl nl)) (hc:ev c= .s (.int kc nc)) (h0:0<=nl) (h1:nl<=nc) (h2:nc<=1073741824) {X:B}
  (hX:∀w F ι,BR w F ι X (Y9 te.zero nl.toNat))
  (h:KN (.o te.size (.d (z6 o.dst) 0) 0 nl.toNat) [(.d (z6 o.dst) 0,X)]):A9 C o ev Hr KN KP:=by
 have hu:=(hC.ty t ti ht).1;rw[hd]at hu;obtain⟨_,i,z,hi,hs,hby,hz,hzc,hzl,hz1⟩:=hC.ty el te hel;refine .inl ⟨_,_,h,mN fun w0 L w F ι H a st hr hR=> ?_⟩;have e1:=hR l (by simp[ho,Op.operands]);have e2:=hR c (by simp[ho,Op.operands]);rw[hl]at e1;rw[hc]at e2;have hbytes:(i.bytes:Int)*nc<=281474976710656:=by
  rw[hby];have:(te.bytes:Int)*nc<=4096*1073741824:=Int.mul_le_mul (by omega) h2 (by omega) (by omega);omega
 have hrun:=run_make (P:=C.P) w t el i z hu hi hz kl kc nl nc h0 h1 hbytes (by omega);have hsz:i.size=te.zero.length:=by rw[hs,hzl]
 rw[hsz]at hrun;refine⟨w,madeCells z.cells (nc.toNat*te.zero.length),el,(0,0),.slice (some ⟨w.heap.size,0,none⟩) nl.toNat nc.toNat,Y9 te.zero nl.toNat,.inl rfl,?_,?_,?_,hX w F ι,?_⟩
 ·unfold execOp;simp only[ho,e1.s_inv,e2.s_inv,Sem.run_bind,hrun,Result.andThen_ok];rfl
 ·exact .inl rfl
 ·intro j y hy;have d8:j<nl.toNat*te.zero.length:=by
   have:=(List.getElem?_eq_some_iff.1 hy).1
   rwa [yb]at this
  have hle:nl.toNat*te.zero.length<=nc.toNat*te.zero.length:=Nat.mul_le_mul_right _ (by omega);rw[sZ _ _ _ d8]at hy;have h3:=sZ te.zero nc.toNat j (by omega);rw[<-wo hzc]at h3;refine⟨by rw[<-Array.getElem?_toList,h3];exact hy,?_⟩;have:=List.mem_of_getElem? hy;exact(by simpa using hz1:∀u∈te.zero,u.oneCell'=true) _ this
 ·intro w' ι' hh hi';have:=R.o (w:=w') (F:=F) (e:=te.size) (off:=0) (n:=nl.toNat) (cap:=nc.toNat) hi' (by omega) ⟨_,el,(0,0),hh,by simp[size_madeCells,hzl]⟩;simpa using this
theorem XV {x:Operand} {t:TypeId} {v:V} (ho:o.op= .panic x) (hx:ev x= .i t v) (h:KP (.i t v) []):A9 C o ev Hr KN KP:=by
 refine .inr ⟨_,_,h,?_⟩;intro w0 L w F ι H H' a st hr hR _ hd ha next Q hn
 simp only[A6,Option.some.injEq]at ha;subst ha;have h1:=hR x (by simp[ho,Op.operands]);rw[hx]at h1;obtain⟨y,he,hy⟩:=h1.i_inv;unfold Oper.wp execOp;simp only[ho,he,Instr.panic,Sem.run_bind,run_goPanic,Result.andThen_halt,Oper.upon];exact hn _ w F ι (Nx.same st hd) (.i hy)
theorem Xh {c:Call} {x y:Operand} {k k':IntKind} {m n:Int} (ho:o.op= .call c) (hc:c.callee= .builtin .min) (ha:c.args= #[x,y]) (hx:ev x= .s (.int k m)) (hy:ev y= .s (.int k' n))
  (h:KN (.s (.int k (if n<m then n else m))) []):A9 C o ev Hr KN KP:=by
 refine .inl ⟨_,_,h,F6 fun w0 L w F ι H a st hr hR=>⟨_,?_,.sc⟩⟩;have h1:=hR x (by simp[ho,Op.operands,Call.operands,hc,ha]);have h2:=hR y (by simp[ho,Op.operands,Call.operands,hc,ha]);rw[hx]at h1;rw[hy]at h2;unfold execOp;simp[ho,resolve,hc,ha,invoke,builtin,Builtin.min_,Builtin.min2,h1.s_inv,h2.s_inv]
theorem Xi {c:Call} {x y z:Operand} {k k' k'':IntKind} {m n q:Int} (ho:o.op= .call c) (hc:c.callee= .builtin .min) (ha:c.args= #[x,y,z]) (hx:ev x= .s (.int k m)) (hy:ev y= .s (.int k' n)) (hz:ev z= .s (.int k'' q))
  (h:KN (.s (.int k (if q<(if n<m then n else m)then q else (if n<m then n else m)))) []):A9 C o ev Hr KN KP:=by
 refine .inl ⟨_,_,h,F6 fun w0 L w F ι H a st hr hR=>⟨_,?_,.sc⟩⟩;have h1:=hR x (by simp[ho,Op.operands,Call.operands,hc,ha]);have h2:=hR y (by simp[ho,Op.operands,Call.operands,hc,ha]);have h3:=hR z (by simp[ho,Op.operands,Call.operands,hc,ha]);rw[hx]at h1;rw[hy]at h2;rw[hz]at h3;unfold execOp;simp[ho,resolve,hc,ha,invoke,builtin,Builtin.min_,Builtin.min2,h1.s_inv,h2.s_inv,h3.s_inv]
end
end Go.Scr
namespace Go.Scr
section
variable {w0:World} {L:Nat->Prop} {w:World} {F:Nat->Prop} {ι:Io} {H:Hp}
theorem Nx.trans {w1 w2:World} {F1 F2:Nat->Prop} {ι1 ι2:Io} {H1 H2:Hp} (h:Nx w0 L w F ι w1 F1 ι1 H1) (k:Nx w0 L w1 F1 ι1 w2 F2 ι2 H2):Nx w0 L w F ι w2 F2 ι2 H2:=
 ⟨k.st,h.ev.trans (k.ev.sub h.fm),fun b hb=>k.fm b (h.fm b hb),fun b hb=>(k.fn b hb).elim (h.fn b) .inr,fun id x hx=>k.im id x (h.im id x hx),k.dm⟩
theorem Xu (st:St w0 L w F ι H) (hd:∀id x,ι id=some x->H id≠none) (id:Id):Nx w0 L w F ι w F ι (x5 H id (some .dead)):=by
 have low:∀i X,x5 H id (some .dead) i=some X->X≠ .dead->H i=some X:=by
  intro i X h hX;by_cases he:id=i
  ·subst he;rw[F8]at h;simp at h;exact absurd h.symm hX
  ·rwa [C4 _ _ he]at h
 refine⟨{st with own:=fun i X h hX=>st.own i X (low i X h hX) hX,inj:=fun i1 i2 X1 X2 b c c' h1 k1 h2 k2=>st.inj i1 i2 X1 X2 b c c' (low _ _ h1 k1) k1 (low _ _ h2 k2) k2},Ev.refl w F,fun _ h=>h,fun _ h=> .inl h,fun _ _ h=>h,?_⟩;intro i x hx;by_cases he:id=i
 ·subst he;rw[F8];simp
 ·rw[C4 _ _ he];exact hd i x hx
theorem wD (st:St w0 L w F ι H) (hd:∀id x,ι id=some x->H id≠none) {id:Id} (l4:H id=none) {X:B} (hX0:X.len=0):Nx w0 L w F ι w F ι (x5 H id (some X)):=by
 have hi:ι id=none:=by
  cases h:ι id with
  |none=>rfl
  |some x=>exact absurd l4 (hd id x h)
 refine⟨{st with own:= ?_,inj:= ?_},Ev.refl w F,fun _ h=>h,fun _ h=> .inl h,fun _ _ h=>h,?_⟩
 ·intro i Y h hY;by_cases he:id=i
  ·subst he;rw[F8]at h;simp at h;subst h;exact .inl ⟨hX0,hi⟩
  ·rw[C4 _ _ he]at h;exact st.own i Y h hY
 ·intro i1 i2 X1 X2 b c c' h1 k1 h2 k2 g1 g2;have n1:id≠i1:=by rintro rfl;rw[hi]at g1;cases g1
  have n2:id≠i2:=by rintro rfl;rw[hi]at g2;cases g2
  rw[C4 _ _ n1]at h1;rw[C4 _ _ n2]at h2;exact st.inj i1 i2 X1 X2 b c c' h1 k1 h2 k2 g1 g2
 ·intro i x hx;have n1:id≠i:=by rintro rfl;rw[hi]at hx;cases hx
  rw[C4 _ _ n1];exact hd i x hx
theorem Xw (st:St w0 L w F ι H) (hd:∀id x,ι id=some x->H id≠none) {id nid:Id} {X Y:B} {b base off:Nat} (l4:H id=some X) (hX:X≠ .dead) (hi:ι id=some (b,base)) (hn:H nid=none)
  (hY:∀vs:List Value,BR w F ι X vs->BR w F ι Y (vs.drop off)):
  Nx w0 L w F ι w F (x5 ι nid (some (b,base+off))) (x5 (x5 H id (some .dead)) nid (some Y)):=by
 have hne:id≠nid:=by rintro rfl;rw[hn]at l4;cases l4
 have hin:ι nid=none:=by
  cases h:ι nid with
  |none=>rfl
  |some x=>exact absurd hn (hd nid x h)
 have him:∀i x,ι i=some x->x5 ι nid (some (b,base+off)) i=some x:=by
  intro i x hx;rw[C4]
  ·exact hx
  ·rintro rfl;rw[hin]at hx;cases hx
 have low:∀i Z,nid≠i->x5 (x5 H id (some .dead)) nid (some Y) i=some Z->Z≠ .dead->H i=some Z/\id≠i:=by
  intro i Z hni h hZ;rw[C4 _ _ hni]at h;by_cases he:id=i
  ·subst he;rw[F8]at h;simp at h;exact absurd h.symm hZ
  ·rw[C4 _ _ he]at h;exact⟨h,he⟩
 refine⟨{st with own:= ?_,inj:= ?_},Ev.refl w F,fun _ h=>h,fun _ h=> .inl h,him,?_⟩
 ·intro i Z h hZ;by_cases he:nid=i
  ·subst he;rw[F8]at h;simp only[Option.some.injEq]at h;subst h;obtain⟨b',base',hi',hF,hL,arr,t,fr,hh,hfr,vs,hc,hm⟩:=(st.own id X l4 hX).resolve_left (by simp[hi]);rw[hi]at hi';simp only[Option.some.injEq,Prod.mk.injEq]at hi';obtain⟨rfl,rfl⟩:=hi';refine .inr ⟨b,base+off,F8 _ _ _,hF,hL,arr,t,fr,hh,hfr,vs.drop off,?_,(hY vs hm).ev (Ev.refl w F) (fun _ h=>h) him⟩;intro j x hx;rw[Nat.add_assoc];exact hc _ _ (by simpa using hx)
  ·obtain⟨h,_⟩:=low i Z he h hZ;rcases st.own i Z h hZ with ⟨h0,h0'⟩|⟨b2,base2,g1,g2,g3,arr2,t2,fr2,g4,g5,vs2,g6,g7⟩
   ·exact .inl ⟨h0,by rw[C4 _ _ he];exact h0'⟩
   ·exact .inr ⟨b2,base2,him _ _ g1,g2,g3,arr2,t2,fr2,g4,g5,vs2,g6,g7.ev (Ev.refl w F) (fun _ h=>h) him⟩
 ·intro i1 i2 X1 X2 c c1 c2 h1 k1 h2 k2 g1 g2;by_cases e1:nid=i1<;>by_cases e2:nid=i2
  ·exact e1.symm.trans e2
  ·subst e1;obtain⟨h2',n2⟩:=low i2 X2 e2 h2 k2;rw[F8]at g1;rw[C4 _ _ e2]at g2;simp only[Option.some.injEq,Prod.mk.injEq]at g1;exact absurd (st.inj id i2 X X2 b base c2 l4 hX h2' k2 hi (g1.1▸g2)) n2
  ·subst e2;obtain⟨h1',n1⟩:=low i1 X1 e1 h1 k1;rw[F8]at g2;rw[C4 _ _ e1]at g1;simp only[Option.some.injEq,Prod.mk.injEq]at g2;exact absurd (st.inj id i1 X X1 b base c1 l4 hX h1' k1 hi (g2.1▸g1)) n1
  ·obtain⟨h1',_⟩:=low i1 X1 e1 h1 k1;obtain⟨h2',_⟩:=low i2 X2 e2 h2 k2;rw[C4 _ _ e1]at g1;rw[C4 _ _ e2]at g2;exact st.inj i1 i2 X1 X2 c c1 c2 h1' k1 h2' k2 g1 g2
 ·intro i x hx;by_cases e1:nid=i
  ·subst e1;rw[F8];simp
  ·rw[C4 _ _ e1]at hx ⊢;by_cases e2:id=i
   ·subst e2;rw[F8];simp
   ·rw[C4 _ _ e2];exact hd i x hx
end
section
variable {C:m6} {ev:Operand->V} {Hr:Hp} {KN KP:V->List (Id×B)->Prop} {o:Oper}
theorem yQ {d:Nat} {H H':Hp} {id:Id} {X Y:B} (h:A6 d H [(id,Y)]=some H') (l4:H id=some X):H'=x5 H id (some Y):=by
 simp only[A6]at h;cases hn:O9 d id
 ·simp[hn]at h;exact h.symm
 ·simp[hn,l4]at h
theorem a1q (hC:q6 C) {t:Nat} {ti:TI} (ht:C.ty t=some ti) {w:World} {b q:Nat} {x:Value} (hs:x.cells.size=ti.size) (hth:w.there b q x.cells.size) (h1:∀u∈x.cells.toList,u.oneCell'=true):
  (Instr.storeAt t (.pointer (some ⟨b,q,none⟩)) x).run C.P w= .ok () (w.setCells b q x.cells.toList):=by
 have:=run_storeCells_cells (P:=C.P) b q x.cells.toList 0 w (fun j hj=>by simpa using (hth j (by simpa using hj)).1) (fun j hj=>by simpa using (hth j (by simpa using hj)).2) h1;simp only[Nat.add_zero]at this;simp[Instr.storeAt,Instr.sureAddr,storeVar,bq hC ht,hs,this]
theorem sB (hC:q6 C) {t j:Nat} {ti:TI} {x y:Operand} {id:Id} {X Y:B} {cs:List V} (ho:o.op= .store t x y) (ht:C.ty t=some ti) (hx:ev x= .p id j) (hH:Hr id=some X) (hX:X≠ .dead)
  (hcs:∀(w:World) (F:Nat->Prop) (ι:Io) (z:Value),R w F ι (ev y) z->RL w F ι cs z.cells.toList/\∀u∈z.cells.toList,u.oneCell'=true) (hsz:cs.length=ti.size) (hpos:0<ti.size) (hle:j+cs.length<=X.len)
  (hY:∀(w:World) (F:Nat->Prop) (ι:Io) (vs us:List Value),BR w F ι X vs->RL w F ι cs us->BR w F ι Y (lay vs j us))
  (h:KN .u [(id,Y)]):A9 C o ev Hr KN KP:=by
 refine .inl ⟨_,_,h,?_⟩;intro w0 L w F ι H H' a st hr hR _ hd ha next Q hn
 have hH':=hr _ _ hH;obtain rfl:=yQ ha hH';have r1:=hR x (by simp[ho,Op.operands]);have r2:=hR y (by simp[ho,Op.operands]);rw[hx]at r1;obtain⟨b,base,he,hi⟩:=r1.p_inv;obtain⟨hl,h1⟩:=hcs w F ι _ r2;have s3:(a.eval y).cells.toList.length=cs.length:=hl.length.symm;have hroom:ab w b (base+j+(a.eval y).cells.toList.length):=by
  obtain⟨b',base',hi',hF,hL,arr,t',fr,hh,hfr,vs,hc,hm⟩:=(st.own id X hH' hX).resolve_left (by simp[hi]);rw[hi]at hi';simp only[Option.some.injEq,Prod.mk.injEq]at hi';obtain⟨rfl,rfl⟩:=hi';have hvl:X.len<=vs.length:=by
   cases X with
   |sc us=>obtain rfl:us=vs:=hm;exact Nat.le_refl _
   |pl xs=>exact Nat.le_of_eq (n7.length hm)
   |mx xs=>exact Nat.le_of_eq (RL.length hm)
   |dead=>exact absurd rfl hX
  refine⟨arr,t',fr,hh,?_⟩;have d8:j+cs.length-1<vs.length:=by omega
  have h3:=(hc (j+cs.length-1) vs[j+cs.length-1] (by simp[d8])).1;have:=(Array.getElem?_eq_some_iff.1 h3).1;omega
 have hth:=sq st hH' hX hi hroom;have hrun:=a1q hC ht (w:=w) (b:=b) (q:=base+j) (x:=a.eval y) (by have:=s3;simp at this;omega) (by simpa using hth) h1;unfold Oper.wp execOp;simp only[ho,he,Sem.run_bind,hrun,Result.andThen_ok,Sem.run_pure,Oper.upon_skip];obtain⟨vs,hB,hc⟩:=iD st hH' hX hi;refine hn undef _ F ι (rQ st hd hH' hX hi h1 hroom ⟨lay vs j (a.eval y).cells.toList,hY w F ι vs _ hB hl,fun k z hz=> ?_⟩) (.fz .u);have hvl:X.len=vs.length:=by
  cases X with
  |sc us=>obtain rfl:us=vs:=hB;rfl
  |pl xs=>exact n7.length hB
  |mx xs=>exact RL.length hB
  |dead=>exact absurd rfl hX
 rcases CJ (by omega) hz with h|⟨h,h'⟩
 ·exact .inl h
 ·exact .inr ⟨h,hc k z h'⟩
theorem a1L (hC:q6 C) {t:Nat} {x y:Operand} (ho:o.op= .store t x y) (h:xz C t Hr (ev x) (ev y) KN) (hpos:∀ti,C.ty t=some ti->0<ti.size):A9 C o ev Hr KN KP:=by
 unfold xz at h;split at h
 ·rename_i id j hx;cases ht:C.ty t with
  |none=>simp[ht]at h
  |some ti=>
   have hp:=hpos ti ht;simp only[ht]at h;split at h
   ·rename_i vs hH;have gen:iX (ev y) (fun cs=>w6 (Nat.beq cs.length ti.size) (j+cs.length<=vs.length/\KN .u [(id,.mx (lay (vs.map .s) j cs))]))->A9 C o ev Hr KN KP:=by
     intro h;obtain⟨cs,h,hcs⟩:=pi h;obtain⟨hb,h1,hk⟩:=B0.1 h;refine sB hC ho ht hx hH (by simp) hcs (Nat.eq_of_beq_eq_true hb) hp h1 ?_ hk;intro w F ι vs' us hB hl;obtain rfl:vs=vs':=hB;exact RL.lay (RL.maps vs) hl j
    split at h
    ·rename_i z hz;obtain⟨hb,h1,hk⟩:=B0.1 h;simp only[Bool.and_eq_true]at hb;have hts:=Nat.eq_of_beq_eq_true hb.2;refine sB hC (cs:=[.s z]) ho ht hx hH (by simp) ?_ (by simp[hts]) hp (by simp[B.len];omega) ?_ hk
     ·intro w F ι u hu;rw[hz]at hu;rw[hu.s_inv,wH hb.1];exact⟨.cons .sc .nil,by simpa using hb.1⟩
     ·intro w F ι vs' us hB hl;obtain rfl:vs=vs':=hB;cases hl with
      |cons hr hl=>
       cases hl;rw[hr.s_inv];rfl
    ·exact gen h
   ·rename_i xs hH;obtain⟨cs,h,hcs⟩:=pi h;obtain⟨hb,h1,hk⟩:=B0.1 h;simp only[Bool.and_eq_true]at hb;refine sB hC ho ht hx hH (by simp) hcs (Nat.eq_of_beq_eq_true hb.1) hp h1 ?_ hk;intro w F ι vs' us hB hl;exact n7.lay hB (jC hb.2 hl) j
   ·rename_i xs hH;obtain⟨cs,h,hcs⟩:=pi h;obtain⟨hb,h1,hk⟩:=B0.1 h;refine sB hC ho ht hx hH (by simp) hcs (Nat.eq_of_beq_eq_true hb) hp h1 ?_ hk;intro w F ι vs' us hB hl;exact RL.lay hB hl j
   ·exact h.elim
 ·exact h.elim
end
end Go.Scr
namespace Go.Scr
theorem Cn (n:Nat):∀(r c:Nat),Builtin.growBy n r c<=max c (n+(n+768)/4)
 |0,c=>by simp[Builtin.growBy];omega
 |r+1,c=>by
  unfold Builtin.growBy;split
  ·omega
  ·have:=Cn n r (c+(c+768)/4);omega
theorem Dr {n c:Nat} (h:c<n):Builtin.nextslicecap n c<=2*n+192:=by
 unfold Builtin.nextslicecap;split
 ·omega
 ·split
  ·omega
  ·have:=Cn n 4 c;omega
def gG (w:World) (F:Nat->Prop) (ι:Io) (src:Src) (n:Nat) (news:List Value):Prop:=
 match src with
 | .sc m vs=>m=n/\vs=news
 | .pl m xs=>m=n/\n7 w F xs news
 | .mx m xs=>m=n/\RL w F ι xs news
theorem pj (n:Int) (h: -9223372036854775808<=n/\n<=9223372036854775807):IntKind.i64.wrap n=n:=by
 rw[IntKind.wrap_i64];omega
theorem pm (z:Value) (n:Nat):Builtin.zeroCells #[z] n=(List.replicate n z).toArray:=by
 apply Array.ext
 ·simp[Builtin.zeroCells]
 ·intro j h1 h2;simp[Builtin.zeroCells,Nat.mod_one]
inductive ay (P:Program) (el size u:Nat):Value->Nat->List Value->World->Prop
 |src {x:Value} {n:Nat} {news:List Value} {w:World}:Go.Src P size u x n news w->ay P el size u x n news w
 |made {ku k:IntKind} {n:Nat} {z z':Value} {i:TypeInfo} {w:World} (hu:P.underlying u=some (.int ku)) (hi:P.info? el=some i) (hz:i.zero=some z') (hs:size=1) (hb:i.bytes<=4096) (hzc:z'.cells= #[z]) (h1:z.oneCell'=true) (hn:n<=1073741824):
   ay P el size u (.int k n) n (List.replicate n z) w
theorem ay.newsLen {P:Program} {el size u:Nat} {x:Value} {n:Nat} {news:List Value} {w:World} (h:ay P el size u x n news w):news.length=n*size:=by
 cases h with
 |src h=>exact h.newsLen
 |made _ _ _ hs=>subst hs;simp
theorem ay.one {P:Program} {el size u:Nat} {x:Value} {n:Nat} {news:List Value} {w:World} (h:ay P el size u x n news w):∀u∈news,u.oneCell'=true:=by
 cases h with
 |src h=>exact h.one
 |made _ _ _ _ _ _ h1=>intro y hy;rw[List.mem_replicate]at hy;rw[hy.2];exact h1
theorem Db {n b:Nat} (hn:n<=1073741824) (hb:b<=4096):¬(281474976710656<(n:Int)*(b:Int)):=by
 have:(n:Int)*(b:Int)<=1073741824*4096:=Int.mul_le_mul (by omega) (by omega) (by omega) (by omega);omega
theorem EB {P:Program} (w:World) (t tx ty e:TypeId) (i:TypeInfo) (ht:P.underlying t=some (.slice e)) (hi:P.info? e=some i) (base:Option Addr) (sLen sCap:Nat) (hle:sLen<=sCap) (x:Value) (hs:ay P e i.size tx x 0 [] w):
  (Builtin.append_ #[t,tx] ty #[.slice base sLen sCap,x]).run P w= .ok (.slice base sLen sCap) w:=by
 generalize hn:0=n0 at hs;generalize hnw:([]:List Value)=nw at hs;cases hs with
 |src h=>subst hn;subst hnw;exact run_append_nothing w t tx ty e i ht hi base sLen sCap hle x h
 |made hu hi' hz hs1 hb hzc h1 hn'=>
  subst hn;have hw:IntKind.i64.wrap 0=0:=pj _ (by omega);cases base<;>simp[Builtin.append_,run_underlying ht,run_underlying hu,sizeOf,typeInfo,hi,hle,asInt,asIntOf,hw,storeCells]
theorem a1n {P:Program} (w:World) (t tx ty e:TypeId) (i:TypeInfo) (ht:P.underlying t=some (.slice e)) (hi:P.info? e=some i) (b off sLen sCap:Nat) (x:Value) (n:Nat) (news:List Value) (hs:ay P e i.size tx x n news w)
  (hroom:sLen+n<=sCap) (hc:∀j,j<news.length->(w.cell? ⟨b,off+sLen*i.size+j,none⟩).isSome=true) (hf:∀j,j<news.length->w.frozen? ⟨b,off+sLen*i.size+j,none⟩=false):
  (Builtin.append_ #[t,tx] ty #[.slice (some ⟨b,off,none⟩) sLen sCap,x]).run P w= .ok (.slice (some ⟨b,off,none⟩) (sLen+n) sCap) (w.setCells b (off+sLen*i.size) news):=by
 have hone:=hs.one;cases hs with
 |src h=>exact run_append_room_src w t tx ty e i ht hi b off sLen sCap x n news h hroom hc hf
 |made hu hi' hz hs1 hb hzc h1 hn'=>
  rename_i ku k z z' i';obtain rfl:i'=i:=by rw[hi]at hi';exact(Option.some.inj hi').symm
  have hst:=run_storeCells_cells (P:=P) b (off+sLen*i'.size) (List.replicate n z) 0 w (by simpa using hc) (by simpa using hf) hone;simp only[Nat.add_zero]at hst;have hw:IntKind.i64.wrap (n:Int)=n:=pj _ (by omega);have hneg:¬(n:Int)<0:=by omega
  have hby:=Db hn' hb;rw[hs1,Nat.mul_one]at hst ⊢;by_cases h0:n=0
  ·subst h0;have hw:IntKind.i64.wrap 0=0:=pj _ (by omega);simp[Builtin.append_,run_underlying ht,run_underlying hu,sizeOf,typeInfo,hi,asInt,asIntOf,hw,(show sLen<=sCap by omega),Addr.add_lit,hs1];simp at hst;simp[hst]
  ·simp[Builtin.append_,run_underlying ht,run_underlying hu,sizeOf,typeInfo,zeroValue,hi,hz,asInt,asIntOf,hw,hneg,hby,hs1,h0,hroom,Addr.add_lit,hzc,pm,hst]
theorem a1m {P:Program} (w:World) (t tx ty e:TypeId) (i:TypeInfo) (z:Value) (ht:P.underlying t=some (.slice e)) (hi:P.info? e=some i) (hz:i.zero=some z) (base:Option Addr) (sLen sCap:Nat) (olds:List Value)
  (hold:(Builtin.firstCells i.size sLen (.slice base sLen sCap)).run P w.drew= .ok olds.toArray w.drew) (x:Value) (n:Nat) (news:List Value) (hs:ay P e i.size tx x n news w)
  (hg:sCap<sLen+n) (h63:((sLen+n:Nat):Int)<=9223372036854775807) (hfit:Builtin.nextslicecap (sLen+n) sCap*i.bytes<=281474976710656):
  (Builtin.append_ #[t,tx] ty #[.slice base sLen sCap,x]).run P w=
   .ok (.slice (some ⟨w.heap.size,0,none⟩) (sLen+n) (grownCap w (sLen+n) sCap e))
    (w.drew.alloc (.cells ((olds++news).toArray++Builtin.zeroCells z.cells (grownCap w (sLen+n) sCap e-(sLen+n))) e)):=by
 cases hs with
 |src h=>exact run_append_grow_src w t tx ty e i z ht hi hz base sLen sCap olds hold x n news h hg h63 hfit
 |made hu hi' hz2 hs1 hb hzc h1 hn'=>
  rename_i ku k z1 z' i';obtain rfl:i'=i:=by rw[hi]at hi';exact(Option.some.inj hi').symm
  obtain rfl:z'=z:=by rw[hz]at hz2;exact(Option.some.inj hz2).symm
  have hw:IntKind.i64.wrap (n:Int)=n:=pj _ (by omega);have hneg:¬(n:Int)<0:=by omega
  have hby:=Db hn' hb;have hn:¬(sLen+n<=sCap):=by omega
  have h63':¬(9223372036854775807<((sLen:Int)+(n:Int))):=by omega
  have h48':¬(281474976710656<Builtin.nextslicecap (sLen+n) sCap*i'.bytes):=by omega
  rw[hs1]at hold;by_cases h0:n=0
  ·subst h0;have hw:IntKind.i64.wrap 0=0:=pj _ (by omega);have hnA:¬(sLen<=sCap):=by omega
   have hA:¬(9223372036854775807<(sLen:Int)):=by omega
   have hB:¬(281474976710656<Builtin.nextslicecap sLen sCap*i'.bytes):=by simpa using h48'
   simp[Builtin.append_,run_underlying ht,run_underlying hu,sizeOf,typeInfo,zeroValue,hi,hz,asInt,asIntOf,hw,hs1,hnA,hA,hB,Question.forced,hold,newRow,grownCap]
  ·simp[Builtin.append_,run_underlying ht,run_underlying hu,sizeOf,typeInfo,zeroValue,hi,hz,asInt,asIntOf,hw,hneg,hby,hs1,h0,hn,h63',h48',Question.forced,hold,newRow,grownCap,hzc,pm];congr 2;apply Array.ext';simp[List.append_assoc,List.replicate_append_replicate]
section
variable {w0:World} {L:Nat->Prop} {w:World} {F:Nat->Prop} {ι:Io} {H:Hp}
theorem mO {P:Program} {size u e':Nat} (hk:P.underlying u=some (.slice e')) (a:Option Addr) (c:Nat) (w:World):Go.Src P size u (.slice a 0 c) 0 [] w:=by
 cases a with
 |none=>exact Src.ofNil w hk c
 |some a=>exact Src.ofSlice w hk a 0 c [] (by simp) (by simp) (by simp)
theorem sE {α:Type} {xs:List α} {off n:Nat} (h:off+n<=xs.length):(sub xs off n).length=n:=by unfold sub;simp;omega
end
section
variable {C:m6} {ev:Operand->V} {Hr:Hp} {KN KP:V->List (Id×B)->Prop} {o:Oper}
theorem a1D {u e' e:Nat} {x:V} {K:Src->Prop} (hk:C.P.underlying u=some (.slice e')) (h:xy e Hr x K):
  ∃src,K src/\∀(w0:World) (L:Nat->Prop) (w:World) (F:Nat->Prop) (ι:Io) (H:Hp) (y:Value),St w0 L w F ι H->(∀id b,Hr id=some b->H id=some b)->R w F ι x y->
   ∃n news,gG w F ι src n news/\Go.Src C.P e u y n news w:=by
 unfold xy at h;split at h
 ·rename_i n vs;obtain⟨hl,h⟩:=h;obtain⟨he,hk'⟩:=B0.1 h;obtain rfl:=Nat.eq_of_beq_eq_true he;refine⟨_,hk',fun w0 L w F ι H y st hr hy=> ?_⟩;rcases hy.z_inv with ⟨a,cap,rfl,rfl,rfl⟩|⟨a,cap,rfl,hc,_⟩
  ·exact⟨0,[],⟨rfl,rfl⟩,mO hk a cap w⟩
  ·refine⟨n,vs,⟨rfl,rfl⟩,Src.ofSlice w hk a n cap vs (by omega) (fun j u hu=> ?_) (fun u hu=> ?_)⟩
   ·rw[ko hc.2.1];exact(hc.2.2 j u hu).1
   ·obtain⟨j,hj⟩:=List.getElem?_of_mem hu;exact(hc.2.2 j u hj).2
 ·rename_i e' n xs;obtain⟨hl,h⟩:=h;obtain⟨he,hk'⟩:=B0.1 h;obtain rfl:=Nat.eq_of_beq_eq_true he;refine⟨_,hk',fun w0 L w F ι H y st hr hy=> ?_⟩;rcases hy.zz_inv with ⟨a,cap,rfl,rfl,rfl⟩|⟨a,cap,vs,rfl,hxs,hc,_⟩
  ·exact⟨0,[],⟨rfl,.nil⟩,mO hk a cap w⟩
  ·refine⟨n,vs,⟨rfl,hxs⟩,Src.ofSlice w hk a n cap vs (by rw[<-hxs.length];exact hl) (fun j u hu=> ?_) (fun u hu=> ?_)⟩
   ·rw[ko hc.2.1];exact(hc.2.2 j u hu).1
   ·obtain⟨j,hj⟩:=List.getElem?_of_mem hu;exact(hc.2.2 j u hj).2
 ·rename_i e' id off n;obtain⟨he,h2⟩:=B0.1 h;obtain rfl:=Nat.eq_of_beq_eq_true he;clear h;split at h2
  ·rename_i vs hH;obtain⟨hl,hk'⟩:=h2;refine⟨_,hk',fun w0 L w F ι H y st hr hy=> ?_⟩;rcases hy.o_inv with ⟨a,rfl,rfl⟩|⟨b,base,cap,rfl,hi,_,_⟩
   ·exact⟨0,[],⟨rfl,by simp[sub]⟩,mO hk a 0 w⟩
   ·obtain⟨us,hB,hc⟩:=iD st (hr _ _ hH) (by simp) hi;obtain rfl:vs=us:=hB;refine⟨n,sub vs off (n*e),⟨rfl,rfl⟩,Src.ofSlice w hk _ n cap _ (sE hl) (fun j u hu=> ?_) (fun u hu=> ?_)⟩
    ·rw[add_lit,Nat.add_assoc];exact(hc _ u (db hu)).1
    ·obtain⟨j,hj⟩:=List.getElem?_of_mem hu;exact(hc _ u (db hj)).2
  ·rename_i xs hH;obtain⟨hl,hk'⟩:=h2;refine⟨_,hk',fun w0 L w F ι H y st hr hy=> ?_⟩;rcases hy.o_inv with ⟨a,rfl,rfl⟩|⟨b,base,cap,rfl,hi,_,_⟩
   ·exact⟨0,[],⟨rfl,by simpa [sub]using n7.nil⟩,mO hk a 0 w⟩
   ·obtain⟨us,hB,hc⟩:=iD st (hr _ _ hH) (by simp) hi;have hB':n7 w F xs us:=hB;refine⟨n,sub us off (n*e),⟨rfl,hB'.sub off (n*e)⟩,Src.ofSlice w hk _ n cap _ (sE (by rw[<-hB'.length];exact hl)) (fun j u hu=> ?_) (fun u hu=> ?_)⟩
    ·rw[add_lit,Nat.add_assoc];exact(hc _ u (db hu)).1
    ·obtain⟨j,hj⟩:=List.getElem?_of_mem hu;exact(hc _ u (db hj)).2
  ·rename_i xs hH;obtain⟨hl,hk'⟩:=h2;refine⟨_,hk',fun w0 L w F ι H y st hr hy=> ?_⟩;rcases hy.o_inv with ⟨a,rfl,rfl⟩|⟨b,base,cap,rfl,hi,_,_⟩
   ·exact⟨0,[],⟨rfl,by simpa [sub]using RL.nil⟩,mO hk a 0 w⟩
   ·obtain⟨us,hB,hc⟩:=iD st (hr _ _ hH) (by simp) hi;have hB':RL w F ι xs us:=hB;refine⟨n,sub us off (n*e),⟨rfl,hB'.sub off (n*e)⟩,Src.ofSlice w hk _ n cap _ (sE (by rw[<-hB'.length];exact hl)) (fun j u hu=> ?_) (fun u hu=> ?_)⟩
    ·rw[add_lit,Nat.add_assoc];exact(hc _ u (db hu)).1
    ·obtain⟨j,hj⟩:=List.getElem?_of_mem hu;exact(hc _ u (db hj)).2
  ·exact h2.elim
 ·refine⟨_,h,fun w0 L w F ι H y st hr hy=> ?_⟩;cases hy.s_inv;exact⟨0,[],⟨rfl,rfl⟩,mO hk none 0 w⟩
 ·exact h.elim
theorem vO (hC:q6 C) {w0:World} {L:Nat->Prop} {w:World} {F:Nat->Prop} {ι:Io} {H:Hp} (st:St w0 L w F ι H) (hd:∀id x,ι id=some x->H id≠none) {nid:Id} (hnid:H nid=none)
  {t u el ty m n cap:Nat} {te:TI} {base:Option Addr} {xv:Value} {olds news:List Value} {Y:B} (hu:C.P.underlying t=some (.slice el)) (hel:C.ty el=some te) (hb:te.bytes<=4096)
  (hold:∀w':World,w'.heap=w.heap->(Builtin.firstCells te.size m (.slice base m cap)).run C.P w'= .ok olds.toArray w') (holen:olds.length=m*te.size) (hold1:∀x∈olds,x.oneCell'=true) (hs:ay C.P el te.size u xv n news w)
  (hgrow:cap<m+n) (hbound:m+n<=1073741824) (hY:BR w F ι Y (olds++news)):
  ∃(x:Value) (w':World) (ι':Io),(Builtin.append_ #[t,u] ty #[.slice base m cap,xv]).run C.P w= .ok x w'/\Nx w0 L w F ι w' F ι' (x5 H nid (some Y))/\R w' F ι' (.o te.size nid 0 (m+n)) x:=by
 obtain⟨_,i,z,hi,hsz,hby,hz,hzc,hzl,hz1⟩:=hC.ty el te hel;have hzs:z.cells.size=te.size:=by rw[<-hzl,<-hzc];simp
 have hrun:=a1m (P:=C.P) w t u ty el i z hu hi hz base m cap olds (by rw[hsz];exact hold _ rfl) xv n news (by rw[hsz];exact hs) hgrow (by omega)
  (by rw[hby];have h1:=Dr hgrow;have h2:Builtin.nextslicecap (m+n) cap*te.bytes<=(2*(m+n)+192)*4096:=Nat.mul_le_mul h1 hb;omega)
 have hcap:m+n<=grownCap w (m+n) cap el:=by simp[grownCap,Question.cut]
 have hnx:=(wC st.drew hd hnid (arr:=(olds++news).toArray++Builtin.zeroCells z.cells (grownCap w (m+n) cap el-(m+n))) (t:=el) (fr:=(0,0)) (vs:=olds++news) (Y:=Y) (.inl rfl)
  (by
   intro j x hx;have d8:=(List.getElem?_eq_some_iff.1 hx).1;refine⟨?_,?_⟩
   ·rw[Array.getElem?_append_left (by simpa using d8)];simpa using hx
   ·rcases List.mem_append.1 (List.mem_of_getElem? hx)with h|h
    ·exact hold1 x h
    ·exact hs.one x h) (hY.ev (Ev.drew w F) (fun _ h=>h) (fun _ _ h=>h))).pre (Ev.drew w F)
 refine⟨_,_,_,hrun,hnx,?_⟩;have hsize:((olds++news).toArray++Builtin.zeroCells z.cells (grownCap w (m+n) cap el-(m+n))).size=grownCap w (m+n) cap el*te.size:=by
  have e1:=hs.newsLen;simp only[Array.size_append,List.size_toArray,List.length_append,holen,e1,Builtin.zeroCells,Array.size_map,Array.size_range,hzs];rw[<-Nat.add_mul,<-Nat.add_mul];congr 1;omega
 have:=R.o (w:=w.drew.alloc (.cells ((olds++news).toArray++Builtin.zeroCells z.cells (grownCap w (m+n) cap el-(m+n))) el)) (F:=F) (ι:=x5 ι nid (some (w.drew.heap.size,0))) (e:=te.size) (id:=nid) (off:=0) (n:=m+n) (cap:=grownCap w (m+n) cap el) (F8 _ _ _) hcap
  ⟨_,el,(0,0),pz _ _,by rw[hsize];simp⟩
 simpa using this
theorem ZV (hC:q6 C) {w0:World} {L:Nat->Prop} {w:World} {F:Nat->Prop} {ι:Io} {H:Hp} (st:St w0 L w F ι H) (hd:∀id x,ι id=some x->H id≠none) {id nid:Id} (hnid:H nid=none) {X:B} (l4:H id=some X) (hX:X≠ .dead)
  {t u el ty m n cap b base off:Nat} {te:TI} {xv:Value} {news:List Value} {Y Z:B} (hi:ι id=some (b,base)) (hu:C.P.underlying t=some (.slice el)) (hel:C.ty el=some te)
  (hroom:ab w b (base+off+cap*te.size)) (hs:ay C.P el te.size u xv n news w) (hfit:m+n<=cap)
  (hZ:∀vs:List Value,BR w F ι X vs->BR w F ι Z (vs.drop off)) (hZd:Z≠ .dead)
  (hY:∀(ι':Io) (vs:List Value),(∀id x,ι id=some x->ι' id=some x)->BR w F ι X vs->BR w F ι' Y ((vs.drop off).take (m*te.size)++news)) (s3:∀vs:List Value,BR w F ι X vs->off+m*te.size<=vs.length):
  ∃(x:Value) (w':World) (ι':Io),(Builtin.append_ #[t,u] ty #[.slice (some ⟨b,base+off,none⟩) m cap,xv]).run C.P w= .ok x w'/\Nx w0 L w F ι w' F ι' (x5 (x5 H id (some .dead)) nid (some Y))/\R w' F ι' (.o te.size nid 0 (m+n)) x:=by
 obtain⟨_,i,z,hii,hsz,hby,hz,hzc,hzl,hz1⟩:=hC.ty el te hel;have hn1:=Xw st hd l4 hX hi hnid hZ;have hnl:=hs.newsLen;have hroom2:ab w b (base+off+m*te.size+news.length):=by
  obtain⟨arr,t',fr,hh,hle⟩:=hroom;refine⟨arr,t',fr,hh,?_⟩;have:m*te.size+n*te.size<=cap*te.size:=by rw[<-Nat.add_mul];exact Nat.mul_le_mul_right _ hfit
  omega
 have hth:=sq hn1.st (id:=nid) (X:=Z) (F8 _ _ _) hZd (F8 _ _ _) hroom2;have hrun:=a1n (P:=C.P) w t u ty el i hu hii b (base+off) m cap xv n news (by rw[hsz];exact hs) hfit (by rw[hsz];exact fun j hj=>(hth j hj).1) (by rw[hsz];exact fun j hj=>(hth j hj).2);rw[hsz]at hrun;obtain⟨vs0,hB0,hc0⟩:=iD st l4 hX hi;have hn2:=rQ hn1.st hn1.dm (id:=nid) (b:=b) (base:=base+off) (o:=m*te.size) (X:=Z) (Y:=Y) (F8 _ _ _) hZd (F8 _ _ _) (us:=news) hs.one hroom2 (by
  refine⟨(vs0.drop off).take (m*te.size)++news,hY _ vs0 hn1.im hB0,fun j x hx=> ?_⟩;have hl0:((vs0.drop off).take (m*te.size)).length=m*te.size:=by
   have:=s3 vs0 hB0;simp;omega
  by_cases hj:j<m*te.size
  ·right;rw[List.getElem?_append_left (by omega),List.getElem?_take_of_lt hj,List.getElem?_drop]at hx;exact⟨.inl hj,by rw[Nat.add_assoc];exact hc0 _ x hx⟩
  ·left;rw[List.getElem?_append_right (by omega),hl0]at hx;have:=(List.getElem?_eq_some_iff.1 hx).1;exact⟨by omega,by omega,hx⟩)
 have hH:x5 (x5 (x5 H id (some .dead)) nid (some Z)) nid (some Y)=x5 (x5 H id (some .dead)) nid (some Y):=by
  funext i;by_cases he:nid=i
  ·subst he;rw[F8,F8]
  ·rw[C4 _ _ he,C4 _ _ he,C4 _ _ he]
 rw[hH]at hn2;have hn3:=hn1.trans hn2;refine⟨_,_,_,hrun,hn3,?_⟩;have hr2:ab (w.setCells b (base+off+m*te.size) news) b (base+off+0+cap*te.size):=ab.ev (F:=F) (by simpa using hroom) hn3.ev;exact R.o (off:=0) (F8 _ _ _) hfit hr2
end
end Go.Scr
