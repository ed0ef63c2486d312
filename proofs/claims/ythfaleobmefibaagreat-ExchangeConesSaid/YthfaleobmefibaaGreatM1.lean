/- Laws on walking typed knowledge through code, and contracts. -/
import Derived.WalkKit
import Derived.Orders
import Derived.RangeFuncLeaves
import Derived.RangeFuncFrom
import Derived.Great.BuildSlice
import Derived.WalkSpells
import Derived.MapKept
import Derived.Lib.SlicesS
import Derived.ProofKit
import Derived.LaidMore
import Derived.OpenShut
import Derived.Lay
import Derived.LaidOnce
import Derived.SevenTiedAt
import Derived.Stop.Joined

/- Typed knowledge on a frame's slots and on memory; what one operation has to show ('OpOk'). No program in sight. -/
namespace Go.Fl
open Go Go.RowKit
theorem zo {p:Prop} (h:p:=by omega):p:=h
theorem zi {p:Prop} (h:p:=by first | rfl | omega | (simp; done) | (simp; omega) | assumption):p:=h

abbrev JV:=Nat->Nat->Option Value
def JV.le (J J':JV):Prop:=∀b o v,J b o=some v->J' b o=some v
theorem JV.le_refl (J:JV):J.le J:=fun _ _ _ h=>h
theorem JV.le_trans {a b c:JV} (h:a.le b) (k:b.le c):a.le c:=fun x y v e=>k x y v (h x y v e)
inductive Bk where
 | nil
 | blk (b cap:Nat)
structure Gh where
 J:JV
 M:Nat->Option Bk
def Gh.le (g g':Gh):Prop:=g.J.le g'.J/\∀t b,g.M t=some b->g'.M t=some b
theorem Gh.le_refl (g:Gh):g.le g:=⟨JV.le_refl _,fun _ _ h=>h⟩
theorem Gh.le_trans {a b c:Gh} (h:a.le b) (k:b.le c):a.le c:=⟨JV.le_trans h.1 k.1,fun t x e=>k.2 t x (h.2 t x e)⟩
abbrev d7:=Gh->Value->Prop
abbrev t9:=Gh->Bk->Option Obj->Prop
def y9:Nat->Option Bk:=fun _=>none
class o5 (k:d7) (dep:outParam (List Nat)):Prop where
 dep:∀{g g':Gh} {v:Value},g.J.le g'.J->(∀t∈dep,g'.M t=g.M t)->k g v->k g' v
class B4 (c:t9) (dep:outParam (List Nat)):Prop where
 dep:∀{g g':Gh} {b:Bk} {o:Option Obj},g.J.le g'.J->(∀t∈dep,g'.M t=g.M t)->c g b o->c g' b o

def DU (J:JV) (b o:Nat) (ds:List Value):Prop:=∀j v,ds[j]?=some v->J b (o+j)=some v
theorem DU.mono {J J':JV} (h:J.le J') {b o:Nat} {ds:List Value} (k:DU J b o ds):DU J' b o ds:=fun j v e=>h _ _ _ (k j v e)
def p9:Nat:=281474976710656
structure i8 (α:Type) where
 n:Nat
 agg:Bool
 rd:JV->List Value->α->Prop
 len:∀{J:JV} {cs:List Value} {x:α},rd J cs x->cs.length=n
 one:agg=false->n=1/\∀{J:JV} {v:Value} {x:α},rd J [v] x->v.oneCell'=true
 all1:∀{J:JV} {cs:List Value} {x:α},rd J cs x->∀v∈cs,v.oneCell'=true
 mono:∀{J J':JV} {cs:List Value} {x:α},J.le J'->rd J cs x->rd J' cs x
def i8.val {α:Type} (e:i8 α) (J:JV) (v:Value) (x:α):Prop :=
 ∃cs,e.rd J cs x/\v=(if e.agg then .agg cs.toArray else cs.headD undef)
theorem i8.val.mono {α:Type} {e:i8 α} {J J':JV} {v:Value} {x:α} (h:J.le J') (k:e.val J v x):e.val J' v x :=
 let ⟨cs,h1,h2⟩:=k; ⟨cs,e.mono h h1,h2⟩
theorem UO {v:Value} (h:v.oneCell'=true):v.cells=#[v]:=by
 cases v<;>first | rfl | (simp[Value.oneCell'] at h)
theorem i8.val.cells {α:Type} {e:i8 α} {J:JV} {v:Value} {x:α} (k:e.val J v x):e.rd J v.cells.toList x:=by
 obtain ⟨cs,h1,rfl⟩:=k
 cases hb:e.agg with
 | true=>simpa [Value.cells] using h1
 | false =>
  have hl:=e.len h1
  obtain ⟨hn,ho⟩:=e.one hb
  rw[hn] at hl
  match cs,hl with
  | [c],_ =>
   have:=ho h1
   simp only[List.headD_cons,Bool.false_eq_true,if_false]
   rw[UO this]
   exact h1
def FK (k:IntKind):i8 Int where
 n:=1
 agg:=false
 rd _ cs x:=cs=[.int k x]
 len h:=by subst h; rfl
 one _:=⟨rfl,fun h=>by cases h; rfl⟩
 all1 h v hv:=by subst h; simp at hv; subst hv; rfl
 mono _ h:=h
abbrev eI:i8 Int:=FK .i64
def BU:i8 Bool where
 n:=1
 agg:=false
 rd _ cs x:=cs=[.bool x]
 len h:=by subst h; rfl
 one _:=⟨rfl,fun h=>by cases h; rfl⟩
 all1 h v hv:=by subst h; simp at hv; subst hv; rfl
 mono _ h:=h
def GC {α:Type} (e:i8 α) (J:JV) (b o:Nat) (xs:List α):Prop :=
 ∀i x,xs[i]?=some x->∃ds,e.rd J ds x/\DU J b (o+i*e.n) ds
theorem GC.mono {α:Type} {e:i8 α} {J J':JV} (h:J.le J') {b o:Nat} {xs:List α} (k:GC e J b o xs):GC e J' b o xs :=
 fun i x hx=>let ⟨ds,h1,h2⟩:=k i x hx; ⟨ds,e.mono h h1,h2.mono h⟩
def eL {α:Type} (e:i8 α):i8 (List α) where
 n:=1
 agg:=false
 rd J cs xs:=∃a cap,cs=[.slice a xs.length cap]/\(xs.length<=p9/\xs.length<=cap)/\(xs=[]\/∃b o,a=some ⟨b,o,none⟩/\GC e J b o xs)
 len h:=by obtain ⟨_,_,rfl,_⟩:=h; rfl
 one _:=⟨rfl,fun h=>by obtain ⟨_,_,h,_⟩:=h; cases h; rfl⟩
 all1 h v hv:=by obtain ⟨_,_,rfl,_⟩:=h; simp at hv; subst hv; rfl
 mono hl h:=by
  obtain ⟨a,cap,h1,hm,h2⟩:=h
  refine ⟨a,cap,h1,hm,?_⟩
  rcases h2 with h2 | ⟨b,o,h3,h4⟩
  ·exact .inl h2
  ·exact .inr ⟨b,o,h3,h4.mono hl⟩
def eU:i8 Unit where
 n:=0
 agg:=true
 rd _ cs _:=cs=[]
 len h:=by subst h; rfl
 one h:=by cases h
 all1 h v hv:=by subst h; simp at hv
 mono _ h:=h
def eP {α β:Type} (e:i8 α) (f:i8 β):i8 (α×β) where
 n:=e.n+f.n
 agg:=true
 rd J cs x:=∃c1 c2,cs=c1++c2/\e.rd J c1 x.1/\f.rd J c2 x.2
 len h:=by obtain ⟨c1,c2,rfl,h1,h2⟩:=h; rw[List.length_append,e.len h1,f.len h2]
 one h:=by cases h
 all1 h v hv:=by
  obtain ⟨c1,c2,rfl,h1,h2⟩:=h
  rcases List.mem_append.1 hv with h | h
  ·exact e.all1 h1 v h
  ·exact f.all1 h2 v h
 mono hl h:=by obtain ⟨c1,c2,h0,h1,h2⟩:=h; exact ⟨c1,c2,h0,e.mono hl h1,f.mono hl h2⟩
def eC {α β:Type} (f:β->α) (e:i8 α):i8 β where
 n:=e.n
 agg:=e.agg
 rd J cs x:=e.rd J cs (f x)
 len h:=e.len h
 one h:=⟨(e.one h).1,fun k=>(e.one h).2 k⟩
 all1 h:=e.all1 h
 mono hl h:=e.mono hl h
def Z0 {α:Type} (e:i8 α):i8 α where
 n:=1
 agg:=false
 rd J cs x:=∃b o ds,cs=[.pointer (some ⟨b,o,none⟩)]/\e.rd J ds x/\DU J b o ds
 len h:=by obtain ⟨_,_,_,rfl,_⟩:=h; rfl
 one _:=⟨rfl,fun h=>by obtain ⟨_,_,_,h,_⟩:=h; cases h; rfl⟩
 all1 h v hv:=by obtain ⟨_,_,_,rfl,_⟩:=h; simp at hv; subst hv; rfl
 mono hl h:=by obtain ⟨b,o,ds,h1,h2,h3⟩:=h; exact ⟨b,o,ds,h1,e.mono hl h2,h3.mono hl⟩

def j4 (u:Value):d7:=fun _ v=>v=u
abbrev z9 (k:IntKind) (n:Int):d7:=j4 (.int k n)
abbrev kI (n:Int):d7:=j4 (.int .i64 n)
abbrev kB (b:Bool):d7:=j4 (.bool b)
def b8 {α:Type} (e:i8 α) (x:α):d7:=fun g v=>e.val g.J v x
def r7 {α:Type} (e:i8 α) (x:α):d7:=fun g v=>∃b o ds,v=.pointer (some ⟨b,o,none⟩)/\e.rd g.J ds x/\DU g.J b o ds
def y5 (t o:Nat):d7:=fun g v=>∃b cap,g.M t=some (.blk b cap)/\v=.pointer (some ⟨b,o,none⟩)
def DF (t n i len:Nat):d7:=fun g v=>i<len/\∃b cap,g.M t=some (.blk b cap)/\v=.pointer (some ⟨b,i*n,none⟩)
def o9 (t len:Nat):d7:=fun g v=>(g.M t=some .nil/\len=0/\v=.slice none 0 0)\/∃b cap,g.M t=some (.blk b cap)/\v=.slice (some ⟨b,0,none⟩) len cap
def n9 (g:Gh):List d7->List Value->Prop
 | [],[]=>True
 | k::ks,v::vs=>k g v/\n9 g ks vs
 | _,_=>False
def z6 (ks:List d7):d7:=fun g v=>∃vs:List Value,v=.tuple vs.toArray/\n9 g ks vs
def H9 (ks:List d7):d7:=fun g v=>∃cs:List Value,v=.agg cs.toArray/\n9 g ks cs
def X6:d7:=fun _ _=>True
instance (u:Value):o5 (j4 u) []:=⟨fun _ _ h=>h⟩
instance:o5 X6 []:=⟨fun _ _ h=>h⟩
instance {α:Type} (e:i8 α) (x:α):o5 (b8 e x) []:=⟨fun h _ k=>i8.val.mono h k⟩
instance {α:Type} (e:i8 α) (x:α):o5 (r7 e x) []:=⟨fun h _ ⟨b,o,ds,h1,h2,h3⟩=>⟨b,o,ds,h1,e.mono h h2,h3.mono h⟩⟩
instance (t o:Nat):o5 (y5 t o) [t]:=⟨fun _ hd ⟨b,cap,h1,h2⟩=>⟨b,cap,(hd t (by simp)).trans h1,h2⟩⟩
instance (t n i l:Nat):o5 (DF t n i l) [t]:=⟨fun _ hd ⟨h0,b,cap,h1,h2⟩=>⟨h0,b,cap,(hd t (by simp)).trans h1,h2⟩⟩
instance (t l:Nat):o5 (o9 t l) [t]:=⟨fun _ hd h=>h.imp (fun ⟨h1,h2⟩=>⟨(hd t (by simp)).trans h1,h2⟩) (fun ⟨b,cap,h1,h2⟩=>⟨b,cap,(hd t (by simp)).trans h1,h2⟩)⟩
class B9 (ks:List d7) (dep:outParam (List Nat)):Prop where
 dep:∀{g g':Gh} {vs:List Value},g.J.le g'.J->(∀t∈dep,g'.M t=g.M t)->n9 g ks vs->n9 g' ks vs
instance:B9 [] []:=⟨fun {_ _ vs} _ _ h=>by cases vs<;>exact h⟩
instance {k:d7} {ks:List d7} {d ds:List Nat} [h:o5 k d] [hs:B9 ks ds]:B9 (k::ks) (d++ds) :=
 ⟨fun {_ _ vs} hl hd hk=>by
  cases vs with
  | nil=>exact hk
  | cons v vs=>exact ⟨h.dep hl (fun t ht=>hd t (List.mem_append.2 (.inl ht))) hk.1,hs.dep hl (fun t ht=>hd t (List.mem_append.2 (.inr ht))) hk.2⟩⟩
instance {ks:List d7} {ds:List Nat} [h:B9 ks ds]:o5 (z6 ks) ds:=⟨fun hl hd ⟨vs,h1,h2⟩=>⟨vs,h1,h.dep hl hd h2⟩⟩
instance {ks:List d7} {ds:List Nat} [h:B9 ks ds]:o5 (H9 ks) ds:=⟨fun hl hd ⟨vs,h1,h2⟩=>⟨vs,h1,h.dep hl hd h2⟩⟩
theorem o5.mono {k:d7} {d:List Nat} (h:o5 k d) {g g':Gh} {v:Value} (hl:g.le g') (hd:∀t∈d,g.M t≠none) (hk:k g v):k g' v :=
 h.dep hl.1 (fun t ht=>by
  cases e:g.M t with
  | none=>exact absurd e (hd t ht)
  | some x=>exact hl.2 t x e) hk
theorem IT {g:Gh}:∀{ks:List d7} {vs:List Value},n9 g ks vs->∀{i:Nat} {k:d7},ks[i]?=some k->∃v,vs[i]?=some v/\k g v
 | [],[],_,_,_,h=>by simp at h
 | _::_,v::_,hh,0,_,h=>by simp at h; subst h; exact ⟨v,rfl,hh.1⟩
 | _::_,_::_,hh,i+1,k,h=>by simpa using IT hh.2 (i:=i) (k:=k) (by simpa using h)
 | [],_::_,h,_,_,_=>h.elim
 | _::_,[],h,_,_,_=>h.elim
theorem L6 {g:Gh}:∀{ks:List d7} {vs:List Value},n9 g ks vs->vs.length=ks.length
 | [],[],_=>rfl
 | _::_,_::_,h=>by simp[L6 h.2]
 | [],_::_,h=>h.elim
 | _::_,[],h=>h.elim
theorem ON {g:Gh}:∀{ks ls:List d7} {vs ws:List Value},n9 g ks vs->n9 g ls ws->n9 g (ks++ls) (vs++ws)
 | [],_,[],_,_,h=>h
 | _::_,_,_::_,_,h,h'=>⟨h.1,ON h.2 h'⟩
 | [],_,_::_,_,h,_=>h.elim
 | _::_,_,[],_,h,_=>h.elim
theorem aT {g:Gh}:∀{ks:List d7} {vs:List Value},n9 g ks vs->∀(i:Nat) {k:d7} {v:Value},k g v->n9 g (ks.set i k) (vs.set i v)
 | [],[],_,_,_,_,_=>trivial
 | _::_,_::_,h,0,_,_,hk=>⟨hk,h.2⟩
 | _::_,_::_,h,i+1,_,_,hk=>⟨h.1,aT h.2 i hk⟩
 | [],_::_,h,_,_,_,_=>h.elim
 | _::_,[],h,_,_,_,_=>h.elim

def j5 (ks:List d7):t9:=fun g _ o=>∃cs ty,o=some (.cells cs ty (0,0))/\n9 g ks cs.toList
def l5 {α:Type} (z:Bool) (ty:TypeId) (e:i8 α) (xs:List α) (len:Nat):t9:=fun g bk o =>
 xs.length=len/\match bk with
 | .nil=>len=0
 | .blk _ cap=>(z=true->len≠0)/\∃cs:Array Value,o=some (.cells cs ty (0,0))/\cs.size=cap*e.n/\len<=cap/\cap<=maxLen /\
  ∀i x,xs[i]?=some x->∃ds,e.rd g.J ds x/\∀j v,ds[j]?=some v->cs[i*e.n+j]?=some v
def oN:t9:=fun _ _ _=>True
instance {ks:List d7} {ds:List Nat} [h:B9 ks ds]:B4 (j5 ks) ds:=⟨fun hl hd ⟨cs,ty,h1,h2⟩=>⟨cs,ty,h1,h.dep hl hd h2⟩⟩
instance {α:Type} (z:Bool) (ty:TypeId) (e:i8 α) (xs:List α) (len:Nat):B4 (l5 z ty e xs len) [] :=
 ⟨fun {_ _ b _} hl _ ⟨h0,h⟩=>⟨h0,by
  cases b with
  | nil=>exact h
  | blk b cap =>
   obtain ⟨hz,cs,h1,h2,h3,h4,h5⟩:=h
   exact ⟨hz,cs,h1,h2,h3,h4,fun i x hx=>let ⟨ds,k1,k2⟩:=h5 i x hx; ⟨ds,e.mono hl k1,k2⟩⟩⟩⟩
class LK (ct:t9):Prop where
 no:∀{g:Gh} {b cap:Nat} {o:Option Obj},ct g (.blk b cap) o->o≠some (Obj.deferred (some []))
instance {ks:List d7}:LK (j5 ks):=⟨fun ⟨_,_,h,_⟩ e=>by rw[h] at e; cases e⟩
instance {α:Type} {z:Bool} {ty:TypeId} {e:i8 α} {xs:List α} {len:Nat}:LK (l5 z ty e xs len):=⟨fun ⟨_,_,_,h,_⟩ e=>by rw[h] at e; cases e⟩

structure n6 where
 w0:World
 J0:JV
 bor:List Nat
 n:Nat
 rd:Option Nat
 mrk:Bool
 om:List Nat
def n6.F (c:n6):Fence:={ Fence.wide with round:=c.rd }
def P7 (m:Bool) (B:Nat) (om:List Nat) (ds:List Deferred) (w:World):Prop :=
 (match m with
 | false=>ds=[]
 | true=>ds.Nodup/\∀d∈ds,∃D:Nat,d={ target:=.collected D,args:=#[] }/\B<=D/\w.heap[D]?=some (Obj.deferred (some [])))/\∀D∈om,w.heap[D]?=some (Obj.deferred (some []))
theorem P7.on {m:Bool} {B:Nat} {om:List Nat} {ds:List Deferred} {w w':World} (h:P7 m B om ds w) (hk:∀D:Nat,w.heap[D]?=some (Obj.deferred (some []))->w'.heap[D]?=w.heap[D]?):P7 m B om ds w':=by
 refine ⟨?_,fun D hD=>(hk D (h.2 D hD)).trans (h.2 D hD)⟩
 have h:=h.1
 cases m with
 | false=>exact h
 | true=>exact ⟨h.1,fun d hd=>let ⟨D,h1,h2,h3⟩:=h.2 d hd; ⟨D,h1,h2,(hk D h3).trans h3⟩⟩
@[reducible] def dz (_:Nat):Nat:=0
theorem DZ (n:Nat):dz n<=dz (n+1):=by unfold dz; omega
structure Below (B:Nat) (w w':World):Prop where
 os:w'.os=w.os
 tape:w'.tape=w.tape
 output:w'.output=w.output
 size:w.heap.size<=w'.heap.size
 block:∀k,k<B->w'.heap[k]?=w.heap[k]?
 drawn:dz w.drawn<=dz w'.drawn
theorem Below.refl (B:Nat) (w:World):Below B w w:=⟨rfl,rfl,rfl,Nat.le_refl _,fun _ _=>rfl,Nat.le_refl _⟩
theorem Below.trans {B:Nat} {a b c:World} (h:Below B a b) (k:Below B b c):Below B a c :=
 ⟨k.os.trans h.os,k.tape.trans h.tape,k.output.trans h.output,Nat.le_trans h.size k.size,fun i hi=>(k.block i hi).trans (h.block i hi),Nat.le_trans h.drawn k.drawn⟩
theorem Below.mono {B B':Nat} {w w':World} (h:Below B w w') (hB:B'<=B):Below B' w w':=⟨h.os,h.tape,h.output,h.size,fun k hk=>h.block k (Nat.lt_of_lt_of_le hk hB),h.drawn⟩
theorem Below.drew {B:Nat} {a w:World} (h:Below B a w):Below B a w.drew:=⟨h.os,h.tape,h.output,h.size,h.block,Nat.le_trans h.drawn (DZ _)⟩
theorem Below.heap_alloc (w:World) (o:Obj) (k:Nat) (h:k<w.heap.size):(w.alloc o).heap[k]?=w.heap[k]?:=Go.RowKit.Below.heap_alloc w o k h
theorem Below.alloc {B:Nat} {a w:World} (h:Below B a w) (hB:B<=w.heap.size) (o:Obj):Below B a (w.alloc o) :=
 h.trans ⟨rfl,rfl,rfl,by simp,fun k hk=>Below.heap_alloc _ _ _ zo,Nat.le_refl _⟩
theorem Below.kit {B:Nat} {w w':World} (h:Below B w w'):Go.RowKit.Below B w w':=⟨h.os,h.tape,h.output,h.size,h.block⟩
theorem Below.frame {W w':World} (h:Below W.heap.size W w') (may:MemPlace->Prop):W.keptBut w' may:=h.kit.frame may
theorem Below.cell {B:Nat} {w w':World} (h:Below B w w') {p:Addr} (hp:p.block<B):w'.cell? p=w.cell? p:=h.kit.cell hp
structure NZ (bor:List Nat) (w w':World):Prop where
 os:w'.os=w.os
 tape:w'.tape=w.tape
 output:w'.output=w.output
 size:w.heap.size<=w'.heap.size
 block:∀k,k<w.heap.size->k∉bor->w'.heap[k]?=w.heap[k]?
 drawn:dz w.drawn<=dz w'.drawn
theorem P7.below {m:Bool} {B:Nat} {om:List Nat} {ds:List Deferred} {w w':World} (h:P7 m B om ds w) (hb:Below w.heap.size w w'):P7 m B om ds w' :=
 h.on fun D hD=>hb.block D (Array.getElem?_eq_some_iff.1 hD).1
theorem NZ.then {bor:List Nat} {a b c:World} (h:NZ bor a b) (k:Below b.heap.size b c):NZ bor a c :=
 ⟨k.os.trans h.os,k.tape.trans h.tape,k.output.trans h.output,Nat.le_trans h.size k.size,fun i hi hb=>(k.block i (Nat.lt_of_lt_of_le hi h.size)).trans (h.block i hi hb),Nat.le_trans h.drawn k.drawn⟩
structure Ok (c:n6) (g:Gh) (w:World):Prop where
 bel:NZ c.bor c.w0 w
 jle:c.J0.le g.J
 jold:∀b o,b<c.w0.heap.size->g.J b o=c.J0 b o
 im:∀b o v,g.J b o=some v->w.cell? ⟨b,o,none⟩=some v
 own:∀t b cap,g.M t=some (.blk b cap)->(c.w0.heap.size<=b\/b∈c.bor)/\b<w.heap.size/\∀o,g.J b o=none
 inj:∀t t' b cap cap',g.M t=some (.blk b cap)->g.M t'=some (.blk b cap')->t=t'
structure SE where
 s:Nat
 b:Bool
 dep:List Nat
 k:d7
structure CE where
 t:Nat
 dep:List Nat
 c:t9
abbrev i4:=List SE
abbrev i1:=List CE
def look:i4->Nat->Option (Bool×d7)
 | [],_=>none
 | e::r,t=>bif Nat.beq e.s t then some (e.b,e.k) else look r t
def j2 (S:i4):Operand->Option (Bool×d7)
 | .tmp t=>look S t
 | .const v=>some (true,j4 v)
 | .global g=>some (true,j4 (.pointer (some ⟨g,0,none⟩)))
 | .func f=>some (true,j4 (.func (.func f) #[] #[]))
def T1 (g:Gh) (v:Value) (b:Bool) (k:d7):Prop:=(b=true->k g v)/\(b=false->v=undef)
def V2 (S:i4) (a:Act) (g:Gh):Prop:=∀t b k,look S t=some (b,k)->T1 g (a.tmps.getD t undef) b k
def TW (S:i4) (M:i1):Prop:=∀e∈S,o5 e.k e.dep/\∀t∈e.dep,t∈M.map (·.t)
def IF (N:i1) (M:i1):Prop:=∀e∈N,B4 e.c e.dep/\∀t∈e.dep,t∈M.map (·.t)
def World.objAt (w:World):Bk->Option Obj
 | .nil=>none
 | .blk b _=>w.heap[b]?
def F7 (M:i1) (g:Gh) (w:World):Prop:=∀e∈M,∃b,g.M e.t=some b/\e.c g b (World.objAt w b)
structure l8 (c:n6) (S:i4) (M:i1) (a:Act) (g:Gh) (w:World):Prop where
 ok:Ok c g w
 slots:V2 S a g
 conts:F7 M g w
 dom:∀t,g.M t≠none->t∈M.map (·.t)
 nodup:(M.map (·.t)).Nodup
 sdep:TW S M
 cdep:IF M M
 defers:P7 c.mrk c.w0.heap.size c.om a.defers w
 size:a.tmps.size=c.n
theorem C8 {S:i4} {a:Act} {g:Gh} (h:V2 S a g) {x:Operand} {b:Bool} {k:d7} (hx:j2 S x=some (b,k)) (hb:b=true):k g (a.eval x):=by
 cases x with
 | tmp t=>exact (h t b k hx).1 hb
 | const v=>cases hx; rfl
 | global v=>cases hx; rfl
 | func v=>cases hx; rfl

def IJ (S:i4) (o:Oper) (a:Act) (g:Gh):Prop:=∀x∈o.op.operands,∀b k,j2 S x=some (b,k)->b=true->k g (a.eval x)
structure H2 (c:n6) (k:d7) (new:Option CE) (g g':Gh) (w w':World) (v:Value):Prop where
 k:k g' v
 le:g.le g'
 ok:Ok c g' w'
 bel:Below w.heap.size w w'
 made:∀e,new=some e->∃b,g'.M e.t=some b/\e.c g' b (World.objAt w' b)
 old:∀t,(∀e,new=some e->e.t≠t)->g'.M t=g.M t
def l4 (P:Program) (c:n6) (S:i4) (M:i1) (o:Oper) (p:Bool) (k:d7) (new:Option CE):Prop :=
 p=true->∀(a:Act) (g:Gh) (w:World),Ok c g w->F7 M g w->IJ S o a g->(∀e,new=some e->g.M e.t=none) ->
  o.wp P a w (fun a' w'=>∃v g',a'=a.put o.dst v/\H2 c k new g g' w w' v) (fun _ _ _=>False)
theorem H2.same {c:n6} {k:d7} {g:Gh} {w:World} {v:Value} (h:Ok c g w) (hk:k g v):H2 c k none g g w w v :=
 ⟨hk,Gh.le_refl _,h,Below.refl _ _,fun _ h=>(by cases h),fun _ _=>rfl⟩
theorem l4.pure {P:Program} {c:n6} {S:i4} {M:i1} {o:Oper} {p:Bool} {k:d7}
  (h:p=true->∀(a:Act) (g:Gh) (w:World),Ok c g w->F7 M g w->IJ S o a g->∃v,(execOp a.eval o).run P w=.ok (.value v) w/\k g v):l4 P c S M o p k none :=
 fun hp a g w hok hc ho _=>by
  obtain ⟨v,hr,hv⟩:=h hp a g w hok hc ho
  unfold Oper.wp
  rw[hr]
  exact ⟨v,g,rfl,.same hok hv⟩
end Go.Fl

/- Walking code over typed knowledge: lists of operations, regions, branches, loops, returns; contracts. -/
namespace Go.Fl
open Go Go.RowKit

def t8:List Nat->List Nat->Bool
 | [],_=>true
 | t::r,l=>(l.any fun u=>Nat.beq u t)&&t8 r l
theorem C3:∀{d l:List Nat},t8 d l=true->∀t∈d,t∈l
 | t::r,l,h,u,hu=>by
  simp only[t8,Bool.and_eq_true] at h
  rcases List.mem_cons.1 hu with rfl | hu
  ·obtain ⟨x,hx,he⟩:=List.any_eq_true.1 h.1
   rw[<- Nat.eq_of_beq_eq_true he]; exact hx
  ·exact C3 h.2 u hu
def tags (M:i1):List Nat:=M.map (·.t)
def T6 (e:Option CE) (M:i1):i1:=match e with | some e=>e::M | none=>M
theorem ED:∀{S:i4} {t:Nat} {b:Bool} {k:d7},look S t=some (b,k)->∃e∈S,e.s=t/\e.b=b/\e.k=k
 | e::S,t,b,k,h=>by
  simp only[look] at h
  cases hb:Nat.beq e.s t with
  | true =>
   rw[hb] at h
   simp only[cond_true,Option.some.injEq,Prod.mk.injEq] at h
   exact ⟨e,List.mem_cons_self,Nat.eq_of_beq_eq_true hb,h.1,h.2⟩
  | false =>
   rw[hb] at h
   obtain ⟨x,hx,r⟩:=ED (S:=S) h
   exact ⟨x,List.mem_cons_of_mem _ hx,r⟩
theorem l8.tagM {c:n6} {S:i4} {M:i1} {a:Act} {g:Gh} {w:World} (h:l8 c S M a g w) {t:Nat} (ht:t∈tags M):∃b,g.M t=some b:=by
 obtain ⟨e,he,rfl⟩:=List.mem_map.1 ht
 obtain ⟨b,hb,_⟩:=h.conts e he
 exact ⟨b,hb⟩
theorem F7.tag {M:i1} {g:Gh} {w:World} (h:F7 M g w) {t:Nat} (ht:t∈tags M):∃b,g.M t=some b:=by
 obtain ⟨e,he,rfl⟩:=List.mem_map.1 ht
 obtain ⟨b,hb,_⟩:=h e he
 exact ⟨b,hb⟩
theorem gO {M:i1} {g g':Gh} {w:World} (hc:F7 M g w) (hl:g.le g') {k:d7} {dep:List Nat} (hk:o5 k dep) (hd:∀t∈dep,t∈tags M) {v:Value} (h:k g v):k g' v :=
 hk.dep hl.1 (fun t ht=>by obtain ⟨b,hb⟩:=hc.tag (hd t ht); rw[hb]; exact hl.2 t b hb) h
theorem V2.on {S:i4} {M:i1} {a:Act} {g g':Gh} {w:World} (h:V2 S a g) (hs:TW S M) (hc:F7 M g w) (hl:g.le g'):V2 S a g':=by
 intro t b k hk
 obtain ⟨e,he,_,_,rfl⟩:=ED hk
 obtain ⟨h1,h2⟩:=h t b _ hk
 exact ⟨fun hb=>gO hc hl (hs e he).1 (hs e he).2 (h1 hb),h2⟩
theorem RQ {w w':World} (h:Below w.heap.size w w') {b:Bk} (hb:∀x cap,b=.blk x cap->x<w.heap.size):World.objAt w' b=World.objAt w b:=by
 cases b with
 | nil=>rfl
 | blk x cap=>exact h.block x (hb x cap rfl)
theorem F7.on {N M:i1} {c:n6} {g g':Gh} {w w':World} (h:F7 N g w) (hM:F7 M g w) (hd:IF N M) (hok:Ok c g w) (hl:g.le g') (hb:Below w.heap.size w w'):F7 N g' w':=by
 intro e he
 obtain ⟨b,h1,h2⟩:=h e he
 refine ⟨b,hl.2 _ _ h1,?_⟩
 rw[RQ hb (fun x cap hx=>by subst hx; exact (hok.own _ _ _ h1).2.1)]
 exact (hd e he).1.dep hl.1 (fun t ht=>by obtain ⟨b,hb⟩:=hM.tag ((hd e he).2 t ht); rw[hb]; exact hl.2 t b hb) h2
theorem WH {a:Act} {d:Nat} {v:Value} (h:d<a.tmps.size):(a.put (some d) v).tmps.getD d undef=v:=by
 simp[Act.put,h]
theorem MN {a:Act} {d t:Nat} {v:Value} (h:d≠t):(a.put (some d) v).tmps.getD t undef=a.tmps.getD t undef:=by
 simp[Act.put,Array.getElem?_setIfInBounds_ne h]
theorem V2.put {S:i4} {a:Act} {g:Gh} {d:Nat} {v:Value} {b:Bool} {dep:List Nat} {k:d7} (h:V2 S a g) (hd:d<a.tmps.size) (hk:T1 g v b k) :
  V2 (⟨d,b,dep,k⟩::S) (a.put (some d) v) g:=by
 intro t b' k' hl
 simp only[look] at hl
 cases hb:Nat.beq d t with
 | true =>
  rw[hb] at hl
  simp only[cond_true,Option.some.injEq,Prod.mk.injEq] at hl
  obtain ⟨rfl,rfl⟩:=hl
  rw[<- Nat.eq_of_beq_eq_true hb,WH hd]
  exact hk
 | false =>
  rw[hb] at hl
  rw[MN (Nat.ne_of_beq_eq_false hb)]
  exact h t b' k' hl
theorem l8.did {c:n6} {S:i4} {M:i1} {a:Act} {g g':Gh} {w w':World} {k:d7} {new:Option CE} {v:Value} (h:l8 c S M a g w) (hd:H2 c k new g g' w w' v)
  (hnew:∀e,new=some e->B4 e.c e.dep/\(∀t∈e.dep,t∈tags (T6 new M))/\e.t∉tags M) {dep:List Nat} (hk:o5 k dep) (hdep:∀t∈dep,t∈tags (T6 new M)) {d:Nat} (hn:d<c.n) :
  l8 c (⟨d,true,dep,k⟩::S) (T6 new M) (a.put (some d) v) g' w':=by
 have hsub:∀t∈tags M,t∈tags (T6 new M):=by
  intro t ht
  cases new with
  | none=>exact ht
  | some e=>exact List.mem_cons_of_mem _ ht
 refine ⟨hd.ok,?_,?_,?_,?_,?_,?_,h.defers.below hd.bel,?_⟩
 ·exact (h.slots.on h.sdep h.conts hd.le).put (by rw[h.size]; exact hn) ⟨fun _=>hd.k,fun hf=>by cases hf⟩
 ·have hold:=h.conts.on h.conts h.cdep h.ok hd.le hd.bel
  cases new with
  | none=>exact hold
  | some e =>
   intro x hx
   rcases List.mem_cons.1 hx with rfl | hx
   ·exact hd.made _ rfl
   ·exact hold x hx
 ·intro t ht
  by_cases hx:∃e,new=some e/\e.t=t
  ·obtain ⟨e,rfl,rfl⟩:=hx
   exact List.mem_cons_self
  ·rw[hd.old t (fun e he ht'=>hx ⟨e,he,ht'⟩)] at ht
   exact hsub t (h.dom t ht)
 ·cases new with
  | none=>exact h.nodup
  | some e=>exact List.nodup_cons.2 ⟨(hnew e rfl).2.2,h.nodup⟩
 ·intro e he
  rcases List.mem_cons.1 he with rfl | he
  ·exact ⟨hk,hdep⟩
  ·exact ⟨(h.sdep e he).1,fun t ht=>hsub t ((h.sdep e he).2 t ht)⟩
 ·intro e he
  cases new with
  | none=>exact h.cdep e he
  | some x =>
   rcases List.mem_cons.1 he with rfl | he
   ·exact ⟨(hnew _ rfl).1,(hnew _ rfl).2.1⟩
   ·exact ⟨(h.cdep e he).1,fun t ht=>hsub t ((h.cdep e he).2 t ht)⟩
 ·simp[Act.put,h.size]
theorem l8.skip {c:n6} {S:i4} {M:i1} {a:Act} {g:Gh} {w:World} (h:l8 c S M a g w) {k:d7} {dep:List Nat} (hk:o5 k dep) (hdep:∀t∈dep,t∈tags M) {d:Nat} (hn:d<c.n) {p:Bool} (hp:p=false) :
  l8 c (⟨d,p,dep,k⟩::S) M (a.put (some d) undef) g w:=by
 refine ⟨h.ok,h.slots.put (by rw[h.size]; exact hn) ⟨fun hf=>(by rw[hp] at hf; cases hf),fun _=>rfl⟩,h.conts,h.dom,h.nodup,?_,h.cdep,h.defers,by simp[Act.put,h.size]⟩
 intro e he
 rcases List.mem_cons.1 he with rfl | he
 ·exact ⟨hk,hdep⟩
 ·exact h.sdep e he

def EH (l:List Oper):Bool:=l.all fun o=>match o.op with | .defer _=>false | _=>true
theorem iK {l:List Oper} (h:EH l=true) {o:Oper} (ho:o∈l):∀c,o.op≠.defer c:=fun c hc=>by
 have:=List.all_eq_true.1 h o ho
 rw[hc] at this; cases this
theorem oQ {rd:Option Nat} {n:Nat} {P:Program} {f:FuncId} {args:Array Value} {w:World} {R:Ending->World->Prop} (h:Calls P f args w R):CallsIn { Fence.wide with round:=rd } n P f args w R :=
 callsIn_wide.2 h
theorem Oper.wpIn_of {l n:Nat} {P:Program} {o:Oper} {a:Act} {w:World} {K K':Act->World->Prop} {Q:Exit->Act->World->Prop} (hnd:∀c,o.op≠.defer c) (hk:∀a w,K a w->K' a w) (h:o.wp P a w K Q) :
  o.wpIn { Fence.wide with round:=some l } n P a w K' Q:=by
 refine ⟨fun _ _=>trivial,?_⟩
 simp only[Oper.semAt_some l _ o hnd]
 unfold Oper.wp at h
 generalize (execOp a.eval o).run P w=r at *
 cases r with
 | ok x w' =>
  cases x<;>simp only[Oper.upon] at h<;>simp only[Oper.uponIn] <;>
   first
    | exact hk _ _ h
    | exact ⟨fun hf=>by simp[Fence.wide] at hf,(oQ h).mono fun e w'' he=>by cases e<;>first | exact hk _ _ he | exact he⟩
    | exact ⟨fun hf=>by simp[Fence.wide] at hf,fun c cs _=>let ⟨v,w'',r,s⟩:=h c cs; ⟨v,w'',hk _ _ r,stepsIn_wide.2 s⟩⟩
 | halt x w'=>cases x<;>simp only[Oper.upon] at h<;>simp only[Oper.uponIn]; exact h
theorem aC {r n:Nat} {P:Program} {ops:Array Oper} {Q:Exit->Act->World->Prop} (hQ:¬LetsOut Q):∀{l:List Oper} {a:Act} {w:World},EH l=true->wpList P ops Q l a w->wpListIn { Fence.wide with round:=some r } n P ops Q l a w
 | [],_,_,_,h=>h
 | o::l,a,w,hnd,h=>by
  have h1:EH l=true:=by simp only[EH,List.all_cons,Bool.and_eq_true] at hnd; exact hnd.2
  have h2:=iK hnd (List.mem_cons_self (a:=o) (l:=l))
  simp only[wpList] at h
  simp only[wpListIn]
  split
  ·rename_i hw
   simp only[hw,if_true] at h
   exact Oper.wpIn_of h2 (fun _ _ hk=>aC hQ h1 hk) (h.resolve_right fun h=>hQ h.2)
  ·rename_i hw
   simp only[hw] at h
   exact ⟨fun _ _=>trivial,aC hQ h1 h⟩
theorem TR {r n:Nat} {P:Program} {ops:Array Oper} {Q:Exit->Act->World->Prop} (hnd:EH ops.toList=true) (hQ:¬LetsOut Q):∀{l:List Nat} {a:Act} {w:World},wpOps P ops Q l a w->wpOpsIn { Fence.wide with round:=some r } n P ops Q l a w
 | [],_,_,h=>h
 | i::l,a,w,h=>by
  simp only[wpOps] at h
  simp only[wpOpsIn]
  cases ho:ops[i]? with
  | none=>rw[ho] at h; exact TR hnd hQ h
  | some o =>
   rw[ho] at h
   simp only at h ⊢
   have h2:=iK hnd (o:=o) (by
    obtain ⟨hi,he⟩:=Array.getElem?_eq_some_iff.1 ho
    rw[<- he]; simp)
   split
   ·rename_i hw
    simp only[hw,if_true] at h
    exact Oper.wpIn_of h2 (fun _ _ hk=>TR hnd hQ hk) (h.resolve_right fun h=>hQ h.2)
   ·rename_i hw
    simp only[hw] at h
    exact ⟨fun _ _=>trivial,TR hnd hQ h⟩
def LM (rd:Option Nat) (l:List Oper) (Q:Exit->Act->World->Prop):Prop:=rd=none\/(EH l=true/\¬LetsOut Q)
theorem ak9 {rd:Option Nat} {P:Program} {id:Nat} {l:List Oper} {Q:Exit->Act->World->Prop} {a:Act} {w:World} (hr:LM rd l Q) (h:wpList P l.toArray Q l a w):(Code.region id l.toArray false).wpIn { Fence.wide with round:=rd } 2 P Q a w:=by
 cases rd with
 | none=>exact wpIn_wide.2 (wp_region_lit h)
 | some r =>
  obtain ⟨h1,h2⟩:=hr.resolve_left (by simp)
  exact wpIn_region_lit (aC h2 h1 h)
theorem NV {rd:Option Nat} {P:Program} {id:Nat} {l:List Oper} {Q:Exit->Act->World->Prop} {a:Act} {w:World} (hr:LM rd l Q) (hm:P.follows .mixedOrders=true)
  (h:wpAny P .any l.toArray Q l.toArray.size (Array.replicate l.toArray.size false) a { w with drawn:=w.drawn+1 }):(Code.region id l.toArray true).wpIn { Fence.wide with round:=rd } 2 P Q a w:=by
 cases rd with
 | none=>exact wpIn_wide.2 (wp_region_any hm h)
 | some r =>
  obtain ⟨h1,h2⟩:=hr.resolve_left (by simp)
  refine wpIn_region_draw fun t=>TR (by simpa using h1) h2 ?_
  simp only[Region.schedule,hm,Bool.true_or,if_true]
  exact wpAny_sound l.toArray.size t _ a _ h

def d5 (P:Program) (c:n6) (ops:Array Oper) (S:i4) (M:i1) (rest:List Oper) (Q:Exit->Act->World->Prop):Prop :=
 ∀a g w,l8 c S M a g w->wpList P ops Q rest a w
def Tr (P:Program) (c:n6) (S:i4) (M:i1) (code:Code) (Q:Exit->Act->World->Prop):Prop :=
 ∀a g w,l8 c S M a g w->code.wpIn c.F 2 P Q a w
def d9 (c:n6) (S:i4) (M:i1) (Q:Exit->Act->World->Prop):Prop:=∀a g w,l8 c S M a g w->Q .normal a w
theorem Oper.wp_on {P:Program} {o:Oper} {a:Act} {w:World} {K K':Act->World->Prop} {Q:Exit->Act->World->Prop}
  (h:o.wp P a w K (fun _ _ _=>False)) (hk:∀a w,K a w->K' a w):o.wp P a w K' Q:=by
 unfold Oper.wp at *
 generalize (execOp a.eval o).run P w=r at *
 cases r with
 | ok n w' =>
  cases n<;>simp only[Oper.upon] at h ⊢ <;>
   first
    | exact hk _ _ h
    | exact Calls.mono h (fun e w'' he=>by
      cases e with
      | returned v=>exact hk _ _ he
      | panicked ch=>exact he.elim
      | outgrown=>obtain ⟨_,_,hf⟩:=he; exact hf.elim)
    | exact Rows.mono h (fun _ _ he=>hk _ _ he)
 | halt x w'=>cases x<;>simp only[Oper.upon] at h ⊢
section
variable {P:Program} {c:n6} {ops:Array Oper} {S:i4} {M:i1} {rest:List Oper} {Q:Exit->Act->World->Prop}
variable {d:Nat} {oop:Op} {ty:TypeId} {pos:String} {af:Array Edge}
theorem d5.op {k:d7} {dep:List Nat} (h:l4 P c S M ⟨some d,oop,ty,pos,af,none⟩ true k none) [hk:o5 k dep] (hs:t8 dep (tags M)=true) (hn:Nat.blt d c.n=true)
  (K:d5 P c ops (⟨d,true,dep,k⟩::S) M rest Q):d5 P c ops S M (⟨some d,oop,ty,pos,af,none⟩::rest) Q:=by
 intro a g w hsat
 refine wpList_plain rfl fun K' hK'=>?_
 refine Oper.wp_on (h rfl a g w hsat.ok hsat.conts (fun x _ b k hx hb=>C8 hsat.slots hx hb) (fun _ h=>by cases h)) ?_
 rintro a' w' ⟨v,g',rfl,hd⟩
 exact hK' _ _ (K _ g' _ (hsat.did hd (fun _ h=>by cases h) hk (C3 hs) (by simpa [Nat.blt_eq] using hn)))
theorem d5.new {k:d7} {dep:List Nat} {t:Nat} {ct:t9} {cdep:List Nat} (h:l4 P c S M ⟨some d,oop,ty,pos,af,none⟩ true k (some ⟨t,cdep,ct⟩)) [hk:o5 k dep] [hc:B4 ct cdep]
  (hs:t8 dep (tags (⟨t,cdep,ct⟩::M))=true) (hcs:t8 cdep (tags (⟨t,cdep,ct⟩::M))=true) (hf:t8 [t] (tags M)=false) (hn:Nat.blt d c.n=true)
  (K:d5 P c ops (⟨d,true,dep,k⟩::S) (⟨t,cdep,ct⟩::M) rest Q):d5 P c ops S M (⟨some d,oop,ty,pos,af,none⟩::rest) Q:=by
 intro a g w hsat
 have hfresh:t∉tags M:=by
  intro ht
  have:t8 [t] (tags M)=true:=by
   simp only[t8,Bool.and_true]
   exact List.any_eq_true.2 ⟨t,ht,Nat.beq_refl t⟩
  rw[hf] at this; cases this
 refine wpList_plain rfl fun K' hK'=>?_
 refine Oper.wp_on (h rfl a g w hsat.ok hsat.conts (fun x _ b k hx hb=>C8 hsat.slots hx hb) (fun e he=>?_)) ?_
 ·cases he
  cases hm:g.M t with
  | none=>rfl
  | some b=>exact absurd (hsat.dom t (by rw[hm]; simp)) hfresh
 rintro a' w' ⟨v,g',rfl,hd⟩
 exact hK' _ _ (K _ g' _ (hsat.did (new:=some ⟨t,cdep,ct⟩) hd (fun e he=>by cases he; exact ⟨hc,C3 hcs,hfresh⟩) hk (C3 hs) (by simpa [Nat.blt_eq] using hn)))
theorem aB {ops:Array Oper} {a:Act} {g:Gh} {o:Oper} {j s:Nat} {want e b0:Bool} (hg:o.guard=some (j,want)) (hj:(ops[j]?).bind (·.dst)=some s) (hs:T1 g (a.tmps.getD s undef) b0 (kB e)):Region.wanted o (yielded ops a.tmps)=(b0&&(e==want)):=by
 cases b0 with
 | true =>
  have hslot:a.tmps.getD s undef=.bool e:=hs.1 rfl
  have hy:yielded ops a.tmps j=some e:=by
   have hn':a.tmps[s]?=some (.bool e):=by
    rw[Array.getD_eq_getD_getElem?] at hslot
    cases hh:a.tmps[s]? with
    | none=>rw[hh] at hslot; simp[undef] at hslot
    | some x=>rw[hh] at hslot; simpa using hslot
   simp[yielded,hj,hn']
  simp only[Region.wanted,hg,hy]
  cases e<;>cases want<;>rfl
 | false =>
  have hslot:a.tmps.getD s undef=undef:=hs.2 rfl
  have hy:yielded ops a.tmps j=none:=by
   rw[Array.getD_eq_getD_getElem?] at hslot
   cases hh:a.tmps[s]? with
   | none=>simp[yielded,hj,hh]
   | some x=>rw[hh] at hslot; simp only[Option.getD_some] at hslot; subst hslot; simp[yielded,hj,hh,undef]
  simp only[Region.wanted,hg,hy]
  rfl
theorem d5.gd {k:d7} {dep:List Nat} {j s:Nat} {want e p b0:Bool} (hj:(ops[j]?).bind (·.dst)=some s) (hl:look S s=some (b0,kB e)) (hp:(b0&&(e==want))=p)
  (h:l4 P c S M ⟨some d,oop,ty,pos,af,some (j,want)⟩ p k none) [hk:o5 k dep] (hs:t8 dep (tags M)=true) (hn:Nat.blt d c.n=true)
  (K:d5 P c ops (⟨d,p,dep,k⟩::S) M rest Q):d5 P c ops S M (⟨some d,oop,ty,pos,af,some (j,want)⟩::rest) Q:=by
 intro a g w hsat
 have hwant:Region.wanted ⟨some d,oop,ty,pos,af,some (j,want)⟩ (yielded ops a.tmps)=p:=(aB (g:=g) rfl hj (hsat.slots s _ _ hl)).trans hp
 refine wpList_step fun K' hK'=>?_
 rw[hwant]
 cases hpp:p with
 | false =>
  simp only[Bool.false_eq_true,if_false]
  exact hK' _ _ (K _ g _ (hsat.skip hk (C3 hs) (by simpa [Nat.blt_eq] using hn) hpp))
 | true =>
  simp only[if_true]
  subst hpp
  refine Oper.wp_on (h rfl a g w hsat.ok hsat.conts (fun x _ b k hx hb=>C8 hsat.slots hx hb) (fun _ h=>by cases h)) ?_
  rintro a' w' ⟨v,g',rfl,hd⟩
  exact hK' _ _ (K _ g' _ (hsat.did hd (fun _ h=>by cases h) hk (C3 hs) (by simpa [Nat.blt_eq] using hn)))
theorem d5.fin (h:d9 c S M Q):d5 P c ops S M [] Q:=fun a g w hs=>wpList_nil (h a g w hs)

theorem Tr.seq {x y:Code} (h:Tr P c S M x (Exit.then (y.wpIn c.F 2 P Q) Q)):Tr P c S M (.seq x y) Q:=fun a g w hs=>wpIn_seq (h a g w hs)
theorem Tr.rg {id:Nat} {l:List Oper} (h:d5 P c l.toArray S M l Q) (hr:LM c.rd l Q:=by first | exact .inl rfl | exact .inr ⟨rfl,fun ⟨_,_,h⟩=>(show False from h)⟩):Tr P c S M (.region id l.toArray false) Q:=fun a g w hs=>ak9 hr (h a g w hs)
theorem Tr.skip (h:d9 c S M Q):Tr P c S M .skip Q:=fun a g w hs=>wpIn_skip (h a g w hs)
theorem d9.nxt {y:Code} {Q':Exit->Act->World->Prop} (h:Tr P c S M y Q):d9 c S M (Exit.then (y.wpIn c.F 2 P Q) Q'):=h
theorem Tr.cnd {x:Operand} {t f:Code} {e:Bool} (hl:j2 S x=some (true,kB e)) (ht:e=true->Tr P c S M t Q) (hf:e=false->Tr P c S M f Q):Tr P c S M (.cond x t f) Q :=
 fun a g w hs=>wpIn_cond_split (C8 hs.slots hl rfl) (fun h=>ht h a g w hs) (fun h=>hf h a g w hs)
theorem Tr.blk {id:Nat} {x:Code} (h:Tr P c S M x (Exit.inBlock id Q)):Tr P c S M (.block id x) Q:=fun a g w hs=>wpIn_block (h a g w hs)
theorem d9.blk {id:Nat} (h:d9 c S M Q):d9 c S M (Exit.inBlock id Q):=h
def AL (c:n6) (S:i4) (M:i1) (id:Nat) (Q:Exit->Act->World->Prop):Prop:=∀a g w,l8 c S M a g w->Q (.exit id) a w
theorem Tr.exit {id:Nat} (h:AL c S M id Q):Tr P c S M (.exit id) Q:=fun a g w hs=>wpIn_exit (h a g w hs)
theorem AL.thn {id:Nat} {K:Act->World->Prop} (h:AL c S M id Q):AL c S M id (Exit.then K Q):=h
theorem AL.out {id id':Nat} (hne:Nat.beq id id'=false) (h:AL c S M id Q):AL c S M id (Exit.inBlock id' Q):=fun a g w hs=>by
 have hn:id≠id':=Nat.ne_of_beq_eq_false hne
 simp only[Exit.inBlock,if_neg hn]; exact h a g w hs
theorem AL.here {id:Nat} (h:d9 c S M Q):AL c S M id (Exit.inBlock id Q):=fun a g w hs=>by
 simp only[Exit.inBlock,if_true]; exact h a g w hs
def g6 (c:n6) (S:i4) (M:i1) (Q:Exit->Act->World->Prop):Prop:=∀a g w,l8 c S M a g w->Q .ret a w
theorem Tr.ret (h:g6 c S M Q):Tr P c S M .ret Q:=fun a g w hs=>wpIn_ret (h a g w hs)
theorem g6.thn {K:Act->World->Prop} (h:g6 c S M Q):g6 c S M (Exit.then K Q):=h
theorem g6.out {id:Nat} (h:g6 c S M Q):g6 c S M (Exit.inBlock id Q):=h

def d6 (c:n6) (S:i4) (M:i1) (S':i4) (M':i1):Prop:=∀a g w,l8 c S M a g w->∃g',l8 c S' M' a g' w
structure E4 (S:i4) (M:i1) (S':i4) (M':i1):Prop where
 hold:∀a g w,F7 M g w->V2 S a g->V2 S' a g
 dep:TW S' M'
structure P4 (M N:i1) (M':i1):Prop where
 hold:∀g w,F7 M g w->F7 N g w
 dep:IF N M'
theorem E4.nil {M':i1}:E4 S M [] M':=⟨fun _ _ _ _ _ _ _ _ h=>(by cases h),fun _ h=>(by cases h)⟩
theorem E4.conv {M':i1} {S':i4} {s:Nat} {b:Bool} {k k':d7} {dep:List Nat} (hl:look S s=some (true,k)) (hb:b=true) (hc:∀g v,k g v->k' g v) [hk:o5 k' dep] (hs:t8 dep (tags M')=true)
  (r:E4 S M S' M'):E4 S M (⟨s,b,dep,k'⟩::S') M':=by
 subst hb
 refine ⟨fun a g w hM h t b k0 hl'=>?_,fun e he=>?_⟩
 ·simp only[look] at hl'
  cases hb:Nat.beq s t with
  | true =>
   rw[hb] at hl'
   simp only[cond_true,Option.some.injEq,Prod.mk.injEq] at hl'
   obtain ⟨rfl,rfl⟩:=hl'
   rw[<- Nat.eq_of_beq_eq_true hb]
   exact ⟨fun _=>hc _ _ ((h s _ _ hl).1 rfl),fun hf=>(by cases hf)⟩
  | false =>
   rw[hb] at hl'
   exact r.hold a g w hM h t b k0 hl'
 ·rcases List.mem_cons.1 he with rfl | he
  ·exact ⟨hk,C3 hs⟩
  ·exact r.dep e he
theorem E4.k {M':i1} {S':i4} {s:Nat} {k:d7} {dep:List Nat} (hl:look S s=some (true,k)) [hk:o5 k dep] (hs:t8 dep (tags M')=true)
  (r:E4 S M S' M'):E4 S M (⟨s,true,dep,k⟩::S') M':=r.conv hl rfl (fun _ _ h=>h) hs
theorem E4.i {M':i1} {S':i4} {s:Nat} {ki:IntKind} {m n:Int} (hl:look S s=some (true,z9 ki m)) (he:m=n)
  (r:E4 S M S' M'):E4 S M (⟨s,true,[],z9 ki n⟩::S') M':=r.conv hl rfl (fun _ _ h=>by subst he; exact h) rfl
theorem E4.r {M':i1} {S':i4} {s:Nat} {α:Type} {e:i8 α} {x y:α} (hl:look S s=some (true,b8 e x)) (he:x=y)
  (r:E4 S M S' M'):E4 S M (⟨s,true,[],b8 e y⟩::S') M':=r.conv hl rfl (fun _ _ h=>by subst he; exact h) rfl
theorem E4.b {M':i1} {S':i4} {s:Nat} {x y:Bool} (hl:look S s=some (true,kB x)) (he:x=y)
  (r:E4 S M S' M'):E4 S M (⟨s,true,[],kB y⟩::S') M':=r.conv hl rfl (fun _ _ h=>by subst he; exact h) rfl
class q7 (M:i1) (t:Nat) (ct:outParam t9) (dep:outParam (List Nat)):Prop where
 mem:⟨t,dep,ct⟩∈M
instance {M:i1} {t:Nat} {ct:t9} {dep:List Nat}:q7 (⟨t,dep,ct⟩::M) t ct dep:=⟨List.mem_cons_self⟩
instance (priority:=low) {M:i1} {t:Nat} {ct:t9} {dep:List Nat} {e:CE} [h:q7 M t ct dep]:q7 (e::M) t ct dep:=⟨List.mem_cons_of_mem _ h.mem⟩
theorem P4.nil {M':i1}:P4 M [] M':=⟨fun _ _ _ _ h=>(by cases h),fun _ h=>(by cases h)⟩
theorem P4.conv {M' N:i1} {t:Nat} {ct ct':t9} {dep dep':List Nat} [hl:q7 M t ct dep] (hc:∀g b o,ct g b o->ct' g b o) [hk:B4 ct' dep'] (hs:t8 dep' (tags M')=true)
  (r:P4 M N M'):P4 M (⟨t,dep',ct'⟩::N) M':=by
 refine ⟨fun g w h e he=>?_,fun e he=>?_⟩
 ·rcases List.mem_cons.1 he with rfl | he
  ·obtain ⟨b,h1,h2⟩:=h _ hl.mem
   exact ⟨b,h1,hc _ _ _ h2⟩
  ·exact r.hold g w h e he
 ·rcases List.mem_cons.1 he with rfl | he
  ·exact ⟨hk,C3 hs⟩
  ·exact r.dep e he
theorem P4.k {M' N:i1} {t:Nat} {ct:t9} {dep dep':List Nat} [hl:q7 M t ct dep] [hk:B4 ct dep'] (hs:t8 dep' (tags M')=true)
  (r:P4 M N M'):P4 M (⟨t,dep',ct⟩::N) M':=r.conv (fun _ _ _ h=>h) hs
theorem P4.a {M' N:i1} {t:Nat} {α:Type} {z:Bool} {ty:TypeId} {e:i8 α} {xs ys:List α} {len len':Nat} {dep:List Nat} [hl:q7 M t (l5 z ty e xs len) dep] (he:xs=ys) (hn:len=len')
  (r:P4 M N M'):P4 M (⟨t,[],l5 z ty e ys len'⟩::N) M':=r.conv (ct:=l5 z ty e xs len) (fun _ _ _ h=>by subst he; subst hn; exact h) rfl
def RG:List Nat->Bool
 | []=>true
 | t::r=>!(r.any fun u=>Nat.beq u t)&&RG r
theorem iM:∀{l:List Nat},RG l=true->l.Nodup
 | [],_=>List.nodup_nil
 | t::r,h=>by
  simp only[RG,Bool.and_eq_true,Bool.not_eq_true'] at h
  refine List.nodup_cons.2 ⟨fun hm=>?_,iM h.2⟩
  have:(r.any fun u=>Nat.beq u t)=true:=List.any_eq_true.2 ⟨t,hm,Nat.beq_refl t⟩
  rw[h.1] at this; cases this
theorem d6.mk {S':i4} {M':i1} (hS:E4 S M S' M') (hM:P4 M M' M') (hn:RG (tags M')=true):d6 c S M S' M':=by
 intro a g w h
 have hMt:∀t,t∈tags M'->∃b,g.M t=some b:=fun t ht=>by
  obtain ⟨e,he,rfl⟩:=List.mem_map.1 ht
  obtain ⟨b,hb,_⟩:=hM.hold g w h.conts e he
  exact ⟨b,hb⟩
 let g':Gh:=⟨g.J,fun t=>if t∈tags M' then g.M t else none⟩
 have hin:∀t,t∈tags M'->g'.M t=g.M t:=fun t ht=>by simp only[g',if_pos ht]
 have hle:∀t b,g'.M t=some b->g.M t=some b:=fun t b hb=>by
  by_cases ht:t∈tags M'
  ·rw[hin t ht] at hb; exact hb
  ·simp only[g',if_neg ht] at hb; cases hb
 refine ⟨g',⟨h.ok.bel,h.ok.jle,h.ok.jold,h.ok.im,fun t b cap hb=>h.ok.own t b cap (hle _ _ hb),fun t t' b cap cap' h1 h2=>h.ok.inj t t' b cap cap' (hle _ _ h1) (hle _ _ h2)⟩,?_,?_,?_,iM hn,hS.dep,hM.dep,h.defers,h.size⟩
 ·intro t b k hk
  obtain ⟨e,he,_,_,rfl⟩:=ED hk
  obtain ⟨h1,h2⟩:=hS.hold a g w h.conts h.slots t b _ hk
  exact ⟨fun hb=>(hS.dep e he).1.dep (g:=g) (g':=g') (JV.le_refl _) (fun t ht=>hin t ((hS.dep e he).2 t ht)) (h1 hb),h2⟩
 ·intro e he
  obtain ⟨b,h1,h2⟩:=hM.hold g w h.conts e he
  exact ⟨b,(hin _ (List.mem_map.2 ⟨e,he,rfl⟩)).trans h1,(hM.dep e he).1.dep (g:=g) (g':=g') (JV.le_refl _) (fun t ht=>hin t ((hM.dep e he).2 t ht)) h2⟩
 ·intro t ht
  by_cases h':t∈tags M'
  ·exact h'
  ·simp only[g',if_neg h'] at ht; exact absurd rfl ht
theorem Tr.ent {x:Code} {S':i4} {M':i1} (h:d6 c S M S' M') (k:Tr P c S' M' x Q):Tr P c S M x Q:=fun a g w hs=>let ⟨g',hs'⟩:=h a g w hs; k a g' w hs'
theorem Tr.fact {x:Code} {s:Nat} {k:d7} {φ:Prop} (hl:look S s=some (true,k)) (hf:∀g v,k g v->φ) (h:φ->Tr P c S M x Q):Tr P c S M x Q :=
 fun a g w hs=>h (hf _ _ ((hs.slots s _ _ hl).1 rfl)) a g w hs

def LG {σ:Type} (c:n6) (B:σ->i4) (N:σ->i1) (R:σ->Prop) (a:Act) (w:World):Prop:=∃s,R s/\∃g,l8 c (B s) (N s) a g w
theorem Tr.cut {x y:Code} {σ:Type} (B:σ->i4) (N:σ->i1) (R:σ->Prop) (hx:Tr P c S M x (Exit.then (LG c B N R) Q)) (hy:∀s,R s->Tr P c (B s) (N s) y Q):Tr P c S M (.seq x y) Q :=
 fun a g w hs=>wpIn_seq (wpIn_mono (hx a g w hs) fun e a' w' hq=>by
  cases e with
  | normal=>obtain ⟨s,hR,g',h'⟩:=hq; exact hy s hR a' g' w' h'
  | _=>exact hq)
theorem d9.cut {σ:Type} {B:σ->i4} {N:σ->i1} {R:σ->Prop} (s:σ) (hR:R s) (h:d6 c S M (B s) (N s)):d9 c S M (Exit.then (LG c B N R) Q) :=
 fun a g w hs=>⟨s,hR,h a g w hs⟩
def OC {σ:Type} (c:n6) (I:σ->i4) (J:σ->i1) (R:σ->Prop) (μ:σ->Nat) (s:σ) (a:Act) (w:World):Prop:=∃s',R s'/\μ s'<μ s/\∃g,l8 c (I s') (J s') a g w
theorem Tr.loop {body:Code} {σ:Type} (I:σ->i4) (J:σ->i1) (R:σ->Prop) (μ:σ->Nat) (s0:σ) (h0:R s0) (he:d6 c S M (I s0) (J s0))
  (round:∀s,R s->Tr P c (I s) (J s) body (Exit.then (OC c I J R μ s) Q)):Tr P c S M (.loop body) Q:=by
 intro a w' w hs
 obtain ⟨g0,hs0⟩:=he a w' w hs
 intro b k cs hro hb hr
 have key:∀n s a g w,μ s=n->R s->l8 c (I s) (J s) a g w ->
   ∃e a' w',Q e a' w'/\ArrivesIn (Machine.fenced P c.F) P (lone (b.atR a (.code body::.inLoop body::k)) cs w) b k cs e a' w':=by
  intro n
  induction n using Nat.strongRecOn with
  | _ n ih =>
   intro s a g w hn hR hI
   obtain ⟨e,a₁,w₁,hq,harr⟩:=round s hR a g w hI b (.inLoop body::k) cs hro hb hr
   cases e with
   | normal =>
    obtain ⟨s',hR',hlt,g',hI₁⟩:=hq
    obtain ⟨e₂,a₂,w₂,hq₂,harr₂⟩:=ih (μ s') (hn▸hlt) s' a₁ g' w₁ rfl hR' hI₁
    exact ⟨e₂,a₂,w₂,hq₂,.of_steps (StepsIn.trans harr (.one (fenced_calm hb hr rfl) stepR_inLoop)) harr₂⟩
   | exit id=>exact ⟨_,a₁,w₁,hq,.pass (x:=.inLoop body) rfl (fun _ _=>.inl (by simp)) harr⟩
   | goto l=>exact ⟨_,a₁,w₁,hq,.pass (x:=.inLoop body) rfl (fun _ _=>.inl (by simp)) harr⟩
   | ret=>exact ⟨_,a₁,w₁,hq,.pass (x:=.inLoop body) rfl (fun _ _=>.inl (by simp)) harr⟩
   | panic ch=>exact ⟨_,a₁,w₁,hq,.pass (x:=.inLoop body) rfl (fun _ _=>.inl (by simp)) harr⟩
   | outgrown=>exact ⟨_,a₁,w₁,hq,.pass (x:=.inLoop body) rfl (fun _ _=>.inl (by simp)) harr⟩
 obtain ⟨e,a',w',hq,harr⟩:=key _ s0 a g0 w rfl h0 hs0
 exact ⟨e,a',w',hq,.of_steps (.one (fenced_calm hb hr rfl) stepR_loop) harr⟩
theorem d9.lp {σ:Type} {I:σ->i4} {J:σ->i1} {R:σ->Prop} {μ:σ->Nat} {s:σ} (s':σ) (hR:R s') (hlt:μ s'<μ s) (h:d6 c S M (I s') (J s')):d9 c S M (Exit.then (OC c I J R μ s) Q) :=
 fun a g w hs=>⟨s',hR,hlt,h a g w hs⟩
end

def Im (J:JV) (w:World):Prop:=∀b o v,J b o=some v->w.cell? ⟨b,o,none⟩=some v
def DP (w:World) (J:JV) (res:d7):Ending->World->Prop:=fun e w'=>∃r J',e=.returned r/\Below w.heap.size w w'/\J.le J'/\(∀b o,b<w.heap.size->J' b o=J b o)/\Im J' w'/\res ⟨J',y9⟩ r
def Ct (P:Program) (f:FuncId) (args:List d7) (res:d7):Prop:=∀w J,Im J w->∀vs,n9 ⟨J,y9⟩ args vs->Calls P f vs.toArray w (DP w J res)
class J8 (d:List Nat):Prop where
 eq:d=[]
instance:J8 []:=⟨rfl⟩
instance {d:List Nat} [h:J8 d]:J8 ([]++d):=⟨by have:=h.eq; subst this; rfl⟩
class AI (ks:List d7):Prop where
 all:∀k∈ks,o5 k []
instance:AI []:=⟨fun _ h=>by cases h⟩
instance {k:d7} {ks:List d7} {d:List Nat} [h:o5 k d] [hd:J8 d] [hs:AI ks]:AI (k::ks):=⟨fun x hx=>by
 rcases List.mem_cons.1 hx with rfl | hx
 ·have:=hd.eq; subst this; exact h
 ·exact hs.all x hx⟩
def params:Nat->List d7->i4
 | _,[]=>[]
 | i,k::ks=>⟨i,true,[],k⟩::params (i+1) ks
theorem KK {g:Gh}:∀{ks:List d7} {vs:List Value} {i t:Nat} {b:Bool} {k:d7},n9 g ks vs->look (params i ks) t=some (b,k)->i<=t/\b=true/\∃v,vs[t-i]?=some v/\k g v
 | [],_,_,_,_,_,_,h=>by cases h
 | k0::ks,v::vs,i,t,b,k,hh,h=>by
  simp only[params,look] at h
  cases hb:Nat.beq i t with
  | true =>
   rw[hb] at h
   simp only[cond_true,Option.some.injEq,Prod.mk.injEq] at h
   obtain ⟨rfl,rfl⟩:=h
   have:=Nat.eq_of_beq_eq_true hb
   subst this
   exact ⟨Nat.le_refl _,rfl,v,by simp,hh.1⟩
  | false =>
   rw[hb] at h
   obtain ⟨h1,h2,u,h3,h4⟩:=KK (ks:=ks) (i:=i+1) hh.2 h
   refine ⟨by omega,h2,u,?_,h4⟩
   rw[show t-i=(t-(i+1))+1 by omega]
   simpa using h3
 | _::_,[],_,_,_,_,hh,_=>hh.elim
theorem KJ:∀{ks:List d7} {i:Nat} {e:SE},(∀k∈ks,o5 k [])->e∈params i ks->o5 e.k e.dep/\e.dep=[]
 | [],_,_,_,h=>by cases h
 | k::ks,i,e,hk,h=>by
  rcases List.mem_cons.1 h with rfl | h
  ·exact ⟨hk k List.mem_cons_self,rfl⟩
  ·exact KJ (fun x hx=>hk x (List.mem_cons_of_mem _ hx)) h
theorem Ct.mk {P:Program} {f:FuncId} {fn:Func} {code:Code} {args:List d7} {res:d7} {n:Nat} (hf:P.funcs[f]?=some fn) (hb:fn.body=some code) (hn:fn.ntmps=n) (hl:Nat.ble args.length n=true) [hj:AI args]
  (h:∀w J,Tr P ⟨w,J,[],n,none,false,[]⟩ (params 0 args) [] code (bodyPost P fn (DP w J res))):Ct P f args res:=by
 intro w J him vs hvs
 have hlen:=L6 hvs
 have hle:args.length<=n:=Nat.le_of_ble_eq_true hl
 refine calls_of_wp hf hb (wpIn_wide.1 (h w J _ ⟨J,y9⟩ w ⟨⟨⟨rfl,rfl,rfl,Nat.le_refl _,fun _ _ _=>rfl,Nat.le_refl _⟩,JV.le_refl _,fun _ _ _=>rfl,him,fun _ _ _ h=>(by cases h),fun _ _ _ _ _ h=>(by cases h)⟩,?_,fun _ h=>(by cases h),fun _ h=>absurd rfl h,List.nodup_nil,?_,fun _ h=>(by cases h),⟨rfl,fun _ h=>(by cases h)⟩,?_⟩))
 ·intro t b k hk
  obtain ⟨_,rfl,v,hv,hkv⟩:=KK hvs hk
  refine ⟨fun _=>?_,fun hf=>(by cases hf)⟩
  have ht:t<vs.length:=(List.getElem?_eq_some_iff.1 (by simpa using hv)).1
  have:(vs.toArray++Array.replicate (fn.ntmps-vs.toArray.size) undef).getD t undef=v:=by
   rw[Array.getD_eq_getD_getElem?,Array.getElem?_append_left (by simpa using ht)]
   simp only[List.getElem?_toArray]
   rw[show vs[t]?=some v by simpa using hv]
   rfl
  rw[this]; exact hkv
 ·intro e he
  obtain ⟨h1,h2⟩:=KJ hj.all he
  exact ⟨h1,fun t ht=>by rw[h2] at ht; cases ht⟩
 ·simp only[Array.size_append,List.size_toArray,Array.size_replicate]; omega
end Go.Fl

/- The laws of the operations over typed knowledge. (Printed by gen_a3.py.) -/
namespace Go.Fl
open Go Go.RowKit

class F4 (P:Program) (t:TypeId):Prop where
 run:∀w,(isAgg t).run P w=.ok false w
class D0 (P:Program) (t:TypeId):Prop where
 run:∀w,(isAgg t).run P w=.ok true w
class p6 (P:Program) (t:TypeId) (size bytes:outParam Nat) (z:outParam Value):Prop where
 h:∃i,P.info? t=some i/\i.size=size/\i.bytes=bytes/\i.zero=some z
class D1 (P:Program) (t:TypeId) (e:outParam TypeId):Prop where
 h:P.underlying t=some (.slice e)
class IQ (P:Program) (t:TypeId) (k:outParam IntKind):Prop where
 h:P.underlying t=some (.int k)
class s8 (P:Program) (s:TypeId) (f:Nat) (off:outParam Nat):Prop where
 run:∀a w,(Instr.fieldAt s (.pointer (some a)) f).run P w=.ok (.pointer (some (a.add off))) w
theorem F4.mk' {P:Program} {t:TypeId} {d:TypeDesc} (h:P.underlying t=some d) (hd:(match d with | .struct _ | .array _ _=>false | _=>true)=true):F4 P t :=
 ⟨fun w=>by cases d<;>first | (simp at hd; done) | simp[isAgg,run_underlying h]⟩
theorem D0.mk' {P:Program} {t:TypeId} {d:TypeDesc} (h:P.underlying t=some d) (hd:(match d with | .struct _ | .array _ _=>true | _=>false)=true):D0 P t :=
 ⟨fun w=>by cases d<;>first | (simp at hd; done) | simp[isAgg,run_underlying h]⟩
theorem p6.mk' {P:Program} {t:TypeId} {size bytes:Nat} {z:Value} (h:(P.info? t).map (fun i=>(i.zero,i.size,i.bytes))=some (some z,size,bytes)):p6 P t size bytes z:=by
 cases hi:P.info? t with
 | none=>simp[hi] at h
 | some i=>simp[hi] at h; exact ⟨i,hi,h.2.1,h.2.2,h.1⟩
theorem s8.mk' {P:Program} {s:TypeId} {f off:Nat} {fs:Array Field} {fl:Field} (h:P.underlying s=some (.struct fs)) (hf:fs[f]?=some fl) (ho:fl.offset=off) (hs:((P.info? fl.type).map (·.size)).any (fun n=>!Nat.beq n 0)=true):s8 P s f off :=
 ⟨fun a w=>by
  cases hi:P.info? fl.type with
  | none=>simp[hi] at hs
  | some i =>
   have hne:i.size≠0:=by intro h0; rw[hi] at hs; simp[h0] at hs
   simp[Instr.fieldAt,run_underlying h,hf,Instr.sureAddr,fieldPlace,sizeOf,typeInfo,hi,hne,ho]⟩

def b6 {α:Type} [Inhabited α] (xs:List α) (i:Nat):α:=xs.getD i default
theorem H1 {α:Type} [Inhabited α] {xs:List α} {i:Nat} (h:i<xs.length):xs[i]?=some (b6 xs i):=by
 simp[b6,List.getD,List.getElem?_eq_getElem h]
class P8 {α:Type} (e:i8 α) (x:α) (k:outParam d7):Prop where
 imp:∀{g:Gh} {v:Value},e.val g.J v x->k g v
instance {k:IntKind} {x:Int}:P8 (FK k) x (z9 k x):=⟨fun ⟨cs,h1,h2⟩=>by subst h1; exact h2⟩
instance {x:Bool}:P8 BU x (kB x):=⟨fun ⟨cs,h1,h2⟩=>by subst h1; exact h2⟩
instance {α:Type} {e:i8 α} {x:List α}:P8 (eL e) x (b8 (eL e) x):=⟨fun h=>h⟩
instance {α:Type} {e:i8 α} {x:α}:P8 (Z0 e) x (r7 e x):=⟨fun ⟨_,⟨b,o,ds,h1,h2,h3⟩,h4⟩=>⟨b,o,ds,by subst h1; exact h4,h2,h3⟩⟩
class H6 {α:Type} (e:i8 α) (x:α) (tl:List d7) (out:outParam (List d7)):Prop where
 imp:∀{g:Gh} {cs ds:List Value},e.rd g.J cs x->n9 g tl ds->n9 g out (cs++ds)
instance {k:IntKind} {x:Int} {tl:List d7}:H6 (FK k) x tl (z9 k x::tl):=⟨fun h h'=>by subst h; exact ⟨rfl,h'⟩⟩
instance {x:Bool} {tl:List d7}:H6 BU x tl (kB x::tl):=⟨fun h h'=>by subst h; exact ⟨rfl,h'⟩⟩
instance {α:Type} {e:i8 α} {x:List α} {tl:List d7}:H6 (eL e) x tl (b8 (eL e) x::tl):=⟨fun {g cs ds} h h'=>by
 have hh:=h
 obtain ⟨a,cap,rfl,r⟩:=h
 exact ⟨⟨_,hh,rfl⟩,h'⟩⟩
instance {x:Unit} {tl:List d7}:H6 eU x tl tl:=⟨fun h h'=>by have:_=[]:=h; subst this; exact h'⟩
instance {α β:Type} {e:i8 α} {f:i8 β} {x:α×β} {tl mid out:List d7} [h2:H6 f x.2 tl mid] [h1:H6 e x.1 mid out]:H6 (eP e f) x tl out:=⟨fun h h'=>by
 obtain ⟨c1,c2,rfl,k1,k2⟩:=h
 rw[List.append_assoc]
 exact h1.imp k1 (h2.imp k2 h')⟩
instance {α β:Type} {f:β->α} {e:i8 α} {x:β} {tl out:List d7} [h:H6 e (f x) tl out]:H6 (eC f e) x tl out:=⟨fun hv h'=>h.imp hv h'⟩
class E9 (k:d7) (ks:outParam (List d7)):Prop where
 imp:∀{g:Gh} {v:Value},k g v->n9 g ks v.cells.toList/\v.cells.toList.all (·.oneCell')=true
class Y7 (k:d7):Prop where
 imp:∀{g:Gh} {v:Value},k g v->v.oneCell'=true
instance {k:IntKind} {n:Int}:Y7 (z9 k n):=⟨fun h=>by cases h; rfl⟩
instance {b:Bool}:Y7 (kB b):=⟨fun h=>by cases h; rfl⟩
instance {a:Option Addr} {l c:Nat}:Y7 (j4 (.slice a l c)):=⟨fun h=>by cases h; rfl⟩
instance {a:Option Addr}:Y7 (j4 (.pointer a)):=⟨fun h=>by cases h; rfl⟩
instance {t l:Nat}:Y7 (o9 t l):=⟨fun h=>by rcases h with ⟨_,_,rfl⟩ | ⟨_,_,_,rfl⟩<;>rfl⟩
instance {α:Type} {e:i8 α} {x:α}:Y7 (r7 e x):=⟨fun ⟨_,_,_,h,_⟩=>by subst h; rfl⟩
instance {α:Type} {e:i8 α} {x:List α}:Y7 (b8 (eL e) x):=⟨fun ⟨_,⟨_,_,h1,_⟩,h2⟩=>by subst h1; subst h2; rfl⟩
instance {k:d7} [h:Y7 k]:E9 k [k]:=⟨fun hk=>by rw[UO (h.imp hk)]; exact ⟨⟨hk,trivial⟩,by simp[h.imp hk]⟩⟩
instance {α β:Type} {e:i8 α} {f:i8 β} {x:α×β} {ks:List d7} [h:H6 (eP e f) x [] ks]:E9 (b8 (eP e f) x) ks:=⟨fun {g v} hk=>by
 have h1:=hk.cells
 have h2:=h.imp (g:=g) (ds:=[]) h1 trivial
 refine ⟨by simpa using h2,List.all_eq_true.2 fun x hx=>i8.all1 _ h1 x hx⟩⟩
instance {α β:Type} {f:β->α} {e:i8 α} {x:β} {ks:List d7} [h:E9 (b8 e (f x)) ks]:E9 (b8 (eC f e) x) ks:=⟨fun hk=>h.imp hk⟩
class EZ (ks:List d7):Prop where
 imp:∀{g:Gh} {cs:List Value},n9 g ks cs->cs.all (·.oneCell')=true
instance:EZ []:=⟨fun {_ cs} h=>by cases cs with | nil=>rfl | cons=>exact h.elim⟩
instance {k:d7} {ks:List d7} [h:Y7 k] [hs:EZ ks]:EZ (k::ks):=⟨fun {g cs} hk=>by
 cases cs with
 | nil=>rfl
 | cons v vs=>simp only[List.all_cons,h.imp hk.1,hs.imp hk.2,Bool.and_self]⟩
instance {ks:List d7} [h:EZ ks]:E9 (H9 ks) ks:=⟨fun ⟨cs,h1,h2⟩=>by subst h1; exact ⟨by simpa [Value.cells] using h2,by simpa [Value.cells] using h.imp h2⟩⟩

class t6 {α:Type} (ks:List d7) (e:i8 α) (x:outParam α) (rest:outParam (List d7)):Prop where
 imp:∀{g:Gh} {cs:List Value},n9 g ks cs->∃c1 c2,cs=c1++c2/\e.rd g.J c1 x/\n9 g rest c2
theorem t6.one {α:Type} {k:d7} {r:List d7} {e:i8 α} {x:α} (h:∀{g:Gh} {v:Value},k g v->e.rd g.J [v] x):t6 (k::r) e x r:=⟨fun {g cs} hk=>by
 cases cs with
 | nil=>exact hk.elim
 | cons v vs=>exact ⟨[v],vs,rfl,h hk.1,hk.2⟩⟩
instance {k:IntKind} {n:Int} {r:List d7}:t6 (z9 k n::r) (FK k) n r:=.one fun h=>by cases h; rfl
instance {b:Bool} {r:List d7}:t6 (kB b::r) BU b r:=.one fun h=>by cases h; rfl
instance {α:Type} {e:i8 α} {x:List α} {r:List d7}:t6 (b8 (eL e) x::r) (eL e) x r:=.one fun {g v} h=>by
 have:=h.cells
 rwa [UO (Y7.imp (k:=b8 (eL e) x) h)] at this
theorem Y1 {α:Type} {e:i8 α} {J:JV} {c:Nat}:(eL e).rd J [.slice none 0 c] []:=⟨none,c,rfl,⟨Nat.zero_le _,Nat.zero_le _⟩,.inl rfl⟩
instance {α:Type} {e:i8 α} {c:Nat} {r:List d7}:t6 (j4 (.slice none 0 c)::r) (eL e) [] r:=.one fun h=>by cases h; exact Y1
instance {α:Type} {e:i8 α} {x:α} {r:List d7}:t6 (r7 e x::r) (Z0 e) x r:=.one fun ⟨b,o,ds,h1,h2,h3⟩=>⟨b,o,ds,by subst h1; rfl,h2,h3⟩
instance {ks:List d7}:t6 ks eU () ks:=⟨fun h=>⟨[],_,rfl,rfl,h⟩⟩
instance {α β:Type} {ks r1 r:List d7} {e:i8 α} {f:i8 β} {x:α} {y:β} [h1:t6 ks e x r1] [h2:t6 r1 f y r]:t6 ks (eP e f) (x,y) r:=⟨fun hk=>by
 obtain ⟨c1,c2,rfl,a1,a2⟩:=h1.imp hk
 obtain ⟨d1,d2,rfl,b1,b2⟩:=h2.imp a2
 exact ⟨c1++d1,d2,by rw[List.append_assoc],⟨c1,d1,rfl,a1,b1⟩,b2⟩⟩
theorem t6.whole {α:Type} {ks:List d7} {e:i8 α} {x:α} [h:t6 ks e x []] {g:Gh} {cs:List Value} (hk:n9 g ks cs):e.rd g.J cs x:=by
 obtain ⟨c1,c2,rfl,a1,a2⟩:=h.imp hk
 cases c2 with
 | nil=>simpa using a1
 | cons=>exact a2.elim
class v6 {α:Type} (e:i8 α) (x:α) (i:Nat) {β:outParam Type} (e':outParam (i8 β)) (x':outParam β) (off:outParam Nat):Prop where
 imp:∀{J:JV} {cs:List Value},e.rd J cs x->∃ds,e'.rd J ds x'/\∀j v,ds[j]?=some v->cs[off+j]?=some v
instance {α β:Type} {e:i8 α} {f:i8 β} {x:α×β}:v6 (eP e f) x 0 e x.1 0:=⟨fun ⟨c1,c2,h0,h1,_⟩=>⟨c1,h1,fun j v hj=>by
 subst h0
 rw[Nat.zero_add,List.getElem?_append_left (List.getElem?_eq_some_iff.1 hj).1]; exact hj⟩⟩
instance {α β γ:Type} {e:i8 α} {f:i8 β} {x:α×β} {i off:Nat} {e':i8 γ} {x':γ} [h:v6 f x.2 i e' x' off]:v6 (eP e f) x (i+1) e' x' (e.n+off):=⟨fun ⟨c1,c2,h0,h1,h2⟩=>by
 obtain ⟨ds,k1,k2⟩:=h.imp h2
 refine ⟨ds,k1,fun j v hj=>?_⟩
 subst h0
 rw[Nat.add_assoc,<- e.len h1,List.getElem?_append_right zo,Nat.add_sub_cancel_left]
 exact k2 j v hj⟩
instance {α β γ:Type} {f:β->α} {e:i8 α} {x:β} {i off:Nat} {e':i8 γ} {x':γ} [h:v6 e (f x) i e' x' off]:v6 (eC f e) x i e' x' off:=⟨fun hv=>h.imp hv⟩

section
variable {P:Program}
theorem UN {c:n6} {g:Gh} {w:World} (h:Ok c g w) {b o:Nat} {ds:List Value} (hd:DU g.J b o ds):∀j v,ds[j]?=some v->w.cell? ⟨b,o+j,none⟩=some v:=fun j v hj=>h.im _ _ _ (hd j v hj)
theorem NK {t:TypeId} [ht:F4 P t] {w:World} {a:Addr} {v:Value} (h:w.cell? a=some v):(Instr.loadAt t (.pointer (some a))).run P w=.ok v w:=by
 simp[Instr.loadAt,Instr.sureAddr,loadVar,ht.run,h]
theorem SX {t:TypeId} [ht:D0 P t] {n by':Nat} {z:Value} [hz:p6 P t n by' z] {w:World} {b o:Nat} {ds:List Value} (hl:ds.length=n) (h:∀j v,ds[j]?=some v->w.cell? ⟨b,o+j,none⟩=some v) :
  (Instr.loadAt t (.pointer (some ⟨b,o,none⟩))).run P w=.ok (.agg ds.toArray) w:=by
 obtain ⟨i,hi,rfl,_,_⟩:=hz.h
 have:=run_loadCells_list (P:=P) w ⟨b,o,none⟩ ds (fun j v hj=>by rw[Addr.add_lit]; exact h j v hj)
 rw[hl] at this
 simp[Instr.loadAt,Instr.sureAddr,loadVar,ht.run,sizeOf,typeInfo,hi,this]
theorem M7 {w:World} {b o:Nat} {cs:Array Value} {ty:TypeId} {fr:Nat×Nat} {v:Value} (h:w.heap[b]?=some (.cells cs ty fr)) (hv:cs[o]?=some v):w.cell? ⟨b,o,none⟩=some v:=by
 simp[World.cell?,h,hv]
def Gh.add (g:Gh) (t:Nat) (b:Bk):Gh:=⟨g.J,fun u=>if u=t then some b else g.M u⟩
theorem Gh.add_same (g:Gh) (t:Nat) (b:Bk):(g.add t b).M t=some b:=by simp[Gh.add]
theorem OB {c:n6} {g:Gh} {w:World} (h:Ok c g w) {b o:Nat} (hb:w.heap.size<=b):g.J b o=none:=by
 cases hj:g.J b o with
 | none=>rfl
 | some v =>
  have:=World.block_lt_of_cell? _ _ (h.im _ _ _ hj)
  simp only at this
  omega
theorem H2.alloc {c:n6} {k:d7} {g:Gh} {w w1:World} (h:Ok c g w) {t:Nat} {dep:List Nat} {ct:t9} (hf:g.M t=none) {cs:Array Value} {ty:TypeId} {cap:Nat} {v:Value} (hw:w1=w\/w1=w.drew)
  (hk:k (g.add t (.blk w.heap.size cap)) v) (hct:ct (g.add t (.blk w.heap.size cap)) (.blk w.heap.size cap) (some (.cells cs ty (0,0)))) :
  H2 c k (some ⟨t,dep,ct⟩) g (g.add t (.blk w.heap.size cap)) w (w1.alloc (.cells cs ty)) v:=by
 have hheap:w1.heap=w.heap:=by rcases hw with rfl | rfl<;>rfl
 have hsz:w1.heap.size=w.heap.size:=by rw[hheap]
 have hbel:Below w.heap.size w (w1.alloc (.cells cs ty)):=by
  rcases hw with rfl | rfl
  ·exact (Below.refl _ _).alloc (Nat.le_refl _) _
  ·exact ((Below.refl _ _).drew).alloc (Nat.le_refl _) _
 have hle:g.le (g.add t (.blk w.heap.size cap)):=⟨JV.le_refl _,fun u b hb=>by
  simp only[Gh.add]
  by_cases hu:u=t
  ·subst hu; rw[hf] at hb; cases hb
  ·rw[if_neg hu]; exact hb⟩
 have hobj:(w1.alloc (.cells cs ty)).heap[w.heap.size]?=some (.cells cs ty (0,0)):=by rw[<- hsz]; exact heap_alloc_new w1 _
 refine ⟨hk,hle,⟨h.bel.then hbel,h.jle,h.jold,fun b o u hu=>?_,fun u b cap' hu=>?_,fun u u' b c1 c2 h1 h2=>?_⟩,hbel,fun e he=>?_,fun u hu=>?_⟩
 ·have:=h.im b o u hu
  have hlt:=World.block_lt_of_cell? _ _ this
  rw[World.cell?_alloc_lt _ _ _ (by rw[hsz]; exact hlt)]
  rw[<- this]; simp only[World.cell?,hheap]
 ·simp only[Gh.add] at hu
  by_cases hut:u=t
  ·rw[if_pos hut] at hu
   cases hu
   refine ⟨.inl (Nat.le_trans h.bel.size (Nat.le_refl _)),by simp[hsz],fun o=>OB h (Nat.le_refl _)⟩
  ·rw[if_neg hut] at hu
   obtain ⟨a1,a2,a3⟩:=h.own u b cap' hu
   exact ⟨a1,by simp[hsz]; omega,a3⟩
 ·simp only[Gh.add] at h1 h2
  by_cases hut:u=t
  ·rw[if_pos hut] at h1
   cases h1
   by_cases hut':u'=t
   ·rw[hut,hut']
   ·rw[if_neg hut'] at h2
    have:=(h.own _ _ _ h2).2.1
    omega
  ·rw[if_neg hut] at h1
   by_cases hut':u'=t
   ·rw[if_pos hut'] at h2
    cases h2
    have:=(h.own _ _ _ h1).2.1
    omega
   ·rw[if_neg hut'] at h2
    exact h.inj _ _ _ _ _ h1 h2
 ·cases he
  exact ⟨_,Gh.add_same _ _ _,by rw[World.objAt]; simp only[hobj]; exact hct⟩
 ·simp only[Gh.add]
  rw[if_neg (fun e=>hu _ rfl e.symm)]
end

section
variable {P:Program} {c:n6} {S:i4} {M:i1} {p:Bool} {d:Option Tmp} {ty:TypeId} {pos:String} {af:Array Edge} {gd:Option (Nat×Bool)}
variable {x y z:Operand} {b b' b'':Bool}
theorem G7 {k:d7} (hx:j2 S x=some (b,k)) (hb:p=true->b=true):l4 P c S M ⟨d,.move x,ty,pos,af,gd⟩ p k none :=
 l4.pure fun hp a g w _ _ ho=>⟨a.eval x,by simp[execOp],ho x (by simp[Op.operands]) b k hx (hb hp)⟩
theorem NC {k:d7} (hx:j2 S x=some (b,k)) (hb:p=true->b=true):l4 P c S M ⟨d,.assign x,ty,pos,af,gd⟩ p k none :=
 l4.pure fun hp a g w _ _ ho=>⟨a.eval x,by simp[execOp],ho x (by simp[Op.operands]) b k hx (hb hp)⟩
theorem Z5 {op:BinOp} {t t':TypeId} {u v r:Value} (hr:∀w,(do eqGuard op t x y u v; binOp op t u v:Sem Value).run P w=.ok r w) (hx:j2 S x=some (b,j4 u)) (hb:p=true->b=true) (hy:j2 S y=some (b',j4 v)) (hb':p=true->b'=true) :
  l4 P c S M ⟨d,.binOp op t x y t',ty,pos,af,gd⟩ p (j4 r) none :=
 l4.pure fun hp a g w _ _ ho=>by
  have h1:a.eval x=u:=ho x (by simp[Op.operands]) b _ hx (hb hp)
  have h2:a.eval y=v:=ho y (by simp[Op.operands]) b' _ hy (hb' hp)
  refine ⟨r,?_,rfl⟩
  have:=hr w
  simp only[Sem.run_bind] at this
  simp only[execOp,h1,h2,Sem.run_bind,this,Result.andThen_ok,Sem.run_pure]
theorem HM {t t':TypeId} {m n:Int} (hx:j2 S x=some (b,kI m)) (hb:p=true->b=true) (hy:j2 S y=some (b',kI n)) (hb':p=true->b'=true) (h:p=true->-9223372036854775808<=m+n/\m+n<=9223372036854775807) :
  l4 P c S M ⟨d,.binOp .add t x y t',ty,pos,af,gd⟩ p (kI (m+n)) none:=by
 cases p with
 | false=>exact fun hp=>by cases hp
 | true=>exact Z5 (fun w=>by simp[go_sem,IntWalk.i64_in _ (h rfl)]) hx hb hy hb'
theorem AZ {t t':TypeId} {m n:Int} (hx:j2 S x=some (b,kI m)) (hb:p=true->b=true) (hy:j2 S y=some (b',kI n)) (hb':p=true->b'=true) (h:p=true->-9223372036854775808<=m-n/\m-n<=9223372036854775807) :
  l4 P c S M ⟨d,.binOp .sub t x y t',ty,pos,af,gd⟩ p (kI (m-n)) none:=by
 cases p with
 | false=>exact fun hp=>by cases hp
 | true=>exact Z5 (fun w=>by simp[go_sem,IntWalk.i64_in _ (h rfl)]) hx hb hy hb'
theorem EL {t t':TypeId} {m n:Int} (hx:j2 S x=some (b,kI m)) (hb:p=true->b=true) (hy:j2 S y=some (b',kI n)) (hb':p=true->b'=true) (h:p=true->-9223372036854775808<=m*n/\m*n<=9223372036854775807) :
  l4 P c S M ⟨d,.binOp .mul t x y t',ty,pos,af,gd⟩ p (kI (m*n)) none:=by
 cases p with
 | false=>exact fun hp=>by cases hp
 | true=>exact Z5 (fun w=>by simp[go_sem,IntWalk.i64_in _ (h rfl)]) hx hb hy hb'
theorem CC {t t':TypeId} {m n:Int} (hx:j2 S x=some (b,kI m)) (hb:p=true->b=true) (hy:j2 S y=some (b',kI n)) (hb':p=true->b'=true) (h:p=true->n≠0/\-9223372036854775808<=m.tdiv n/\m.tdiv n<=9223372036854775807) :
  l4 P c S M ⟨d,.binOp .quo t x y t',ty,pos,af,gd⟩ p (kI (m.tdiv n)) none:=by
 cases p with
 | false=>exact fun hp=>by cases hp
 | true=>exact Z5 (fun w=>by simp[go_sem,(h rfl).1,IntWalk.i64_in _ (h rfl).2]) hx hb hy hb'
theorem EN {t t':TypeId} {k:IntKind} {m n:Int} (hx:j2 S x=some (b,z9 k m)) (hb:p=true->b=true) (hy:j2 S y=some (b',z9 k n)) (hb':p=true->b'=true) (h:p=true->n≠0) :
  l4 P c S M ⟨d,.binOp .rem t x y t',ty,pos,af,gd⟩ p (z9 k (m.tmod n)) none:=by
 cases p with
 | false=>exact fun hp=>by cases hp
 | true=>exact Z5 (fun w=>by simp[go_sem,h rfl]) hx hb hy hb'
theorem RT {t t':TypeId} {k:IntKind} {m n:Int} (hx:j2 S x=some (b,z9 k m)) (hb:p=true->b=true) (hy:j2 S y=some (b',z9 k n)) (hb':p=true->b'=true) :
  l4 P c S M ⟨d,.binOp .eql t x y t',ty,pos,af,gd⟩ p (kB (decide (m=n))) none :=
 Z5 (fun w=>by first | (simp[go_sem]; done) | (simp[go_sem]; rfl) | (simp[go_sem,bne,beq_eq_decide])) hx hb hy hb'
theorem SG {t t':TypeId} {k:IntKind} {m n:Int} (hx:j2 S x=some (b,z9 k m)) (hb:p=true->b=true) (hy:j2 S y=some (b',z9 k n)) (hb':p=true->b'=true) :
  l4 P c S M ⟨d,.binOp .neq t x y t',ty,pos,af,gd⟩ p (kB (decide (m≠n))) none :=
 Z5 (fun w=>by first | (simp[go_sem]; done) | (simp[go_sem]; rfl) | (simp[go_sem,bne,beq_eq_decide])) hx hb hy hb'
theorem SD {t t':TypeId} {k:IntKind} {m n:Int} (hx:j2 S x=some (b,z9 k m)) (hb:p=true->b=true) (hy:j2 S y=some (b',z9 k n)) (hb':p=true->b'=true) :
  l4 P c S M ⟨d,.binOp .lss t x y t',ty,pos,af,gd⟩ p (kB (decide (m<n))) none :=
 Z5 (fun w=>by first | (simp[go_sem]; done) | (simp[go_sem]; rfl) | (simp[go_sem,bne,beq_eq_decide])) hx hb hy hb'
theorem SC {t t':TypeId} {k:IntKind} {m n:Int} (hx:j2 S x=some (b,z9 k m)) (hb:p=true->b=true) (hy:j2 S y=some (b',z9 k n)) (hb':p=true->b'=true) :
  l4 P c S M ⟨d,.binOp .leq t x y t',ty,pos,af,gd⟩ p (kB (decide (m<=n))) none :=
 Z5 (fun w=>by first | (simp[go_sem]; done) | (simp[go_sem]; rfl) | (simp[go_sem,bne,beq_eq_decide])) hx hb hy hb'
theorem RW {t t':TypeId} {k:IntKind} {m n:Int} (hx:j2 S x=some (b,z9 k m)) (hb:p=true->b=true) (hy:j2 S y=some (b',z9 k n)) (hb':p=true->b'=true) :
  l4 P c S M ⟨d,.binOp .gtr t x y t',ty,pos,af,gd⟩ p (kB (decide (n<m))) none :=
 Z5 (fun w=>by first | (simp[go_sem]; done) | (simp[go_sem]; rfl) | (simp[go_sem,bne,beq_eq_decide])) hx hb hy hb'
theorem RV {t t':TypeId} {k:IntKind} {m n:Int} (hx:j2 S x=some (b,z9 k m)) (hb:p=true->b=true) (hy:j2 S y=some (b',z9 k n)) (hb':p=true->b'=true) :
  l4 P c S M ⟨d,.binOp .geq t x y t',ty,pos,af,gd⟩ p (kB (decide (n<=m))) none :=
 Z5 (fun w=>by first | (simp[go_sem]; done) | (simp[go_sem]; rfl) | (simp[go_sem,bne,beq_eq_decide])) hx hb hy hb'

theorem SI {t:TypeId} {e:Bool} (hx:j2 S x=some (b,kB e)) (hb:p=true->b=true):l4 P c S M ⟨d,.unOp .not t x,ty,pos,af,gd⟩ p (kB (!e)) none :=
 l4.pure fun hp a g w _ _ ho=>by
  have h1:a.eval x=.bool e:=ho x (by simp[Op.operands]) b _ hx (hb hp)
  exact ⟨_,by simp[execOp,h1,Op.unary],rfl⟩
theorem EM {t:TypeId} {m:Int} (hx:j2 S x=some (b,kI m)) (hb:p=true->b=true) (h:p=true->-9223372036854775807<=m/\m<=9223372036854775807):l4 P c S M ⟨d,.unOp .neg t x,ty,pos,af,gd⟩ p (kI (-m)) none :=
 l4.pure fun hp a g w _ _ ho=>by
  have h1:a.eval x=.int .i64 m:=ho x (by simp[Op.operands]) b _ hx (hb hp)
  have hm:=h hp
  have:=IntWalk.i64_in (0-m) zo
  rw[show (0:Int)-m=-m by omega] at this
  exact ⟨.int .i64 (-m),by simp[execOp,h1,Op.unary,Op.intArith,this],rfl⟩
theorem RR {e u:Bool} (hx:j2 S x=some (b,kB e)) (hb:p=true->b=true) (hy:j2 S y=some (b',kB u)) (hb':p=true->e=true->b'=true) :
  l4 P c S M ⟨d,.pick x y (.const (.bool false)),ty,pos,af,gd⟩ p (kB (e&&u)) none :=
 l4.pure fun hp a g w _ _ ho=>by
  have h1:a.eval x=.bool e:=ho x (by simp[Op.operands]) b _ hx (hb hp)
  cases e with
  | false =>
   have h2:a.eval (.const (.bool false))=.bool false:=rfl
   exact ⟨.bool false,by simp[execOp,h1,h2,asBool],rfl⟩
  | true =>
   have h2:a.eval y=.bool u:=ho y (by simp[Op.operands]) b' _ hy (hb' hp rfl)
   exact ⟨_,by simp[execOp,h1,h2,asBool],rfl⟩
theorem SJ {e u:Bool} (hx:j2 S x=some (b,kB e)) (hb:p=true->b=true) (hy:j2 S y=some (b',kB u)) (hb':p=true->e=false->b'=true) :
  l4 P c S M ⟨d,.pick x (.const (.bool true)) y,ty,pos,af,gd⟩ p (kB (e||u)) none :=
 l4.pure fun hp a g w _ _ ho=>by
  have h1:a.eval x=.bool e:=ho x (by simp[Op.operands]) b _ hx (hb hp)
  cases e with
  | true =>
   have h2:a.eval (.const (.bool true))=.bool true:=rfl
   exact ⟨.bool true,by simp[execOp,h1,h2,asBool],rfl⟩
  | false =>
   have h2:a.eval y=.bool u:=ho y (by simp[Op.operands]) b' _ hy (hb' hp rfl)
   exact ⟨_,by simp[execOp,h1,h2,asBool],rfl⟩
theorem yO {src t:TypeId} {sk k:IntKind} {n:Int} [hs:IQ P src sk] [ht:IQ P t k] (hx:j2 S x=some (b,z9 sk n)) (hb:p=true->b=true):l4 P c S M ⟨d,.convert src t x,ty,pos,af,gd⟩ p (z9 k (k.wrap n)) none :=
 l4.pure fun hp a g w _ _ ho=>by
  have h1:a.eval x=.int sk n:=ho x (by simp[Op.operands]) b _ hx (hb hp)
  exact ⟨_,by simp[execOp,h1,convert,run_underlying hs.h,run_underlying ht.h,Conv.intToInt],rfl⟩
theorem am4 {src t:TypeId} {sk:IntKind} {n:Int} [hs:IQ P src sk] [ht:IQ P t .i64] (hx:j2 S x=some (b,z9 sk n)) (hb:p=true->b=true) (h:p=true->-9223372036854775808<=n/\n<=9223372036854775807):l4 P c S M ⟨d,.convert src t x,ty,pos,af,gd⟩ p (kI n) none:=by
 cases p with
 | false=>exact fun hp=>by cases hp
 | true =>
  have:=yO (P:=P) (c:=c) (M:=M) (d:=d) (ty:=ty) (pos:=pos) (af:=af) (gd:=gd) (src:=src) (t:=t) hx hb
  rw[IntWalk.i64_in n (h rfl)] at this
  exact this
theorem CB {α:Type} {e:i8 α} {v:α} (hx:j2 S x=some (b,r7 e v)) (hb:p=true->b=true):l4 P c S M ⟨d,.nilCheck x,ty,pos,af,gd⟩ p (r7 e v) none :=
 l4.pure fun hp a g w _ _ ho=>by
  have hk:=ho x (by simp[Op.operands]) b _ hx (hb hp)
  obtain ⟨b,o,ds,h1,h2⟩:=id hk
  exact ⟨a.eval x,by simp[execOp,h1],hk⟩
theorem R0 {t o:Nat} (hx:j2 S x=some (b,y5 t o)) (hb:p=true->b=true):l4 P c S M ⟨d,.nilCheck x,ty,pos,af,gd⟩ p (y5 t o) none :=
 l4.pure fun hp a g w _ _ ho=>by
  have hk:=ho x (by simp[Op.operands]) b _ hx (hb hp)
  obtain ⟨b,o,h1,h2⟩:=id hk
  exact ⟨a.eval x,by simp[execOp,h2],hk⟩
theorem SB {t:TypeId} {e':TypeId} [ht:D1 P t e'] {α:Type} {e:i8 α} {xs:List α} (hx:j2 S x=some (b,b8 (eL e) xs)) (hb:p=true->b=true):l4 P c S M ⟨d,.call { callee:=.builtin .len,args:=#[x],argTypes:=#[t] },ty,pos,af,gd⟩ p (kI xs.length) none :=
 l4.pure fun hp a g w _ _ ho=>by
  obtain ⟨cs,⟨ad,cap,rfl,_⟩,h2⟩:=ho x (by simp[Op.operands,Call.operands]) b _ hx (hb hp)
  simp only[eL,Bool.false_eq_true,if_false,List.headD_cons] at h2
  exact ⟨_,by simp[execOp,resolve,invoke,builtin,Builtin.len_,h2,run_underlying ht.h,goInt],rfl⟩
theorem U1 {t:TypeId} {e':TypeId} [ht:D1 P t e'] {u len:Nat} (hx:j2 S x=some (b,o9 u len)) (hb:p=true->b=true):l4 P c S M ⟨d,.call { callee:=.builtin .len,args:=#[x],argTypes:=#[t] },ty,pos,af,gd⟩ p (kI len) none :=
 l4.pure fun hp a g w _ _ ho=>by
  rcases ho x (by simp[Op.operands,Call.operands]) b _ hx (hb hp) with ⟨_,rfl,h2⟩ | ⟨bk,cap,_,h2⟩
  ·exact ⟨_,by simp[execOp,resolve,invoke,builtin,Builtin.len_,h2,run_underlying ht.h,goInt],rfl⟩
  ·exact ⟨_,by simp[execOp,resolve,invoke,builtin,Builtin.len_,h2,run_underlying ht.h,goInt],rfl⟩
theorem RU {s:TypeId} {f off:Nat} [ht:s8 P s f off] {α β:Type} {e:i8 α} {v:α} {e':i8 β} {v':β} {off':Nat} [hf:v6 e v f e' v' off'] (hx:j2 S x=some (b,r7 e v)) (hb:p=true->b=true) (ho:off=off') :
  l4 P c S M ⟨d,.fieldAddr s x f,ty,pos,af,gd⟩ p (r7 e' v') none :=
 l4.pure fun hp a g w _ _ hop=>by
  obtain ⟨bl,o,ds,h1,h2,h3⟩:=hop x (by simp[Op.operands]) b _ hx (hb hp)
  obtain ⟨es,k1,k2⟩:=hf.imp h2
  refine ⟨.pointer (some ⟨bl,o+off,none⟩),by simp[execOp,h1,ht.run,Addr.add_lit],bl,o+off',es,by rw[ho],k1,fun j u hj=>?_⟩
  rw[Nat.add_assoc]
  exact h3 _ _ (k2 j u hj)
theorem S9 {s:TypeId} {f off:Nat} [ht:s8 P s f off] {t o:Nat} (hx:j2 S x=some (b,y5 t o)) (hb:p=true->b=true) :
  l4 P c S M ⟨d,.fieldAddr s x f,ty,pos,af,gd⟩ p (y5 t (o+off)) none :=
 l4.pure fun hp a g w _ _ hop=>by
  obtain ⟨bl,cap,h1,h2⟩:=hop x (by simp[Op.operands]) b _ hx (hb hp)
  exact ⟨.pointer (some ⟨bl,o+off,none⟩),by simp[execOp,h2,ht.run,Addr.add_lit],bl,cap,h1,rfl⟩
theorem JN {t et:TypeId} [ht:D1 P t et] {sz by':Nat} {zz:Value} [hz:p6 P et sz by' zz] {w:World} {bl o len cap:Nat} {i:Int} {ik:IntKind} (h:0<=i/\i<len) :
  (Instr.indexAt t (.slice (some ⟨bl,o,none⟩) len cap) (.int ik i)).run P w=.ok (.pointer (some ⟨bl,o+i.toNat*sz,none⟩)) w:=by
 obtain ⟨ti,hi,rfl,_,_⟩:=hz.h
 simp[Instr.indexAt,run_underlying ht.h,asIntOf,h,sizeOf,typeInfo,hi,Addr.add_lit]
theorem AY {t et:TypeId} [ht:D1 P t et] {sz by':Nat} {zz:Value} [hz:p6 P et sz by' zz] {α:Type} [Inhabited α] {e:i8 α} {xs:List α} {ik:IntKind} {i:Int} (hx:j2 S x=some (b,b8 (eL e) xs)) (hb:p=true->b=true) (hy:j2 S y=some (b',z9 ik i)) (hb':p=true->b'=true)
  (hs:sz=e.n) (h:p=true->0<=i/\i<xs.length):l4 P c S M ⟨d,.indexAddr t x y,ty,pos,af,gd⟩ p (r7 e (b6 xs i.toNat)) none :=
 l4.pure fun hp a g w _ _ ho=>by
  obtain ⟨cs,⟨ad,cap,rfl,_,hr⟩,h2⟩:=ho x (by simp[Op.operands]) b _ hx (hb hp)
  have hi:a.eval y=_:=ho y (by simp[Op.operands]) b' _ hy (hb' hp)
  simp only[eL,Bool.false_eq_true,if_false,List.headD_cons] at h2
  have hlt:=h hp
  rcases hr with rfl | ⟨bl,o,rfl,hrow⟩
  ·simp at hlt; omega
  obtain ⟨ds,k1,k2⟩:=hrow i.toNat (b6 xs i.toNat) (H1 zo)
  exact ⟨.pointer (some ⟨bl,o+i.toNat*sz,none⟩),by simp only[execOp,h2,hi,Sem.run_bind,JN (P:=P) hlt,Result.andThen_ok,Sem.run_pure],bl,o+i.toNat*sz,ds,rfl,k1,by rw[hs]; exact k2⟩
theorem F6 {t et:TypeId} [ht:D1 P t et] {sz by':Nat} {zz:Value} [hz:p6 P et sz by' zz] {α:Type} [Inhabited α] {e:i8 α} {xs:List α} {ik:IntKind} {i:Nat} (hx:j2 S x=some (b,b8 (eL e) xs)) (hb:p=true->b=true) (hy:j2 S y=some (b',z9 ik (i:Int))) (hb':p=true->b'=true)
  (hs:sz=e.n) (h:p=true->i<xs.length):l4 P c S M ⟨d,.indexAddr t x y,ty,pos,af,gd⟩ p (r7 e (b6 xs i)) none :=
 AY (i:=(i:Int)) hx hb hy hb' hs (fun hp=>by have:=h hp; omega)
theorem HN {t et:TypeId} [ht:D1 P t et] {sz by':Nat} {zz:Value} [hz:p6 P et sz by' zz] {u len:Nat} {ik:IntKind} {i:Int} (hx:j2 S x=some (b,o9 u len)) (hb:p=true->b=true) (hy:j2 S y=some (b',z9 ik i)) (hb':p=true->b'=true)
  (h:p=true->0<=i/\i<len):l4 P c S M ⟨d,.indexAddr t x y,ty,pos,af,gd⟩ p (DF u sz i.toNat len) none :=
 l4.pure fun hp a g w _ _ ho=>by
  have hi:a.eval y=_:=ho y (by simp[Op.operands]) b' _ hy (hb' hp)
  have hlt:=h hp
  rcases ho x (by simp[Op.operands]) b _ hx (hb hp) with ⟨_,h0,_⟩ | ⟨bk,cap,h1,h2⟩
  ·omega
  ·exact ⟨.pointer (some ⟨bk,0+i.toNat*sz,none⟩),by simp only[execOp,h2,hi,Sem.run_bind,JN (P:=P) hlt,Result.andThen_ok,Sem.run_pure],by omega,bk,cap,h1,by simp⟩
theorem KG {t et:TypeId} [ht:D1 P t et] {sz by':Nat} {zz:Value} [hz:p6 P et sz by' zz] {u len:Nat} {ik:IntKind} {i:Nat} (hx:j2 S x=some (b,o9 u len)) (hb:p=true->b=true) (hy:j2 S y=some (b',z9 ik (i:Int))) (hb':p=true->b'=true)
  (h:p=true->i<len):l4 P c S M ⟨d,.indexAddr t x y,ty,pos,af,gd⟩ p (DF u sz i len) none :=
 HN (i:=(i:Int)) hx hb hy hb' (fun hp=>by have:=h hp; omega)
theorem v8 {t:TypeId} [ht:F4 P t] {α:Type} {e:i8 α} {v:α} {k:d7} [hk:P8 e v k] (hx:j2 S x=some (b,r7 e v)) (hb:p=true->b=true) (ha:e.agg=false):l4 P c S M ⟨d,.load t x,ty,pos,af,gd⟩ p k none :=
 l4.pure fun hp a g w hok _ ho=>by
  obtain ⟨bl,o,ds,h1,h2,h3⟩:=ho x (by simp[Op.operands]) b _ hx (hb hp)
  have hl:=e.len h2
  rw[(e.one ha).1] at hl
  match ds,hl with
  | [u],_ =>
   have hc:=UN hok h3 0 u rfl
   exact ⟨u,by simp only[execOp,h1,Sem.run_bind,NK (P:=P) (t:=t) (by simpa using hc),Result.andThen_ok,Sem.run_pure],hk.imp ⟨_,h2,by rw[ha]; rfl⟩⟩
theorem C2 {t:TypeId} [ht:D0 P t] {n by':Nat} {zz:Value} [hz:p6 P t n by' zz] {α:Type} {e:i8 α} {v:α} {k:d7} [hk:P8 e v k] (hx:j2 S x=some (b,r7 e v)) (hb:p=true->b=true) (ha:e.agg=true) (hn:e.n=n):l4 P c S M ⟨d,.load t x,ty,pos,af,gd⟩ p k none :=
 l4.pure fun hp a g w hok _ ho=>by
  obtain ⟨bl,o,ds,h1,h2,h3⟩:=ho x (by simp[Op.operands]) b _ hx (hb hp)
  exact ⟨.agg ds.toArray,by simp only[execOp,h1,Sem.run_bind,SX (P:=P) (t:=t) ((e.len h2).trans hn) (UN hok h3),Result.andThen_ok,Sem.run_pure],hk.imp ⟨_,h2,by rw[ha]; rfl⟩⟩
theorem DT {ks:List d7} {t:Nat} {dep:List Nat} [hl:q7 M t (j5 ks) dep] {g:Gh} {w:World} (hc:F7 M g w) {bl cap:Nat} (hm:g.M t=some (.blk bl cap)):∃cs ty,w.heap[bl]?=some (.cells cs ty (0,0))/\n9 g ks cs.toList:=by
 obtain ⟨b,h1,cs,ty,h2,h3⟩:=hc _ hl.mem
 simp only at h1
 rw[hm] at h1
 cases h1
 exact ⟨cs,ty,h2,h3⟩
theorem E2 {t:TypeId} [ht:F4 P t] {u o:Nat} {ks:List d7} {dep:List Nat} [hl:q7 M u (j5 ks) dep] {k:d7} (hx:j2 S x=some (b,y5 u o)) (hb:p=true->b=true) (hk:ks[o]?=some k):l4 P c S M ⟨d,.load t x,ty,pos,af,gd⟩ p k none :=
 l4.pure fun hp a g w hok hc ho=>by
  obtain ⟨bl,cap,h1,h2⟩:=ho x (by simp[Op.operands]) b _ hx (hb hp)
  obtain ⟨cs,ty,h3,h4⟩:=DT (ks:=ks) hc h1
  obtain ⟨v,hv,hkv⟩:=IT h4 hk
  exact ⟨v,by simp only[execOp,h2,Sem.run_bind,NK (P:=P) (t:=t) (M7 h3 (by simpa using hv)),Result.andThen_ok,Sem.run_pure],hkv⟩
theorem GV {g:Gh}:∀{ks:List d7} {vs:List Value} (o n:Nat),n9 g ks vs->n9 g ((ks.drop o).take n) ((vs.drop o).take n)
 | [],[],_,_,_=>by simp[n9]
 | _::_,_::_,0,0,_=>by simp[n9]
 | _::_,_::_,0,n+1,h=>⟨h.1,by simpa using GV 0 n h.2⟩
 | _::_,_::_,o+1,n,h=>by simpa using GV o n h.2
 | [],_::_,_,_,h=>h.elim
 | _::_,[],_,_,h=>h.elim
theorem yU {t:TypeId} [ht:D0 P t] {n by':Nat} {zz:Value} [hz:p6 P t n by' zz] {u o:Nat} {ks ks':List d7} {dep:List Nat} [hl:q7 M u (j5 ks) dep] (hx:j2 S x=some (b,y5 u o)) (hb:p=true->b=true) (hk:(ks.drop o).take n=ks') (hn:ks'.length=n) :
  l4 P c S M ⟨d,.load t x,ty,pos,af,gd⟩ p (H9 ks') none :=
 l4.pure fun hp a g w hok hc ho=>by
  obtain ⟨bl,cap,h1,h2⟩:=ho x (by simp[Op.operands]) b _ hx (hb hp)
  obtain ⟨cs,ty,h3,h4⟩:=DT (ks:=ks) hc h1
  have h5:=GV o n h4
  rw[hk] at h5
  refine ⟨.agg ((cs.toList.drop o).take n).toArray,?_,_,rfl,h5⟩
  have hr:=SX (P:=P) (t:=t) (w:=w) (b:=bl) (o:=o) (ds:=(cs.toList.drop o).take n) ((L6 h5).trans hn) (fun j v hj=>by
   refine M7 h3 ?_
   rw[List.getElem?_take] at hj
   split at hj
   ·rw[List.getElem?_drop] at hj; simpa using hj
   ·cases hj)
  simp only[execOp,h2,Sem.run_bind,hr,Result.andThen_ok,Sem.run_pure]
theorem DS {α:Type} {zb:Bool} {et:TypeId} {e:i8 α} {xs:List α} {len t:Nat} {dep:List Nat} [hl:q7 M t (l5 zb et e xs len) dep] {g:Gh} {w:World} (hc:F7 M g w) {bl cap:Nat} (hm:g.M t=some (.blk bl cap)) :
  xs.length=len/\(zb=true->len≠0)/\∃cs:Array Value,w.heap[bl]?=some (.cells cs et (0,0))/\cs.size=cap*e.n/\len<=cap/\cap<=maxLen/\∀i x,xs[i]?=some x->∃ds,e.rd g.J ds x/\∀j v,ds[j]?=some v->cs[i*e.n+j]?=some v:=by
 obtain ⟨b,h1,h0,h2⟩:=hc _ hl.mem
 simp only at h1
 rw[hm] at h1
 cases h1
 obtain ⟨hz,cs,h3,h4⟩:=h2
 exact ⟨h0,hz,cs,h3,h4⟩
theorem RZ {t:TypeId} [ht:F4 P t] {α:Type} [Inhabited α] {zb:Bool} {et:TypeId} {e:i8 α} {xs:List α} {u sz i len len':Nat} {dep:List Nat} [hl:q7 M u (l5 zb et e xs len') dep] {k:d7} [hk:P8 e (b6 xs i) k] (hx:j2 S x=some (b,DF u sz i len)) (hb:p=true->b=true)
  (ha:e.agg=false) (hs:sz=e.n) (hle:len=len'):l4 P c S M ⟨d,.load t x,ty,pos,af,gd⟩ p k none :=
 l4.pure fun hp a g w hok hc ho=>by
  obtain ⟨hlt,bl,cap,h1,h2⟩:=ho x (by simp[Op.operands]) b _ hx (hb hp)
  obtain ⟨h0,_,cs,h3,_,_,_,h5⟩:=DS (xs:=xs) hc h1
  obtain ⟨ds,k1,k2⟩:=h5 i _ (H1 zo)
  have hn:=e.len k1
  rw[(e.one ha).1] at hn
  match ds,hn with
  | [v],_ =>
   have hc:=k2 0 v rfl
   have hcell:w.cell? ⟨bl,i*sz,none⟩=some v:=M7 h3 (by rw[hs]; simpa using hc)
   exact ⟨v,by simp only[execOp,h2,Sem.run_bind,NK (P:=P) (t:=t) hcell,Result.andThen_ok,Sem.run_pure],hk.imp ⟨_,k1,by rw[ha]; rfl⟩⟩
theorem X8 {t:TypeId} [ht:D0 P t] {n by':Nat} {zz:Value} [hz:p6 P t n by' zz] {α:Type} [Inhabited α] {zb:Bool} {et:TypeId} {e:i8 α} {xs:List α} {u sz i len len':Nat} {dep:List Nat} [hl:q7 M u (l5 zb et e xs len') dep] {k:d7} [hk:P8 e (b6 xs i) k] (hx:j2 S x=some (b,DF u sz i len)) (hb:p=true->b=true)
  (ha:e.agg=true) (hs:sz=e.n) (hn:e.n=n) (hle:len=len'):l4 P c S M ⟨d,.load t x,ty,pos,af,gd⟩ p k none :=
 l4.pure fun hp a g w hok hc ho=>by
  obtain ⟨hlt,bl,cap,h1,h2⟩:=ho x (by simp[Op.operands]) b _ hx (hb hp)
  obtain ⟨h0,_,cs,h3,_,_,_,h5⟩:=DS (xs:=xs) hc h1
  obtain ⟨ds,k1,k2⟩:=h5 i _ (H1 zo)
  have hcell:∀j v,ds[j]?=some v->w.cell? ⟨bl,i*sz+j,none⟩=some v:=fun j v hj=>M7 h3 (by rw[hs]; exact k2 j v hj)
  exact ⟨.agg ds.toArray,by simp only[execOp,h2,Sem.run_bind,SX (P:=P) (t:=t) ((e.len k1).trans hn) hcell,Result.andThen_ok,Sem.run_pure],hk.imp ⟨_,k1,by rw[ha]; rfl⟩⟩
end

theorem uu {p:Bool}:p=true->true=true:=fun _=>rfl
section
variable {P:Program} {c:n6} {ops:Array Oper} {S:i4} {M:i1} {rest:List Oper} {Q:Exit->Act->World->Prop} {d:Nat} {x:Operand} {ty:TypeId} {pos:String} {af:Array Edge} {k:d7} {dep:List Nat}
theorem mv (hx:j2 S x=some (true,k)) [hk:o5 k dep] (hs:t8 dep (tags M)=true) (hn:Nat.blt d c.n=true) (K:d5 P c ops (⟨d,true,dep,k⟩::S) M rest Q):d5 P c ops S M (⟨some d,.move x,ty,pos,af,none⟩::rest) Q:=d5.op (G7 hx uu) hs hn K
theorem mw (hx:j2 S x=some (true,k)) [hk:o5 k dep] (hs:t8 dep (tags M)=true) (hn:Nat.blt d c.n=true) (K:d5 P c ops (⟨d,true,dep,k⟩::S) M rest Q):d5 P c ops S M (⟨some d,.assign x,ty,pos,af,none⟩::rest) Q:=d5.op (NC hx uu) hs hn K
end
end Go.Fl

/- Operations that make things of the call's own, stores, appends, calls. -/
namespace Go.Fl
open Go Go.RowKit

class V1 (ks:List d7) (off:Nat) (kx:List d7) (out:outParam (List d7)):Prop where
 len:off+kx.length<=ks.length
 eq:out=ks.take off++kx++ks.drop (off+kx.length)
instance {ks:List d7}:V1 ks 0 [] ks:=⟨by simp,by simp⟩
instance {k0 k:d7} {ks kx out:List d7} [h:V1 ks 0 kx out]:V1 (k0::ks) 0 (k::kx) (k::out):=⟨by have:=h.len; simp at this ⊢; omega,by have:=h.eq; simp at this ⊢; exact this⟩
instance {k0:d7} {ks kx out:List d7} {n:Nat} [h:V1 ks n kx out]:V1 (k0::ks) (n+1) kx (k0::out):=⟨by have:=h.len; simp; omega,by
 have:=h.eq
 rw[this]
 simp[Nat.add_right_comm n 1]⟩
theorem V1.holds {g:Gh} {ks kx out:List d7} {off:Nat} (h:V1 ks off kx out) {cs vs:List Value} (hc:n9 g ks cs) (hv:n9 g kx vs):n9 g out (cs.take off++vs++cs.drop (off+vs.length)):=by
 rw[h.eq,L6 hv]
 have h1:=GV 0 off hc
 have h2:=GV (off+kx.length) cs.length hc
 simp only[List.drop_zero] at h1
 rw[List.take_of_length_le (by rw[List.length_drop,L6 hc]; omega),List.take_of_length_le (by rw[List.length_drop]; omega)] at h2
 exact ON (ON h1 hv) h2
theorem vB (vs:List Value) (off:Nat):∀(i:Nat) (cs:List Value),off+i+vs.length<=cs.length ->
  ((vs.zipIdx i).foldl (fun (a:Array Value) (x:Value×Nat)=>a.setIfInBounds (off+x.2) x.1) cs.toArray).toList=cs.take (off+i)++vs++cs.drop (off+i+vs.length):=by
 induction vs with
 | nil=>intro i cs _; simp
 | cons v vs ih =>
  intro i cs h
  simp only[List.length_cons] at h
  have h1:((v::vs).zipIdx i).foldl (fun (a:Array Value) (x:Value×Nat)=>a.setIfInBounds (off+x.2) x.1) cs.toArray=(vs.zipIdx (i+1)).foldl (fun (a:Array Value) (x:Value×Nat)=>a.setIfInBounds (off+x.2) x.1) (cs.set (off+i) v).toArray:=by
   simp[List.zipIdx_cons]
  rw[h1,ih (i+1) (cs.set (off+i) v) (by simp; omega)]
  apply List.ext_getElem?
  intro j
  simp only[List.append_assoc,List.getElem?_append,List.getElem?_take,List.length_take,List.length_set,List.getElem?_drop,List.getElem?_set,List.length_cons]
  by_cases hj:j<off+i
  ·simp[show j<off+(i+1) by omega,hj,show min (off+(i+1)) cs.length=off+(i+1) by omega,show min (off+i) cs.length=off+i by omega,show ¬off+i=j by omega]
  ·by_cases hj2:j=off+i
   ·subst hj2
    simp[show min (off+(i+1)) cs.length=off+(i+1) by omega,show min (off+i) cs.length=off+i by omega,show off+i<off+(i+1) by omega,show off+i<cs.length by omega]
   ·have e1:min (off+(i+1)) cs.length=off+(i+1):=by omega
    have e2:min (off+i) cs.length=off+i:=by omega
    simp only[e1,e2,hj,if_false,show ¬j<off+(i+1) by omega]
    rw[show j-(off+i)=(j-(off+(i+1)))+1 by omega]
    simp only[List.getElem?_cons_succ]
    by_cases hj3:j-(off+(i+1))<vs.length
    ·simp[hj3,show j-(off+(i+1))+1<vs.length+1 by omega]
    ·simp[hj3]
     rw[if_neg zo]
     congr 1
     omega
def QF (place:Nat->Option (Nat×Nat)) (cells:Array Value) (i:Nat) (v:Value):Option (Array Value) :=
 match place i with
 | none=>none
 | some (off,size)=>if v.cells.size≠size||off+v.cells.size>cells.size then none else some (v.cells.zipIdx.foldl (fun cs (c,j)=>cs.setIfInBounds (off+j) c) cells)
theorem fH (place:Nat->Option (Nat×Nat)) (cells:Array Value) (i:Nat) (v:Value) (rest:List (Nat×Value)) :
  Instr.fill place cells ((i,v)::rest)=(QF place cells i v).bind fun cs=>Instr.fill place cs rest:=by
 unfold QF
 simp only[Instr.fill]
 cases place i with
 | none=>rfl
 | some x=>simp only; split<;>simp_all
theorem fG (place:Nat->Option (Nat×Nat)) (cells:Array Value) (i off size:Nat) (v:Value) (hp:place i=some (off,size)) (hs:v.cells.size=size) (hl:off+size<=cells.size) :
  ∃cs,QF place cells i v=some cs/\cs.toList=cells.toList.take off++v.cells.toList++cells.toList.drop (off+size):=by
 have h:=vB v.cells.toList off 0 cells.toList (by simp; omega)
 refine ⟨_,by simp only[QF,hp]; rw[if_neg (by simp[hs]; omega)],?_⟩
 have e:v.cells.zipIdx.foldl (fun cs (x:Value×Nat)=>cs.setIfInBounds (off+x.2) x.1) cells=(v.cells.toList.zipIdx 0).foldl (fun (a:Array Value) (x:Value×Nat)=>a.setIfInBounds (off+x.2) x.1) cells.toList.toArray:=by
  rw[<- Array.foldl_toList]; simp
 rw[show (v.cells.zipIdx.foldl (fun cs (x:Value×Nat)=>match x with | (c,j)=>cs.setIfInBounds (off+j) c) cells)=v.cells.zipIdx.foldl (fun cs (x:Value×Nat)=>cs.setIfInBounds (off+x.2) x.1) cells from rfl,e,h]
 simp[hs]
inductive X2 (S:i4) (place:Nat->Option (Nat×Nat)):List (Nat×Operand)->List d7->List d7->Prop
 | nil {ks:List d7}:X2 S place [] ks ks
 | consG {i off size:Nat} {x:Operand} {r:List (Nat×Operand)} {k:d7} {b:Bool} {kx ks k1 out:List d7} (hx:j2 S x=some (b,k)) (hb:b=true) [hk:E9 k kx] (hp:place i=some (off,size)) (hs:kx.length=size) [h:V1 ks off kx k1] (rest:X2 S place r k1 out) :
   X2 S place ((i,x)::r) ks out
theorem X2.cons {S:i4} {place:Nat->Option (Nat×Nat)} {i off size:Nat} {x:Operand} {r:List (Nat×Operand)} {k:d7} {kx ks k1 out:List d7} (hx:j2 S x=some (true,k)) [hk:E9 k kx] (hp:place i=some (off,size)) (hs:kx.length=size) [h:V1 ks off kx k1] (rest:X2 S place r k1 out) :
   X2 S place ((i,x)::r) ks out:=.consG hx rfl hp hs rest
theorem X2.fill {S:i4} {place:Nat->Option (Nat×Nat)} {ps:List (Nat×Operand)} {ks out:List d7} (h:X2 S place ps ks out) {g:Gh} {ρ:Operand->Value} (hρ:∀y∈ps,∀b k,j2 S y.2=some (b,k)->b=true->k g (ρ y.2)) :
  ∀{cells:Array Value},n9 g ks cells.toList->∃cs,Instr.fill place cells (ps.map fun y=>(y.1,ρ y.2))=some cs/\n9 g out cs.toList:=by
 induction h with
 | nil=>intro cells hc; exact ⟨cells,rfl,hc⟩
 | @consG i off size x r k b kx ks k1 out hx hb hk hp hs hset rest ih =>
  intro cells hc
  have hv:=(hk.imp (hρ (i,x) List.mem_cons_self _ _ hx hb)).1
  have hsz:(ρ x).cells.size=size:=by have:=L6 hv; simp at this; omega
  have hl:=hset.len
  have hcl:=L6 hc
  simp at hcl
  obtain ⟨cs,h1,h2⟩:=fG place cells i off size (ρ x) hp hsz zo
  have h3:=hset.holds hc hv
  have hsz':(ρ x).cells.toList.length=size:=by simpa using hsz
  rw[hsz',<- h2] at h3
  obtain ⟨cs',h4,h5⟩:=ih (fun y hy=>hρ y (List.mem_cons_of_mem _ hy)) h3
  refine ⟨cs',?_,h5⟩
  simp only[List.map_cons,fH,h1,Option.bind_some]
  exact h4
class D4 (P:Program) (t:TypeId) (ks:outParam (List d7)):Prop where
 h:∃z:Value,(∀w,(zeroValue t).run P w=.ok z w)/\∀g,n9 g ks z.cells.toList
theorem D4.mk' {P:Program} {t:TypeId} {z:Value} {ks:List d7} (h:(P.info? t).map (·.zero)=some (some z)) (hk:∀g,n9 g ks z.cells.toList):D4 P t ks:=by
 refine ⟨z,fun w=>?_,hk⟩
 cases hi:P.info? t with
 | none=>simp[hi] at h
 | some i=>simp[hi] at h; simp[zeroValue,typeInfo,hi,h]
class BM (P:Program) (t:TypeId) (pl:outParam (List (Nat×Nat))):Prop where
 h:∃fs:Array Field,P.underlying t=some (.struct fs)/\fs.toList.mapM (fun f=>(P.info? f.type).map fun i=>(f.offset,i.size))=some pl
section
variable {P:Program} {c:n6} {S:i4} {M:i1} {p:Bool} {d:Option Tmp} {ty:TypeId} {pos:String} {af:Array Edge} {gd:Option (Nat×Bool)}
variable {x y z:Operand} {b b' b'':Bool}
theorem gP {ks:List d7} {dep:List Nat} [hk:B9 ks dep] {g:Gh} {t:Nat} {bk:Bk} {vs:List Value} (hc:∀u∈dep,∃b,g.M u=some b) (hf:g.M t=none) (h:n9 g ks vs):n9 (g.add t bk) ks vs :=
 hk.dep (g:=g) (g':=g.add t bk) (JV.le_refl _) (fun u hu=>by
  obtain ⟨b,hb⟩:=hc u hu
  simp only[Gh.add]
  rw[if_neg (fun e=>by subst e; rw[hf] at hb; cases hb)]) h
theorem yM {el:TypeId} {k:d7} {ks:List d7} {dep:List Nat} (t:Nat) (hx:j2 S x=some (b,k)) (hb:p=true->b=true) [hk:E9 k ks] [hd:B9 ks dep] (hs:t8 dep (tags M)=true) :
  l4 P c S M ⟨d,.box el x,ty,pos,af,gd⟩ p (y5 t 0) (some ⟨t,dep,j5 ks⟩):=by
 intro hp a g w hok hc ho hf
 have hv:=(hk.imp (ho x (by simp[Op.operands]) b _ hx (hb hp))).1
 have hf':=hf _ rfl
 unfold Oper.wp
 simp only[execOp,Instr.box,newVar,newRow,newObj,Sem.run_bind,Sem.run,Sem.run_pure,Result.andThen,Oper.upon]
 exact ⟨_,_,rfl,H2.alloc (cap:=0) hok hf' (.inl rfl) ⟨_,_,Gh.add_same _ _ _,rfl⟩ ⟨_,_,rfl,gP (fun u hu=>hc.tag (C3 hs u hu)) hf' hv⟩⟩
theorem KE {el:TypeId} {ks:List d7} (t:Nat) [hz:D4 P el ks] [hd:B9 ks []]:l4 P c S M ⟨d,.alloc el,ty,pos,af,gd⟩ p (y5 t 0) (some ⟨t,[],j5 ks⟩):=by
 intro hp a g w hok hc ho hf
 obtain ⟨z,h1,h2⟩:=hz.h
 have hf':=hf _ rfl
 unfold Oper.wp
 simp only[execOp,Instr.alloc,newVar,newRow,newObj,Sem.run_bind,h1,Sem.run,Sem.run_pure,Result.andThen,Oper.upon]
 exact ⟨_,_,rfl,H2.alloc (cap:=0) hok hf' (.inl rfl) ⟨_,_,Gh.add_same _ _ _,rfl⟩ ⟨_,_,rfl,gP (dep:=[]) (fun u hu=>by cases hu) hf' (h2 g)⟩⟩
theorem A1 {t:TypeId} {pl:List (Nat×Nat)} [hpl:BM P t pl] {zs:List d7} [hz:D4 P t zs] {parts:List (Nat×Operand)} {ks:List d7} (h:p=true->X2 S (pl.toArray[·]?) parts zs ks) :
  l4 P c S M ⟨d,.build t parts.toArray,ty,pos,af,gd⟩ p (H9 ks) none :=
 l4.pure fun hp a g w _ _ ho=>by
  obtain ⟨fs,hu,hm⟩:=hpl.h
  obtain ⟨z,h1,h2⟩:=hz.h
  obtain ⟨cs,h3,h4⟩:=(h hp).fill (g:=g) (ρ:=a.eval) (fun y hy b k hk hb=>ho y.2 (by simp only[Op.operands]; simp; exact ⟨y.1,hy⟩) b k hk hb) (h2 g)
  refine ⟨.agg cs,?_,cs.toList,rfl,h4⟩
  have hr:=fun w=>run_places (P:=P) w fs.toList pl hm
  have hpl':∀w,(fs.mapM fun f=>do pure (f.offset,<- sizeOf f.type):Sem (Array (Nat×Nat))).run P w=.ok pl.toArray w:=by
   intro w
   have:=hr w
   rw[Array.mapM_eq_mapM_toList]
   simp[this]
  have hmap:(parts.toArray.map fun (y:Nat×Operand)=>(y.1,a.eval y.2)).toList=parts.map fun y=>(y.1,a.eval y.2):=by simp
  have hb2:(Instr.build t (parts.toArray.map fun (y:Nat×Operand)=>(y.1,a.eval y.2))).run P w=.ok (.agg cs) w:=by
   simp only[Instr.build,Sem.run_bind,h1,Result.andThen_ok,run_underlying hu,hpl',hmap,h3,Sem.run_pure]
  simp only[execOp,Sem.run_bind]
  rw[show (parts.toArray.map fun x:Nat×Operand=>match x with | (i,x)=>(i,a.eval x))=parts.toArray.map fun (y:Nat×Operand)=>(y.1,a.eval y.2) from rfl,hb2]
  rfl

class GR (k:d7) {α:Type} (e:i8 α) (x:outParam α):Prop where
 imp:∀{g:Gh} {v:Value},k g v->e.rd g.J v.cells.toList x/\∀u∈v.cells.toList,u.oneCell'=true
instance (priority:=high) {α:Type} {e:i8 α} {x:α}:GR (b8 e x) e x:=⟨fun h=>⟨h.cells,e.all1 h.cells⟩⟩
instance {α:Type} {k:d7} {ks:List d7} {e:i8 α} {x:α} [hk:E9 k ks] [h:t6 ks e x []]:GR k e x:=⟨fun hv=>by
 have:=t6.whole (h:=h) (hk.imp hv).1
 exact ⟨this,e.all1 this⟩⟩
class GS {α:Type} (e:i8 α) (z:Value) (x:outParam α):Prop where
 imp:∀J,e.rd J z.cells.toList x
instance {k:IntKind}:GS (FK k) (.int k 0) 0:=⟨fun _=>rfl⟩
instance:GS BU (.bool false) false:=⟨fun _=>rfl⟩
theorem xC {α:Type} {g:Gh} {e:i8 α} {z:Value} {x0:α} [hz:GS e z x0] {et:TypeId} {n size bl:Nat} (hs:size=e.n) (_:0<e.n) (hn:n<=maxLen) :
  l5 false et e (List.replicate n x0) n g (.blk bl n) (some (.cells (madeCells z.cells (n*size)) et (0,0))):=by
 refine ⟨by simp,fun h=>(by cases h),_,rfl,by rw[size_madeCells,hs],Nat.le_refl _,hn,fun i x hx=>?_⟩
 obtain ⟨hi,rfl⟩:=List.getElem?_eq_some_iff.1 hx
 simp only[List.length_replicate] at hi
 simp only[List.getElem_replicate]
 have hrd:=hz.imp g.J
 have hlen:=e.len hrd
 refine ⟨_,hrd,fun j v hj=>?_⟩
 have hjl:j<e.n:=by have:=(List.getElem?_eq_some_iff.1 hj).1; omega
 have hlt:i*e.n+j<n*size:=by rw[hs]; exact Nat.lt_of_lt_of_le (Nat.add_lt_add_left hjl _) (by rw[<- Nat.succ_mul]; exact Nat.mul_le_mul_right _ hi)
 have hzl:z.cells.size=e.n:=by simpa using hlen
 have hmod:(i*e.n+j)%z.cells.size=j:=by rw[hzl,Nat.add_comm,Nat.add_mul_mod_self_right,Nat.mod_eq_of_lt hjl]
 have h2:z.cells[j]?=some v:=by simpa using hj
 rw[madeCells,Array.getElem?_map,show (Array.range (n*size))[i*e.n+j]?=some (i*e.n+j) by simp[hlt],Option.map_some,hmod]
 obtain ⟨hjs,e2⟩:=Array.getElem?_eq_some_iff.1 h2
 rw[getElem!_pos z.cells j hjs,e2]
theorem SF {t et:TypeId} [ht:D1 P t et] {size bytes:Nat} {zz:Value} [hsz:p6 P et size bytes zz] {α:Type} (e:i8 α) {x0:α} [hz:GS e zz x0] {n:Int} (u:Nat) (hx:j2 S x=some (b,kI n)) (hb:p=true->b=true) (hy:j2 S y=some (b',kI n)) (hb':p=true->b'=true)
  (hs:size=e.n) (hpos:Nat.blt 0 size=true) (h:p=true->0<=n/\bytes*n<=281474976710656/\n<=9223372036854775807) :
  l4 P c S M ⟨d,.makeSlice t x y,ty,pos,af,gd⟩ p (o9 u n.toNat) (some ⟨u,[],l5 false et e (List.replicate n.toNat x0) n.toNat⟩):=by
 intro hp a g w hok hc ho hf
 have hf':=hf _ rfl
 obtain ⟨i,hi,rfl,rfl,hzz⟩:=hsz.h
 obtain ⟨h0,h1,h2⟩:=h hp
 have e1:a.eval x=_:=ho x (by simp[Op.operands]) b _ hx (hb hp)
 have e2:a.eval y=_:=ho y (by simp[Op.operands]) b' _ hy (hb' hp)
 have hr:=run_make (P:=P) w t et i zz ht.h hi hzz .i64 .i64 n n h0 (Int.le_refl _) h1 h2
 unfold Oper.wp
 simp only[execOp,e1,e2,Sem.run_bind,hr,Result.andThen_ok,Sem.run_pure,Oper.upon]
 exact ⟨_,_,rfl,H2.alloc (cap:=n.toNat) hok hf' (.inl rfl) (.inr ⟨_,_,Gh.add_same _ _ _,rfl⟩) (xC hs (by rw[<- hs]; simpa [Nat.blt_eq] using hpos) (by simp only[maxLen]; omega))⟩
theorem FX {t et:TypeId} [ht:D1 P t et] {size bytes:Nat} {zz:Value} [hsz:p6 P et size bytes zz] {α:Type} (e:i8 α) {x0:α} [hz:GS e zz x0] {n:Nat} (u:Nat) (hx:j2 S x=some (b,kI (n:Int))) (hb:p=true->b=true) (hy:j2 S y=some (b',kI (n:Int))) (hb':p=true->b'=true)
  (hs:size=e.n) (hpos:Nat.blt 0 size=true) (hby:Nat.blt 0 bytes=true) (h:p=true->bytes*n<=281474976710656) :
  l4 P c S M ⟨d,.makeSlice t x y,ty,pos,af,gd⟩ p (o9 u n) (some ⟨u,[],l5 false et e (List.replicate n x0) n⟩):=by
 have hb0:0<bytes:=by simpa [Nat.blt_eq] using hby
 ·have:=SF (P:=P) (c:=c) (S:=S) (M:=M) (d:=d) (ty:=ty) (pos:=pos) (af:=af) (gd:=gd) (t:=t) e u hx hb hy hb' hs hpos (fun hp=>by
   have h1:=h hp
   have h2:n<=bytes*n:=Nat.le_mul_of_pos_left _ zo
   have h3:((bytes*n:Nat):Int)<=281474976710656:=by omega
   rw[Int.natCast_mul] at h3
   exact ⟨by omega,h3,by omega⟩)
  exact this
inductive CQ (S:i4) {α:Type} (e:i8 α):Nat->List (Nat×Operand)->List α->Prop
 | nil {i:Nat}:CQ S e i [] []
 | consG {i:Nat} {x:Operand} {r:List (Nat×Operand)} {k:d7} {b:Bool} {v:α} {vs:List α} (hx:j2 S x=some (b,k)) (hb:b=true) [hk:GR k e v] (rest:CQ S e (i+1) r vs):CQ S e i ((i,x)::r) (v::vs)
theorem CQ.cons {S:i4} {α:Type} {e:i8 α} {i:Nat} {x:Operand} {r:List (Nat×Operand)} {k:d7} {v:α} {vs:List α} (hx:j2 S x=some (true,k)) [hk:GR k e v] (rest:CQ S e (i+1) r vs):CQ S e i ((i,x)::r) (v::vs):=.consG hx rfl rest
theorem CQ.fill {α:Type} {e:i8 α} {i:Nat} {ps:List (Nat×Operand)} {xs:List α} (h:CQ S e i ps xs) {g:Gh} {ρ:Operand->Value} (hρ:∀y∈ps,∀b k,j2 S y.2=some (b,k)->b=true->k g (ρ y.2)) :
  ∀{cells:Array Value},(i+xs.length)*e.n<=cells.size->∃cs,Instr.fill (fun i=>some (i*e.n,e.n)) cells (ps.map fun y=>(y.1,ρ y.2))=some cs/\cs.size=cells.size/\(∀j,j<i*e.n->cs[j]?=cells[j]?) /\
   ∀k x,xs[k]?=some x->∃ds,e.rd g.J ds x/\∀j v,ds[j]?=some v->cs[(i+k)*e.n+j]?=some v:=by
 induction h with
 | nil=>intro cells _; exact ⟨cells,rfl,rfl,fun _ _=>rfl,fun k x hx=>by simp at hx⟩
 | @consG i x r k b v vs hx hb hk rest ih =>
  intro cells hsz
  have hv:=(hk.imp (hρ (i,x) List.mem_cons_self _ _ hx hb)).1
  have hcl:(ρ x).cells.size=e.n:=by have:=e.len hv; simpa using this
  have hin:i*e.n+e.n<=cells.size:=by
   refine Nat.le_trans ?_ hsz
   rw[<- Nat.succ_mul]
   exact Nat.mul_le_mul_right _ (by simp)
  obtain ⟨c1,h1,h2⟩:=fG (fun i=>some (i*e.n,e.n)) cells i (i*e.n) e.n (ρ x) rfl hcl hin
  have hc1:c1.size=cells.size:=by
   have:=congrArg List.length h2
   simp[hcl] at this
   omega
  have hsz1:(i+1+vs.length)*e.n<=c1.size:=by rw[hc1]; refine Nat.le_trans (Nat.le_of_eq ?_) hsz; simp[Nat.add_comm,Nat.add_left_comm]
  obtain ⟨cs,h3,h4,h5,h6⟩:=ih (fun y hy=>hρ y (List.mem_cons_of_mem _ hy)) hsz1
  have hlo:∀j,j<i*e.n->c1[j]?=cells[j]?:=fun j hj=>by
   have:c1.toList[j]?=cells.toList[j]?:=by
    rw[h2,List.append_assoc,List.getElem?_append_left (by simp; omega),List.getElem?_take,if_pos hj]
   simpa using this
  have hmid:∀j u,(ρ x).cells.toList[j]?=some u->c1[i*e.n+j]?=some u:=fun j u hj=>by
   have hjl:j<e.n:=by have:=(List.getElem?_eq_some_iff.1 hj).1; simp[hcl] at this; omega
   have:c1.toList[i*e.n+j]?=some u:=by
    rw[h2,List.append_assoc,List.getElem?_append_right (by simp; omega)]
    rw[show i*e.n+j-(List.take (i*e.n) cells.toList).length=j by simp; omega]
    rw[List.getElem?_append_left (by simp[hcl]; exact hjl)]
    exact hj
   simpa using this
  refine ⟨cs,?_,h4.trans hc1,fun j hj=>?_,fun k' x' hx'=>?_⟩
  ·simp only[List.map_cons,fH,h1,Option.bind_some]
   exact h3
  ·rw[h5 j (by rw[Nat.succ_mul]; omega)]; exact hlo j hj
  ·cases k' with
   | zero =>
    simp only[List.getElem?_cons_zero,Option.some.injEq] at hx'
    subst hx'
    refine ⟨_,hv,fun j u hj=>?_⟩
    have hjl:j<e.n:=by have:=(List.getElem?_eq_some_iff.1 hj).1; simp[hcl] at this; omega
    rw[Nat.add_zero,h5 _ (by rw[Nat.succ_mul]; omega)]
    exact hmid j u hj
   | succ k' =>
    obtain ⟨ds,a1,a2⟩:=h6 k' x' (by simpa using hx')
    exact ⟨ds,a1,fun j u hj=>by rw[show i+(k'+1)=i+1+k' by omega]; exact a2 j u hj⟩
theorem y7 {t et:TypeId} [ht:D1 P t et] {size bytes:Nat} {zz:Value} [hsz:p6 P et size bytes zz] {α:Type} (e:i8 α) {xs:List α} {len:Nat} {parts:List (Nat×Operand)} (u:Nat) (h:p=true->CQ S e 0 parts xs) (hl:xs.length=len)
  (hs:size=e.n) (hsm:Nat.ble (len*size) 16777216=true) (hpos:Nat.blt 0 (len*size)=true) :
  l4 P c S M ⟨d,.buildSlice t len parts.toArray,ty,pos,af,gd⟩ p (o9 u len) (some ⟨u,[],l5 false et e xs len⟩):=by
 intro hp a g w hok hc ho hf
 have hf':=hf _ rfl
 obtain ⟨i,hi,rfl,rfl,hzz⟩:=hsz.h
 have hsm':=Nat.le_of_ble_eq_true hsm
 have hpos':0<len*i.size:=by simpa [Nat.blt_eq] using hpos
 obtain ⟨cs,h1,h2,_,h4⟩:=(h hp).fill (g:=g) (ρ:=a.eval) (fun y hy b k hk hb=>ho y.2 (by simp only[Op.operands]; simp; exact ⟨y.1,hy⟩) b k hk hb) (cells:=(Array.range (len*i.size)).map (zz.cells[·%zz.cells.size]!)) (by simp[hl,hs])
 have hmap:(parts.toArray.map fun (y:Nat×Operand)=>(y.1,a.eval y.2)).toList=parts.map fun y=>(y.1,a.eval y.2):=by simp
 rw[<- hs] at h1
 have hr:=run_buildSlice (P:=P) w t et len (parts.toArray.map fun (y:Nat×Operand)=>(y.1,a.eval y.2)) cs i zz ht.h hi hzz zo zo (by rw[hmap]; exact h1)
 unfold Oper.wp
 simp only[execOp,Sem.run_bind]
 rw[show (parts.toArray.map fun x:Nat×Operand=>match x with | (i,x)=>(i,a.eval x))=parts.toArray.map fun (y:Nat×Operand)=>(y.1,a.eval y.2) from rfl,hr]
 simp only[Result.andThen_ok,Sem.run_pure,Oper.upon]
 refine ⟨_,_,rfl,H2.alloc (cap:=len) hok hf' (.inl rfl) (.inr ⟨_,_,Gh.add_same _ _ _,rfl⟩) ⟨hl,fun h=>(by cases h),cs,rfl,?_,Nat.le_refl _,?_,fun k x hx=>?_⟩⟩
 ·rw[h2]; simp[hs]
 ·have:len<=len*i.size:=Nat.le_mul_of_pos_right _ (Nat.pos_of_ne_zero (fun h0=>by rw[h0] at hpos'; simp at hpos'))
  simp only[maxLen]; omega
 ·obtain ⟨ds,k1,k2⟩:=h4 k x hx
  exact ⟨ds,k1,fun j v hj=>by have:=k2 j v hj; simpa using this⟩
theorem AX {t et:TypeId} [ht:D1 P t et] {size bytes:Nat} {zz:Value} [hsz:p6 P et size bytes zz] {α:Type} (e:i8 α) (u:Nat) :
  l4 P c S M ⟨d,.buildSlice t 0 #[],ty,pos,af,gd⟩ p (o9 u 0) (some ⟨u,[],l5 false et e [] 0⟩):=by
 intro hp a g w hok hc ho hf
 have hf':=hf _ rfl
 obtain ⟨i,hi,rfl,rfl,hzz⟩:=hsz.h
 have hr:(Instr.buildSlice t 0 #[]).run P w=.ok (.slice (some ⟨w.heap.size,0,none⟩) 0 0) (w.alloc (.cells #[] et)):=by
  simp[Instr.buildSlice,run_underlying ht.h,sizeOf,typeInfo,hi,Instr.fill,newRow,Array.range_zero']
 unfold Oper.wp
 simp only[execOp,Sem.run_bind]
 rw[show (Array.map (fun x:Nat×Operand=>(x.fst,a.eval x.snd)) #[])=#[] by simp,hr]
 simp only[Result.andThen_ok,Sem.run_pure,Oper.upon]
 exact ⟨_,_,rfl,H2.alloc (cap:=0) hok hf' (.inl rfl) (.inr ⟨_,_,Gh.add_same _ _ _,rfl⟩) ⟨rfl,fun h=>(by cases h),#[],rfl,by simp,Nat.le_refl _,Nat.zero_le _,fun k x hx=>by simp at hx⟩⟩
end
end Go.Fl

/- Stores, appends, calls; what is frozen. -/
namespace Go.Fl
open Go Go.RowKit

class D5 (M:i1) (u:Nat) (ct':t9) (dep':List Nat) (M':outParam i1):Prop where
 eq:∃pre post ct dep,M=pre++⟨u,dep,ct⟩::post/\M'=pre++⟨u,dep',ct'⟩::post
instance {M:i1} {u:Nat} {ct ct':t9} {dep dep':List Nat}:D5 (⟨u,dep,ct⟩::M) u ct' dep' (⟨u,dep',ct'⟩::M):=⟨[],M,ct,dep,rfl,rfl⟩
instance (priority:=low) {M M':i1} {u:Nat} {ct':t9} {dep':List Nat} {e:CE} [h:D5 M u ct' dep' M']:D5 (e::M) u ct' dep' (e::M'):=⟨by
 obtain ⟨pre,post,ct,dep,h1,h2⟩:=h.eq
 exact ⟨e::pre,post,ct,dep,by rw[h1]; rfl,by rw[h2]; rfl⟩⟩
theorem D5.tags {M M':i1} {u:Nat} {ct':t9} {dep':List Nat} (h:D5 M u ct' dep' M'):Fl.tags M'=Fl.tags M:=by
 obtain ⟨pre,post,ct,dep,h1,h2⟩:=h.eq
 subst h1 h2
 simp[Fl.tags]
theorem D5.mem {M M':i1} {u:Nat} {ct':t9} {dep':List Nat} (h:D5 M u ct' dep' M') (hn:(Fl.tags M).Nodup):∀e∈M',e=⟨u,dep',ct'⟩\/(e∈M/\e.t≠u):=by
 obtain ⟨pre,post,ct,dep,h1,h2⟩:=h.eq
 subst h1 h2
 intro e he
 simp only[Fl.tags,List.map_append,List.map_cons] at hn
 rw[List.nodup_append] at hn
 obtain ⟨_,h3,h4⟩:=hn
 rw[List.nodup_cons] at h3
 rcases List.mem_append.1 he with he | he
 ·exact .inr ⟨List.mem_append.2 (.inl he),fun hu=>h4 e.t (List.mem_map.2 ⟨e,he,rfl⟩) u List.mem_cons_self hu⟩
 ·rcases List.mem_cons.1 he with he | he
  ·exact .inl he
  ·exact .inr ⟨List.mem_append.2 (.inr (List.mem_cons_of_mem _ he)),fun hu=>h3.1 (List.mem_map.2 ⟨e,he,hu⟩)⟩
theorem l8.store {c:n6} {S:i4} {M M':i1} {a:Act} {g:Gh} {w:World} (h:l8 c S M a g w) {u b cap:Nat} (hm:g.M u=some (.blk b cap)) {cur cs:Array Value} {ty:TypeId} (hb:w.heap[b]?=some (.cells cur ty (0,0))) {ct':t9} {dep':List Nat}
  (hup:D5 M u ct' dep' M') (hct:ct' g (.blk b cap) (some (.cells cs ty (0,0)))) (hd:B4 ct' dep') (hs:∀t∈dep',t∈tags M):l8 c S M' a g (w.setRow b cs):=by
 have htag:=hup.tags
 have hother:∀k,k≠b->(w.setRow b cs).heap[k]?=w.heap[k]?:=fun k hk=>setRow_other w b k cs hk
 obtain ⟨hob,hlt,hJ⟩:=h.ok.own u b cap hm
 refine ⟨⟨⟨h.ok.bel.os,h.ok.bel.tape,h.ok.bel.output,by simpa using h.ok.bel.size,fun k hk hnb=>?_,h.ok.bel.drawn⟩,h.ok.jle,h.ok.jold,fun b' o v hv=>?_,fun t b' cap' ht=>?_,h.ok.inj⟩,h.slots,?_,?_,?_,?_,?_,h.defers.on fun D hD=>hother D (fun e=>by subst e; rw[hb] at hD; cases hD),h.size⟩
 ·rw[hother k (fun e=>by subst e; rcases hob with h1 | h1; omega; exact hnb h1)]
  exact h.ok.bel.block k hk hnb
 ·have:=h.ok.im b' o v hv
  rw[World.cell?_of_block (w:=w) (hother b' (fun e=>by subst e; rw[hJ o] at hv; cases hv))]
  exact this
 ·obtain ⟨h1,h2,h3⟩:=h.ok.own t b' cap' ht
  exact ⟨h1,by simpa using h2,h3⟩
 ·intro e he
  rcases hup.mem h.nodup e he with rfl | ⟨he,hne⟩
  ·exact ⟨_,hm,by simp only[World.objAt,setRow_heap w b cur cs ty (0,0) hb]; exact hct⟩
  ·obtain ⟨bk,h1,h2⟩:=h.conts e he
   refine ⟨bk,h1,?_⟩
   have:World.objAt (w.setRow b cs) bk=World.objAt w bk:=by
    cases bk with
    | nil=>rfl
    | blk b' cap'=>exact hother b' (fun e'=>by subst e'; exact hne (h.ok.inj _ _ _ _ _ h1 hm))
   rw[this]; exact h2
 ·intro t ht
  have:=h.dom t ht
  show t∈tags M'
  rw[htag]; exact this
 ·show (tags M').Nodup
  rw[htag]; exact h.nodup
 ·intro e he
  exact ⟨(h.sdep e he).1,fun t ht=>by show t∈tags M'; rw[htag]; exact (h.sdep e he).2 t ht⟩
 ·intro e he
  rcases hup.mem h.nodup e he with rfl | ⟨he,_⟩
  ·exact ⟨hd,fun t ht=>by show t∈tags M'; rw[htag]; exact hs t ht⟩
  ·exact ⟨(h.cdep e he).1,fun t ht=>by show t∈tags M'; rw[htag]; exact (h.cdep e he).2 t ht⟩
section
variable {P:Program} {c:n6} {ops:Array Oper} {S:i4} {M:i1} {rest:List Oper} {Q:Exit->Act->World->Prop}
variable {d:Nat} {ty:TypeId} {pos:String} {af:Array Edge} {x y:Operand}
theorem KR {t:TypeId} {n by':Nat} {zz:Value} [hz:p6 P t n by' zz] {w:World} {b o:Nat} {v:Value} {cur:Array Value} {tt:TypeId} (hb:w.heap[b]?=some (.cells cur tt (0,0))) (hv:v.cells.size=n) (hl:o+n<=cur.size) (h1:∀u∈v.cells.toList,u.oneCell'=true) :
  (Instr.storeAt t (.pointer (some ⟨b,o,none⟩)) v).run P w=.ok () (w.setRow b (cur.toList.take o++v.cells.toList++cur.toList.drop (o+n)).toArray):=by
 obtain ⟨i,hi,rfl,_,_⟩:=hz.h
 have hr:=run_storeCells_at P b o tt v.cells.toList 0 cur w hb (by simp; omega) h1
 simp only[Nat.add_zero,Array.length_toList,hv] at hr
 simp[Instr.storeAt,Instr.sureAddr,storeVar,sizeOf,typeInfo,hi,hv,hr]
theorem d5.stB {t:TypeId} {n by':Nat} {zz:Value} [hz:p6 P t n by' zz] {u o:Nat} {ks kx ks':List d7} {dep dep':List Nat} {k:d7} {M':i1} (hx:j2 S x=some (true,y5 u o)) (hy:j2 S y=some (true,k)) [hk:E9 k kx] [hl:q7 M u (j5 ks) dep] [hset:V1 ks o kx ks']
  [hd:B9 ks' dep'] [hup:D5 M u (j5 ks') dep' M'] (hn:kx.length=n) (hs:t8 dep' (tags M)=true) (K:d5 P c ops S M' rest Q):d5 P c ops S M (⟨none,.store t x y,ty,pos,af,none⟩::rest) Q:=by
 intro a g w hsat
 obtain ⟨b,cap,hm,he⟩:=C8 hsat.slots hx rfl
 have hv:=C8 hsat.slots hy rfl
 obtain ⟨cs,tt,h3,h4⟩:=DT (ks:=ks) hsat.conts hm
 obtain ⟨h5,h6⟩:=hk.imp hv
 have hlen:=L6 h5
 have hcl:=L6 h4
 have hsl:=hset.len
 simp only[Array.length_toList] at hlen hcl
 have hr:=KR (P:=P) (t:=t) (o:=o) h3 (hlen.trans hn) zo (List.all_eq_true.1 h6)
 refine wpList_plain rfl fun K' hK'=>?_
 unfold Oper.wp
 simp only[execOp,he,Sem.run_bind,hr,Result.andThen_ok,Sem.run_pure,Oper.upon,Act.put]
 have hnew:=hset.holds h4 h5
 rw[Array.length_toList,hlen,hn] at hnew
 exact hK' _ _ (K a g _ (hsat.store hm h3 hup ⟨_,_,rfl,by simpa using hnew⟩ inferInstance (C3 hs)))
theorem d5.stE {t:TypeId} {n by':Nat} {zz:Value} [hz:p6 P t n by' zz] {α:Type} {zb:Bool} {et:TypeId} {e:i8 α} {xs:List α} {v:α} {u sz i len len':Nat} {dep:List Nat} {k:d7} {M':i1} (hx:j2 S x=some (true,DF u sz i len)) (hy:j2 S y=some (true,k)) [hl:q7 M u (l5 zb et e xs len') dep] [hk:GR k e v]
  [hup:D5 M u (l5 zb et e (xs.set i v) len') [] M'] (hs:sz=e.n) (hn:e.n=n) (hle:len=len') (K:d5 P c ops S M' rest Q):d5 P c ops S M (⟨none,.store t x y,ty,pos,af,none⟩::rest) Q:=by
 intro a g w hsat
 subst hle hs
 obtain ⟨hlt,b,cap,hm,he⟩:=C8 hsat.slots hx rfl
 have hv:=C8 hsat.slots hy rfl
 obtain ⟨h0,hz0,cs,h3,h4,h5,h6,h7⟩:=DS (xs:=xs) hsat.conts hm
 obtain ⟨h8,h9⟩:=hk.imp hv
 have hlen:=e.len h8
 have hin:i*e.n+e.n<=cs.size:=by rw[h4,<- Nat.succ_mul]; exact Nat.mul_le_mul_right _ zo
 simp only[Array.length_toList] at hlen
 have hr:=KR (P:=P) (t:=t) (o:=i*e.n) h3 (hlen.trans hn) zo h9
 refine wpList_plain rfl fun K' hK'=>?_
 unfold Oper.wp
 simp only[execOp,he,Sem.run_bind,hr,Result.andThen_ok,Sem.run_pure,Oper.upon,Act.put]
 refine hK' _ _ (K a g _ (hsat.store hm h3 hup ⟨by simpa using h0,hz0,_,rfl,?_,h5,h6,fun j x hx=>?_⟩ inferInstance (fun _ h=>by cases h)))
 ·simp[hlen]; omega
 ·have hget:∀q,(cs.toList.take (i*e.n)++(a.eval y).cells.toList++cs.toList.drop (i*e.n+n)).toArray[q]?=if q<i*e.n then cs[q]? else if q<i*e.n+e.n then (a.eval y).cells.toList[q-i*e.n]? else cs[q]?:=by
   intro q
   simp only[List.getElem?_toArray,List.append_assoc,List.getElem?_append,List.length_take,Array.length_toList,show min (i*e.n) cs.size=i*e.n by omega,List.getElem?_take,List.getElem?_drop,hlen]
   by_cases q1:q<i*e.n
   ·simp[q1]
   ·simp only[q1,if_false]
    by_cases q2:q<i*e.n+e.n
    ·simp only[q2,if_true,show q-i*e.n<e.n by omega]
    ·simp only[q2,if_false,show ¬q-i*e.n<e.n by omega]
     rw[show i*e.n+n+(q-i*e.n-e.n)=q by omega]
     simp
  by_cases hj:i=j
  ·subst hj
   rw[List.getElem?_set_self zo] at hx
   simp only[Option.some.injEq] at hx
   subst hx
   refine ⟨_,h8,fun q r hq=>?_⟩
   have hql:=(List.getElem?_eq_some_iff.1 hq).1
   simp only[Array.length_toList,hlen] at hql
   rw[hget,if_neg zo,if_pos zo,show i*e.n+q-i*e.n=q by omega]
   exact hq
  ·rw[List.getElem?_set_ne hj] at hx
   obtain ⟨ds,k1,k2⟩:=h7 j x hx
   refine ⟨ds,k1,fun q r hq=>?_⟩
   have hql:=(List.getElem?_eq_some_iff.1 hq).1
   rw[e.len k1] at hql
   rw[hget]
   rcases Nat.lt_or_gt_of_ne hj with hij | hij
   ·have:(i+1)*e.n<=j*e.n:=Nat.mul_le_mul_right _ hij
    rw[Nat.succ_mul] at this
    rw[if_neg zo,if_neg zo]
    exact k2 q r hq
   ·have:(j+1)*e.n<=i*e.n:=Nat.mul_le_mul_right _ hij
    rw[Nat.succ_mul] at this
    rw[if_pos zo]
    exact k2 q r hq
end
end Go.Fl

/- Appends, calls, freezing. -/
namespace Go.Fl
open Go Go.RowKit

def H3 (u:Nat):i4->i4
 | []=>[]
 | e::r=>(bif e.dep.any (Nat.beq u) then ⟨e.s,e.b,[],X6⟩ else e)::H3 u r
theorem UI {u:Nat} {l:List Nat}:l.any (Nat.beq u)=false->u∉l:=fun h hu=>by
 have:l.any (Nat.beq u)=true:=List.any_eq_true.2 ⟨u,hu,Nat.beq_refl u⟩
 rw[h] at this; cases this
theorem MU {u:Nat}:∀{S:i4} {t:Nat} {b:Bool} {k:d7},look (H3 u S) t=some (b,k)->∃k0,look S t=some (b,k0)/\(k=X6\/(k=k0/\∃e∈S,e.k=k/\u∉e.dep))
 | e::S,t,b,k,h=>by
  simp only[H3,look] at h ⊢
  cases hd:e.dep.any (Nat.beq u) with
  | true =>
   rw[hd] at h
   simp only[cond_true] at h
   cases hb:Nat.beq e.s t with
   | true=>rw[hb] at h; simp only[cond_true,Option.some.injEq,Prod.mk.injEq] at h ⊢; exact ⟨e.k,⟨h.1,rfl⟩,.inl h.2.symm⟩
   | false =>
    rw[hb] at h
    obtain ⟨k0,h1,h2⟩:=MU h
    exact ⟨k0,h1,h2.imp id fun ⟨h3,x,hx,h4⟩=>⟨h3,x,List.mem_cons_of_mem _ hx,h4⟩⟩
  | false =>
   rw[hd] at h
   simp only[cond_false] at h
   cases hb:Nat.beq e.s t with
   | true =>
    rw[hb] at h
    simp only[cond_true,Option.some.injEq,Prod.mk.injEq] at h ⊢
    exact ⟨e.k,⟨h.1,rfl⟩,.inr ⟨h.2.symm,e,List.mem_cons_self,h.2,UI hd⟩⟩
   | false =>
    rw[hb] at h
    obtain ⟨k0,h1,h2⟩:=MU h
    exact ⟨k0,h1,h2.imp id fun ⟨h3,x,hx,h4⟩=>⟨h3,x,List.mem_cons_of_mem _ hx,h4⟩⟩
theorem QQ {u:Nat}:∀{S:i4} {e:SE},e∈H3 u S->(e∈S/\u∉e.dep)\/(e.dep=[]/\e.k=X6)
 | x::S,e,h=>by
  simp only[H3] at h
  rcases List.mem_cons.1 h with h | h
  ·cases hd:x.dep.any (Nat.beq u) with
   | true=>rw[hd] at h; subst h; exact .inr ⟨rfl,rfl⟩
   | false=>rw[hd] at h; subst h; exact .inl ⟨List.mem_cons_self,UI hd⟩
  ·exact (QQ h).imp (fun ⟨h1,h2⟩=>⟨List.mem_cons_of_mem _ h1,h2⟩) id
def K5 (u:Nat):i1->Bool
 | []=>true
 | e::r=>!(e.dep.any (Nat.beq u))&&K5 u r
theorem KA {u:Nat}:∀{M:i1},K5 u M=true->∀e∈M,u∉e.dep
 | x::M,h,e,he=>by
  simp only[K5,Bool.and_eq_true,Bool.not_eq_true'] at h
  rcases List.mem_cons.1 he with rfl | he
  ·exact UI h.1
  ·exact KA h.2 e he
structure ET (bk:Bk) (w w':World):Prop where
 os:w'.os=w.os
 tape:w'.tape=w.tape
 output:w'.output=w.output
 size:w.heap.size<=w'.heap.size
 block:∀k,k<w.heap.size->(∀cap,bk≠.blk k cap)->w'.heap[k]?=w.heap[k]?
 drawn:dz w.drawn<=dz w'.drawn
theorem l8.nomark {c:n6} {S:i4} {M:i1} {a:Act} {g:Gh} {w:World} (h:l8 c S M a g w) {u:Nat} {bk:Bk} {ct:t9} {dep:List Nat} (hl:q7 M u ct dep) [hn:LK ct] (hm:g.M u=some bk):∀b cap,bk=.blk b cap->w.heap[b]?≠some (Obj.deferred (some [])):=by
 intro b cap hb
 subst hb
 obtain ⟨bk,h1,h2⟩:=h.conts _ hl.mem
 simp only at h1
 rw[hm] at h1; cases h1
 exact hn.no h2
theorem l8.rebind {c:n6} {S:i4} {M M':i1} {a:Act} {g:Gh} {w w':World} (h:l8 c S M a g w) {u:Nat} {bk bk':Bk} (hm:g.M u=some bk) (hnm:∀b cap,bk=.blk b cap->w.heap[b]?≠some (Obj.deferred (some []))) (hbut:ET bk w w') {ct':t9} (hup:D5 M u ct' [] M') (hnd:K5 u M=true) (hd:B4 ct' [])
  (hbk:∀b cap,bk'=.blk b cap->(∃cap0,bk=.blk b cap0)\/(w.heap.size<=b/\b<w'.heap.size)) (hct:ct' ⟨g.J,fun t=>if t=u then some bk' else g.M t⟩ bk' (World.objAt w' bk')) {d:Nat} (hn:d<c.n) {k:d7} {v:Value} (hk:k ⟨g.J,fun t=>if t=u then some bk' else g.M t⟩ v) [hkd:o5 k [u]] :
  l8 c (⟨d,true,[u],k⟩::H3 u S) M' (a.put (some d) v) ⟨g.J,fun t=>if t=u then some bk' else g.M t⟩ w':=by
 have htag:=hup.tags
 have hum:u∈tags M:=h.dom u (by rw[hm]; simp)
 have hother:∀t,t≠u->(if t=u then some bk' else g.M t)=g.M t:=fun t ht=>if_neg ht
 have hcell:∀b o v,g.J b o=some v->w'.cell? ⟨b,o,none⟩=some v:=fun b o v hv=>by
  have h1:=h.ok.im b o v hv
  have hlt:=World.block_lt_of_cell? _ _ h1
  rw[World.cell?_of_block (w:=w) (hbut.block b hlt (fun cap hb=>by
   subst hb
   have:=(h.ok.own u b cap hm).2.2 o
   rw[this] at hv; cases hv))]
  exact h1
 refine ⟨⟨⟨hbut.os.trans h.ok.bel.os,hbut.tape.trans h.ok.bel.tape,hbut.output.trans h.ok.bel.output,Nat.le_trans h.ok.bel.size hbut.size,fun k hk hnb=>?_,Nat.le_trans h.ok.bel.drawn hbut.drawn⟩,h.ok.jle,h.ok.jold,hcell,fun t b cap ht=>?_,fun t t' b c1 c2 h1 h2=>?_⟩,?_,?_,?_,?_,?_,?_,h.defers.on fun D hD=>hbut.block D (Array.getElem?_eq_some_iff.1 hD).1 (fun cap hb=>hnm D cap hb hD),by simp[Act.put,h.size]⟩
 ·rw[hbut.block k (Nat.lt_of_lt_of_le hk h.ok.bel.size) (fun cap hb=>by
   subst hb
   rcases (h.ok.own u k cap hm).1 with h1 | h1
   ·omega
   ·exact hnb h1)]
  exact h.ok.bel.block k hk hnb
 ·simp only at ht
  by_cases htu:t=u
  ·rw[if_pos htu] at ht
   cases ht
   rcases hbk b cap rfl with ⟨cap0,hb0⟩ | ⟨h1,h2⟩
   ·subst hb0
    obtain ⟨a1,a2,a3⟩:=h.ok.own u b cap0 hm
    exact ⟨a1,Nat.lt_of_lt_of_le a2 hbut.size,a3⟩
   ·exact ⟨.inl (Nat.le_trans h.ok.bel.size h1),h2,fun o=>OB h.ok h1⟩
  ·rw[if_neg htu] at ht
   obtain ⟨a1,a2,a3⟩:=h.ok.own t b cap ht
   exact ⟨a1,Nat.lt_of_lt_of_le a2 hbut.size,a3⟩
 ·simp only at h1 h2
  have key:∀t c2,t≠u->g.M t=some (.blk b c2)->bk'=.blk b c1\/(∃c,bk'=.blk b c)->False:=fun t c2 hne hM hor=>by
   obtain ⟨cc,hcc⟩:∃c,bk'=.blk b c:=hor.elim (fun e=>⟨_,e⟩) id
   rcases hbk b cc hcc with ⟨cap0,hb0⟩ | ⟨h3,_⟩
   ·subst hb0; exact hne (h.ok.inj _ _ _ _ _ hM hm)
   ·have:=(h.ok.own t b c2 hM).2.1; omega
  by_cases htu:t=u
  ·rw[if_pos htu] at h1
   by_cases htu':t'=u
   ·rw[htu,htu']
   ·rw[if_neg htu'] at h2
    cases h1
    exact (key t' c2 htu' h2 (.inl rfl)).elim
  ·rw[if_neg htu] at h1
   by_cases htu':t'=u
   ·rw[if_pos htu'] at h2
    cases h2
    exact (key t c1 htu h1 (.inr ⟨_,rfl⟩)).elim
   ·rw[if_neg htu'] at h2
    exact h.ok.inj _ _ _ _ _ h1 h2
 ·refine V2.put ?_ (by rw[h.size]; exact hn) ⟨fun _=>hk,fun hf=>(by cases hf)⟩
  intro t b k' hl
  obtain ⟨k0,h1,h2⟩:=MU hl
  obtain ⟨h3,h4⟩:=h.slots t b k0 h1
  refine ⟨fun hb=>?_,h4⟩
  rcases h2 with rfl | ⟨rfl,e,he,rfl,hnu⟩
  ·trivial
  ·exact (h.sdep e he).1.dep (g:=g) (JV.le_refl _) (fun t ht=>if_neg (fun (e':t=u)=>hnu (e'▸ht))) (h3 hb)
 ·intro e he
  rcases hup.mem h.nodup e he with rfl | ⟨he,hne⟩
  ·exact ⟨bk',if_pos rfl,hct⟩
  ·obtain ⟨b,h1,h2⟩:=h.conts e he
   refine ⟨b,(if_neg hne).trans h1,?_⟩
   have:World.objAt w' b=World.objAt w b:=by
    cases b with
    | nil=>rfl
    | blk x cap=>exact hbut.block x (h.ok.own _ _ _ h1).2.1 (fun cap' hb=>by subst hb; exact hne (h.ok.inj _ _ _ _ _ h1 hm))
   rw[this]
   exact (h.cdep e he).1.dep (g:=g) (JV.le_refl _) (fun t ht=>if_neg (fun (e':t=u)=>KA hnd e he (e'▸ht))) h2
 ·intro t ht
  show t∈tags M'
  rw[htag]
  simp only at ht
  by_cases htu:t=u
  ·subst htu; exact hum
  ·rw[if_neg htu] at ht; exact h.dom t ht
 ·show (tags M').Nodup
  rw[htag]; exact h.nodup
 ·intro e he
  rcases List.mem_cons.1 he with rfl | he
  ·exact ⟨hkd,fun t ht=>by simp at ht; subst ht; show t∈tags M'; rw[htag]; exact hum⟩
  ·rcases QQ he with ⟨h1,_⟩ | ⟨h1,h2⟩
   ·exact ⟨(h.sdep e h1).1,fun t ht=>by show t∈tags M'; rw[htag]; exact (h.sdep e h1).2 t ht⟩
   ·rw[h1,h2]; exact ⟨inferInstance,fun _ h=>by cases h⟩
 ·intro e he
  rcases hup.mem h.nodup e he with rfl | ⟨he,_⟩
  ·exact ⟨hd,fun _ h=>by cases h⟩
  ·exact ⟨(h.cdep e he).1,fun t ht=>by show t∈tags M'; rw[htag]; exact (h.cdep e he).2 t ht⟩

def aI {α:Type} (g:Gh) (w:World) (e:i8 α) (ys:List α) (v:Value):Prop :=
 ∃ad cap,v=.slice ad ys.length cap/\(ys=[]\/∃b o,ad=some ⟨b,o,none⟩/\∀i x,ys[i]?=some x->∃ds,e.rd g.J ds x/\∀j u,ds[j]?=some u->w.cell? ⟨b,o+i*e.n+j,none⟩=some u)
class OG (M:i1) (k:d7) {α:Type} (e:i8 α) (ys:outParam (List α)):Prop where
 imp:∀{c:n6} {g:Gh} {w:World} {v:Value},Ok c g w->F7 M g w->k g v->aI g w e ys v
instance {M:i1} {α:Type} {e:i8 α} {ys:List α}:OG M (b8 (eL e) ys) e ys:=⟨fun {c g w v} hok _ ⟨cs,⟨ad,cap,h1,_,h2⟩,h3⟩=>by
 subst h1
 refine ⟨ad,cap,h3,h2.imp id fun ⟨b,o,h4,h5⟩=>⟨b,o,h4,fun i x hx=>?_⟩⟩
 obtain ⟨ds,k1,k2⟩:=h5 i x hx
 exact ⟨ds,k1,UN hok k2⟩⟩
instance {M:i1} {α:Type} {zb:Bool} {et:TypeId} {e:i8 α} {ys:List α} {t len:Nat} {dep:List Nat} [hl:q7 M t (l5 zb et e ys len) dep]:OG M (o9 t len) e ys:=⟨fun {c g w v} hok hc hk=>by
 rcases hk with ⟨h1,h2,h3⟩ | ⟨b,cap,h1,h2⟩
 ·obtain ⟨bk,h4,h5,_⟩:=hc _ hl.mem
  simp only at h4
  subst h2
  have:ys=[]:=List.eq_nil_of_length_eq_zero h5
  subst this
  exact ⟨none,0,h3,.inl rfl⟩
 ·obtain ⟨h0,_,cs,h3,_,_,_,h4⟩:=DS (xs:=ys) hc h1
  refine ⟨some ⟨b,0,none⟩,cap,by rw[h0]; exact h2,.inr ⟨b,0,rfl,fun i x hx=>?_⟩⟩
  obtain ⟨ds,k1,k2⟩:=h4 i x hx
  exact ⟨ds,k1,fun j u hj=>M7 h3 (by rw[Nat.zero_add]; exact k2 j u hj)⟩⟩
theorem fI {α:Type} {e:i8 α} {g:Gh} {w:World} {b o:Nat}:∀(ys:List α) (s:Nat),(∀i x,ys[i]?=some x->∃ds,e.rd g.J ds x/\∀j u,ds[j]?=some u->w.cell? ⟨b,o+(s+i)*e.n+j,none⟩=some u) ->
  ∃news:List Value,news.length=ys.length*e.n/\(∀j u,news[j]?=some u->w.cell? ⟨b,o+s*e.n+j,none⟩=some u)/\(∀u∈news,u.oneCell'=true)/\∀i x,ys[i]?=some x->∃ds,e.rd g.J ds x/\∀j u,ds[j]?=some u->news[i*e.n+j]?=some u
 | [],s,_=>⟨[],by simp,fun j u h=>(by simp at h),fun u h=>(by cases h),fun i x h=>(by simp at h)⟩
 | y::ys,s,h=>by
  obtain ⟨ds,h1,h2⟩:=h 0 y rfl
  have hl:=e.len h1
  obtain ⟨news,k1,k2,k3,k4⟩:=fI (e:=e) (g:=g) (w:=w) (b:=b) (o:=o) ys (s+1) (fun i x hx=>by
   obtain ⟨es,q1,q2⟩:=h (i+1) x (by simpa using hx)
   exact ⟨es,q1,fun j u hj=>by rw[show s+1+i=s+(i+1) by omega]; exact q2 j u hj⟩)
  refine ⟨ds++news,by simp[hl,k1,Nat.succ_mul]; omega,fun j u hj=>?_,fun u hu=>?_,fun i x hx=>?_⟩
  ·by_cases hj':j<ds.length
   ·rw[List.getElem?_append_left hj'] at hj
    have:=h2 j u hj
    simpa using this
   ·rw[List.getElem?_append_right zo] at hj
    have:=k2 _ u hj
    rw[Nat.succ_mul,hl] at this
    rw[show o+s*e.n+j=o+(s*e.n+e.n)+(j-e.n) by omega]
    exact this
  ·rcases List.mem_append.1 hu with hu | hu
   ·exact e.all1 h1 u hu
   ·exact k3 u hu
  ·cases i with
   | zero =>
    simp only[List.getElem?_cons_zero,Option.some.injEq] at hx
    subst hx
    refine ⟨ds,h1,fun j u hj=>?_⟩
    rw[Nat.zero_mul,Nat.zero_add,List.getElem?_append_left (List.getElem?_eq_some_iff.1 hj).1]
    exact hj
   | succ i =>
    obtain ⟨es,q1,q2⟩:=k4 i x (by simpa using hx)
    refine ⟨es,q1,fun j u hj=>?_⟩
    rw[Nat.succ_mul,List.getElem?_append_right zo,hl,show i*e.n+e.n+j-e.n=i*e.n+j by omega]
    exact q2 j u hj
section
variable {P:Program}
theorem YZ {w:World} {b o m cap size:Nat} {news:List Value} (hl:news.length=m*size) (h:∀j u,news[j]?=some u->w.cell? ⟨b,o+j,none⟩=some u):(Builtin.firstCells size m (.slice (some ⟨b,o,none⟩) m cap)).run P w=.ok news.toArray w :=
 run_firstCells_some w size m ⟨b,o,none⟩ m cap news hl (fun j u hj=>by rw[Addr.add_lit]; exact h j u hj)
theorem lK {α:Type} {e:i8 α} {ys:List α} {g:Gh} {w:World} {v:Value} (h:aI g w e ys v):∃(news:List Value) (ad:Option Addr) (cap:Nat),v=.slice ad ys.length cap/\news.length=ys.length*e.n/\(∀u∈news,u.oneCell'=true) /\
  (∀i x,ys[i]?=some x->∃ds,e.rd g.J ds x/\∀j u,ds[j]?=some u->news[i*e.n+j]?=some u)/\∀w1:World,w1.heap=w.heap->(Builtin.firstCells e.n ys.length v).run P w1=.ok news.toArray w1:=by
 obtain ⟨ad,cap,rfl,h⟩:=h
 rcases h with rfl | ⟨b,o,rfl,h⟩
 ·refine ⟨[],ad,cap,rfl,by simp,fun _ h=>(by cases h),fun i x hx=>(by simp at hx),fun w1 _=>?_⟩
  cases ad with
  | none=>simp[Builtin.firstCells]
  | some a=>simp[Builtin.firstCells,loadCells,loadCellsFrom]
 ·obtain ⟨news,k1,k2,k3,k4⟩:=fI (o:=o) ys 0 (fun i x hx=>by simpa using h i x hx)
  refine ⟨news,_,cap,rfl,k1,k3,k4,fun w1 hw=>YZ k1 (fun j u hj=>?_)⟩
  have:=k2 j u hj
  simp only[Nat.zero_mul,Nat.add_zero] at this
  rw[<- this]
  simp only[World.cell?,hw]
end
end Go.Fl

/- Append, calls, freezing: the steps of a walk. -/
namespace Go.Fl
open Go Go.RowKit
section
variable {P:Program}
theorem SW {t ty et:TypeId} {i:TypeInfo} (ht:P.underlying t=some (.slice et)) (hi:P.info? et=some i) {w:World} {base ad:Option Addr} {n cap m c2:Nat} {news:List Value} (hf:(Builtin.firstCells i.size m (.slice ad m c2)).run P w=.ok news.toArray w) (hroom:n+m<=cap) :
  (Builtin.append_ #[t,t] ty #[.slice base n cap,.slice ad m c2]).run P w=((match base with | some a=>storeCells (a.add (n*i.size)) news | none=>pure ()).run P w).andThen fun _ w'=>.ok (.slice base (n+m) cap) w':=by
 cases base with
 | none=>simp[Builtin.append_,run_underlying ht,sizeOf,typeInfo,hi,Builtin.lenOf,hroom,hf]
 | some a=>simp[Builtin.append_,run_underlying ht,sizeOf,typeInfo,hi,Builtin.lenOf,hroom,hf]
theorem kU {t ty et:TypeId} {i:TypeInfo} {z:Value} (ht:P.underlying t=some (.slice et)) (hi:P.info? et=some i) (hz:i.zero=some z) {w:World} {base ad:Option Addr} {n cap m c2:Nat} {olds news:List Value}
  (hfo:(Builtin.firstCells i.size n (.slice base n cap)).run P w.drew=.ok olds.toArray w.drew) (hf:(Builtin.firstCells i.size m (.slice ad m c2)).run P w.drew=.ok news.toArray w.drew) (hroom:cap<n+m) (h63:((n+m:Nat):Int)<=9223372036854775807) (hfit:Builtin.nextslicecap (n+m) cap*i.bytes<=281474976710656) :
  (Builtin.append_ #[t,t] ty #[.slice base n cap,.slice ad m c2]).run P w =
   .ok (.slice (some ⟨w.heap.size,0,none⟩) (n+m) (grownCap w (n+m) cap et)) (w.drew.alloc (.cells (olds.toArray++news.toArray++Builtin.zeroCells z.cells (grownCap w (n+m) cap et-(n+m))) et)):=by
 have hn:¬(n+m<=cap):=by omega
 have h63':¬(9223372036854775807<((n:Int)+(m:Int))):=by omega
 have h48':¬(281474976710656<Builtin.nextslicecap (n+m) cap*i.bytes):=by omega
 simp[Builtin.append_,run_underlying ht,sizeOf,typeInfo,zeroValue,hi,hz,Builtin.lenOf,hn,h63',h48',Question.forced,hf,hfo,newRow,grownCap]
 congr 2
 apply Array.ext'
 simp[List.append_assoc]
theorem OS {α:Type} {J:JV} {e:i8 α} {xs ys:List α} {olds news:List Value} {cs:List Value} (hl:olds.length=xs.length*e.n) (hcs:∀(j:Nat) (v:Value),(olds++news)[j]?=some v->cs[j]?=some v)
  (h1:∀(i:Nat) x,xs[i]?=some x->∃ds,e.rd J ds x/\∀(j:Nat) v,ds[j]?=some v->olds[i*e.n+j]?=some v) (h2:∀(i:Nat) x,ys[i]?=some x->∃ds,e.rd J ds x/\∀j v,ds[j]?=some v->news[i*e.n+j]?=some v) :
  ∀(i:Nat) x,(xs++ys)[i]?=some x->∃ds,e.rd J ds x/\∀(j:Nat) v,ds[j]?=some v->cs[i*e.n+j]?=some v:=by
 intro i x hx
 by_cases hi:i<xs.length
 ·rw[List.getElem?_append_left hi] at hx
  obtain ⟨ds,k1,k2⟩:=h1 i x hx
  refine ⟨ds,k1,fun j v hj=>hcs _ _ ?_⟩
  have:=k2 j v hj
  rw[List.getElem?_append_left (List.getElem?_eq_some_iff.1 this).1]; exact this
 ·rw[List.getElem?_append_right zo] at hx
  obtain ⟨ds,k1,k2⟩:=h2 _ x hx
  refine ⟨ds,k1,fun j v hj=>hcs _ _ ?_⟩
  have:=k2 j v hj
  have e1:i*e.n=xs.length*e.n+(i-xs.length)*e.n:=by rw[<- Nat.add_mul]; congr 1; omega
  rw[List.getElem?_append_right (by rw[hl]; omega),hl,show i*e.n+j-xs.length*e.n=(i-xs.length)*e.n+j by omega]
  exact this
variable {c:n6} {ops:Array Oper} {S:i4} {M:i1} {rest:List Oper} {Q:Exit->Act->World->Prop}
variable {d:Nat} {ty:TypeId} {pos:String} {af:Array Edge} {x y:Operand}
theorem d5.app {t et:TypeId} [ht:D1 P t et] {size bytes:Nat} {zz:Value} [hsz:p6 P et size bytes zz] {α:Type} {zb:Bool} {e:i8 α} {xs ys:List α} {u len len' m:Nat} {dep:List Nat} {k:d7} {M':i1}
  (hx:j2 S x=some (true,o9 u len)) [hl:q7 M u (l5 zb et e xs len') dep] (hle:len=len') (hy:j2 S y=some (true,k)) [hsrc:OG M k e ys] (hm:ys.length=m) [hup:D5 M u (l5 zb et e (xs++ys) (len'+m)) [] M']
  (hs:size=e.n) (hzz:zz.cells.size=size) (hnd:K5 u M=true) (hn:Nat.blt d c.n=true) (h63:len'+m<=9223372036854775807) (hb:(len'+m)*bytes<=140737488355328)
  (K:d5 P c ops (⟨d,true,[u],o9 u (len'+m)⟩::H3 u S) M' rest Q):d5 P c ops S M (⟨some d,.call { callee:=.builtin .append,args:=#[x,y],argTypes:=#[t,t] },ty,pos,af,none⟩::rest) Q:=by
 intro a g w hsat
 subst hle hm
 obtain ⟨i,hi,rfl,rfl,hz⟩:=hsz.h
 have hdn:d<c.n:=by simpa [Nat.blt_eq] using hn
 have hk1:=C8 hsat.slots hx rfl
 have hk2:=hsrc.imp hsat.ok hsat.conts (C8 hsat.slots hy rfl)
 obtain ⟨news,ad,c2,e2,n1,n2,n3,n4⟩:=lK (P:=P) hk2
 rw[<- hs] at n1 n4
 refine wpList_plain rfl fun K' hK'=>?_
 unfold Oper.wp
 simp only[execOp,resolve,invoke,builtin,Sem.run_bind,Sem.run_pure,Result.andThen_ok,List.map_toArray,List.map_cons,List.map_nil]
 have finish:∀{bk bk':Bk} {w':World} {v':Value},g.M u=some bk->ET bk w w'->(∀b cap,bk'=.blk b cap->(∃cap0,bk=.blk b cap0)\/(w.heap.size<=b/\b<w'.heap.size)) ->
   l5 zb et e (xs++ys) (len+ys.length) ⟨g.J,fun t=>if t=u then some bk' else g.M t⟩ bk' (World.objAt w' bk')->o9 u (len+ys.length) ⟨g.J,fun t=>if t=u then some bk' else g.M t⟩ v' ->
   (Builtin.append_ #[t,t] ty #[a.eval x,a.eval y]).run P w=.ok v' w' ->
   Oper.upon P ⟨some d,.call { callee:=.builtin .append,args:=#[x,y],argTypes:=#[t,t] },ty,pos,af,none⟩ a K' Q (((Builtin.append_ #[t,t] ty #[a.eval x,a.eval y]).run P w).andThen fun v w=>.ok (.value v) w):=by
  intro bk bk' w' v' hm hbut hbk hct hkk hr
  rw[hr]
  simp only[Result.andThen_ok,Oper.upon]
  exact hK' _ _ (K _ _ _ (hsat.rebind hm (hsat.nomark hl hm) hbut hup hnd inferInstance hbk hct hdn hkk))
 have grow:∀{bk:Bk} {base:Option Addr} {cap:Nat} {olds:List Value},g.M u=some bk->a.eval x=.slice base len cap->olds.length=len*e.n->xs.length=len->(∀i x,xs[i]?=some x->∃ds,e.rd g.J ds x/\∀j v,ds[j]?=some v->olds[i*e.n+j]?=some v) ->
   (Builtin.firstCells i.size len (.slice base len cap)).run P w.drew=.ok olds.toArray w.drew->cap<len+ys.length ->
   Oper.upon P ⟨some d,.call { callee:=.builtin .append,args:=#[x,y],argTypes:=#[t,t] },ty,pos,af,none⟩ a K' Q (((Builtin.append_ #[t,t] ty #[a.eval x,a.eval y]).run P w).andThen fun v w=>.ok (.value v) w):=by
  intro bk base cap olds hm ex hol hxl holds hfo hroom
  have hr:=kU (ty:=ty) ht.h hi hz hfo (e2▸n4 w.drew rfl) hroom zo (growslice_fits hroom hb)
  have hge:=grownCap_ge w (len+ys.length) cap et
  have hcm:=grownCap_le_maxLen w (len+ys.length) cap et (by simp only[maxLen]; omega)
  have hobj:(w.drew.alloc (.cells (olds.toArray++news.toArray++Builtin.zeroCells zz.cells (grownCap w (len+ys.length) cap et-(len+ys.length))) et)).heap[w.heap.size]?=some (.cells (olds.toArray++news.toArray++Builtin.zeroCells zz.cells (grownCap w (len+ys.length) cap et-(len+ys.length))) et (0,0)):=heap_alloc_new w.drew _
  refine finish (bk':=.blk w.heap.size (grownCap w (len+ys.length) cap et)) (w':=w.drew.alloc (.cells (olds.toArray++news.toArray++Builtin.zeroCells zz.cells (grownCap w (len+ys.length) cap et-(len+ys.length))) et)) hm ⟨rfl,rfl,rfl,by simp,fun q hq _=>Below.heap_alloc w.drew _ q hq,DZ _⟩ (fun b cap hb=>by cases hb; exact .inr ⟨Nat.le_refl _,by simp⟩) ?_ (.inr ⟨_,_,if_pos rfl,rfl⟩) (by rw[ex,e2]; exact hr)
  refine ⟨by simp[hxl],fun _=>by omega,_,hobj,?_,hge,hcm,fun i' x' hx'=>?_⟩
  ·simp only[Array.size_append,List.size_toArray,size_zeroCells,hol,n1,hzz,hs,<- Nat.add_mul]
   congr 1; omega
  ·obtain ⟨ds,q1,q2⟩:=OS (cs:=olds++news++(Builtin.zeroCells zz.cells (grownCap w (len+ys.length) cap et-(len+ys.length))).toList) (by rw[hol,hxl]) (fun j v hj=>by rw[List.getElem?_append_left (List.getElem?_eq_some_iff.1 hj).1]; exact hj) holds n3 i' x' hx'
   refine ⟨ds,q1,fun j v hj=>?_⟩
   have:=q2 j v hj
   rw[<- Array.getElem?_toList]
   simpa [List.append_assoc] using this
 rcases hk1 with ⟨hm,h0,ex⟩ | ⟨b,cap,hm,ex⟩
 ·subst h0
  obtain ⟨bk,h4,h5,_⟩:=hsat.conts _ hl.mem
  have hxs:xs=[]:=List.eq_nil_of_length_eq_zero h5
  subst hxs
  by_cases hy0:ys=[]
  ·subst hy0
   have hnews:news=[]:=List.eq_nil_of_length_eq_zero (by simpa using n1)
   subst hnews
   refine finish (bk':=.nil) hm ⟨rfl,rfl,rfl,Nat.le_refl _,fun _ _ _=>rfl,Nat.le_refl _⟩ (fun _ _ h=>by cases h) ⟨rfl,rfl⟩ (.inl ⟨if_pos rfl,rfl,rfl⟩) ?_
   rw[ex,e2,SW ht.h hi (e2▸n4 w rfl) (by simp)]
   simp
  ·have hpos:0<ys.length:=List.length_pos_iff.2 hy0
   exact grow (olds:=[]) hm ex (by simp) rfl (fun i x hx=>by simp at hx) (by simp[Builtin.firstCells]) zo
 ·obtain ⟨h0,hzl,cs,h3,h4,h5,h6,h7⟩:=DS (xs:=xs) hsat.conts hm
  have hcl:len*e.n<=cs.size:=by rw[h4]; exact Nat.mul_le_mul_right _ h5
  have holdl:(cs.toList.take (len*e.n)).length=len*e.n:=by simp; omega
  have hold:∀i x,xs[i]?=some x->∃ds,e.rd g.J ds x/\∀j v,ds[j]?=some v->(cs.toList.take (len*e.n))[i*e.n+j]?=some v:=fun i x hx=>by
   obtain ⟨ds,q1,q2⟩:=h7 i x hx
   refine ⟨ds,q1,fun j v hj=>?_⟩
   have hil:=(List.getElem?_eq_some_iff.1 hx).1
   have hjl:=(List.getElem?_eq_some_iff.1 hj).1
   rw[e.len q1] at hjl
   have:(i+1)*e.n<=len*e.n:=Nat.mul_le_mul_right _ zo
   rw[Nat.succ_mul] at this
   rw[List.getElem?_take,if_pos zo]
   simpa using q2 j v hj
  by_cases hroom:len+ys.length<=cap
  ·have hst:=run_storeCells_at P b (len*e.n) et news 0 cs w h3 (by rw[n1,hs,Nat.add_zero,<- Nat.add_mul,h4]; exact Nat.mul_le_mul_right _ hroom) n2
   simp only[Nat.add_zero] at hst
   refine finish (bk':=.blk b cap) (w':=w.setRow b (cs.toList.take (len*e.n)++news++cs.toList.drop (len*e.n+news.length)).toArray) (v':=.slice (some ⟨b,0,none⟩) (len+ys.length) cap) hm ⟨rfl,rfl,rfl,by simp,fun k _ hk=>setRow_other w b k _ (fun e'=>hk cap (by rw[e'])),Nat.le_refl _⟩ (fun b' cap' hb=>by cases hb; exact .inl ⟨_,rfl⟩) ?_ (.inr ⟨_,_,if_pos rfl,rfl⟩) ?_
   ·refine ⟨by simp[h0],fun hz0=>by have:=hzl hz0; omega,_,setRow_heap w b cs _ et (0,0) h3,?_,hroom,h6,fun i' x' hx'=>?_⟩
    ·simp[n1,hs]; rw[Nat.min_eq_left hcl]; have:len*e.n+ys.length*e.n<=cs.size:=by rw[<- Nat.add_mul,h4]; exact Nat.mul_le_mul_right _ hroom
     omega
    ·obtain ⟨ds,q1,q2⟩:=OS (cs:=cs.toList.take (len*e.n)++news++cs.toList.drop (len*e.n+news.length)) (by rw[holdl,h0]) (fun j v hj=>by rw[List.getElem?_append_left (List.getElem?_eq_some_iff.1 hj).1]; exact hj) hold n3 i' x' hx'
     exact ⟨ds,q1,fun j v hj=>by have:=q2 j v hj; simpa using this⟩
   ·rw[ex,e2,SW ht.h hi (e2▸n4 w rfl) hroom]
    simp only[Addr.add_lit,Nat.zero_add,hs,hst,Result.andThen_ok]
  ·have hcells:∀j v,(cs.toList.take (len*e.n))[j]?=some v->w.cell? ⟨b,0+j,none⟩=some v:=fun j v hj=>by
    rw[List.getElem?_take] at hj
    split at hj
    ·exact M7 h3 (by simpa using hj)
    ·cases hj
   exact grow hm ex holdl h0 hold (YZ (by rw[holdl,hs]) (fun j v hj=>by rw[World.cell?_drew]; exact hcells j v hj)) zo
end
end Go.Fl

/- Calls, tuples, freezing. -/
namespace Go.Fl
open Go Go.RowKit
section
variable {P:Program} {c:n6} {S:i4} {M:i1} {p:Bool} {d:Option Tmp} {ty:TypeId} {pos:String} {af:Array Edge} {gd:Option (Nat×Bool)}
variable {x y:Operand} {b b':Bool}
theorem FV {ks:List d7} {i:Nat} {k:d7} (hx:j2 S x=some (b,z6 ks)) (hb:p=true->b=true) (hk:ks[i]?=some k):l4 P c S M ⟨d,.extract x i,ty,pos,af,gd⟩ p k none :=
 l4.pure fun hp a g w _ _ ho=>by
  obtain ⟨vs,h1,h2⟩:=ho x (by simp[Op.operands]) b _ hx (hb hp)
  obtain ⟨v,h3,h4⟩:=IT h2 hk
  exact ⟨v,by simp[execOp,Instr.extract,h1,h3],h4⟩
class f0 (P:Program) (f:FuncId):Prop where
 run:∀args w,(callFunc f args).run P w=.ok (.enter f args) w
theorem f0.mk' {P:Program} {f:FuncId} {fn:Func} (h:P.funcs[f]?=some fn) (hn:(fn.name == "runtime.NumGoroutine")=false) (hb:fn.body.isNone=false):f0 P f :=
 ⟨fun args w=>by
  have hne:¬fn.name = "runtime.NumGoroutine":=by rw[beq_eq_false_iff_ne] at hn; exact hn
  have hb':¬fn.body=none:=fun e=>by rw[e] at hb; cases hb
  simp[callFunc,h,hne,hb']⟩
inductive G4 (S:i4) (p:Bool):List Operand->List d7->Prop
 | nil:G4 S p [] []
 | cons {x:Operand} {xs:List Operand} {k k0:d7} {ks:List d7} {b:Bool} (hx:j2 S x=some (b,k0)) (hb:p=true->b=true) (hc:∀(g:Gh) (v:Value),k0 g v->k ⟨g.J,y9⟩ v) (r:G4 S p xs ks):G4 S p (x::xs) (k::ks)
theorem G4.a {x:Operand} {xs:List Operand} {k:d7} {ks:List d7} (hx:j2 S x=some (b,k)) (hb:p=true->b=true) [hk:o5 k []] (r:G4 S p xs ks):G4 S p (x::xs) (k::ks) :=
 .cons hx hb (fun g v h=>hk.dep (g:=g) (g':=⟨g.J,y9⟩) (JV.le_refl _) (fun _ h=>by cases h) h) r
theorem G4.s {x:Operand} {xs:List Operand} {kl:List d7} {α:Type} {e:i8 α} {v:α} {ks:List d7} (hx:j2 S x=some (b,H9 kl)) (hb:p=true->b=true) [hr:t6 kl e v []] (ha:e.agg=true) (r:G4 S p xs ks):G4 S p (x::xs) (b8 e v::ks) :=
 .cons hx hb (fun g u ⟨cs,h1,h2⟩=>⟨cs,t6.whole (h:=hr) (g:=g) h2,by rw[ha]; exact h1⟩) r
theorem G4.n {x:Operand} {xs:List Operand} {α:Type} {e:i8 α} {cp:Nat} {ks:List d7} (hx:j2 S x=some (b,j4 (.slice none 0 cp))) (hb:p=true->b=true) (r:G4 S p xs ks):G4 S p (x::xs) (b8 (eL e) []::ks) :=
 .cons hx hb (fun _ _ h=>⟨_,Y1 (c:=cp),h⟩) r
theorem G4.eval {S:i4} {p:Bool} {xs:List Operand} {ks:List d7} (h:G4 S p xs ks) {g:Gh} {ρ:Operand->Value} (hp:p=true) (hρ:∀y∈xs,∀b k,j2 S y=some (b,k)->b=true->k g (ρ y)):n9 ⟨g.J,y9⟩ ks (xs.map ρ):=by
 induction h with
 | nil=>trivial
 | @cons x xs k k0 ks b hx hb hc r ih=>exact ⟨hc g _ (hρ x List.mem_cons_self b k0 hx (hb hp)),ih (fun y hy=>hρ y (List.mem_cons_of_mem _ hy))⟩
theorem H2.call {c:n6} {g:Gh} {w w':World} {J':JV} {k:d7} {v:Value} (hok:Ok c g w) (hbel:Below w.heap.size w w') (hJ:g.J.le J') (hold:∀b o,b<w.heap.size->J' b o=g.J b o) (him:Im J' w') [hk:o5 k []] (h:k ⟨J',y9⟩ v):H2 c k none g ⟨J',g.M⟩ w w' v:=by
 refine ⟨hk.dep (g:=⟨J',y9⟩) (JV.le_refl _) (fun _ h=>by cases h) h,⟨hJ,fun _ _ h=>h⟩,⟨hok.bel.then hbel,JV.le_trans hok.jle hJ,fun b o hb=>?_,him,fun t b cap ht=>?_,hok.inj⟩,hbel,fun _ h=>(by cases h),fun _ _=>rfl⟩
 ·show J' b o=c.J0 b o
  rw[hold b o (Nat.lt_of_lt_of_le hb hok.bel.size)]; exact hok.jold b o hb
 ·obtain ⟨h1,h2,h3⟩:=hok.own t b cap ht
  exact ⟨h1,Nat.lt_of_lt_of_le h2 hbel.size,fun o=>by show J' b o=none; rw[hold b o h2]; exact h3 o⟩
theorem i6 {f:FuncId} [hf:f0 P f] {args:List Operand} {tys:Array TypeId} {ks:List d7} {res:d7} (hct:p=true->Ct P f ks res) (ha:G4 S p args ks) [hk:o5 res []] :
  l4 P c S M ⟨d,.call { callee:=.value (.func f),args:=args.toArray,argTypes:=tys },ty,pos,af,gd⟩ p res none:=by
 intro hp a g w hok hc ho _
 have hargs:=ha.eval (g:=g) (ρ:=a.eval) hp (fun y hy b k hk hb=>ho y (by simp[Op.operands,Call.operands,hy]) b k hk hb)
 have hr:=hct hp w g.J hok.im _ hargs
 unfold Oper.wp
 simp only[execOp,resolve,Act.eval,Deferred.ofValue,Sem.run_bind,Sem.run_pure,Result.andThen_ok,invoke,List.map_toArray,Array.append_empty,Array.empty_append]
 rw[hf.run]
 simp only[Oper.upon]
 refine hr.mono fun e w' he=>?_
 obtain ⟨r,J',rfl,hbel,hJ,hold,him,hres⟩:=he
 exact ⟨r,_,rfl,H2.call hok hbel hJ hold him hres⟩
theorem KF {f:FuncId} [hf:f0 P f] {args:List Operand} {tys:Array TypeId} {ks:List d7} {res:d7} (hx:j2 S x=some (b,j4 (.func (.func f) #[] #[]))) (hb:p=true->b=true) (hct:p=true->Ct P f ks res) (ha:G4 S p args ks) [hk:o5 res []] :
  l4 P c S M ⟨d,.call { callee:=.value x,args:=args.toArray,argTypes:=tys },ty,pos,af,gd⟩ p res none:=by
 intro hp a g w hok hc ho _
 have hfv:a.eval x=_:=ho x (by simp[Op.operands,Call.operands]) b _ hx (hb hp)
 have hargs:=ha.eval (g:=g) (ρ:=a.eval) hp (fun y hy b k hk hb=>ho y (by simp[Op.operands,Call.operands,hy]) b k hk hb)
 have hr:=hct hp w g.J hok.im _ hargs
 unfold Oper.wp
 simp only[execOp,resolve,hfv,Deferred.ofValue,Sem.run_bind,Sem.run_pure,Result.andThen_ok,invoke,List.map_toArray,Array.append_empty,Array.empty_append]
 rw[hf.run]
 simp only[Oper.upon]
 refine hr.mono fun e w' he=>?_
 obtain ⟨r,J',rfl,hbel,hJ,hold,him,hres⟩:=he
 exact ⟨r,_,rfl,H2.call hok hbel hJ hold him hres⟩
end

class M6 (M:i1) (u:Nat) (M':outParam i1):Prop where
 eq:∃pre post ct dep,M=pre++⟨u,dep,ct⟩::post/\M'=pre++post
instance {M:i1} {u:Nat} {ct:t9} {dep:List Nat}:M6 (⟨u,dep,ct⟩::M) u M:=⟨[],M,ct,dep,rfl,rfl⟩
instance (priority:=low) {M M':i1} {u:Nat} {e:CE} [h:M6 M u M']:M6 (e::M) u (e::M'):=⟨by
 obtain ⟨pre,post,ct,dep,h1,h2⟩:=h.eq
 exact ⟨e::pre,post,ct,dep,by rw[h1]; rfl,by rw[h2]; rfl⟩⟩
theorem M6.mem {M M':i1} {u:Nat} (h:M6 M u M') (hn:(tags M).Nodup):(∀e∈M',e∈M/\e.t≠u)/\(tags M').Nodup/\∀t,t∈tags M'↔t∈tags M/\t≠u:=by
 obtain ⟨pre,post,ct,dep,h1,h2⟩:=h.eq
 subst h1 h2
 simp only[tags,List.map_append,List.map_cons] at hn ⊢
 have hp:(u::(pre.map (·.t)++post.map (·.t))).Nodup:=(List.perm_middle.nodup_iff).1 hn
 rw[List.nodup_cons] at hp
 refine ⟨fun e he=>?_,hp.2,fun t=>?_⟩
 ·rw[List.mem_append] at he
  refine ⟨?_,fun hu=>hp.1 ?_⟩
  ·rcases he with he | he
   ·exact List.mem_append.2 (.inl he)
   ·exact List.mem_append.2 (.inr (List.mem_cons_of_mem _ he))
  ·rcases he with he | he
   ·exact List.mem_append.2 (.inl (List.mem_map.2 ⟨e,he,hu⟩))
   ·exact List.mem_append.2 (.inr (List.mem_map.2 ⟨e,he,hu⟩))
 ·simp only[List.mem_append,List.mem_cons]
  constructor
  ·intro h'
   exact ⟨h'.elim .inl (fun h=>.inr (.inr h)),fun e=>hp.1 (List.mem_append.2 (e▸h'))⟩
  ·rintro ⟨h | h | h,hne⟩
   ·exact .inl h
   ·exact absurd h hne
   ·exact .inr h
def JV.with (J:JV) (b:Nat) (cs:Array Value):JV:=fun b' o=>if b'=b then cs[o]? else J b' o
theorem JV.le_with {J:JV} {b:Nat} {cs:Array Value} (h:∀o,J b o=none):J.le (J.with b cs):=fun b' o v hv=>by
 unfold JV.with
 by_cases e:b'=b
 ·subst e; rw[h o] at hv; cases hv
 ·rw[if_neg e]; exact hv
def Gh.frz (g:Gh) (u:Nat) (bk:Bk) (cs:Array Value):Gh:=⟨match bk with | .nil=>g.J | .blk b _=>g.J.with b cs,fun t=>if t=u then none else g.M t⟩
def i4.setAll (ss:List Nat) (k:d7) (S:i4):i4:=ss.map (fun s=>⟨s,true,[],k⟩)++S
theorem gW {k:d7} {S:i4}:∀{ss:List Nat} {t:Nat} {b:Bool} {k':d7},look (i4.setAll ss k S) t=some (b,k')->(t∈ss/\b=true/\k'=k)\/(look S t=some (b,k'))
 | [],t,b,k',h=>.inr h
 | s::ss,t,b,k',h=>by
  simp only[i4.setAll,List.map_cons,List.cons_append,look] at h
  cases hb:Nat.beq s t with
  | true =>
   rw[hb] at h
   simp only[cond_true,Option.some.injEq,Prod.mk.injEq] at h
   exact .inl ⟨by rw[Nat.eq_of_beq_eq_true hb]; exact List.mem_cons_self,h.1.symm,h.2.symm⟩
  | false =>
   rw[hb] at h
   exact (gW (ss:=ss) h).imp (fun ⟨h1,h2⟩=>⟨List.mem_cons_of_mem _ h1,h2⟩) id
theorem l8.freezeGB {n:Nat} {bor:List Nat} {rd:Option Nat} {mrk:Bool} {om:List Nat} {w0:World} {J0:JV} {S:i4} {M M':i1} {a:Act} {g:Gh} {w:World} (h:l8 ⟨w0,J0,bor,n,rd,mrk,om⟩ S M a g w) {u:Nat} {bk:Bk} (hm:g.M u=some bk) (hbo:∀b cap,bk=.blk b cap->b∉bor) {cs:Array Value} {ty:TypeId} (hb:∀b cap,bk=.blk b cap->w.heap[b]?=some (.cells cs ty (0,0)))
  (h3:∀t,t∈tags M'↔t∈tags M/\t≠u) (h2:(tags M').Nodup)
  (hconts:∀e∈M',(∃e0∈M,e0.t=e.t/\e.t≠u/\∀b o,g.M e.t=some b->e0.c g b o->e.c (g.frz u bk cs) b o)/\B4 e.c e.dep/\∀t∈e.dep,t∈tags M') {ss:List Nat} {k:d7} (hk:o5 k []) (hss:∀s∈ss,k (g.frz u bk cs) (a.tmps.getD s undef)) :
  l8 ⟨w0,J0,bor,n,rd,mrk,om⟩ (i4.setAll ss k (H3 u S)) M' a (g.frz u bk cs) w:=by
 have hJ:g.J.le (g.frz u bk cs).J:=by
  cases bk with
  | nil=>exact JV.le_refl _
  | blk b cap=>exact JV.le_with (h.ok.own u b cap hm).2.2
 have hM:∀t,t≠u->(g.frz u bk cs).M t=g.M t:=fun t ht=>if_neg ht
 have hMs:∀t b cap,(g.frz u bk cs).M t=some (.blk b cap)->t≠u/\g.M t=some (.blk b cap):=fun t b cap ht=>by
  simp only[Gh.frz] at ht
  by_cases e:t=u
  ·rw[if_pos e] at ht; cases ht
  ·rw[if_neg e] at ht; exact ⟨e,ht⟩
 refine ⟨⟨h.ok.bel,JV.le_trans h.ok.jle hJ,fun b o hlt=>?_,fun b o v hv=>?_,fun t b cap ht=>?_,fun t t' b c1 c2 q1 q2=>h.ok.inj t t' b c1 c2 (hMs _ _ _ q1).2 (hMs _ _ _ q2).2⟩,?_,?_,?_,h2,?_,?_,h.defers,h.size⟩
 ·cases bk with
  | nil=>exact h.ok.jold b o hlt
  | blk b' cap =>
   show (g.J.with b' cs) b o=J0 b o
   unfold JV.with
   rw[if_neg (fun e=>by
    subst e
    rcases (h.ok.own u b cap hm).1 with hh | hh
    ·exact absurd hlt (Nat.not_lt.2 hh)
    ·exact absurd hh (hbo b cap rfl))]
   exact h.ok.jold b o hlt
 ·cases bk with
  | nil=>exact h.ok.im b o v hv
  | blk b' cap =>
   have hv':(g.J.with b' cs) b o=some v:=hv
   unfold JV.with at hv'
   by_cases e:b=b'
   ·rw[if_pos e] at hv'
    subst e
    exact M7 (hb b cap rfl) hv'
   ·rw[if_neg e] at hv'; exact h.ok.im b o v hv'
 ·obtain ⟨hne,ht'⟩:=hMs _ _ _ ht
  obtain ⟨q1,q2,q3⟩:=h.ok.own t b cap ht'
  refine ⟨q1,q2,fun o=>?_⟩
  cases bk with
  | nil=>exact q3 o
  | blk b' cap' =>
   show (g.J.with b' cs) b o=none
   unfold JV.with
   rw[if_neg (fun e=>by subst e; exact hne (h.ok.inj _ _ _ _ _ ht' hm))]
   exact q3 o
 ·intro t b k' hl
  rcases gW hl with ⟨ht,rfl,rfl⟩ | hl
  ·exact ⟨fun _=>hss t ht,fun hf=>by cases hf⟩
  ·obtain ⟨k0,q1,q2⟩:=MU hl
   obtain ⟨q3,q4⟩:=h.slots t b k0 q1
   refine ⟨fun hb=>?_,q4⟩
   rcases q2 with rfl | ⟨rfl,e,he,rfl,hnu⟩
   ·trivial
   ·exact (h.sdep e he).1.dep (g:=g) hJ (fun t ht=>hM t (fun (e':t=u)=>hnu (e'▸ht))) (q3 hb)
 ·intro e he
  obtain ⟨⟨e0,he0,ht0,hne,hc⟩,_⟩:=hconts e he
  obtain ⟨b,q1,q2⟩:=h.conts e0 he0
  rw[ht0] at q1
  exact ⟨b,(hM _ hne).trans q1,hc _ _ q1 q2⟩
 ·intro t ht
  refine (h3 t).2 ⟨h.dom t (fun e=>ht ?_),fun e=>ht ?_⟩
  ·simp only[Gh.frz]; split<;>simp_all
  ·simp only[Gh.frz,if_pos e]
 ·intro e he
  rcases List.mem_append.1 he with he | he
  ·obtain ⟨s,_,rfl⟩:=List.mem_map.1 he
   exact ⟨hk,fun _ h=>by cases h⟩
  ·rcases QQ he with ⟨q1,q2⟩ | ⟨q1,q2⟩
   ·exact ⟨(h.sdep e q1).1,fun t ht=>(h3 t).2 ⟨(h.sdep e q1).2 t ht,fun (e':t=u)=>q2 (e'▸ht)⟩⟩
   ·rw[q1,q2]; exact ⟨inferInstance,fun _ h=>by cases h⟩
 ·intro e he
  exact (hconts e he).2
theorem l8.freezeG {n:Nat} {rd:Option Nat} {mrk:Bool} {om:List Nat} {w0:World} {J0:JV} {S:i4} {M M':i1} {a:Act} {g:Gh} {w:World} (h:l8 ⟨w0,J0,[],n,rd,mrk,om⟩ S M a g w) {u:Nat} {bk:Bk} (hm:g.M u=some bk) {cs:Array Value} {ty:TypeId} (hb:∀b cap,bk=.blk b cap->w.heap[b]?=some (.cells cs ty (0,0)))
  (h3:∀t,t∈tags M'↔t∈tags M/\t≠u) (h2:(tags M').Nodup)
  (hconts:∀e∈M',(∃e0∈M,e0.t=e.t/\e.t≠u/\∀b o,g.M e.t=some b->e0.c g b o->e.c (g.frz u bk cs) b o)/\B4 e.c e.dep/\∀t∈e.dep,t∈tags M') {ss:List Nat} {k:d7} (hk:o5 k []) (hss:∀s∈ss,k (g.frz u bk cs) (a.tmps.getD s undef)) :
  l8 ⟨w0,J0,[],n,rd,mrk,om⟩ (i4.setAll ss k (H3 u S)) M' a (g.frz u bk cs) w:=h.freezeGB hm (fun _ _ _=>List.not_mem_nil) hb h3 h2 hconts hk hss
theorem Gh.le_frz {c:n6} {g:Gh} {w:World} (h:Ok c g w) {u:Nat} {bk:Bk} (hm:g.M u=some bk) (cs:Array Value):g.J.le (g.frz u bk cs).J:=by
 cases bk with
 | nil=>exact JV.le_refl _
 | blk b cap=>exact JV.le_with (h.own u b cap hm).2.2
theorem l8.freezeB {n:Nat} {bor:List Nat} {rd:Option Nat} {mrk:Bool} {om:List Nat} {w0:World} {J0:JV} {S:i4} {M M':i1} {a:Act} {g:Gh} {w:World} (h:l8 ⟨w0,J0,bor,n,rd,mrk,om⟩ S M a g w) {u:Nat} {bk:Bk} (hm:g.M u=some bk) (hbo:∀b cap,bk=.blk b cap->b∉bor) {cs:Array Value} {ty:TypeId} (hb:∀b cap,bk=.blk b cap->w.heap[b]?=some (.cells cs ty (0,0)))
  (hdel:M6 M u M') (hnd:K5 u M=true) {ss:List Nat} {k:d7} (hk:o5 k []) (hss:∀s∈ss,k (g.frz u bk cs) (a.tmps.getD s undef)) :
  l8 ⟨w0,J0,bor,n,rd,mrk,om⟩ (i4.setAll ss k (H3 u S)) M' a (g.frz u bk cs) w:=by
 obtain ⟨h1,h2,h3⟩:=hdel.mem h.nodup
 refine h.freezeGB hm hbo hb h3 h2 (fun e he=>?_) hk hss
 obtain ⟨he',hne⟩:=h1 e he
 refine ⟨⟨e,he',rfl,hne,fun b o _ q2=>?_⟩,(h.cdep e he').1,fun t ht=>(h3 t).2 ⟨(h.cdep e he').2 t ht,fun (e':t=u)=>KA hnd e he' (e'▸ht)⟩⟩
 exact (h.cdep e he').1.dep (g:=g) (Gh.le_frz h.ok hm cs) (fun t ht=>if_neg (fun (e':t=u)=>KA hnd e he' (e'▸ht))) q2
theorem l8.freeze {n:Nat} {rd:Option Nat} {mrk:Bool} {om:List Nat} {w0:World} {J0:JV} {S:i4} {M M':i1} {a:Act} {g:Gh} {w:World} (h:l8 ⟨w0,J0,[],n,rd,mrk,om⟩ S M a g w) {u:Nat} {bk:Bk} (hm:g.M u=some bk) {cs:Array Value} {ty:TypeId} (hb:∀b cap,bk=.blk b cap->w.heap[b]?=some (.cells cs ty (0,0)))
  (hdel:M6 M u M') (hnd:K5 u M=true) {ss:List Nat} {k:d7} (hk:o5 k []) (hss:∀s∈ss,k (g.frz u bk cs) (a.tmps.getD s undef)) :
  l8 ⟨w0,J0,[],n,rd,mrk,om⟩ (i4.setAll ss k (H3 u S)) M' a (g.frz u bk cs) w:=h.freezeB hm (fun _ _ _=>List.not_mem_nil) hb hdel hnd hk hss
def GW (S:i4) (u len:Nat):List Nat->Prop
 | []=>True
 | s::r=>look S s=some (true,o9 u len)/\GW S u len r
theorem UD {S:i4} {u len:Nat}:∀{ss:List Nat},GW S u len ss->∀s∈ss,look S s=some (true,o9 u len)
 | s::r,h,t,ht=>by
  rcases List.mem_cons.1 ht with rfl | ht
  ·exact h.1
  ·exact UD h.2 t ht
theorem l8.frzAB {n:Nat} {bor:List Nat} {rd:Option Nat} {mrk:Bool} {om:List Nat} {w0:World} {J0:JV} {S:i4} {M M':i1} {a:Act} {g:Gh} {w:World} (h:l8 ⟨w0,J0,bor,n,rd,mrk,om⟩ S M a g w) {u len:Nat} {α:Type} {zb:Bool} {et:TypeId} {e:i8 α} {xs:List α} {dep:List Nat} {ss:List Nat} [hl:q7 M u (l5 zb et e xs len) dep]
  (hbo:∀b cap,g.M u=some (.blk b cap)->b∉bor) (hss:GW S u len ss) (hlen:len<=p9) [hdel:M6 M u M'] (hnd:K5 u M=true):∃g',l8 ⟨w0,J0,bor,n,rd,mrk,om⟩ (i4.setAll ss (b8 (eL e) xs) (H3 u S)) M' a g' w:=by
 obtain ⟨bk,hm,h0,h1⟩:=h.conts _ hl.mem
 simp only at hm h0
 cases bk with
 | nil =>
  subst h1
  have hxs:xs=[]:=List.eq_nil_of_length_eq_zero h0
  subst hxs
  refine ⟨_,h.freezeB (cs:=#[]) (ty:=0) hm (fun b cap e=>by cases e) (fun _ _ h=>by cases h) hdel hnd inferInstance (fun s hs=>?_)⟩
  rcases (h.slots s _ _ (UD hss s hs)).1 rfl with ⟨_,_,hv⟩ | ⟨b,cap,hb,_⟩
  ·exact ⟨_,Y1,hv⟩
  ·rw[hm] at hb; cases hb
 | blk b cap =>
  obtain ⟨_,cs,h3,h4,h5,h6,h7⟩:=h1
  refine ⟨_,h.freezeB (cs:=cs) (ty:=et) hm (fun b2 cap2 e=>by cases e; exact hbo _ _ hm) (fun b' cap' hb=>by cases hb; exact h3) hdel hnd inferInstance (fun s hs=>?_)⟩
  have hJ:g.J.le (g.J.with b cs):=JV.le_with (h.ok.own u b cap hm).2.2
  rcases (h.slots s _ _ (UD hss s hs)).1 rfl with ⟨hb,_⟩ | ⟨b',cap',hb,hv⟩
  ·rw[hm] at hb; cases hb
  ·rw[hm] at hb; cases hb
   refine ⟨_,⟨some ⟨b,0,none⟩,cap,rfl,⟨by rw[h0]; exact hlen,by rw[h0]; exact h5⟩,.inr ⟨b,0,rfl,fun i x hx=>?_⟩⟩,by rw[h0]; exact hv⟩
   obtain ⟨ds,q1,q2⟩:=h7 i x hx
   refine ⟨ds,e.mono hJ q1,fun j v hj=>?_⟩
   show (g.J.with b cs) b (0+i*e.n+j)=some v
   unfold JV.with
   rw[if_pos rfl,Nat.zero_add]
   exact q2 j v hj
theorem l8.frzA {n:Nat} {rd:Option Nat} {mrk:Bool} {om:List Nat} {w0:World} {J0:JV} {S:i4} {M M':i1} {a:Act} {g:Gh} {w:World} (h:l8 ⟨w0,J0,[],n,rd,mrk,om⟩ S M a g w) {u len:Nat} {α:Type} {zb:Bool} {et:TypeId} {e:i8 α} {xs:List α} {dep:List Nat} {ss:List Nat} [hl:q7 M u (l5 zb et e xs len) dep]
  (hss:GW S u len ss) (hlen:len<=p9) [hdel:M6 M u M'] (hnd:K5 u M=true):∃g',l8 ⟨w0,J0,[],n,rd,mrk,om⟩ (i4.setAll ss (b8 (eL e) xs) (H3 u S)) M' a g' w:=h.frzAB (ss:=ss) (u:=u) (fun _ _ _=>List.not_mem_nil) hss hlen hnd
section
variable {P:Program} {n:Nat} {rd:Option Nat} {mrk:Bool} {om:List Nat} {w0:World} {J0:JV} {S:i4} {M M':i1} {Q:Exit->Act->World->Prop} {ops:Array Oper} {rest:List Oper}
theorem Tr.frz {code:Code} (u:Nat) (ss:List Nat) {len:Nat} {α:Type} {zb:Bool} {et:TypeId} {e:i8 α} {xs:List α} {dep:List Nat} [hl:q7 M u (l5 zb et e xs len) dep] (hss:GW S u len ss) (hlen:len<=p9) [hdel:M6 M u M'] (hnd:K5 u M=true)
  (K:Tr P ⟨w0,J0,[],n,rd,mrk,om⟩ (i4.setAll ss (b8 (eL e) xs) (H3 u S)) M' code Q):Tr P ⟨w0,J0,[],n,rd,mrk,om⟩ S M code Q:=fun a _ w hs=>let ⟨g',hs'⟩:=hs.frzA (ss:=ss) (u:=u) hss hlen hnd; K a g' w hs'
theorem d5.frz (u:Nat) (ss:List Nat) {len:Nat} {α:Type} {zb:Bool} {et:TypeId} {e:i8 α} {xs:List α} {dep:List Nat} [hl:q7 M u (l5 zb et e xs len) dep] (hss:GW S u len ss) (hlen:len<=p9) [hdel:M6 M u M'] (hnd:K5 u M=true)
  (K:d5 P ⟨w0,J0,[],n,rd,mrk,om⟩ ops (i4.setAll ss (b8 (eL e) xs) (H3 u S)) M' rest Q):d5 P ⟨w0,J0,[],n,rd,mrk,om⟩ ops S M rest Q:=fun a _ w hs=>let ⟨g',hs'⟩:=hs.frzA (ss:=ss) (u:=u) hss hlen hnd; K a g' w hs'
end
end Go.Fl

/- Regions that draw their order: what each operation has to show is shown from its operands, so every order that its edges allow serves. -/
namespace Go.Fl
open Go Go.RowKit

def UG (acc:List Nat) (es:List Edge):Nat:=es.foldl (fun s e=>if Region.binds .any e then s ||| 2 ^ e.on ||| acc.getD e.on 0 else s) 0
def AP:List Oper->List Nat->List Nat
 | [],acc=>acc
 | o::r,acc=>AP r (acc++[UG acc o.after.toList])
theorem aU {acc:List Nat} {j:Nat}:∀(es:List Edge) (s:Nat),(es.foldl (fun s e=>if Region.binds .any e then s ||| 2 ^ e.on ||| acc.getD e.on 0 else s) s).testBit j=true ->
  s.testBit j=true\/∃e∈es,Region.binds .any e=true/\(j=e.on\/(acc.getD e.on 0).testBit j=true)
 | [],s,h=>.inl h
 | e::es,s,h=>by
  simp only[List.foldl_cons] at h
  rcases aU es _ h with h1 | ⟨x,hx,h2⟩
  ·by_cases hb:Region.binds .any e=true
   ·rw[if_pos hb] at h1
    simp only[Nat.testBit_or,Bool.or_eq_true,Nat.testBit_two_pow,decide_eq_true_eq] at h1
    rcases h1 with (h1 | h1) | h1
    ·exact .inl h1
    ·exact .inr ⟨e,List.mem_cons_self,hb,.inl h1.symm⟩
    ·exact .inr ⟨e,List.mem_cons_self,hb,.inr h1⟩
   ·rw[if_neg hb] at h1; exact .inl h1
  ·exact .inr ⟨x,List.mem_cons_of_mem _ hx,h2⟩
theorem aV:∀(l:List Oper) (acc:List Nat),(∀i,i<acc.length->(AP l acc)[i]?=acc[i]?)/\(AP l acc).length=acc.length+l.length /\
  ∀i o,l[i]?=some o->∃acc',(AP l acc)[acc.length+i]?=some (UG acc' o.after.toList)/\acc'.length=acc.length+i/\∀k,k<acc'.length->(AP l acc)[k]?=acc'[k]?
 | [],acc=>⟨fun _ _=>rfl,by simp[AP],fun i o h=>by simp at h⟩
 | o::l,acc=>by
  obtain ⟨h1,h2,h3⟩:=aV l (acc++[UG acc o.after.toList])
  refine ⟨fun i hi=>?_,by simp only[AP,h2]; simp; omega,fun i x hx=>?_⟩
  ·simp only[AP]
   rw[h1 i (by simp; omega),List.getElem?_append_left hi]
  ·cases i with
   | zero =>
    simp only[List.getElem?_cons_zero,Option.some.injEq] at hx
    subst hx
    refine ⟨acc,?_,rfl,fun k hk=>?_⟩
    ·simp only[AP,Nat.add_zero]
     rw[h1 acc.length (by simp)]
     simp
    ·simp only[AP]
     rw[h1 k (by simp; omega),List.getElem?_append_left hk]
   | succ i =>
    obtain ⟨acc',k1,k2,k3⟩:=h3 i x (by simpa using hx)
    refine ⟨acc',?_,by simp at k2; omega,k3⟩
    simp only[AP]
    rw[<- k1]; congr 1; simp; omega
def V5 (l:List Oper) (i j:Nat):Bool:=((AP l []).getD i 0).testBit j
theorem OR {l:List Oper} {i j:Nat} {o:Oper} (ho:l[i]?=some o) (h:V5 l i j=true):∃e∈o.after.toList,Region.binds .any e=true/\(j=e.on\/V5 l e.on j=true):=by
 obtain ⟨acc',h1,h2,h3⟩:=(aV l []).2.2 i o ho
 simp only[List.length_nil,Nat.zero_add] at h1 h2
 unfold V5 at h
 rw[List.getD_eq_getElem?_getD,h1] at h
 rcases aU _ _ h with hz | ⟨e,he,hb,hj⟩
 ·simp at hz
 ·refine ⟨e,he,hb,hj.imp id fun hj=>?_⟩
  unfold V5
  by_cases hlt:e.on<acc'.length
  ·rw[List.getD_eq_getElem?_getD,h3 _ hlt,<- List.getD_eq_getElem?_getD]; exact hj
  ·rw[List.getD_eq_getElem?_getD,List.getElem?_eq_none zo] at hj
   simp at hj
def SN (ops:Array Oper) (l:List Oper) (i:Nat) (x:Oper) (j:Nat) (y:Oper):Bool :=
 V5 l j i||!((match x.dst with | some t=>(y.looksAt ops).contains t||y.dst==some t | none=>false)||(match y.dst with | some t=>(x.looksAt ops).contains t | none=>false))
def PT (l:List Oper) (m:Nat):Bool :=
 (l.zipIdx.all fun (o,i)=>o.after.toList.all fun e=>!Region.binds .any e||decide (e.on<i)) &&
 (l.zipIdx.all fun (x,i)=>l.zipIdx.all fun (y,j)=>!decide (i<j)||(SN l.toArray l i x j y&&(decide (j<m)||V5 l j i)))
structure EW (z:Nat) (l:List Oper) (m:Nat):Prop where
 edge:∀i o,l[i]?=some o->∀e∈o.after.toList,Region.binds .any e=true->e.on<i
 pair:∀i j x y,i<j->l[i]?=some x->l[j]?=some y->V5 l j i=true\/((∀t,x.dst=some t->t∉y.looksAt l.toArray/\y.dst≠some t)/\∀t,y.dst=some t->t∉x.looksAt l.toArray)
 tail:∀i j,i<j->j<l.length->m<=j->z<=i->V5 l j i=true
abbrev IH (l:List Oper) (m:Nat):Prop:=EW 0 l m
theorem IH.of {l:List Oper} {m:Nat} (h:PT l m=true):IH l m:=by
 simp only[PT,Bool.and_eq_true,List.all_eq_true] at h
 obtain ⟨h1,h2⟩:=h
 have hm:∀i o,l[i]?=some o->(o,i)∈l.zipIdx:=fun i o ho=>List.mem_iff_getElem?.2 ⟨i,by simp[ho]⟩
 refine ⟨fun i o ho e he hb=>?_,fun i j x y hij hx hy=>?_,fun i j hij hj hmj _=>?_⟩
 ·have:=h1 _ (hm i o ho) e he
  simp only[hb,Bool.not_true,Bool.false_or,decide_eq_true_eq] at this
  exact this
 ·have:=h2 _ (hm i x hx) _ (hm j y hy)
  simp only[hij,decide_true,Bool.not_true,Bool.false_or,Bool.and_eq_true] at this
  have hp:=this.1
  unfold SN at hp
  rw[Bool.or_eq_true] at hp
  refine hp.imp id fun hp=>?_
  simp only[Bool.not_eq_true',Bool.or_eq_false_iff] at hp
  refine ⟨fun t ht=>?_,fun t ht=>?_⟩
  ·have:=hp.1
   rw[ht] at this
   simp only[Bool.or_eq_false_iff] at this
   exact ⟨by simpa using this.1,by simpa using this.2⟩
  ·have:=hp.2
   rw[ht] at this
   simpa using this
 ·have hx:=List.getElem?_eq_getElem (l:=l) (i:=i) zo
  have hy:=List.getElem?_eq_getElem (l:=l) (i:=j) hj
  have:=h2 _ (hm i _ hx) _ (hm j _ hy)
  simp only[hij,decide_true,Bool.not_true,Bool.false_or,Bool.and_eq_true,Bool.or_eq_true,decide_eq_true_eq] at this
  exact this.2.resolve_left zo

def VW (l:List Oper) (m:Nat):Bool :=
 (l.zipIdx.all fun (o,i)=>o.after.toList.all fun e=>!Region.binds .any e||decide (e.on<i)) &&
 (l.zipIdx.all fun (x,i)=>l.zipIdx.all fun (y,j)=>!decide (i<j)||(SN l.toArray l i x j y&&((decide (j<m)||V5 l j i)||decide (i<1))))
theorem EW.of1 {l:List Oper} {m:Nat} (h:VW l m=true):EW 1 l m:=by
 simp only[VW,Bool.and_eq_true,List.all_eq_true] at h
 obtain ⟨h1,h2⟩:=h
 have hm:∀i o,l[i]?=some o->(o,i)∈l.zipIdx:=fun i o ho=>List.mem_iff_getElem?.2 ⟨i,by simp[ho]⟩
 refine ⟨fun i o ho e he hb=>?_,fun i j x y hij hx hy=>?_,fun i j hij hj hmj hzi=>?_⟩
 ·have:=h1 _ (hm i o ho) e he
  simp only[hb,Bool.not_true,Bool.false_or,decide_eq_true_eq] at this
  exact this
 ·have:=h2 _ (hm i x hx) _ (hm j y hy)
  simp only[hij,decide_true,Bool.not_true,Bool.false_or,Bool.and_eq_true] at this
  have hp:=this.1
  unfold SN at hp
  rw[Bool.or_eq_true] at hp
  refine hp.imp id fun hp=>?_
  simp only[Bool.not_eq_true',Bool.or_eq_false_iff] at hp
  refine ⟨fun t ht=>?_,fun t ht=>?_⟩
  ·have:=hp.1
   rw[ht] at this
   simp only[Bool.or_eq_false_iff] at this
   exact ⟨by simpa using this.1,by simpa using this.2⟩
  ·have:=hp.2
   rw[ht] at this
   simpa using this
 ·have hx:=List.getElem?_eq_getElem (l:=l) (i:=i) zo
  have hy:=List.getElem?_eq_getElem (l:=l) (i:=j) hj
  have:=h2 _ (hm i _ hx) _ (hm j _ hy)
  simp only[hij,decide_true,Bool.not_true,Bool.false_or,Bool.and_eq_true,Bool.or_eq_true,decide_eq_true_eq] at this
  exact (this.2.resolve_right zo).resolve_left zo

structure B6 where
 d:Nat
 p:Bool
 dep:List Nat
 k:d7
 new:Option CE
def B6.se (r:B6):SE:=⟨r.d,r.p,r.dep,r.k⟩
def sl (S:i4) (rs:List B6):i4:=rs.foldl (fun S r=>r.se::S) S
def cl (M:i1) (rs:List B6):i1:=rs.foldl (fun M r=>T6 r.new M) M
class nP (k:d7) (t:Nat):Prop where
 has:∀{g:Gh} {v:Value},k g v->g.M t≠none
structure V3 (P:Program) (c:n6) (ops:Array Oper) (M0:i1) (S:i4) (M:i1) (o:Oper) (r:B6):Prop where
 dst:o.dst=some r.d
 ok:l4 P c S M0 o r.p r.k r.new
 kd:o5 r.k r.dep
 dep:∀t∈r.dep,t∈tags (T6 r.new M0)\/(t∈tags M/\nP r.k t)
 new:∀e,r.new=some e->B4 e.c e.dep/\(∀t∈e.dep,t∈tags (e::M0))/\e.t∉tags M
 lt:r.d<c.n
 gd:(o.guard=none/\r.p=true)\/(r.new=none/\∃j want e s b0,o.guard=some (j,want)/\(ops[j]?).bind (·.dst)=some s/\look S s=some (b0,kB e)/\(b0&&(e==want))=r.p)
def i9 (P:Program) (c:n6) (ops:Array Oper) (Q:Exit->Act->World->Prop) (M0:i1):List Oper->Nat->i4->i1->Prop
 | rest,0,S,M=>d5 P c ops S M rest Q
 | [],_+1,_,_=>False
 | o::rest,m+1,S,M=>∃r,V3 P c ops M0 S M o r/\i9 P c ops Q M0 rest m (r.se::S) (T6 r.new M)
theorem i9.recs {P:Program} {c:n6} {ops:Array Oper} {Q:Exit->Act->World->Prop} {M0:i1}:∀{m:Nat} {rest:List Oper} {S:i4} {M:i1},i9 P c ops Q M0 rest m S M ->
  ∃rs:List B6,rs.length=m/\m<=rest.length/\(∀i r o,rs[i]?=some r->rest[i]?=some o->V3 P c ops M0 (sl S (rs.take i)) (cl M (rs.take i)) o r)/\d5 P c ops (sl S rs) (cl M rs) (rest.drop m) Q
 | 0,rest,S,M,h=>⟨[],rfl,Nat.zero_le _,fun i r o h=>by simp at h,by simpa [i9,sl,cl] using h⟩
 | m+1,[],S,M,h=>by cases h
 | m+1,o::rest,S,M,h=>by
  obtain ⟨r,h1,h2⟩:=h
  obtain ⟨rs,k1,k2,k3,k4⟩:=i9.recs h2
  refine ⟨r::rs,by simp[k1],by simp; omega,fun i r' o' hr ho=>?_,by simpa [sl,cl] using k4⟩
  cases i with
  | zero=>simp at hr ho; subst hr ho; simpa [sl,cl] using h1
  | succ i=>simpa [sl,cl] using k3 i r' o' (by simpa using hr) (by simpa using ho)
theorem TC {α:Type} {motive:List α->Prop} (h0:motive []) (h1:∀rs r,motive rs->motive (rs++[r])) (rs:List α):motive rs:=by
 have:∀l:List α,motive l.reverse:=fun l=>by
  induction l with
  | nil=>exact h0
  | cons x l ih=>rw[List.reverse_cons]; exact h1 _ _ ih
 simpa using this rs.reverse
theorem TB {S:i4} {t:Nat} {b:Bool} {k:d7}:∀(rs:List B6),look (sl S rs) t=some (b,k) ->
  (look S t=some (b,k)/\∀r∈rs,r.d≠t)\/∃(i:Nat) (r:B6),rs[i]?=some r/\r.d=t/\r.p=b/\r.k=k/\∀(i':Nat) (r':B6),i<i'->rs[i']?=some r'->r'.d≠t:=by
 intro rs
 induction rs using TC with
 | h0=>exact fun h=>.inl ⟨h,fun _ h=>by cases h⟩
 | h1 rs r ih =>
  intro h
  simp only[sl,List.foldl_append,List.foldl_cons,List.foldl_nil,look,B6.se] at h
  cases hb:Nat.beq r.d t with
  | true =>
   rw[hb] at h
   simp only[cond_true,Option.some.injEq,Prod.mk.injEq] at h
   refine .inr ⟨rs.length,r,by simp,Nat.eq_of_beq_eq_true hb,h.1,h.2,fun i' r' hi hr=>?_⟩
   rw[List.getElem?_eq_none (by simp; omega)] at hr; cases hr
  | false =>
   rw[hb] at h
   have hne:=Nat.ne_of_beq_eq_false hb
   rcases ih h with ⟨h1,h2⟩ | ⟨i,r0,h1,h2,h3,h4,h5⟩
   ·exact .inl ⟨h1,fun x hx=>by
     rcases List.mem_append.1 hx with hx | hx
     ·exact h2 x hx
     ·simp at hx; subst hx; exact hne⟩
   ·have hlt:=(List.getElem?_eq_some_iff.1 h1).1
    refine .inr ⟨i,r0,by rw[List.getElem?_append_left hlt]; exact h1,h2,h3,h4,fun i' r' hi hr=>?_⟩
    by_cases hl:i'<rs.length
    ·rw[List.getElem?_append_left hl] at hr; exact h5 i' r' hi hr
    ·rw[List.getElem?_append_right zo] at hr
     have:i'-rs.length=0:=by
      rcases Nat.eq_zero_or_pos (i'-rs.length) with h0 | h0
      ·exact h0
      ·rw[List.getElem?_eq_none (by simp; omega)] at hr; cases hr
     rw[this] at hr
     simp at hr; subst hr; exact hne
theorem V6 {M:i1} {e:CE}:∀(rs:List B6),e∈cl M rs↔e∈M\/∃(i:Nat) (r:B6),rs[i]?=some r/\r.new=some e:=by
 intro rs
 induction rs using TC with
 | h0=>simp[cl]
 | h1 rs r ih =>
  simp only[cl,List.foldl_append,List.foldl_cons,List.foldl_nil]
  have hc:e∈T6 r.new (rs.foldl (fun M r=>T6 r.new M) M)↔r.new=some e\/e∈cl M rs:=by
   cases hn:r.new with
   | none=>simp[T6,cl]
   | some x=>simp only[T6,List.mem_cons,Option.some.injEq,cl]; exact ⟨fun h=>h.imp Eq.symm id,fun h=>h.imp Eq.symm id⟩
  rw[hc,ih]
  constructor
  ·rintro (h | h | ⟨i,r',h1,h2⟩)
   ·exact .inr ⟨rs.length,r,by simp,h⟩
   ·exact .inl h
   ·exact .inr ⟨i,r',by rw[List.getElem?_append_left (List.getElem?_eq_some_iff.1 h1).1]; exact h1,h2⟩
  ·rintro (h | ⟨i,r',h1,h2⟩)
   ·exact .inr (.inl h)
   ·by_cases hl:i<rs.length
    ·rw[List.getElem?_append_left hl] at h1; exact .inr (.inr ⟨i,r',h1,h2⟩)
    ·rw[List.getElem?_append_right zo] at h1
     have:i-rs.length=0:=by
      rcases Nat.eq_zero_or_pos (i-rs.length) with h0 | h0
      ·exact h0
      ·rw[List.getElem?_eq_none (by simp; omega)] at h1; cases h1
     rw[this] at h1
     simp at h1; subst h1; exact .inl h2

def Ld (listed:Array Bool) (i:Nat):Prop:=listed[i]?=some true
theorem Ld.lt {listed:Array Bool} {i:Nat} (h:Ld listed i):i<listed.size:=(Array.getElem?_eq_some_iff.1 h).1
theorem Ld.set {listed:Array Bool} {i j:Nat} (hi:i<listed.size):Ld (listed.setIfInBounds i true) j↔j=i\/Ld listed j:=by
 unfold Ld
 by_cases h:i=j
 ·subst h; simp[hi]
 ·rw[Array.getElem?_setIfInBounds_ne h]; exact ⟨.inr,fun h'=>h'.resolve_left (Ne.symm h)⟩
theorem GB {l:List Oper} {listed:Array Bool} {i:Nat} (hs:listed.size=l.length):i∈Region.ready .any l.toArray listed↔¬Ld listed i/\∃o,l[i]?=some o/\∀e∈o.after.toList,Region.binds .any e=true->Ld listed e.on:=by
 simp only[Region.ready,List.mem_filter,List.mem_range,List.size_toArray,Bool.and_eq_true,Bool.not_eq_true']
 constructor
 ·rintro ⟨h1,h2,h3⟩
  have ho:=List.getElem?_eq_getElem h1
  refine ⟨fun hl=>?_,l[i],ho,fun e he hb=>?_⟩
  ·unfold Ld at hl
   rw[Array.getD_eq_getD_getElem?,hl] at h2; cases h2
  ·rw[List.getElem?_toArray,ho] at h3
   simp only[Option.map_some,Option.getD_some,Array.all_eq_true_iff_forall_mem] at h3
   have:=h3 e (by simpa using he)
   simp only[hb,Bool.not_true,Bool.false_or] at this
   unfold Ld
   rw[Array.getD_eq_getD_getElem?] at this
   cases hh:listed[e.on]? with
   | none=>rw[hh] at this; cases this
   | some b=>rw[hh] at this; simp at this; rw[this]
 ·rintro ⟨h1,o,ho,h2⟩
  have hlt:=(List.getElem?_eq_some_iff.1 ho).1
  refine ⟨hlt,?_,?_⟩
  ·rw[Array.getD_eq_getD_getElem?]
   unfold Ld at h1
   rw[Array.getElem?_eq_getElem zo] at h1 ⊢
   simpa using h1
  ·rw[List.getElem?_toArray,ho]
   simp only[Option.map_some,Option.getD_some,Array.all_eq_true_iff_forall_mem]
   intro e he
   by_cases hb:Region.binds .any e=true
   ·have:=h2 e (by simpa using he) hb
    unfold Ld at this
    simp[hb,Array.getD_eq_getD_getElem?,this]
   ·simp only[Bool.not_eq_true] at hb; simp[hb]
def T4 (listed:Array Bool):Nat:=listed.toList.countP (fun b=>!b)
theorem TM {listed:Array Bool} {i:Nat} (hi:i<listed.size) (h:¬Ld listed i):T4 (listed.setIfInBounds i true)+1=T4 listed:=by
 have hf:listed[i]=false:=by
  unfold Ld at h
  rw[Array.getElem?_eq_getElem hi] at h
  simpa using h
 unfold T4
 rw[Array.toList_setIfInBounds]
 have hsplit:listed.toList=listed.toList.take i++false::listed.toList.drop (i+1):=by
  rw[<- hf,<- Array.getElem_toList,List.getElem_cons_drop,List.take_append_drop]
 have hset:listed.toList.set i true=listed.toList.take i++true::listed.toList.drop (i+1):=by
  rw[List.set_eq_take_append_cons_drop,if_pos (by simpa using hi)]
 rw[hset]
 conv=>rhs; rw[hsplit]
 simp[List.countP_append]
 omega
theorem ZZ {listed:Array Bool} (h:T4 listed=0) {i:Nat} (hi:i<listed.size):Ld listed i:=by
 unfold T4 at h
 rw[List.countP_eq_zero] at h
 have:=h listed[i] (by simp)
 unfold Ld
 rw[Array.getElem?_eq_getElem hi]
 simpa using this
def EU (l:List Oper) (listed:Array Bool):Prop:=∀i j,Ld listed i->V5 l i j=true->Ld listed j
theorem EU.ready {l:List Oper} {listed:Array Bool} (h:EU l listed) {i:Nat} {o:Oper} (ho:l[i]?=some o) (hr:∀e∈o.after.toList,Region.binds .any e=true->Ld listed e.on) {j:Nat} (ha:V5 l i j=true):Ld listed j:=by
 obtain ⟨e,he,hb,hj⟩:=OR ho ha
 rcases hj with rfl | hj
 ·exact hr e he hb
 ·exact h _ _ (hr e he hb) hj
theorem EU.set {l:List Oper} {listed:Array Bool} (h:EU l listed) {i:Nat} {o:Oper} (hi:i<listed.size) (ho:l[i]?=some o) (hr:∀e∈o.after.toList,Region.binds .any e=true->Ld listed e.on):EU l (listed.setIfInBounds i true):=by
 intro a b ha hb
 rw[Ld.set hi] at ha ⊢
 rcases ha with rfl | ha
 ·exact .inr (h.ready ho hr hb)
 ·exact .inr (h a b ha hb)
theorem ST {l:List Oper} {m z:Nat} (hd:EW z l m) {listed:Array Bool} (hs:listed.size=l.length) (h:Region.ready .any l.toArray listed=[]):∀i,i<l.length->Ld listed i:=by
 intro i
 induction i using Nat.strongRecOn with
 | _ i ih =>
  intro hi
  apply Classical.byContradiction
  intro hn
  have ho:=List.getElem?_eq_getElem hi
  have:i∈Region.ready .any l.toArray listed:=(GB hs).2 ⟨hn,_,ho,fun e he hb=>ih e.on (hd.edge i _ ho e he hb) (by have:=hd.edge i _ ho e he hb; omega)⟩
  rw[h] at this; cases this
section
variable {P:Program} {Q:Exit->Act->World->Prop} {l:List Oper} {m:Nat}
theorem TQ {z:Nat} (hz:z<=m) (hd:EW z l m):∀(f k:Nat) (listed:Array Bool) (a:Act) (w:World),listed.size=l.length->(∀i,Ld listed i↔i<k)->m<=k->k<=l.length->l.length-k<=f ->
  wpList P l.toArray Q (l.drop k) a w->wpAny P .any l.toArray Q f listed a w:=by
 intro f
 induction f with
 | zero =>
  intro k listed a w hs hl hm hk hf h
  have hkl:k=l.length:=by omega
  subst hkl
  rw[List.drop_length] at h
  refine ⟨?_,h⟩
  rw[List.eq_nil_iff_forall_not_mem]
  intro i hi
  obtain ⟨h1,o,ho,_⟩:=(GB hs).1 hi
  exact h1 ((hl i).2 (List.getElem?_eq_some_iff.1 ho).1)
 | succ f ih =>
  intro k listed a w hs hl hm hk hf h
  refine ⟨fun hr=>?_,fun i hi=>?_⟩
  ·have hall:=ST hd hs hr
   have hkl:k=l.length:=by
    rcases Nat.lt_or_ge k l.length with h' | h'
    ·have:=(hl k).1 (hall k h'); omega
    ·omega
   subst hkl
   rw[List.drop_length] at h
   exact h
  ·obtain ⟨h1,o,ho,h2⟩:=(GB hs).1 hi
   have hil:=(List.getElem?_eq_some_iff.1 ho).1
   have hki:k<=i:=by
    rcases Nat.lt_or_ge i k with h' | h'
    ·exact absurd ((hl i).2 h') h1
    ·exact h'
   have hclo:EU l listed:=fun x y hx hy=>by
    obtain ⟨e,he,hb,hj⟩:=OR (List.getElem?_eq_getElem (by have:=hx.lt; omega)) hy
    have hlt:=hd.edge x _ (List.getElem?_eq_getElem (by have:=hx.lt; omega)) e he hb
    have hxk:=(hl x).1 hx
    refine (hl y).2 ?_
    rcases hj with rfl | hj
    ·omega
    ·have:∀n u v,u<=n->u<l.length->V5 l u v=true->v<u:=by
      intro n
      induction n with
      | zero=>intro u v hu hul ha; obtain ⟨e,he,hb,_⟩:=OR (List.getElem?_eq_getElem hul) ha; have:=hd.edge u _ (List.getElem?_eq_getElem hul) e he hb; omega
      | succ n ihn =>
       intro u v hu hul ha
       obtain ⟨e,he,hb,hj⟩:=OR (List.getElem?_eq_getElem hul) ha
       have hlt:=hd.edge u _ (List.getElem?_eq_getElem hul) e he hb
       rcases hj with rfl | hj
       ·exact hlt
       ·have:=ihn e.on v zo zo hj; omega
     have:=this e.on e.on y (Nat.le_refl _) zo hj
     omega
   have hik:i=k:=by
    rcases Nat.eq_or_lt_of_le hki with h' | h'
    ·exact h'.symm
    ·have:=(hl k).1 (hclo.ready ho h2 (hd.tail k i h' hil zo zo)); omega
   subst hik
   rw[List.drop_eq_getElem_cons hil] at h
   have hoe:l[i]=o:=by rw[List.getElem?_eq_getElem hil] at ho; exact Option.some.inj ho
   rw[hoe] at h
   have hnext:∀a w,wpList P l.toArray Q (l.drop (i+1)) a w->wpAny P .any l.toArray Q f (listed.setIfInBounds i true) a w:=fun a w h=>by
    refine ih (i+1) _ a w (by simpa using hs) (fun x=>?_) zo zo zo h
    rw[Ld.set zo,hl]; omega
   unfold wpOp
   rw[List.getElem?_toArray,ho]
   simp only
   unfold wpList at h
   split
   ·rename_i hw; rw[if_pos hw] at h; exact h.imp (Oper.wp_mono hnext) id
   ·rename_i hw; rw[if_neg hw] at h; exact hnext _ _ h
end
end Go.Fl

/- A region that draws its order, by what each operation shows. -/
namespace Go.Fl
open Go Go.RowKit
section
variable {P:Program} {c:n6} {Q:Exit->Act->World->Prop} {l:List Oper} {m:Nat} {S:i4} {M:i1} {rs:List B6} {a0:Act} {g0:Gh} {w1:World}
structure BJ (l:List Oper) (c:n6) (M:i1) (rs:List B6) (a0:Act) (g0:Gh) (w1:World) (listed:Array Bool) (a:Act) (g:Gh) (w:World):Prop where
 sz:listed.size=l.length
 ok:Ok c g w
 le:g0.le g
 bel:Below w1.heap.size w1 w
 clo:EU l listed
 low:∀i,Ld listed i->i<rs.length
 defers:a.defers=a0.defers
 size:a.tmps.size=c.n
 base:∀t,(∀i r,Ld listed i->rs[i]?=some r->r.d≠t)->a.tmps.getD t undef=a0.tmps.getD t undef
 cur:∀i r,rs[i]?=some r->Ld listed i->(∀i' r',i<i'->Ld listed i'->rs[i']?=some r'->r'.d≠r.d)->T1 g (a.tmps.getD r.d undef) r.p r.k
 made:∀i r e,Ld listed i->rs[i]?=some r->r.new=some e->∃b,g.M e.t=some b/\e.c g b (World.objAt w b)
 dom:∀t,g.M t≠none->g0.M t≠none\/∃(i:Nat) (r:B6) (e:CE),Ld listed i/\rs[i]?=some r/\r.new=some e/\e.t=t
theorem T1.on {g g':Gh} {v:Value} {p:Bool} {k:d7} {dep:List Nat} (h:T1 g v p k) (hl:g.le g') (hk:o5 k dep) (hd:∀t∈dep,g.M t≠none):T1 g' v p k :=
 ⟨fun hp=>hk.mono hl hd (h.1 hp),h.2⟩
theorem T1.on' {g g':Gh} {v:Value} {p:Bool} {k:d7} {dep:List Nat} (h:T1 g v p k) (hl:g.le g') (hk:o5 k dep) (hd:∀t∈dep,k g v->g.M t≠none):T1 g' v p k :=
 ⟨fun hp=>hk.mono hl (fun t ht=>hd t ht (h.1 hp)) (h.1 hp),h.2⟩
structure LJ (M:i1) (rs:List B6):Prop where
 fresh:∀(i:Nat) (r:B6) (e:CE),rs[i]?=some r->r.new=some e->e.t∉tags M
 uniq:∀(i j:Nat) (r r':B6) (e e':CE),rs[i]?=some r->rs[j]?=some r'->r.new=some e->r'.new=some e'->e.t=e'.t->i=j
theorem BJ.step (hst:∀i r o,rs[i]?=some r->l[i]?=some o->V3 P c l.toArray M (sl S (rs.take i)) (cl M (rs.take i)) o r) (hm:rs.length=m) (hml:m<=l.length) {z:Nat} (hd:EW z l m) (hnews:LJ M rs)
  (hs:l8 c S M a0 g0 w1) {listed:Array Bool} {a:Act} {g:Gh} {w:World} (h:BJ l c M rs a0 g0 w1 listed a g w) {i:Nat} (hi:i∈Region.ready .any l.toArray listed) (him:i<m) {K:Act->World->Prop}
  (hK:∀a' g' w',BJ l c M rs a0 g0 w1 (listed.setIfInBounds i true) a' g' w'->K a' w'):wpOp P l.toArray Q i K a w:=by
 obtain ⟨hnl,o,ho,hr⟩:=(GB h.sz).1 hi
 have hil:=(List.getElem?_eq_some_iff.1 ho).1
 have hilst:i<listed.size:=by rw[h.sz]; exact hil
 have hri:=List.getElem?_eq_getElem (l:=rs) (i:=i) zo
 generalize rs[i]=r at hri
 have st:=hst i r o hri ho
 have hcM:F7 M g w:=hs.conts.on hs.conts hs.cdep hs.ok h.le h.bel
 have hdst:∀(j:Nat) (r':B6) (o':Oper),rs[j]?=some r'->l[j]?=some o'->o'.dst=some r'.d:=fun j r' o' h1 h2=>(hst j r' o' h1 h2).dst
 have hop:∀j,j<rs.length->∃o',l[j]?=some o':=fun j hj=>⟨_,List.getElem?_eq_getElem zo⟩
 have hlook:∀t,t∈o.looksAt l.toArray->∀b k,look (sl S (rs.take i)) t=some (b,k)->T1 g (a.tmps.getD t undef) b k:=by
  intro t ht b k hl
  have hlate:∀(i':Nat) (r':B6),i<i'->Ld listed i'->rs[i']?=some r'->r'.d≠t:=fun i' r' hii hli hr' hdt=>by
   obtain ⟨o',ho'⟩:=hop i' (List.getElem?_eq_some_iff.1 hr').1
   rcases hd.pair i i' o o' hii ho ho' with hp | ⟨_,hp⟩
   ·exact hnl (h.clo i' i hli hp)
   ·exact hp t (by rw[hdst i' r' o' hr' ho',hdt]) ht
  rcases TB _ hl with ⟨h1,h2⟩ | ⟨j,r',h1,h2,h3,h4,h5⟩
  ·have hb:=h.base t (fun i' r' hli hr' hdt=>by
    rcases Nat.lt_trichotomy i' i with hlt | rfl | hlt
    ·exact h2 r' (List.mem_iff_getElem?.2 ⟨i',by rw[List.getElem?_take,if_pos hlt]; exact hr'⟩) hdt
    ·exact hnl hli
    ·exact hlate i' r' hlt hli hr' hdt)
   rw[hb]
   obtain ⟨e,he,_,_,rfl⟩:=ED h1
   exact (hs.slots t b _ h1).on h.le (hs.sdep e he).1 (fun u hu=>by obtain ⟨x,hx⟩:=hs.conts.tag ((hs.sdep e he).2 u hu); rw[hx]; simp)
  ·rw[List.getElem?_take] at h1
   split at h1
   case isFalse=>cases h1
   rename_i hji
   subst h2 h3 h4
   obtain ⟨oj,hoj⟩:=hop j (List.getElem?_eq_some_iff.1 h1).1
   have hjl:Ld listed j:=by
    rcases hd.pair j i oj o hji hoj ho with hp | ⟨hp,_⟩
    ·exact h.clo.ready ho hr hp
    ·exact absurd ht (hp _ (hdst j r' oj h1 hoj)).1
   refine h.cur j r' h1 hjl (fun i' r'' hlt hli hr'' hdt=>?_)
   rcases Nat.lt_trichotomy i' i with hlt' | rfl | hlt'
   ·exact h5 i' r'' hlt (by rw[List.getElem?_take,if_pos hlt']; exact hr'') hdt
   ·exact hnl hli
   ·exact hlate i' r'' hlt' hli hr'' hdt
 have hops:IJ (sl S (rs.take i)) o a g:=by
  intro x hx b k hxk hb
  cases x with
  | tmp t=>exact (hlook t (List.mem_append.2 (.inl (List.mem_filterMap.2 ⟨.tmp t,by simpa using hx,rfl⟩))) b k hxk).1 hb
  | const v=>cases hxk; rfl
  | global v=>cases hxk; rfl
  | func v=>cases hxk; rfl
 have hfresh:∀e,r.new=some e->g.M e.t=none:=fun e he=>by
  cases hg:g.M e.t with
  | none=>rfl
  | some b =>
   rcases h.dom e.t (by rw[hg]; simp) with h1 | ⟨j,r',e',hj,hr',he',ht⟩
   ·exact absurd (hs.dom _ h1) (hnews.fresh i r e hri he)
   ·have:=hnews.uniq j i r' r e' e hr' hri he' he ht
    subst this
    exact absurd hj hnl
 have hlt:=st.lt
 have next:∀{v:Value} {g':Gh} {w':World},T1 g' v r.p r.k->g.le g'->Ok c g' w'->Below w.heap.size w w'->(∀e,r.new=some e->∃b,g'.M e.t=some b/\e.c g' b (World.objAt w' b))->(∀t,(∀e,r.new=some e->e.t≠t)->g'.M t=g.M t) ->
   BJ l c M rs a0 g0 w1 (listed.setIfInBounds i true) (a.put o.dst v) g' w':=by
  intro v g' w' hk hle hok hbel hmade hold
  rw[st.dst]
  have hsz:r.d<a.tmps.size:=by rw[h.size]; exact hlt
  refine ⟨by simpa using h.sz,hok,Gh.le_trans h.le hle,?_,h.clo.set hilst ho hr,fun j hj=>?_,h.defers,by simp[Act.put,h.size],fun t ht=>?_,fun j r' hr' hj hlat=>?_,fun j r' e hj hr' he=>?_,fun t ht=>?_⟩
  ·exact h.bel.trans (hbel.mono h.bel.size)
  ·rw[Ld.set hilst] at hj
   rcases hj with rfl | hj
   ·omega
   ·exact h.low j hj
  ·have hne:r.d≠t:=ht i r ((Ld.set hilst).2 (.inl rfl)) hri
   rw[MN hne]
   exact h.base t (fun j r' hj hr'=>ht j r' ((Ld.set hilst).2 (.inr hj)) hr')
  ·rw[Ld.set hilst] at hj
   by_cases hdd:r.d=r'.d
   ·rcases hj with rfl | hj
    ·rw[hri] at hr'; cases hr'
     rw[WH hsz]; exact hk
    ·-- an elder writer of the same slot: it is not the last one
     rcases Nat.lt_trichotomy j i with hlt' | rfl | hlt'
     ·exact absurd hdd (hlat i r hlt' ((Ld.set hilst).2 (.inl rfl)) hri)
     ·exact absurd hj hnl
     ·obtain ⟨oj,hoj⟩:=hop j (List.getElem?_eq_some_iff.1 hr').1
      rcases hd.pair i j o oj hlt' ho hoj with hp | ⟨hp,_⟩
      ·exact absurd (h.clo j i hj hp) hnl
      ·exact absurd (by rw[hdst j r' oj hr' hoj,hdd]) (hp _ st.dst).2
   ·rcases hj with rfl | hj
    ·rw[hri] at hr'; cases hr'; exact absurd rfl hdd
    ·rw[MN hdd]
     refine (h.cur j r' hr' hj (fun i' r'' hlt' hli hr''=>hlat i' r'' hlt' ((Ld.set hilst).2 (.inr hli)) hr'')).on' hle (hst j r' _ hr' (List.getElem?_eq_getElem (by have:=(List.getElem?_eq_some_iff.1 hr').1; omega))).kd (fun t ht hkv=>?_)
     rcases (hst j r' _ hr' (List.getElem?_eq_getElem (by have:=(List.getElem?_eq_some_iff.1 hr').1; omega))).dep t ht with hdep | ⟨_,hhas⟩
     rotate_left
     ·exact hhas.has hkv
     cases hn:r'.new with
     | none=>rw[hn] at hdep; obtain ⟨x,hx⟩:=hcM.tag hdep; rw[hx]; simp
     | some e =>
      rw[hn] at hdep
      rcases List.mem_cons.1 hdep with rfl | hdep
      ·obtain ⟨x,hx,_⟩:=h.made j r' e hj hr' hn; rw[hx]; simp
      ·obtain ⟨x,hx⟩:=hcM.tag hdep; rw[hx]; simp
  ·rw[Ld.set hilst] at hj
   rcases hj with rfl | hj
   ·rw[hri] at hr'; cases hr'; exact hmade e he
   ·obtain ⟨b,h1,h2⟩:=h.made j r' e hj hr' he
    refine ⟨b,hle.2 _ _ h1,?_⟩
    rw[RQ hbel (fun x cap hx=>by subst hx; exact (h.ok.own _ _ _ h1).2.1)]
    have hnew:=(hst j r' _ hr' (List.getElem?_eq_getElem (by have:=(List.getElem?_eq_some_iff.1 hr').1; omega))).new e he
    exact hnew.1.dep hle.1 (fun t ht=>by
     rcases List.mem_cons.1 (hnew.2.1 t ht) with rfl | ht'
     ·rw[h1]; exact hle.2 _ _ h1
     ·obtain ⟨x,hx⟩:=hcM.tag ht'; rw[hx]; exact hle.2 _ _ hx) h2
  ·by_cases hx:∃e,r.new=some e/\e.t=t
   ·obtain ⟨e,he,rfl⟩:=hx
    exact .inr ⟨i,r,e,(Ld.set hilst).2 (.inl rfl),hri,he,rfl⟩
   ·rw[hold t (fun e he ht'=>hx ⟨e,he,ht'⟩)] at ht
    rcases h.dom t ht with h1 | ⟨j,r',e,hj,hr',he,ht'⟩
    ·exact .inl h1
    ·exact .inr ⟨j,r',e,(Ld.set hilst).2 (.inr hj),hr',he,ht'⟩
 have didn:∀{v:Value} {g':Gh} {w':World},r.p=true->H2 c r.k r.new g g' w w' v->BJ l c M rs a0 g0 w1 (listed.setIfInBounds i true) (a.put o.dst v) g' w':=fun hp hd =>
  next ⟨fun _=>hd.k,fun hf=>(by rw[hp] at hf; cases hf)⟩ hd.le hd.ok hd.bel hd.made hd.old
 unfold wpOp
 rw[List.getElem?_toArray,ho]
 simp only
 rcases st.gd with ⟨hg,hp⟩ | ⟨hn,j,want,e,s,b0,hg,hj,hl,hp⟩
 ·rw[if_pos (by simp[Region.wanted,hg])]
  refine .inl (Oper.wp_on (st.ok hp a g w h.ok hcM hops hfresh) ?_)
  rintro a' w' ⟨v,g',rfl,hdid⟩
  exact hK _ _ _ (didn hp hdid)
 ·have hj':(l[j]?.bind fun x=>x.dst)=some s:=by simpa using hj
  have hsl:T1 g (a.tmps.getD s undef) b0 (kB e):=hlook s (List.mem_append.2 (.inr (by rw[hg]; simp[hj']))) _ _ hl
  have hwant:Region.wanted o (yielded l.toArray a.tmps)=r.p:=(aB hg hj hsl).trans hp
  rw[hwant]
  cases hpp:r.p with
  | false =>
   simp only[Bool.false_eq_true,if_false]
   refine hK _ _ _ (next ⟨fun hf=>(by rw[hpp] at hf; cases hf),fun _=>rfl⟩ (Gh.le_refl _) h.ok (Below.refl _ _) (fun e he=>(by rw[hn] at he; cases he)) (fun _ _=>rfl))
  | true =>
   simp only[if_true]
   refine .inl (Oper.wp_on (st.ok hpp a g w h.ok hcM hops hfresh) ?_)
   rintro a' w' ⟨v,g',rfl,hdid⟩
   exact hK _ _ _ (didn hpp hdid)
theorem mC {M:i1} {rs:List B6} (i:Nat) {t:Nat} (h:t∈tags (cl M (rs.take i))):t∈tags (cl M rs):=by
 obtain ⟨e,he,rfl⟩:=List.mem_map.1 h
 refine List.mem_map.2 ⟨e,?_,rfl⟩
 rcases (V6 _).1 he with he | ⟨j,r,hr,hn⟩
 ·exact (V6 rs).2 (.inl he)
 ·refine (V6 rs).2 (.inr ⟨j,r,?_,hn⟩)
  rw[List.getElem?_take] at hr
  split at hr
  ·exact hr
  ·cases hr
theorem BJ.sat (hst:∀i r o,rs[i]?=some r->l[i]?=some o->V3 P c l.toArray M (sl S (rs.take i)) (cl M (rs.take i)) o r) (hml:rs.length<=l.length) (hs:l8 c S M a0 g0 w1) {listed:Array Bool} {a:Act} {g:Gh} {w:World} (h:BJ l c M rs a0 g0 w1 listed a g w) (hall:∀i,i<rs.length->Ld listed i) :
  l8 c (sl S rs) (cl M rs) a g w:=by
 have hst':∀(i:Nat) (r:B6),rs[i]?=some r->∃o,V3 P c l.toArray M (sl S (rs.take i)) (cl M (rs.take i)) o r:=fun i r hr =>
  ⟨_,hst i r _ hr (List.getElem?_eq_getElem (by have:=(List.getElem?_eq_some_iff.1 hr).1; omega))⟩
 have hld:∀(i:Nat) (r:B6),rs[i]?=some r->Ld listed i:=fun i r hr=>hall i (List.getElem?_eq_some_iff.1 hr).1
 have htags:∀t∈tags M,t∈tags (cl M rs):=fun t ht=>by
  obtain ⟨e,he,rfl⟩:=List.mem_map.1 ht
  exact List.mem_map.2 ⟨e,(V6 rs).2 (.inl he),rfl⟩
 have htagn:∀(i:Nat) (r:B6) (e:CE),rs[i]?=some r->r.new=some e->e.t∈tags (cl M rs):=fun i r e hr he=>List.mem_map.2 ⟨e,(V6 rs).2 (.inr ⟨i,r,hr,he⟩),rfl⟩
 refine ⟨h.ok,?_,?_,?_,?_,?_,?_,by rw[h.defers]; exact hs.defers.below h.bel,h.size⟩
 ·intro t b k hl
  rcases TB _ hl with ⟨h1,h2⟩ | ⟨i,r,h1,h2,h3,h4,h5⟩
  ·rw[h.base t (fun i r _ hr=>h2 r (List.mem_of_getElem? hr))]
   obtain ⟨e,he,_,_,rfl⟩:=ED h1
   exact (hs.slots t b _ h1).on h.le (hs.sdep e he).1 (fun u hu=>by obtain ⟨x,hx⟩:=hs.conts.tag ((hs.sdep e he).2 u hu); rw[hx]; simp)
  ·subst h2 h3 h4
   exact h.cur i r h1 (hld i r h1) (fun i' r' hlt _ hr'=>h5 i' r' hlt hr')
 ·intro e he
  rcases (V6 rs).1 he with he | ⟨i,r,hr,hn⟩
  ·exact hs.conts.on hs.conts hs.cdep hs.ok h.le h.bel e he
  ·exact h.made i r e (hld i r hr) hr hn
 ·intro t ht
  rcases h.dom t ht with h1 | ⟨i,r,e,_,hr,he,rfl⟩
  ·exact htags t (hs.dom t h1)
  ·exact htagn i r e hr he
 ·-- the tags are unlike
  have key:∀n,n<=rs.length->(tags (cl M (rs.take n))).Nodup:=by
   intro n
   induction n with
   | zero=>intro _; exact hs.nodup
   | succ n ih =>
    intro hn
    have hr:=List.getElem?_eq_getElem (l:=rs) (i:=n) zo
    rw[List.take_succ_eq_append_getElem zo]
    simp only[cl,List.foldl_append,List.foldl_cons,List.foldl_nil]
    have ih':=ih zo
    cases hnew:rs[n].new with
    | none=>simpa [T6,cl] using ih'
    | some e =>
     simp only[T6,tags,List.map_cons]
     obtain ⟨o,st⟩:=hst' n _ hr
     exact List.nodup_cons.2 ⟨(st.new e hnew).2.2,ih'⟩
  have:=key rs.length (Nat.le_refl _)
  rwa [List.take_length] at this
 ·intro e he
  have:∀(rs':List B6),e∈sl S rs'->e∈S\/∃r∈rs',e=r.se:=by
   intro rs'
   induction rs' using TC with
   | h0=>exact fun h=>.inl h
   | h1 rs' r ih =>
    intro h
    simp only[sl,List.foldl_append,List.foldl_cons,List.foldl_nil] at h
    rcases List.mem_cons.1 h with rfl | h
    ·exact .inr ⟨r,by simp,rfl⟩
    ·exact (ih h).imp id fun ⟨x,hx,he⟩=>⟨x,List.mem_append.2 (.inl hx),he⟩
  rcases this rs he with he | ⟨r,hr,rfl⟩
  ·exact ⟨(hs.sdep e he).1,fun t ht=>htags t ((hs.sdep e he).2 t ht)⟩
  ·obtain ⟨i,hi⟩:=List.mem_iff_getElem?.1 hr
   obtain ⟨o,st⟩:=hst' i r hi
   refine ⟨st.kd,fun t ht=>?_⟩
   rcases st.dep t ht with hd | ⟨hd,_⟩
   rotate_left
   ·exact mC i hd
   cases hn:r.new with
   | none=>rw[hn] at hd; exact htags t hd
   | some x =>
    rw[hn] at hd
    rcases List.mem_cons.1 hd with rfl | hd
    ·exact htagn i r x hi hn
    ·exact htags t hd
 ·intro e he
  rcases (V6 rs).1 he with he | ⟨i,r,hr,hn⟩
  ·exact ⟨(hs.cdep e he).1,fun t ht=>htags t ((hs.cdep e he).2 t ht)⟩
  ·obtain ⟨o,st⟩:=hst' i r hr
   refine ⟨(st.new e hn).1,fun t ht=>?_⟩
   rcases List.mem_cons.1 ((st.new e hn).2.1 t ht) with rfl | ht'
   ·exact htagn i r e hr hn
   ·exact htags t ht'
theorem l8.drew {a:Act} {g:Gh} {w:World} (h:l8 c S M a g w):l8 c S M a g w.drew :=
 ⟨⟨⟨h.ok.bel.os,h.ok.bel.tape,h.ok.bel.output,h.ok.bel.size,h.ok.bel.block,Nat.le_trans h.ok.bel.drawn (DZ _)⟩,h.ok.jle,h.ok.jold,h.ok.im,h.ok.own,h.ok.inj⟩,h.slots,fun e he=>by
  obtain ⟨b,h1,h2⟩:=h.conts e he
  exact ⟨b,h1,by cases b<;>exact h2⟩,h.dom,h.nodup,h.sdep,h.cdep,h.defers,h.size⟩
theorem eM (hst:∀i r o,rs[i]?=some r->l[i]?=some o->V3 P c l.toArray M (sl S (rs.take i)) (cl M (rs.take i)) o r) (hml:rs.length<=l.length):LJ M rs:=by

 have hin:∀(i:Nat) (r:B6),rs[i]?=some r->∃o,V3 P c l.toArray M (sl S (rs.take i)) (cl M (rs.take i)) o r:=fun i r hr =>
  ⟨_,hst i r _ hr (List.getElem?_eq_getElem (by have:=(List.getElem?_eq_some_iff.1 hr).1; omega))⟩
 have hlt:∀(i j:Nat) (r r':B6) (e e':CE),i<j->rs[i]?=some r->rs[j]?=some r'->r.new=some e->r'.new=some e'->e.t≠e'.t:=fun i j r r' e e' hij hi hj he he' ht=>by
  obtain ⟨o,st⟩:=hin j r' hj
  refine (st.new e' he').2.2 (List.mem_map.2 ⟨e,(V6 _).2 (.inr ⟨i,r,?_,he⟩),ht⟩)
  rw[List.getElem?_take,if_pos hij]; exact hi
 refine ⟨fun i r e hr he ht=>?_,fun i j r r' e e' hi hj he he' ht=>?_⟩
 ·obtain ⟨o,st⟩:=hin i r hr
  obtain ⟨x,hx,hxt⟩:=List.mem_map.1 ht
  exact (st.new e he).2.2 (List.mem_map.2 ⟨x,(V6 _).2 (.inl hx),hxt⟩)
 ·rcases Nat.lt_trichotomy i j with hij | rfl | hij
  ·exact absurd ht (hlt i j r r' e e' hij hi hj he he')
  ·rfl
  ·exact absurd ht.symm (hlt j i r' r e' e hij hj hi he' he)
theorem eK {z:Nat} (hd:EW z l m) (hzm:z<=m) (hlen:rs.length=m) (hml:m<=l.length) (hst:∀i r o,rs[i]?=some r->l[i]?=some o->V3 P c l.toArray M (sl S (rs.take i)) (cl M (rs.take i)) o r) (htail:d5 P c l.toArray (sl S rs) (cl M rs) (l.drop m) Q)
  (hs:l8 c S M a0 g0 w1):∀(f:Nat) (listed:Array Bool) (a':Act) (g':Gh) (w':World),T4 listed<=f->(∀i,i<z->Ld listed i)->BJ l c M rs a0 g0 w1 listed a' g' w'->wpAny P .any l.toArray Q f listed a' w':=by
 have hnews:LJ M rs:=eM hst zo

 intro f
 induction f with
 | zero =>
  intro listed a' g' w' hf hzL hI
  have hall:∀i,i<l.length->Ld listed i:=fun i hi=>ZZ (Nat.le_zero.1 hf) (by rw[hI.sz]; exact hi)
  refine TQ hzm hd 0 l.length listed a' w' hI.sz (fun i=>⟨fun h=>by have:=h.lt; rw[hI.sz] at this; exact this,hall i⟩) hml (Nat.le_refl _) zo ?_
  have hml':rs.length=l.length:=by
   rcases Nat.lt_or_ge rs.length l.length with h' | h'
   ·have:=hI.low _ (hall rs.length h'); omega
   ·omega
  have:=htail a' g' w' (hI.sat hst zo hs (fun i hi=>hall i zo))
  rw[<- hlen,hml'] at this
  exact this
 | succ f ih =>
  intro listed a' g' w' hf hzL hI
  by_cases hall:∀i,i<m->Ld listed i
  ·have hsat:=hI.sat hst zo hs (fun i hi=>hall i zo)
   exact TQ hzm hd (f+1) m listed a' w' hI.sz (fun i=>⟨fun h=>by have:=hI.low i h; omega,hall i⟩) (Nat.le_refl _) hml (by
    have:T4 listed=l.length-m:=by
     have hsplit:∀k,k<=listed.size->(listed.toList.take k).countP (fun b=>!b)=k-min k m:=by
      intro k
      induction k with
      | zero=>simp
      | succ k ihk =>
       intro hk
       rw[List.take_succ_eq_append_getElem (by simp; omega),List.countP_append,ihk zo]
       by_cases hkm:k<m
       ·have h1:=hall k hkm
        unfold Ld at h1
        rw[Array.getElem?_eq_getElem zo] at h1
        simp only[Option.some.injEq] at h1
        simp[h1]; omega
       ·have h1:listed[k]=false:=by
         have h2:¬Ld listed k:=fun h=>by have:=hI.low k h; omega
         unfold Ld at h2
         rw[Array.getElem?_eq_getElem zo] at h2
         simpa using h2
        simp[h1]; omega
     have:=hsplit listed.size (Nat.le_refl _)
     rw[List.take_of_length_le (by simp)] at this
     unfold T4
     rw[this,hI.sz]; omega
    omega) (htail a' g' w' hsat)
  ·obtain ⟨q,hq⟩:=Classical.not_forall.1 hall
   have hqm:q<m:=Classical.byContradiction fun h=>hq (fun h'=>absurd h' h)
   have hql:¬Ld listed q:=fun h=>hq (fun _=>h)
   refine ⟨fun hr=>absurd (ST hd hI.sz hr q zo) hql,fun i hi=>?_⟩
   obtain ⟨hnl,o,ho,hr⟩:=(GB hI.sz).1 hi
   have hil:=(List.getElem?_eq_some_iff.1 ho).1
   have him:i<m:=Classical.byContradiction fun hge=>hql (hI.clo.ready ho hr (hd.tail q i zo hil zo (Nat.le_of_not_lt fun hqz=>hql (hzL q hqz))))
   refine hI.step hst hlen hml hd hnews hs hi him (fun a'' g'' w'' hI'=>ih _ a'' g'' w'' ?_ (fun x hx=>(Ld.set (by rw[hI.sz]; exact hil)).2 (.inr (hzL x hx))) hI')
   have:=TM (listed:=listed) (i:=i) (by rw[hI.sz]; exact hil) hnl
   omega
theorem Tr.draw {id:Nat} (m:Nat) (hm:P.follows .mixedOrders=true) (chk:PT l m=true) (h:i9 P c l.toArray Q M l m S M) (hr:LM c.rd l Q:=by first | exact .inl rfl | exact .inr ⟨rfl,fun ⟨_,_,h⟩=>(show False from h)⟩):Tr P c S M (.region id l.toArray true) Q:=by
 intro a g w hs0
 have hs:=hs0.drew
 obtain ⟨rs,hlen,hml,hst,htail⟩:=i9.recs h
 have hd:=IH.of chk
 refine NV hr hm (eK hd (Nat.zero_le _) hlen hml hst htail hs _ _ a g w.drew ?_ (fun _ h=>absurd h (Nat.not_lt_zero _)) ⟨by simp,hs.ok,Gh.le_refl _,Below.refl _ _,fun i j hi=>?_,fun i hi=>?_,rfl,hs.size,fun _ _=>rfl,fun i r hr hi=>?_,fun i r e hi=>?_,fun t ht=>.inl ht⟩)
 ·unfold T4
  refine Nat.le_trans (List.countP_le_length) ?_
  simp
 all_goals
  unfold Ld at hi
  rw[Array.getElem?_eq_some_iff] at hi
  obtain ⟨_,hi⟩:=hi
  simp at hi
variable {ops:Array Oper} {M0:i1} {rest:List Oper} {d:Nat} {oop:Op} {ty:TypeId} {pos:String} {af:Array Edge}
theorem i9.z (h:d5 P c ops S M rest Q):i9 P c ops Q M0 rest 0 S M:=by cases rest<;>exact h
theorem i9.op {k:d7} {dep:List Nat} (h:l4 P c S M0 ⟨some d,oop,ty,pos,af,none⟩ true k none) [hk:o5 k dep] (hs:t8 dep (tags M0)=true) (hn:Nat.blt d c.n=true)
  (K:i9 P c ops Q M0 rest m (⟨d,true,dep,k⟩::S) M):i9 P c ops Q M0 (⟨some d,oop,ty,pos,af,none⟩::rest) (m+1) S M :=
 ⟨⟨d,true,dep,k,none⟩,⟨rfl,h,hk,fun t ht=>.inl (C3 hs t ht),fun _ h=>(by cases h),by simpa [Nat.blt_eq] using hn,.inl ⟨rfl,rfl⟩⟩,K⟩
theorem i9.new {k:d7} {dep:List Nat} {t:Nat} {ct:t9} {cdep:List Nat} (h:l4 P c S M0 ⟨some d,oop,ty,pos,af,none⟩ true k (some ⟨t,cdep,ct⟩)) [hk:o5 k dep] [hc:B4 ct cdep]
  (hs:t8 dep (tags (⟨t,cdep,ct⟩::M0))=true) (hcs:t8 cdep (tags (⟨t,cdep,ct⟩::M0))=true) (hf:t8 [t] (tags M)=false) (hn:Nat.blt d c.n=true)
  (K:i9 P c ops Q M0 rest m (⟨d,true,dep,k⟩::S) (⟨t,cdep,ct⟩::M)):i9 P c ops Q M0 (⟨some d,oop,ty,pos,af,none⟩::rest) (m+1) S M :=
 ⟨⟨d,true,dep,k,some ⟨t,cdep,ct⟩⟩,⟨rfl,h,hk,fun t ht=>.inl (C3 hs t ht),fun e he=>(by
  cases he
  refine ⟨hc,C3 hcs,fun ht=>?_⟩
  have:t8 [t] (tags M)=true:=by
   simp only[t8,Bool.and_true]
   exact List.any_eq_true.2 ⟨t,ht,Nat.beq_refl t⟩
  rw[hf] at this; cases this),by simpa [Nat.blt_eq] using hn,.inl ⟨rfl,rfl⟩⟩,K⟩
theorem i9.gd {k:d7} {dep:List Nat} {j s:Nat} {want e p b0:Bool} (hj:(ops[j]?).bind (·.dst)=some s) (hl:look S s=some (b0,kB e)) (hp:(b0&&(e==want))=p)
  (h:l4 P c S M0 ⟨some d,oop,ty,pos,af,some (j,want)⟩ p k none) [hk:o5 k dep] (hs:t8 dep (tags M0)=true) (hn:Nat.blt d c.n=true)
  (K:i9 P c ops Q M0 rest m (⟨d,p,dep,k⟩::S) M):i9 P c ops Q M0 (⟨some d,oop,ty,pos,af,some (j,want)⟩::rest) (m+1) S M :=
 ⟨⟨d,p,dep,k,none⟩,⟨rfl,h,hk,fun t ht=>.inl (C3 hs t ht),fun _ h=>(by cases h),by simpa [Nat.blt_eq] using hn,.inr ⟨rfl,j,want,e,s,b0,rfl,hj,hl,hp⟩⟩,K⟩
end
end Go.Fl

/- Returns of several results, loops with what follows them: the forms that our printer uses. -/
namespace Go.Fl
open Go Go.RowKit
section
variable {P:Program} {c:n6} {S:i4} {M:i1} {Q:Exit->Act->World->Prop}
theorem Tr.norm {x:Code} {S':i4} {M':i1} (hS:S=S') (hM:M=M') (h:Tr P c S' M' x Q):Tr P c S M x Q:=by subst hS hM; exact h
theorem d5.norm {ops:Array Oper} {rest:List Oper} {S':i4} {M':i1} (hS:S=S') (hM:M=M') (h:d5 P c ops S' M' rest Q):d5 P c ops S M rest Q:=by subst hS hM; exact h
theorem E4.o {M':i1} {S':i4} {s t m n:Nat} (hl:look S s=some (true,o9 t m)) (he:m=n) (hs:t8 [t] (tags M')=true) (r:E4 S M S' M'):E4 S M (⟨s,true,[t],o9 t n⟩::S') M' :=
 r.conv hl rfl (fun _ _ h=>by subst he; exact h) hs
theorem l8.grow {a:Act} {g:Gh} {w:World} (h:l8 c S M a g w) {s:Nat} {cp:Nat} (hl:look S s=some (true,j4 (.slice none 0 cp))) (hcp:cp=0) (u:Nat) (hf:t8 [u] (tags M)=false) {α:Type} (et:TypeId) (e:i8 α) (hn:s<c.n) :
  ∃g',l8 c (⟨s,true,[u],o9 u 0⟩::S) (⟨u,[],l5 true et e [] 0⟩::M) a g' w:=by
 have hfresh:u∉tags M:=by
  intro ht
  have:t8 [u] (tags M)=true:=by
   simp only[t8,Bool.and_true]
   exact List.any_eq_true.2 ⟨u,ht,Nat.beq_refl u⟩
  rw[hf] at this; cases this
 have hnone:g.M u=none:=by
  cases hm:g.M u with
  | none=>rfl
  | some b=>exact absurd (h.dom u (by rw[hm]; simp)) hfresh
 have hle:g.le (g.add u .nil):=⟨JV.le_refl _,fun t b hb=>by
  simp only[Gh.add]
  by_cases ht:t=u
  ·subst ht; rw[hnone] at hb; cases hb
  ·rw[if_neg ht]; exact hb⟩
 have hv:a.tmps.getD s undef=.slice none 0 0:=by have:=(h.slots s _ _ hl).1 rfl; rw[hcp] at this; exact this
 have hblk:∀t b cap,(g.add u .nil).M t=some (.blk b cap)->g.M t=some (.blk b cap):=fun t b cap ht=>by
  simp only[Gh.add] at ht
  by_cases e:t=u
  ·rw[if_pos e] at ht; cases ht
  ·rw[if_neg e] at ht; exact ht
 have hd:H2 c (o9 u 0) (some ⟨u,[],l5 true et e [] 0⟩) g (g.add u .nil) w w (.slice none 0 0):=by
  refine ⟨.inl ⟨Gh.add_same _ _ _,rfl,rfl⟩,hle,⟨h.ok.bel,h.ok.jle,h.ok.jold,h.ok.im,fun t b cap ht=>h.ok.own t b cap (hblk _ _ _ ht),fun t t' b c1 c2 h1 h2=>h.ok.inj t t' b c1 c2 (hblk _ _ _ h1) (hblk _ _ _ h2)⟩,Below.refl _ _,fun x hx=>?_,fun t ht=>?_⟩
  ·cases hx; exact ⟨_,Gh.add_same _ _ _,rfl,rfl⟩
  ·simp only[Gh.add]; rw[if_neg (fun e'=>ht _ rfl e'.symm)]
 have:=h.did (new:=some ⟨u,[],l5 true et e [] 0⟩) hd (fun x hx=>by cases hx; exact ⟨inferInstance,fun _ h=>(by cases h),hfresh⟩) (dep:=[u]) inferInstance (fun t ht=>by simp at ht; subst ht; exact List.mem_cons_self) hn
 refine ⟨g.add u .nil,?_⟩
 have ha:a.put (some s) (.slice none 0 0)=a:=by
  cases a with
  | mk tmps defers =>
   simp only[Act.put,Act.mk.injEq,and_true]
   simp only at hv
   apply Array.ext_getElem?
   intro i
   by_cases hi:s=i
   ·subst hi
    have hlt:s<tmps.size:=by have:=h.size; simp only at this; omega
    rw[Array.getElem?_setIfInBounds_self_of_lt hlt]
    rw[Array.getD_eq_getD_getElem?,Array.getElem?_eq_getElem hlt] at hv
    rw[Array.getElem?_eq_getElem hlt]
    simp at hv; rw[hv]
   ·rw[Array.getElem?_setIfInBounds_ne hi]
 rw[ha] at this
 exact this
theorem Tr.grow {x:Code} {s cp:Nat} (hl:look S s=some (true,j4 (.slice none 0 cp))) (hcp:cp=0) (u:Nat) (hf:t8 [u] (tags M)=false) {α:Type} (et:TypeId) (e:i8 α) (hn:Nat.blt s c.n=true)
  (K:Tr P c (⟨s,true,[u],o9 u 0⟩::S) (⟨u,[],l5 true et e [] 0⟩::M) x Q):Tr P c S M x Q:=fun a _ w hs=>let ⟨g',hs'⟩:=hs.grow hl hcp u hf et e (by simpa [Nat.blt_eq] using hn); K a g' w hs'
theorem Tr.for {body y:Code} {id:Nat} {σ:Type} (U:i4) (V:i1) (I:σ->i4) (J:σ->i1) (R E:σ->Prop) (μ:σ->Nat) (s0:σ) (h0:R s0) (he:d6 c S M (I s0++U) (J s0++V))
  (round:∀s,R s->Tr P c (I s++U) (J s++V) body (Exit.then (OC c (fun s=>I s++U) (fun s=>J s++V) R μ s) (Exit.inBlock id (Exit.then (LG c (fun s=>I s++U) (fun s=>J s++V) E) Q))))
  (rest:∀s,E s->Tr P c (I s++U) (J s++V) y Q):Tr P c S M (.seq (.block id (.loop body)) y) Q :=
 Tr.cut (fun s=>I s++U) (fun s=>J s++V) E (Tr.blk (Tr.loop (fun s=>I s++U) (fun s=>J s++V) R μ s0 h0 he round)) rest
theorem Tr.for1 {body:Code} {id:Nat} {σ:Type} (U:i4) (V:i1) (I:σ->i4) (J:σ->i1) (R E:σ->Prop) (μ:σ->Nat) (s0:σ) (h0:R s0) (he:d6 c S M (I s0++U) (J s0++V))
  (round:∀s,R s->Tr P c (I s++U) (J s++V) body (Exit.then (OC c (fun s=>I s++U) (fun s=>J s++V) R μ s) (Exit.inBlock id (Exit.then (LG c (fun s=>I s++U) (fun s=>J s++V) E) Q))))
  (rest:∀s,E s->d9 c (I s++U) (J s++V) Q):Tr P c S M (.block id (.loop body)) Q:=by
 intro a g w hs
 refine wpIn_block (wpIn_mono (Tr.loop (fun s=>I s++U) (fun s=>J s++V) R μ s0 h0 he round a g w hs) fun e a' w' hq=>?_)
 cases e with
 | normal=>obtain ⟨s,hE,g',h'⟩:=hq; exact rest s hE a' g' w' h'
 | exit id' =>
  simp only[Exit.then,Exit.inBlock] at hq ⊢
  by_cases h:id'=id
  ·rw[if_pos h] at hq ⊢; obtain ⟨s,hE,g',h'⟩:=hq; exact rest s hE a' g' w' h'
  ·rw[if_neg h] at hq ⊢; exact hq
 | goto l=>exact hq
 | ret=>exact hq
 | panic ch=>exact hq
 | outgrown=>exact hq
theorem d9.norm {S':i4} {M':i1} (hS:S=S') (hM:M=M') (h:d9 c S' M' Q):d9 c S M Q:=by subst hS hM; exact h
end
inductive F1 (S:i4):List Nat->List d7->Prop
 | nil:F1 S [] []
 | cons {t:Nat} {ts:List Nat} {k0 k:d7} {ks:List d7} (hl:look S t=some (true,k0)) (hc:∀(g:Gh) (v:Value),k0 g v->k ⟨g.J,y9⟩ v) (r:F1 S ts ks):F1 S (t::ts) (k::ks)
section
variable {S:i4} {t:Nat} {ts:List Nat} {ks:List d7}
theorem F1.k {k:d7} (hl:look S t=some (true,k)) [hk:o5 k []] (r:F1 S ts ks):F1 S (t::ts) (k::ks):=.cons hl (fun g v h=>hk.dep (g:=g) (g':=⟨g.J,y9⟩) (JV.le_refl _) (fun _ h=>by cases h) h) r
theorem F1.b {x y:Bool} (hl:look S t=some (true,kB x)) (he:x=y) (r:F1 S ts ks):F1 S (t::ts) (kB y::ks):=.cons hl (fun _ _ h=>by subst he; exact h) r
theorem F1.i {k:IntKind} {x y:Int} (hl:look S t=some (true,z9 k x)) (he:x=y) (r:F1 S ts ks):F1 S (t::ts) (z9 k y::ks):=.cons hl (fun _ _ h=>by subst he; exact h) r
theorem F1.r {α:Type} {e:i8 α} {x y:α} (hl:look S t=some (true,b8 e x)) (he:x=y) (r:F1 S ts ks):F1 S (t::ts) (b8 e y::ks):=.cons hl (fun _ _ h=>by subst he; exact h) r
theorem F1.p {α:Type} {e:i8 α} {x y:α} (hl:look S t=some (true,r7 e x)) (he:x=y) (r:F1 S ts ks):F1 S (t::ts) (r7 e y::ks):=.cons hl (fun _ _ h=>by subst he; exact h) r
theorem F1.n {α:Type} {e:i8 α} {y:List α} {cp:Nat} (hl:look S t=some (true,j4 (.slice none 0 cp))) (he:[]=y) (r:F1 S ts ks):F1 S (t::ts) (b8 (eL e) y::ks):=.cons hl (fun _ _ h=>by subst he; exact ⟨_,Y1 (c:=cp),h⟩) r
theorem F1.holds {a:Act} {g:Gh} (hs:V2 S a g):∀{ts:List Nat} {ks:List d7},F1 S ts ks->n9 ⟨g.J,y9⟩ ks (ts.map fun t=>a.tmps.getD t undef)
 | [],[],_=>trivial
 | _::_,_::_,.cons hl hc r=>⟨hc g _ ((hs _ _ _ hl).1 rfl),F1.holds hs r⟩
variable {P:Program} {n:Nat} {w0:World} {J0:JV} {M:i1} {fn:Func}
theorem g6.res1 {k:d7} (hr:fn.results=#[.tmp t]) (h:F1 S [t] [k]):g6 ⟨w0,J0,[],n,none,false,[]⟩ S M (bodyPost P fn (DP w0 J0 k)):=by
 intro a g w hs
 refine ⟨hs.defers.1,_,results_tmp hr _ _ _,_,g.J,rfl,⟨hs.ok.bel.os,hs.ok.bel.tape,hs.ok.bel.output,hs.ok.bel.size,fun k hk=>hs.ok.bel.block k hk (by simp),hs.ok.bel.drawn⟩,hs.ok.jle,hs.ok.jold,hs.ok.im,?_⟩
 exact (h.holds hs.slots).1
theorem ad3 {P:Program} {fn:Func} {ts:List Nat} (h:fn.results=(ts.map ResultVar.tmp).toArray) (hl:(Nat.blt 1 ts.length&&Nat.blt ts.length 7)=true) (tmps:Array Value) (w:World):(results fn tmps).run P w=.ok (.tuple (ts.map fun t=>tmps.getD t undef).toArray) w:=by
 match ts,hl with
 | [a,b],_=>simp[results,h]
 | [a,b,c],_=>simp[results,h]
 | [a,b,c,d],_=>simp[results,h]
 | [a,b,c,d,e],_=>simp[results,h]
 | [a,b,c,d,e,f],_=>simp[results,h]
theorem g6.res {ts:List Nat} {ks:List d7} (hr:fn.results=(ts.map ResultVar.tmp).toArray) (hl:(Nat.blt 1 ts.length&&Nat.blt ts.length 7)=true) (h:F1 S ts ks):g6 ⟨w0,J0,[],n,none,false,[]⟩ S M (bodyPost P fn (DP w0 J0 (z6 ks))):=by
 intro a g w hs
 refine ⟨hs.defers.1,_,ad3 hr hl _ _,_,g.J,rfl,⟨hs.ok.bel.os,hs.ok.bel.tape,hs.ok.bel.output,hs.ok.bel.size,fun k hk=>hs.ok.bel.block k hk (by simp),hs.ok.bel.drawn⟩,hs.ok.jle,hs.ok.jold,hs.ok.im,?_⟩
 exact ⟨_,rfl,h.holds hs.slots⟩
end
theorem S4 {α:Type} {e:i8 α} {xs:List α} {g:Gh} {v:Value} (h:b8 (eL e) xs g v):xs.length<=281474976710656:=by
 obtain ⟨cs,⟨_,_,_,h2,_⟩,_⟩:=h
 exact h2.1
end Go.Fl

/- More laws: knowledge under a condition, nil slices, arrays, freezing what a struct holds. -/
namespace Go.Fl
open Go Go.RowKit

section
variable {P:Program} {c:n6} {S:i4} {M:i1} {Q:Exit->Act->World->Prop}
theorem Tr.re {x:Code} {s:Nat} {k k':d7} {dep:List Nat} (hl:look S s=some (true,k)) (hc:∀g v,k g v->k' g v) [hk:o5 k' dep] (hs:t8 dep (tags M)=true) (K:Tr P c (⟨s,true,dep,k'⟩::S) M x Q):Tr P c S M x Q:=fun a g w h =>
 K a g w ⟨h.ok,fun t b k0 hl'=>by
  simp only[look] at hl'
  cases hb:Nat.beq s t with
  | true =>
   rw[hb] at hl'
   simp only[cond_true,Option.some.injEq,Prod.mk.injEq] at hl'
   obtain ⟨rfl,rfl⟩:=hl'
   rw[<- Nat.eq_of_beq_eq_true hb]
   exact ⟨fun _=>hc _ _ ((h.slots s _ _ hl).1 rfl),fun hf=>by cases hf⟩
  | false =>
   rw[hb] at hl'
   exact h.slots t b k0 hl',h.conts,h.dom,h.nodup,fun e he=>by
  rcases List.mem_cons.1 he with rfl | he
  ·exact ⟨hk,C3 hs⟩
  ·exact h.sdep e he,h.cdep,h.defers,h.size⟩
end
section
variable {P:Program} {c:n6} {S:i4} {M:i1} {p:Bool} {d:Option Tmp} {ty:TypeId} {pos:String} {af:Array Edge} {gd:Option (Nat×Bool)}
variable {x y:Operand} {b b':Bool}
class aF {α:Type} (ks:List d7) (e:i8 α) (xs:outParam (List α)):Prop where
 imp:∀{g:Gh} {cs:List Value},n9 g ks cs->∀i x,xs[i]?=some x->∃ds,e.rd g.J ds x/\∀j v,ds[j]?=some v->cs[i*e.n+j]?=some v
class AO (P:Program) (t:TypeId) (n:outParam Nat) (et:outParam TypeId):Prop where
 h:P.underlying t=some (.array n et)
theorem yN {t et:TypeId} {n:Nat} [ht:AO P t n et] {sz by':Nat} {zz:Value} [hsz:p6 P et sz by' zz] {zs:List d7} [hz:D4 P t zs] {parts:List (Nat×Operand)} {ks:List d7} (h:p=true->X2 S (fun i=>some (i*sz,sz)) parts zs ks) :
  l4 P c S M ⟨d,.build t parts.toArray,ty,pos,af,gd⟩ p (H9 ks) none :=
 l4.pure fun hp a g w _ _ ho=>by
  obtain ⟨z,h1,h2⟩:=hz.h
  obtain ⟨ti,hi,rfl,_,_⟩:=hsz.h
  obtain ⟨cs,h3,h4⟩:=(h hp).fill (g:=g) (ρ:=a.eval) (fun y hy b k hk hb=>ho y.2 (by simp only[Op.operands]; simp; exact ⟨y.1,hy⟩) b k hk hb) (h2 g)
  refine ⟨.agg cs,?_,cs.toList,rfl,h4⟩
  have hmap:(parts.toArray.map fun (y:Nat×Operand)=>(y.1,a.eval y.2)).toList=parts.map fun y=>(y.1,a.eval y.2):=by simp
  have hs:∀w,(sizeOf et).run P w=.ok ti.size w:=fun w=>by simp[sizeOf,typeInfo,hi]
  have hb2:(Instr.build t (parts.toArray.map fun (y:Nat×Operand)=>(y.1,a.eval y.2))).run P w=.ok (.agg cs) w:=by
   simp only[Instr.build,Sem.run_bind,h1,Result.andThen_ok,run_underlying ht.h,hs,hmap,h3,Sem.run_pure]
  simp only[execOp,Sem.run_bind]
  rw[show (parts.toArray.map fun x:Nat×Operand=>match x with | (i,x)=>(i,a.eval x))=parts.toArray.map fun (y:Nat×Operand)=>(y.1,a.eval y.2) from rfl,hb2]
  rfl
end

theorem vE {c:n6} {g:Gh} {w:World} (hok:Ok c g w) {u len:Nat} {bk:Bk} (hm:g.M u=some bk) {α:Type} {zb:Bool} {et:TypeId} {e:i8 α} {xs:List α} (hct:l5 zb et e xs len g bk (World.objAt w bk)) (hlen:len<=p9) :
  ∃(cs:Array Value) (ty:TypeId),(∀b cap,bk=.blk b cap->w.heap[b]?=some (.cells cs ty (0,0)))/\∀x,o9 u len g x->b8 (eL e) xs (g.frz u bk cs) x:=by
 obtain ⟨h0,h1⟩:=hct
 cases bk with
 | nil =>
  subst h1
  have hxs:xs=[]:=List.eq_nil_of_length_eq_zero h0
  subst hxs
  refine ⟨#[],0,fun _ _ h=>(by cases h),fun x hx=>?_⟩
  rcases hx with ⟨_,_,hv⟩ | ⟨b,cap,hb,_⟩
  ·exact ⟨_,Y1,hv⟩
  ·rw[hm] at hb; cases hb
 | blk b cap =>
  obtain ⟨_,cs,h3,h4,h5,h6,h7⟩:=h1
  refine ⟨cs,et,fun b' cap' hb=>(by cases hb; exact h3),fun x hx=>?_⟩
  have hJ:g.J.le (g.J.with b cs):=JV.le_with (hok.own u b cap hm).2.2
  rcases hx with ⟨hb,_⟩ | ⟨b',cap',hb,hv⟩
  ·rw[hm] at hb; cases hb
  ·rw[hm] at hb; cases hb
   refine ⟨_,⟨some ⟨b,0,none⟩,cap,rfl,⟨by rw[h0]; exact hlen,by rw[h0]; exact h5⟩,.inr ⟨b,0,rfl,fun i x hx=>?_⟩⟩,by rw[h0]; exact hv⟩
   obtain ⟨ds,q1,q2⟩:=h7 i x hx
   refine ⟨ds,e.mono hJ q1,fun j v hj=>?_⟩
   show (g.J.with b cs) b (0+i*e.n+j)=some v
   unfold JV.with
   rw[if_pos rfl,Nat.zero_add]
   exact q2 j v hj
class GO (u len:Nat) (new:d7) (ks:List d7) (out:outParam (List d7)):Prop where
 hold:∀{g g':Gh} {vs:List Value},g.J.le g'.J->(∀t,t≠u->g'.M t=g.M t)->(∀v,o9 u len g v->new g' v)->n9 g ks vs->n9 g' out vs
instance {u len:Nat} {new:d7}:GO u len new [] []:=⟨fun {_ _ vs} _ _ _ h=>by cases vs<;>exact h⟩
instance (priority:=high) {u len:Nat} {new:d7} {ks out:List d7} [h:GO u len new ks out]:GO u len new (o9 u len::ks) (new::out):=⟨fun {_ _ vs} h1 h2 h3 hk=>by
 cases vs with
 | nil=>exact hk.elim
 | cons v vs=>exact ⟨h3 v hk.1,h.hold h1 h2 h3 hk.2⟩⟩
instance {u len:Nat} {new k:d7} {ks out:List d7} {d:List Nat} [hk:o5 k d] [hd:J8 d] [h:GO u len new ks out]:GO u len new (k::ks) (k::out):=⟨fun {_ _ vs} h1 h2 h3 hk'=>by
 cases vs with
 | nil=>exact hk'.elim
 | cons v vs=>exact ⟨hk.dep h1 (fun t ht=>by rw[hd.eq] at ht; cases ht) hk'.1,h.hold h1 h2 h3 hk'.2⟩⟩
theorem l8.frzC {n:Nat} {rd:Option Nat} {mrk:Bool} {om:List Nat} {w0:World} {J0:JV} {S:i4} {M M1 M':i1} {a:Act} {g:Gh} {w:World} (h:l8 ⟨w0,J0,[],n,rd,mrk,om⟩ S M a g w) {u v len:Nat} {α:Type} {zb:Bool} {et:TypeId} {e:i8 α} {xs:List α} {ks ks':List d7} {dep dep1 dep':List Nat}
  [hl:q7 M u (l5 zb et e xs len) dep] [hlv:q7 M v (j5 ks) dep1] [hf:GO u len (b8 (eL e) xs) ks ks'] [hd:B9 ks' dep'] [hup:D5 M v (j5 ks') dep' M1] [hdel:M6 M1 u M'] (hlen:len<=p9) (hnd:K5 u M'=true) (hds:t8 dep' (tags M')=true) :
  ∃g',l8 ⟨w0,J0,[],n,rd,mrk,om⟩ (H3 u S) M' a g' w:=by
 obtain ⟨bk,hm,hct⟩:=h.conts _ hl.mem
 simp only at hm
 obtain ⟨cs,ty,hb,hrd⟩:=vE h.ok hm hct hlen
 have hJ:=Gh.le_frz h.ok hm cs
 have hM:∀t,t≠u->(g.frz u bk cs).M t=g.M t:=fun t ht=>if_neg ht
 have hn1:(tags M1).Nodup:=by rw[hup.tags]; exact h.nodup
 obtain ⟨q1,q2,q3⟩:=hdel.mem hn1
 have htag:∀t,t∈tags M'↔t∈tags M/\t≠u:=fun t=>by rw[q3,hup.tags]
 have:=h.freezeG (M':=M') (ss:=[]) (k:=X6) (cs:=cs) (ty:=ty) hm hb htag q2 (fun x hx=>?_) inferInstance (fun _ h=>by cases h)
 ·exact ⟨_,this⟩
 obtain ⟨r1,r2⟩:=q1 x hx
 rcases hup.mem h.nodup x r1 with rfl | ⟨r3,r4⟩
 ·refine ⟨⟨_,hlv.mem,rfl,r2,fun b o _ ho=>?_⟩,inferInstance,C3 hds⟩
  obtain ⟨vs,vt,e1,e2⟩:=ho
  exact ⟨vs,vt,e1,hf.hold hJ hM hrd e2⟩
 ·refine ⟨⟨x,r3,rfl,r2,fun b o _ ho=>?_⟩,(h.cdep x r3).1,fun t ht=>(htag t).2 ⟨(h.cdep x r3).2 t ht,fun (e':t=u)=>KA hnd x hx (e'▸ht)⟩⟩
  exact (h.cdep x r3).1.dep (g:=g) hJ (fun t ht=>hM t (fun (e':t=u)=>KA hnd x hx (e'▸ht))) ho
def IU (S:i4) (u:Nat):List Nat->Prop
 | []=>True
 | s::r=>look S s=some (true,y5 u 0)/\IU S u r
theorem UF {S:i4} {u:Nat}:∀{ss:List Nat},IU S u ss->∀s∈ss,look S s=some (true,y5 u 0)
 | s::r,h,t,ht=>by
  rcases List.mem_cons.1 ht with rfl | ht
  ·exact h.1
  ·exact UF h.2 t ht
theorem l8.frzB {n:Nat} {rd:Option Nat} {mrk:Bool} {om:List Nat} {w0:World} {J0:JV} {S:i4} {M M':i1} {a:Act} {g:Gh} {w:World} (h:l8 ⟨w0,J0,[],n,rd,mrk,om⟩ S M a g w) {u:Nat} {α:Type} {e:i8 α} {x:α} {ks:List d7} {dep dep2:List Nat} {ss:List Nat} [hl:q7 M u (j5 ks) dep] [hr:t6 ks e x []] [hd:B9 ks dep2] [hdn:J8 dep2]
  (hss:IU S u ss) [hdel:M6 M u M'] (hnd:K5 u M=true):∃g',l8 ⟨w0,J0,[],n,rd,mrk,om⟩ (i4.setAll ss (r7 e x) (H3 u S)) M' a g' w:=by
 obtain ⟨bk,hm,cs,ty,ho,hk⟩:=h.conts _ hl.mem
 simp only at hm
 cases bk with
 | nil=>cases ho
 | blk b cap =>
  refine ⟨_,h.freeze (cs:=cs) (ty:=ty) hm (fun b' cap' hb=>by cases hb; exact ho) hdel hnd inferInstance (fun s hs=>?_)⟩
  have hJ:g.J.le (g.J.with b cs):=JV.le_with (h.ok.own u b cap hm).2.2
  obtain ⟨b',cap',hb,hv⟩:=(h.slots s _ _ (UF hss s hs)).1 rfl
  rw[hm] at hb; cases hb
  have hk':=hd.dep (g:=g) (g':=g.frz u (.blk b cap) cs) hJ (fun t ht=>by rw[hdn.eq] at ht; cases ht) hk
  refine ⟨b,0,cs.toList,hv,t6.whole (h:=hr) hk',fun j v hj=>?_⟩
  show (g.J.with b cs) b (0+j)=some v
  unfold JV.with
  rw[if_pos rfl,Nat.zero_add]
  simpa using hj
section
variable {P:Program} {n:Nat} {rd:Option Nat} {mrk:Bool} {om:List Nat} {w0:World} {J0:JV} {S:i4} {M M1 M':i1} {Q:Exit->Act->World->Prop}
theorem Tr.frzC {code:Code} (u v:Nat) {len:Nat} {α:Type} {zb:Bool} {et:TypeId} {e:i8 α} {xs:List α} {ks ks':List d7} {dep dep1 dep':List Nat}
  [hl:q7 M u (l5 zb et e xs len) dep] [hlv:q7 M v (j5 ks) dep1] [hf:GO u len (b8 (eL e) xs) ks ks'] [hd:B9 ks' dep'] [hup:D5 M v (j5 ks') dep' M1] [hdel:M6 M1 u M'] (hlen:len<=p9) (hnd:K5 u M'=true) (hds:t8 dep' (tags M')=true)
  (K:Tr P ⟨w0,J0,[],n,rd,mrk,om⟩ (H3 u S) M' code Q):Tr P ⟨w0,J0,[],n,rd,mrk,om⟩ S M code Q:=fun a _ w hs=>let ⟨g',hs'⟩:=hs.frzC (u:=u) (v:=v) hlen hnd hds; K a g' w hs'
theorem Tr.frzB {code:Code} (u:Nat) (ss:List Nat) {α:Type} (e:i8 α) {x:α} {ks:List d7} {dep dep2:List Nat} [hl:q7 M u (j5 ks) dep] [hr:t6 ks e x []] [hd:B9 ks dep2] [hdn:J8 dep2] (hss:IU S u ss) [hdel:M6 M u M'] (hnd:K5 u M=true)
  (K:Tr P ⟨w0,J0,[],n,rd,mrk,om⟩ (i4.setAll ss (r7 e x) (H3 u S)) M' code Q):Tr P ⟨w0,J0,[],n,rd,mrk,om⟩ S M code Q:=fun a _ w hs=>let ⟨g',hs'⟩:=hs.frzB (u:=u) (e:=e) (x:=x) hss hnd; K a g' w hs'
end
end Go.Fl

/- More laws: whether a list's slice is nil; what is known but for a boolean. -/
namespace Go.Fl
open Go Go.RowKit
def WW (q:Bool->Prop):d7:=fun _ v=>∃b,v=.bool b/\q b
instance {q:Bool->Prop}:o5 (WW q) []:=⟨fun _ _ h=>h⟩
section
variable {P:Program} {c:n6} {S:i4} {M:i1} {Q:Exit->Act->World->Prop}
theorem Tr.exB {x:Code} {s:Nat} {q:Bool->Prop} (hl:look S s=some (true,WW q)) (K:∀b,q b->Tr P c (⟨s,true,[],kB b⟩::S) M x Q):Tr P c S M x Q:=fun a g w h=>by
 obtain ⟨b,h1,h2⟩:=(h.slots s _ _ hl).1 rfl
 refine K b h2 a g w ⟨h.ok,fun t b' k0 hl'=>?_,h.conts,h.dom,h.nodup,fun e he=>?_,h.cdep,h.defers,h.size⟩
 ·simp only[look] at hl'
  cases hb:Nat.beq s t with
  | true =>
   rw[hb] at hl'
   simp only[cond_true,Option.some.injEq,Prod.mk.injEq] at hl'
   obtain ⟨rfl,rfl⟩:=hl'
   rw[<- Nat.eq_of_beq_eq_true hb]
   exact ⟨fun _=>h1,fun hf=>by cases hf⟩
  | false =>
   rw[hb] at hl'
   exact h.slots t b' k0 hl'
 ·rcases List.mem_cons.1 he with rfl | he
  ·exact ⟨inferInstance,fun _ h=>by cases h⟩
  ·exact h.sdep e he
variable {p:Bool} {d:Option Tmp} {ty:TypeId} {pos:String} {af:Array Edge} {gd:Option (Nat×Bool)}
variable {x y:Operand} {b b':Bool}
theorem ND {t et t':TypeId} [ht:D1 P t et] {α:Type} {e:i8 α} {xs:List α} (hx:j2 S x=some (b,b8 (eL e) xs)) (hb:p=true->b=true) :
  l4 P c S M ⟨d,.binOp .eql t x (.const (.slice none 0 0)) t',ty,pos,af,gd⟩ p (WW (fun b=>b=true->xs=[])) none :=
 l4.pure fun hp a g w _ _ ho=>by
  obtain ⟨cs,h1,h2⟩:=ho x (by simp[Op.operands]) b _ hx (hb hp)
  obtain ⟨ad,cap,rfl,_,h4⟩:=h1
  have he:a.eval (.const (.slice none 0 0))=.slice none 0 0:=rfl
  have h2':a.eval x=.slice ad xs.length cap:=h2
  refine ⟨.bool ad.isNone,by simp only[execOp,h2',he,eqGuard_at_slice,Sem.run_bind,Sem.run_pure,Result.andThen_ok,Lib.run_eql_slice_nil w t et ad _ _ 0 0 ht.h],_,rfl,fun hn=>?_⟩
  rcases h4 with h4 | ⟨_,_,h4,_⟩
  ·exact h4
  ·subst h4; cases hn
end
end Go.Fl

/- More laws: array literals with their places told, a struct out of a struct of the call's own. -/
namespace Go.Fl
open Go Go.RowKit
class P9 (ks:List d7) (o n:Nat) (out:outParam (List d7)):Prop where
 eq:(ks.drop o).take n=out
 len:out.length=n
instance {ks:List d7}:P9 ks 0 0 []:=⟨by simp,rfl⟩
instance {k:d7} {ks out:List d7} {n:Nat} [h:P9 ks 0 n out]:P9 (k::ks) 0 (n+1) (k::out):=⟨by have:=h.eq; simp at this ⊢; exact this,by have:=h.len; simp[this]⟩
instance {k:d7} {ks out:List d7} {o n:Nat} [h:P9 ks o n out]:P9 (k::ks) (o+1) n out:=⟨by have:=h.eq; simpa using this,h.len⟩
theorem X2.imp {S:i4} {pl pl':Nat->Option (Nat×Nat)} (hp:∀i q,pl i=some q->pl' i=some q) {ps:List (Nat×Operand)} {ks out:List d7} (h:X2 S pl ps ks out):X2 S pl' ps ks out:=by
 induction h with
 | nil=>exact .nil
 | consG hx hb h1 hs rest ih=>exact .consG hx hb (hp _ _ h1) hs ih
def NG (sz:Nat):Nat->List (Nat×Nat)->Bool
 | _,[]=>true
 | i,q::r=>Nat.beq q.1 (i*sz)&&Nat.beq q.2 sz&&NG sz (i+1) r
theorem jM {sz:Nat}:∀{l:List (Nat×Nat)} {i j:Nat} {q:Nat×Nat},NG sz i l=true->l[j]?=some q->some ((i+j)*sz,sz)=some q
 | x::r,i,0,q,h,hj=>by
  simp only[NG,Bool.and_eq_true] at h
  simp at hj; subst hj
  have h1:=Nat.eq_of_beq_eq_true h.1.1
  have h2:=Nat.eq_of_beq_eq_true h.1.2
  obtain ⟨a,b⟩:=x
  simp only at h1 h2
  rw[h1,h2]; rfl
 | x::r,i,j+1,q,h,hj=>by
  simp only[NG,Bool.and_eq_true] at h
  have:=jM (j:=j) (q:=q) h.2 (by simpa using hj)
  rw[<- this,show i+(j+1)=i+1+j by omega]
section
variable {P:Program} {c:n6} {S:i4} {M:i1} {p:Bool} {d:Option Tmp} {ty:TypeId} {pos:String} {af:Array Edge} {gd:Option (Nat×Bool)}
variable {x y:Operand} {b b':Bool}
theorem iX {t et:TypeId} {n:Nat} [ht:AO P t n et] {sz by':Nat} {zz:Value} [hsz:p6 P et sz by' zz] {zs:List d7} [hz:D4 P t zs] (pl:List (Nat×Nat)) (hpl:NG sz 0 pl=true) {parts:List (Nat×Operand)} {ks:List d7} (h:p=true->X2 S (fun i=>pl[i]?) parts zs ks) :
  l4 P c S M ⟨d,.build t parts.toArray,ty,pos,af,gd⟩ p (H9 ks) none :=
 yN fun hp=>(h hp).imp fun i q hq=>by have:=jM hpl hq; rwa [Nat.zero_add] at this
theorem Q9 {t:TypeId} [ht:D0 P t] {n by':Nat} {zz:Value} [hz:p6 P t n by' zz] {u o:Nat} {ks ks':List d7} {dep:List Nat} [hl:q7 M u (j5 ks) dep] (hx:j2 S x=some (b,y5 u o)) (hb:p=true->b=true) [hs:P9 ks o n ks'] :
  l4 P c S M ⟨d,.load t x,ty,pos,af,gd⟩ p (H9 ks') none:=yU hx hb hs.eq hs.len
variable {Q:Exit->Act->World->Prop}
theorem Tr.rwI {code:Code} {s:Nat} {k:IntKind} {u v:Int} (hl:look S s=some (true,z9 k u)) (he:u=v) (K:Tr P c (⟨s,true,[],z9 k v⟩::S) M code Q):Tr P c S M code Q :=
 Tr.re hl (fun _ _ h=>by subst he; exact h) rfl K
end
end Go.Fl

/- More laws: results that lie in a variable's cells; an array's element that is a struct. -/
namespace Go.Fl
open Go Go.RowKit
section
variable {P:Program}
theorem kX {t:TypeId} [ht:D0 P t] {n by':Nat} {z:Value} [hz:p6 P t n by' z] {w:World} {b o:Nat} {ds:List Value} (hl:ds.length=n) (h:∀j v,ds[j]?=some v->w.cell? ⟨b,o+j,none⟩=some v) :
  (loadVar t ⟨b,o,none⟩).run P w=.ok (.agg ds.toArray) w:=by
 obtain ⟨i,hi,rfl,_,_⟩:=hz.h
 have:=run_loadCells_list (P:=P) w ⟨b,o,none⟩ ds (fun j v hj=>by rw[Addr.add_lit]; exact h j v hj)
 rw[hl] at this
 simp[loadVar,ht.run,sizeOf,typeInfo,hi,this]
theorem ac8 {fn:Func} {a ty:Nat} {ts:List Nat} (h:fn.results=(ResultVar.cell a ty::ts.map ResultVar.tmp).toArray) (hl:(Nat.blt 0 ts.length&&Nat.blt ts.length 5)=true) {tmps:Array Value} {w:World} {ad:Addr} {v:Value} (ha:tmps.getD a undef=.pointer (some ad)) (hr:(loadVar ty ad).run P w=.ok v w) :
  (results fn tmps).run P w=.ok (.tuple (v::ts.map fun t=>tmps.getD t undef).toArray) w:=by
 rw[Array.getD_eq_getD_getElem?] at ha
 have hs:(asAddr (tmps[a]?.getD undef)).run P w=.ok ad w:=by rw[ha]; rfl
 match ts,hl with
 | [b],_=>simp[results,h,hs,hr]
 | [b,c],_=>simp[results,h,hs,hr]
 | [b,c,d],_=>simp[results,h,hs,hr]
 | [b,c,d,e],_=>simp[results,h,hs,hr]
theorem kR {fn:Func} {a ty:Nat} (h:fn.results=#[.cell a ty]) {tmps:Array Value} {w:World} {ad:Addr} {v:Value} (ha:tmps.getD a undef=.pointer (some ad)) (hr:(loadVar ty ad).run P w=.ok v w) :
  (results fn tmps).run P w=.ok v w:=by
 rw[Array.getD_eq_getD_getElem?] at ha
 have hs:(asAddr (tmps[a]?.getD undef)).run P w=.ok ad w:=by rw[ha]; rfl
 simp[results,h,hs,hr]
variable {n0:Nat} {w0:World} {J0:JV} {S:i4} {M:i1} {fn:Func}
theorem LV {a u o n by':Nat} {ty:TypeId} {zz:Value} {kc kc':List d7} {dep:List Nat} [hlk:q7 M u (j5 kc) dep] [ht:D0 P ty] [hz:p6 P ty n by' zz] [hs:P9 kc o n kc'] (hx:look S a=some (true,y5 u o)) {act:Act} {g:Gh} {w:World} (h:l8 ⟨w0,J0,[],n0,none,false,[]⟩ S M act g w) :
  ∃ad v,act.tmps.getD a undef=.pointer (some ad)/\(loadVar ty ad).run P w=.ok v w/\H9 kc' g v:=by
 obtain ⟨bl,cap,h1,h2⟩:=(h.slots a _ _ hx).1 rfl
 obtain ⟨cs,ty',h3,h4⟩:=DT (ks:=kc) h.conts h1
 have h5:=GV o n h4
 rw[hs.eq] at h5
 refine ⟨_,.agg ((cs.toList.drop o).take n).toArray,h2,kX (P:=P) (t:=ty) (w:=w) (b:=bl) (o:=o) (ds:=(cs.toList.drop o).take n) ((L6 h5).trans hs.len) (fun j v hj=>?_),_,rfl,h5⟩
 refine M7 h3 ?_
 rw[List.getElem?_take] at hj
 split at hj
 ·rw[List.getElem?_drop] at hj; simpa using hj
 ·cases hj
theorem g6.resC1 {a u o n by':Nat} {ty:TypeId} {zz:Value} {kc kc':List d7} {dep:List Nat} [hlk:q7 M u (j5 kc) dep] [ht:D0 P ty] [hz:p6 P ty n by' zz] [hs:P9 kc o n kc'] {k:d7} (hr:fn.results=#[.cell a ty]) (hx:look S a=some (true,y5 u o))
  (hc:∀(g:Gh) (v:Value),H9 kc' g v->k ⟨g.J,y9⟩ v):g6 ⟨w0,J0,[],n0,none,false,[]⟩ S M (bodyPost P fn (DP w0 J0 k)):=by
 intro act g w hst
 obtain ⟨ad,v,h1,h2,h3⟩:=LV (ty:=ty) (P:=P) hx hst
 exact ⟨hst.defers.1,_,kR hr h1 h2,_,g.J,rfl,⟨hst.ok.bel.os,hst.ok.bel.tape,hst.ok.bel.output,hst.ok.bel.size,fun k hk=>hst.ok.bel.block k hk (by simp),hst.ok.bel.drawn⟩,hst.ok.jle,hst.ok.jold,hst.ok.im,hc _ _ h3⟩
theorem g6.resC {a u o n by':Nat} {ty:TypeId} {zz:Value} {kc kc':List d7} {dep:List Nat} [hlk:q7 M u (j5 kc) dep] [ht:D0 P ty] [hz:p6 P ty n by' zz] [hs:P9 kc o n kc'] {k:d7} {ts:List Nat} {ks:List d7} (hr:fn.results=(ResultVar.cell a ty::ts.map ResultVar.tmp).toArray) (hl:(Nat.blt 0 ts.length&&Nat.blt ts.length 5)=true) (hx:look S a=some (true,y5 u o))
  (hc:∀(g:Gh) (v:Value),H9 kc' g v->k ⟨g.J,y9⟩ v) (h:F1 S ts ks):g6 ⟨w0,J0,[],n0,none,false,[]⟩ S M (bodyPost P fn (DP w0 J0 (z6 (k::ks)))):=by
 intro act g w hst
 obtain ⟨ad,v,h1,h2,h3⟩:=LV (ty:=ty) (P:=P) hx hst
 exact ⟨hst.defers.1,_,ac8 hr hl h1 h2,_,g.J,rfl,⟨hst.ok.bel.os,hst.ok.bel.tape,hst.ok.bel.output,hst.ok.bel.size,fun k hk=>hst.ok.bel.block k hk (by simp),hst.ok.bel.drawn⟩,hst.ok.jle,hst.ok.jold,hst.ok.im,_,rfl,hc _ _ h3,h.holds hst.slots⟩
theorem t7 {kc:List d7} {α:Type} {e:i8 α} {x y:α} [hr:t6 kc e x []] (ha:e.agg=true) (he:x=y) (g:Gh) (v:Value) (h:H9 kc g v):b8 e y ⟨g.J,y9⟩ v:=by
 obtain ⟨cs,h1,h2⟩:=h
 subst he
 exact ⟨cs,t6.whole (h:=hr) (g:=g) h2,by rw[ha]; exact h1⟩
variable {c:n6} {p:Bool} {d:Option Tmp} {ty:TypeId} {pos:String} {af:Array Edge} {gd:Option (Nat×Bool)}
variable {x y:Operand} {b b':Bool}
theorem yS {t et:TypeId} {n:Nat} [ht:AO P t n et] {sz by':Nat} {zz:Value} [hz:p6 P et sz by' zz] [hag:D0 P et] {α:Type} [Inhabited α] (e:i8 α) {ks:List d7} {xs:List α} [hr:aF ks e xs] {ik:IntKind} {i:Nat}
  (hx:j2 S x=some (b,H9 ks)) (hb:p=true->b=true) (hy:j2 S y=some (b',z9 ik (i:Int))) (hb':p=true->b'=true) (ha:e.agg=true) (hs:sz=e.n) (hn:ks.length=n*sz) (h:p=true->i<n/\i<xs.length) :
  l4 P c S M ⟨d,.index t x y,ty,pos,af,gd⟩ p (b8 e (b6 xs i)) none :=
 l4.pure fun hp a g w _ _ ho=>by
  obtain ⟨cs,h1,h2⟩:=ho x (by simp[Op.operands]) b _ hx (hb hp)
  have h3:a.eval y=_:=ho y (by simp[Op.operands]) b' _ hy (hb' hp)
  obtain ⟨hlt,hlx⟩:=h hp
  obtain ⟨ds,k1,k2⟩:=hr.imp h2 i _ (H1 hlx)
  obtain ⟨ti,hi,rfl,_,_⟩:=hz.h
  have hl:=e.len k1
  have hcl:=L6 h2
  have hsub:(cs.drop (i*ti.size)).take ti.size=ds:=by
   refine List.ext_getElem? fun j=>?_
   rw[List.getElem?_take]
   by_cases hj:j<ti.size
   ·rw[if_pos hj,List.getElem?_drop]
    have:j<ds.length:=by omega
    rw[List.getElem?_eq_getElem this,hs]
    exact k2 j _ (List.getElem?_eq_getElem this)
   ·rw[if_neg hj,List.getElem?_eq_none zo]
  have hle:i*ti.size+ti.size<=cs.length:=by
   rw[hcl,hn,<- Nat.succ_mul]; exact Nat.mul_le_mul_right _ hlt
  refine ⟨.agg ds.toArray,?_,ds,k1,by rw[ha]; rfl⟩
  have hpart:(cs.toArray.extract (i*ti.size) (i*ti.size+ti.size))=ds.toArray:=by
   rw[<- hsub]
   apply Array.ext'
   simp[List.take_drop,Nat.add_comm]
  simp[execOp,h1,h3,Instr.index,asIntOf,run_underlying ht.h,hlt,sizeOf,typeInfo,hi,part,hag.run]
  simpa [hs] using hpart
end
end Go.Fl

/- Maps of the call's own; functions that return a thing of their own. -/
namespace Go.Fl
open Go Go.RowKit
instance {ks ls:List d7} {d e:List Nat} [h1:B9 ks d] [h2:B9 ls e]:B9 (ks++ls) (d++e):=⟨fun {g g' vs} hl hd hk=>by
 have:∀(ks:List d7) (vs:List Value),(∀us,n9 g ks us->n9 g' ks us)->n9 g (ks++ls) vs->n9 g' (ks++ls) vs:=by
  intro ks
  induction ks with
  | nil=>intro vs _ h; exact h2.dep hl (fun t ht=>hd t (List.mem_append.2 (.inr ht))) h
  | cons k ks ih =>
   intro vs hk h
   cases vs with
   | nil=>exact h.elim
   | cons v vs =>
    have hlen:∀(ks:List d7) (vs:List Value),n9 g (ks++ls) vs->∃us,n9 g ks us:=by
     intro ks
     induction ks with
     | nil=>intro vs _; exact ⟨[],trivial⟩
     | cons k ks ih=>intro vs h; cases vs with | nil=>exact h.elim | cons v vs=>obtain ⟨us,hu⟩:=ih vs h.2; exact ⟨v::us,h.1,hu⟩
    obtain ⟨us,hu⟩:=hlen ks vs h.2
    exact ⟨(hk (v::us) ⟨h.1,hu⟩).1,ih vs (fun us hu=>(hk (v::us) ⟨h.1,hu⟩).2) h.2⟩
 exact this ks vs (fun us hu=>h1.dep hl (fun t ht=>hd t (List.mem_append.2 (.inl ht))) hu) hk⟩
section
variable {P:Program} {c:n6} {ops:Array Oper} {S:i4} {M:i1} {rest:List Oper} {Q:Exit->Act->World->Prop}
variable {p:Bool} {d:Option Tmp} {ty:TypeId} {pos:String} {af:Array Edge} {gd:Option (Nat×Bool)}
variable {x y z:Operand} {b b':Bool}
end

def OD (w:World) (J:JV) (res:Nat->d7) (ct:t9):Ending->World->Prop:=fun e w'=>∃r J' bk,e=.returned r/\Below w.heap.size w w'/\J.le J'/\(∀b o,b<w.heap.size->J' b o=J b o)/\Im J' w' /\
 (∀b cap,bk=.blk b cap->w.heap.size<=b/\b<w'.heap.size/\∀o,J' b o=none)/\ct ⟨J',y9⟩ bk (World.objAt w' bk)/\∀t,res t ⟨J',fun u=>if u=t then some bk else none⟩ r
def U9 (P:Program) (f:FuncId) (args:List d7) (res:Nat->d7) (ct:t9):Prop:=∀w J,Im J w->∀vs,n9 ⟨J,y9⟩ args vs->Calls P f vs.toArray w (OD w J res ct)
section
variable {P:Program} {c:n6} {S:i4} {M:i1} {p:Bool} {d:Option Tmp} {ty:TypeId} {pos:String} {af:Array Edge} {gd:Option (Nat×Bool)}
theorem EJ {f:FuncId} [hf:f0 P f] {args:List Operand} {tys:Array TypeId} {ks:List d7} {res:Nat->d7} {ct:t9} (u:Nat) (hct:p=true->U9 P f ks res ct) (ha:G4 S p args ks) [hk:o5 (res u) [u]] [hd:B4 ct []] :
  l4 P c S M ⟨d,.call { callee:=.value (.func f),args:=args.toArray,argTypes:=tys },ty,pos,af,gd⟩ p (res u) (some ⟨u,[],ct⟩):=by
 intro hp a g w hok hc ho hfr
 have hf':=hfr _ rfl
 have hargs:=ha.eval (g:=g) (ρ:=a.eval) hp (fun y hy b k hk hb=>ho y (by simp[Op.operands,Call.operands,hy]) b k hk hb)
 have hr:=hct hp w g.J hok.im _ hargs
 unfold Oper.wp
 simp only[execOp,resolve,Act.eval,Deferred.ofValue,Sem.run_bind,Sem.run_pure,Result.andThen_ok,invoke,List.map_toArray,Array.append_empty,Array.empty_append]
 rw[hf.run]
 simp only[Oper.upon]
 refine hr.mono fun e w' he=>?_
 obtain ⟨r,J',bk,rfl,hbel,hJ,hold,him,n3,n4,n5⟩:=he
 refine ⟨r,⟨J',(g.add u bk).M⟩,rfl,?_⟩
 have hadd:∀t,(g.add u bk).M t=if t=u then some bk else g.M t:=fun t=>rfl
 refine ⟨?_,⟨hJ,fun t b hb=>?_⟩,⟨hok.bel.then hbel,JV.le_trans hok.jle hJ,fun b o hb=>?_,him,fun t b cap' ht=>?_,fun t t' b c1 c2 h1 h2=>?_⟩,hbel,fun e he=>?_,fun t ht=>?_⟩
 ·exact hk.dep (g:=⟨J',fun q=>if q=u then some bk else none⟩) (JV.le_refl _) (fun t ht=>by simp at ht; subst ht; simp[hadd]) (n5 u)
 ·rw[hadd]
  by_cases e:t=u
  ·subst e; rw[hf'] at hb; cases hb
  ·rw[if_neg e]; exact hb
 ·show J' b o=c.J0 b o
  rw[hold b o (Nat.lt_of_lt_of_le hb hok.bel.size)]; exact hok.jold b o hb
 ·rw[hadd] at ht
  by_cases e:t=u
  ·rw[if_pos e] at ht; cases ht
   obtain ⟨n1,n2,n3⟩:=n3 _ _ rfl
   exact ⟨.inl (Nat.le_trans hok.bel.size n1),n2,n3⟩
  ·rw[if_neg e] at ht
   obtain ⟨h1,h2,h3⟩:=hok.own t b cap' ht
   exact ⟨h1,Nat.lt_of_lt_of_le h2 hbel.size,fun o=>by show J' b o=none; rw[hold b o h2]; exact h3 o⟩
 ·rw[hadd] at h1 h2
  by_cases e:t=u
  ·rw[if_pos e] at h1; cases h1
   obtain ⟨n1,n2,n3⟩:=n3 _ _ rfl
   by_cases e':t'=u
   ·rw[e,e']
   ·rw[if_neg e'] at h2
    have:=(hok.own _ _ _ h2).2.1
    omega
  ·rw[if_neg e] at h1
   by_cases e':t'=u
   ·rw[if_pos e'] at h2; cases h2
    obtain ⟨n1,n2,n3⟩:=n3 _ _ rfl
    have:=(hok.own _ _ _ h1).2.1
    omega
   ·rw[if_neg e'] at h2
    exact hok.inj _ _ _ _ _ h1 h2
 ·cases he
  exact ⟨_,by rw[hadd,if_pos rfl],hd.dep (g:=⟨J',y9⟩) (JV.le_refl _) (fun _ h=>by cases h) n4⟩
 ·rw[hadd,if_neg (fun e=>ht _ rfl e.symm)]
variable {n0:Nat} {w0:World} {J0:JV} {fn:Func}
theorem g6.resN {t u:Nat} {res:Nat->d7} {k:d7} {ct ct':t9} {dep:List Nat} [hlk:q7 M u ct' dep] [J8 dep] (hr:fn.results=#[.tmp t]) (hl:look S t=some (true,k)) (hv:∀g bk o,ct' g bk o->ct g bk o) (hc:∀(g:Gh) (v:Value) (bk:Bk),g.M u=some bk->k g v->∀t,res t ⟨g.J,fun q=>if q=t then some bk else none⟩ v) (hcd:B4 ct []) :
  g6 ⟨w0,J0,[],n0,none,false,[]⟩ S M (bodyPost P fn (OD w0 J0 res ct)):=by
 intro a g w hs
 obtain ⟨bk,h1,h2⟩:=hs.conts _ hlk.mem
 simp only at h1 h2
 refine ⟨hs.defers.1,_,results_tmp hr _ _ _,_,g.J,bk,rfl,⟨hs.ok.bel.os,hs.ok.bel.tape,hs.ok.bel.output,hs.ok.bel.size,fun k hk=>hs.ok.bel.block k hk (by simp),hs.ok.bel.drawn⟩,hs.ok.jle,hs.ok.jold,hs.ok.im,?_,hcd.dep (g:=g) (JV.le_refl _) (fun _ h=>by cases h) (hv _ _ _ h2),fun q=>hc g _ bk h1 ((hs.slots t _ _ hl).1 rfl) q⟩
 rintro b cap rfl
 obtain ⟨o1,o2,o3⟩:=hs.ok.own _ _ _ h1
 refine ⟨?_,o2,o3⟩
 rcases o1 with o1 | o1
 ·exact o1
 ·cases o1
theorem GY {α:Type} {z:Bool} {ty:TypeId} {e:i8 α} {xs ys:List α} {l l':Nat} (hx:xs=ys) (hl:l=l') (g:Gh) (bk:Bk) (o:Option Obj) (h:l5 z ty e xs l g bk o):l5 false ty e ys l' g bk o:=by
 subst hx hl
 refine ⟨h.1,?_⟩
 have h2:=h.2
 cases bk with
 | nil=>exact h2
 | blk b cap=>exact ⟨fun h=>(by cases h),h2.2⟩
theorem HO {u l l':Nat} (e:l=l') (g:Gh) (v:Value) (bk:Bk) (hm:g.M u=some bk) (h:o9 u l g v) (t:Nat):o9 t l' ⟨g.J,fun q=>if q=t then some bk else none⟩ v:=by
 subst e
 rcases h with ⟨h1,h2⟩ | ⟨b,cap,h1,h2⟩
 ·rw[hm] at h1; cases h1
  exact .inl ⟨by simp,h2⟩
 ·rw[hm] at h1; cases h1
  exact .inr ⟨b,cap,by simp,h2⟩
theorem U9.mk {f:FuncId} {fn:Func} {code:Code} {args:List d7} {res:Nat->d7} {ct:t9} {n:Nat} (hf:P.funcs[f]?=some fn) (hb:fn.body=some code) (hn:fn.ntmps=n) (hl:Nat.ble args.length n=true) [hj:AI args]
  (h:∀w J,Tr P ⟨w,J,[],n,none,false,[]⟩ (params 0 args) [] code (bodyPost P fn (OD w J res ct))):U9 P f args res ct:=by
 intro w J him vs hvs
 have hlen:=L6 hvs
 have hle:args.length<=n:=Nat.le_of_ble_eq_true hl
 refine calls_of_wp hf hb<|wpIn_wide.1 (h w J _ ⟨J,y9⟩ w ⟨⟨⟨rfl,rfl,rfl,Nat.le_refl _,fun _ _ _=>rfl,Nat.le_refl _⟩,JV.le_refl _,fun _ _ _=>rfl,him,fun _ _ _ h=>(by cases h),fun _ _ _ _ _ h=>(by cases h)⟩,?_,fun _ h=>(by cases h),fun _ h=>absurd rfl h,List.nodup_nil,?_,fun _ h=>(by cases h),⟨rfl,fun _ h=>(by cases h)⟩,?_⟩)
 ·intro t b k hk
  obtain ⟨_,rfl,v,hv,hkv⟩:=KK hvs hk
  refine ⟨fun _=>?_,fun hf=>(by cases hf)⟩
  have ht:t<vs.length:=(List.getElem?_eq_some_iff.1 (by simpa using hv)).1
  have:(vs.toArray++Array.replicate (fn.ntmps-vs.toArray.size) undef).getD t undef=v:=by
   rw[Array.getD_eq_getD_getElem?,Array.getElem?_append_left (by simpa using ht)]
   simp only[List.getElem?_toArray]
   rw[show vs[t]?=some v by simpa using hv]
   rfl
  rw[this]; exact hkv
 ·intro e he
  obtain ⟨h1,h2⟩:=KJ hj.all he
  exact ⟨h1,fun t ht=>by rw[h2] at ht; cases ht⟩
 ·simp only[Array.size_append,List.size_toArray,Array.size_replicate]; omega
end
end Go.Fl

/- More laws: strings, booleans, contracts out of the kit's own. -/
namespace Go.Fl
open Go Go.RowKit
theorem kV {P:Program} {t:TypeId} (w:World) (h:P.underlying t=some .bool) (a b:Bool):(Op.equalIn Op.maxDepth t (.bool a) (.bool b)).run P w=.ok (a==b) w:=by
 have:∀d,(Op.equalIn (d+1) t (.bool a) (.bool b)).run P w=.ok (a==b) w:=fun d=>by
  unfold Op.equalIn
  simp[run_underlying h]
 exact this 9999
class TY (P:Program) (t:TypeId):Prop where
 h:P.underlying t=some .bool
section
variable {P:Program} {c:n6} {S:i4} {M:i1} {p:Bool} {d:Option Tmp} {ty:TypeId} {pos:String} {af:Array Edge} {gd:Option (Nat×Bool)}
variable {x y:Operand} {b b':Bool}
theorem yP {t t':TypeId} [ht:TY P t] {m n:Bool} (hx:j2 S x=some (b,kB m)) (hb:p=true->b=true) (hy:j2 S y=some (b',kB n)) (hb':p=true->b'=true) :
  l4 P c S M ⟨d,.binOp .eql t x y t',ty,pos,af,gd⟩ p (kB (decide (m=n))) none :=
 Z5 (fun w=>by have hq:=fun w a b=>kV (P:=P) w ht.h a b; cases m<;>cases n<;>simp[binOp,Op.equal,hq,go_sem]) hx hb hy hb'
theorem SH {t t':TypeId} [ht:TY P t] {m n:Bool} (hx:j2 S x=some (b,kB m)) (hb:p=true->b=true) (hy:j2 S y=some (b',kB n)) (hb':p=true->b'=true) :
  l4 P c S M ⟨d,.binOp .neq t x y t',ty,pos,af,gd⟩ p (kB (decide (m≠n))) none :=
 Z5 (fun w=>by have hq:=fun w a b=>kV (P:=P) w ht.h a b; cases m<;>cases n<;>simp[binOp,Op.equal,hq,go_sem]) hx hb hy hb'
end
end Go.Fl

/- A region that draws its order and stores: the store may come while operations are still to come that do not look at what is stored. -/
namespace Go.Fl
open Go Go.RowKit
structure GQ (u:Nat) (ct':t9) (g:Gh) (w w':World):Prop where
 drawn:dz w.drawn<=dz w'.drawn
 ex:∃b cap ob,g.M u=some (.blk b cap)/\w'.os=w.os/\w'.tape=w.tape/\w'.output=w.output/\w'.heap.size=w.heap.size/\(∀k,k≠b->w'.heap[k]?=w.heap[k]?)/\w'.heap[b]?=some ob/\ct' g (.blk b cap) (some ob)/\w.heap[b]?≠some (Obj.deferred (some []))
theorem GQ.ok {u:Nat} {ct':t9} {c:n6} {g:Gh} {w w':World} (h:GQ u ct' g w w') (ok:Ok c g w):Ok c g w':=by
 obtain ⟨b,cap,ob,hm,h1,h2,h3,h4,hother,_,_⟩:=h.ex
 obtain ⟨hob,hlt,hJ⟩:=ok.own u b cap hm
 refine ⟨⟨h1.trans ok.bel.os,h2.trans ok.bel.tape,h3.trans ok.bel.output,by rw[h4]; exact ok.bel.size,fun k hk hnb=>?_,Nat.le_trans ok.bel.drawn h.drawn⟩,ok.jle,ok.jold,fun b' o v hv=>?_,fun t b' cap' ht=>?_,ok.inj⟩
 ·rw[hother k (fun e=>by subst e; rcases hob with h1 | h1; omega; exact hnb h1)]
  exact ok.bel.block k hk hnb
 ·have:=ok.im b' o v hv
  rw[World.cell?_of_block (w:=w) (hother b' (fun e=>by subst e; rw[hJ o] at hv; cases hv))]
  exact this
 ·obtain ⟨h1,h2,h3⟩:=ok.own t b' cap' ht
  exact ⟨h1,by rw[h4]; exact h2,h3⟩
theorem GQ.marks {u:Nat} {ct':t9} {g:Gh} {w w':World} (h:GQ u ct' g w w') {m:Bool} {B:Nat} {om:List Nat} {ds:List Deferred} (hm:P7 m B om ds w):P7 m B om ds w':=by
 obtain ⟨b,cap,ob,_,_,_,_,_,hother,_,_,hnm⟩:=h.ex
 exact hm.on fun D hD=>hother D (fun e=>by subst e; exact hnm hD)
theorem GQ.other {u:Nat} {ct':t9} {c:n6} {g:Gh} {w w':World} (h:GQ u ct' g w w') (ok:Ok c g w) {t:Nat} (hne:t≠u) {bk:Bk} (hb:g.M t=some bk):World.objAt w' bk=World.objAt w bk:=by
 obtain ⟨b,cap,ob,hm,_,_,_,_,hother,_,_⟩:=h.ex
 cases bk with
 | nil=>rfl
 | blk b' cap'=>exact hother b' (fun e'=>by subst e'; exact hne (ok.inj _ _ _ _ _ hb hm))
def LN (P:Program) (c:n6) (S:i4) (M:i1) (o:Oper) (u:Nat) (ct':t9):Prop :=
 ∀(a:Act) (g:Gh) (w:World),Ok c g w->F7 M g w->IJ S o a g->o.wp P a w (fun a' w'=>a'=a/\GQ u ct' g w w') (fun _ _ _=>False)
theorem D5.tag {M M':i1} {u:Nat} {ct':t9} {dep':List Nat} (h:D5 M u ct' dep' M'):u∈Fl.tags M:=by
 obtain ⟨pre,post,ct,dep,h1,_⟩:=h.eq
 subst h1
 simp[Fl.tags]
section
variable {P:Program} {c:n6} {Q:Exit->Act->World->Prop} {l:List Oper} {m:Nat} {S:i4} {M Mx:i1} {MI:Nat->i1} {rs:List B6} {a0:Act} {g0:Gh} {w1:World}
structure BK (l:List Oper) (c:n6) (M Mx:i1) (rs:List B6) (a0:Act) (g0:Gh) (listed:Array Bool) (a:Act) (g:Gh) (w:World):Prop where
 sz:listed.size=l.length
 ok:Ok c g w
 le:g0.le g
 cM:F7 Mx g w
 clo:EU l listed
 low:∀i,Ld listed i->i<=rs.length
 defers:P7 c.mrk c.w0.heap.size c.om a.defers w
 size:a.tmps.size=c.n
 base:∀t,(∀i r,Ld listed i->rs[i]?=some r->r.d≠t)->a.tmps.getD t undef=a0.tmps.getD t undef
 cur:∀i r,rs[i]?=some r->Ld listed i->(∀i' r',i<i'->Ld listed i'->rs[i']?=some r'->r'.d≠r.d)->T1 g (a.tmps.getD r.d undef) r.p r.k
 made:∀i r e,Ld listed i->rs[i]?=some r->r.new=some e->∃b,g.M e.t=some b/\e.c g b (World.objAt w b)
 dom:∀t,g.M t≠none->g0.M t≠none\/∃(i:Nat) (r:B6) (e:CE),Ld listed i/\rs[i]?=some r/\r.new=some e/\e.t=t
theorem BK.look (hst:∀i r o,rs[i]?=some r->l[i]?=some o->V3 P c l.toArray (MI i) (sl S (rs.take i)) (cl M (rs.take i)) o r) (hml:rs.length<=l.length) (hd:IH l m)
  (hs:l8 c S M a0 g0 w1) {listed:Array Bool} {a:Act} {g:Gh} {w:World} (h:BK l c M Mx rs a0 g0 listed a g w) {i:Nat} {o:Oper} (ho:l[i]?=some o) (hnl:¬Ld listed i) (hr:∀e∈o.after.toList,Region.binds .any e=true->Ld listed e.on) :
  ∀t,t∈o.looksAt l.toArray->∀b k,look (sl S (rs.take i)) t=some (b,k)->T1 g (a.tmps.getD t undef) b k:=by
 have hdst:∀(j:Nat) (r':B6) (o':Oper),rs[j]?=some r'->l[j]?=some o'->o'.dst=some r'.d:=fun j r' o' h1 h2=>(hst j r' o' h1 h2).dst
 have hop:∀j,j<rs.length->∃o',l[j]?=some o':=fun j hj=>⟨_,List.getElem?_eq_getElem zo⟩
 intro t ht b k hl
 have hlate:∀(i':Nat) (r':B6),i<i'->Ld listed i'->rs[i']?=some r'->r'.d≠t:=fun i' r' hii hli hr' hdt=>by
  obtain ⟨o',ho'⟩:=hop i' (List.getElem?_eq_some_iff.1 hr').1
  rcases hd.pair i i' o o' hii ho ho' with hp | ⟨_,hp⟩
  ·exact hnl (h.clo i' i hli hp)
  ·exact hp t (by rw[hdst i' r' o' hr' ho',hdt]) ht
 rcases TB _ hl with ⟨h1,h2⟩ | ⟨j,r',h1,h2,h3,h4,h5⟩
 ·have hb:=h.base t (fun i' r' hli hr' hdt=>by
   rcases Nat.lt_trichotomy i' i with hlt | rfl | hlt
   ·exact h2 r' (List.mem_iff_getElem?.2 ⟨i',by rw[List.getElem?_take,if_pos hlt]; exact hr'⟩) hdt
   ·exact hnl hli
   ·exact hlate i' r' hlt hli hr' hdt)
  rw[hb]
  obtain ⟨e,he,_,_,rfl⟩:=ED h1
  exact (hs.slots t b _ h1).on h.le (hs.sdep e he).1 (fun u hu=>by obtain ⟨x,hx⟩:=hs.conts.tag ((hs.sdep e he).2 u hu); rw[hx]; simp)
 ·rw[List.getElem?_take] at h1
  split at h1
  case isFalse=>cases h1
  rename_i hji
  subst h2 h3 h4
  obtain ⟨oj,hoj⟩:=hop j (List.getElem?_eq_some_iff.1 h1).1
  have hjl:Ld listed j:=by
   rcases hd.pair j i oj o hji hoj ho with hp | ⟨hp,_⟩
   ·exact h.clo.ready ho hr hp
   ·exact absurd ht (hp _ (hdst j r' oj h1 hoj)).1
  refine h.cur j r' h1 hjl (fun i' r'' hlt hli hr'' hdt=>?_)
  rcases Nat.lt_trichotomy i' i with hlt' | rfl | hlt'
  ·exact h5 i' r'' hlt (by rw[List.getElem?_take,if_pos hlt']; exact hr'') hdt
  ·exact hnl hli
  ·exact hlate i' r'' hlt' hli hr'' hdt
theorem BK.step (hst:∀i r o,rs[i]?=some r->l[i]?=some o->V3 P c l.toArray (MI i) (sl S (rs.take i)) (cl M (rs.take i)) o r) (hMt:∀i t,t∈tags (MI i)↔t∈tags M) (hxt:∀t,t∈tags M->t∈tags Mx) (hxd:IF Mx Mx) (hml:rs.length<=l.length) (hd:IH l m) (hnews:LJ M rs)
  (hs:l8 c S M a0 g0 w1) {listed:Array Bool} {a:Act} {g:Gh} {w:World} (h:BK l c M Mx rs a0 g0 listed a g w) {i:Nat} (hi:i∈Region.ready .any l.toArray listed) (him:i<rs.length) (hMi:F7 (MI i) g w) {K:Act->World->Prop}
  (hK:∀a' g' w',BK l c M Mx rs a0 g0 (listed.setIfInBounds i true) a' g' w'->K a' w'):wpOp P l.toArray Q i K a w:=by
 obtain ⟨hnl,o,ho,hr⟩:=(GB h.sz).1 hi
 have hil:=(List.getElem?_eq_some_iff.1 ho).1
 have hilst:i<listed.size:=by rw[h.sz]; exact hil
 have hri:=List.getElem?_eq_getElem (l:=rs) (i:=i) zo
 generalize rs[i]=r at hri
 have st:=hst i r o hri ho
 have hcM:F7 Mx g w:=h.cM
 have hdst:∀(j:Nat) (r':B6) (o':Oper),rs[j]?=some r'->l[j]?=some o'->o'.dst=some r'.d:=fun j r' o' h1 h2=>(hst j r' o' h1 h2).dst
 have hop:∀j,j<rs.length->∃o',l[j]?=some o':=fun j hj=>⟨_,List.getElem?_eq_getElem zo⟩
 have hlook:=h.look hst hml hd hs ho hnl hr
 have hops:IJ (sl S (rs.take i)) o a g:=by
  intro x hx b k hxk hb
  cases x with
  | tmp t=>exact (hlook t (List.mem_append.2 (.inl (List.mem_filterMap.2 ⟨.tmp t,by simpa using hx,rfl⟩))) b k hxk).1 hb
  | const v=>cases hxk; rfl
  | global v=>cases hxk; rfl
  | func v=>cases hxk; rfl
 have hfresh:∀e,r.new=some e->g.M e.t=none:=fun e he=>by
  cases hg:g.M e.t with
  | none=>rfl
  | some b =>
   rcases h.dom e.t (by rw[hg]; simp) with h1 | ⟨j,r',e',hj,hr',he',ht⟩
   ·exact absurd (hs.dom _ h1) (hnews.fresh i r e hri he)
   ·have:=hnews.uniq j i r' r e' e hr' hri he' he ht
    subst this
    exact absurd hj hnl
 have hlt:=st.lt
 have next:∀{v:Value} {g':Gh} {w':World},T1 g' v r.p r.k->g.le g'->Ok c g' w'->Below w.heap.size w w'->(∀e,r.new=some e->∃b,g'.M e.t=some b/\e.c g' b (World.objAt w' b))->(∀t,(∀e,r.new=some e->e.t≠t)->g'.M t=g.M t) ->
   BK l c M Mx rs a0 g0 (listed.setIfInBounds i true) (a.put o.dst v) g' w':=by
  intro v g' w' hk hle hok hbel hmade hold
  rw[st.dst]
  have hsz:r.d<a.tmps.size:=by rw[h.size]; exact hlt
  refine ⟨by simpa using h.sz,hok,Gh.le_trans h.le hle,?_,h.clo.set hilst ho hr,fun j hj=>?_,h.defers.below hbel,by simp[Act.put,h.size],fun t ht=>?_,fun j r' hr' hj hlat=>?_,fun j r' e hj hr' he=>?_,fun t ht=>?_⟩
  ·exact h.cM.on h.cM hxd h.ok hle hbel
  ·rw[Ld.set hilst] at hj
   rcases hj with rfl | hj
   ·omega
   ·exact h.low j hj
  ·have hne:r.d≠t:=ht i r ((Ld.set hilst).2 (.inl rfl)) hri
   rw[MN hne]
   exact h.base t (fun j r' hj hr'=>ht j r' ((Ld.set hilst).2 (.inr hj)) hr')
  ·rw[Ld.set hilst] at hj
   by_cases hdd:r.d=r'.d
   ·rcases hj with rfl | hj
    ·rw[hri] at hr'; cases hr'
     rw[WH hsz]; exact hk
    ·-- an elder writer of the same slot: it is not the last one
     rcases Nat.lt_trichotomy j i with hlt' | rfl | hlt'
     ·exact absurd hdd (hlat i r hlt' ((Ld.set hilst).2 (.inl rfl)) hri)
     ·exact absurd hj hnl
     ·obtain ⟨oj,hoj⟩:=hop j (List.getElem?_eq_some_iff.1 hr').1
      rcases hd.pair i j o oj hlt' ho hoj with hp | ⟨hp,_⟩
      ·exact absurd (h.clo j i hj hp) hnl
      ·exact absurd (by rw[hdst j r' oj hr' hoj,hdd]) (hp _ st.dst).2
   ·rcases hj with rfl | hj
    ·rw[hri] at hr'; cases hr'; exact absurd rfl hdd
    ·rw[MN hdd]
     refine (h.cur j r' hr' hj (fun i' r'' hlt' hli hr''=>hlat i' r'' hlt' ((Ld.set hilst).2 (.inr hli)) hr'')).on' hle (hst j r' _ hr' (List.getElem?_eq_getElem (by have:=(List.getElem?_eq_some_iff.1 hr').1; omega))).kd (fun t ht hkv=>?_)
     rcases (hst j r' _ hr' (List.getElem?_eq_getElem (by have:=(List.getElem?_eq_some_iff.1 hr').1; omega))).dep t ht with hdep | ⟨_,hhas⟩
     rotate_left
     ·exact hhas.has hkv
     cases hn:r'.new with
     | none=>rw[hn] at hdep; obtain ⟨x,hx⟩:=hcM.tag (hxt _ ((hMt _ _).1 hdep)); rw[hx]; simp
     | some e =>
      rw[hn] at hdep
      rcases List.mem_cons.1 hdep with rfl | hdep
      ·obtain ⟨x,hx,_⟩:=h.made j r' e hj hr' hn; rw[hx]; simp
      ·obtain ⟨x,hx⟩:=hcM.tag (hxt _ ((hMt _ _).1 hdep)); rw[hx]; simp
  ·rw[Ld.set hilst] at hj
   rcases hj with rfl | hj
   ·rw[hri] at hr'; cases hr'; exact hmade e he
   ·obtain ⟨b,h1,h2⟩:=h.made j r' e hj hr' he
    refine ⟨b,hle.2 _ _ h1,?_⟩
    rw[RQ hbel (fun x cap hx=>by subst hx; exact (h.ok.own _ _ _ h1).2.1)]
    have hnew:=(hst j r' _ hr' (List.getElem?_eq_getElem (by have:=(List.getElem?_eq_some_iff.1 hr').1; omega))).new e he
    exact hnew.1.dep hle.1 (fun t ht=>by
     rcases List.mem_cons.1 (hnew.2.1 t ht) with rfl | ht'
     ·rw[h1]; exact hle.2 _ _ h1
     ·obtain ⟨x,hx⟩:=hcM.tag (hxt _ ((hMt _ _).1 ht')); rw[hx]; exact hle.2 _ _ hx) h2
  ·by_cases hx:∃e,r.new=some e/\e.t=t
   ·obtain ⟨e,he,rfl⟩:=hx
    exact .inr ⟨i,r,e,(Ld.set hilst).2 (.inl rfl),hri,he,rfl⟩
   ·rw[hold t (fun e he ht'=>hx ⟨e,he,ht'⟩)] at ht
    rcases h.dom t ht with h1 | ⟨j,r',e,hj,hr',he,ht'⟩
    ·exact .inl h1
    ·exact .inr ⟨j,r',e,(Ld.set hilst).2 (.inr hj),hr',he,ht'⟩
 have didn:∀{v:Value} {g':Gh} {w':World},r.p=true->H2 c r.k r.new g g' w w' v->BK l c M Mx rs a0 g0 (listed.setIfInBounds i true) (a.put o.dst v) g' w':=fun hp hd =>
  next ⟨fun _=>hd.k,fun hf=>(by rw[hp] at hf; cases hf)⟩ hd.le hd.ok hd.bel hd.made hd.old
 unfold wpOp
 rw[List.getElem?_toArray,ho]
 simp only
 rcases st.gd with ⟨hg,hp⟩ | ⟨hn,j,want,e,s,b0,hg,hj,hl,hp⟩
 ·rw[if_pos (by simp[Region.wanted,hg])]
  refine .inl (Oper.wp_on (st.ok hp a g w h.ok hMi hops hfresh) ?_)
  rintro a' w' ⟨v,g',rfl,hdid⟩
  exact hK _ _ _ (didn hp hdid)
 ·have hj':(l[j]?.bind fun x=>x.dst)=some s:=by simpa using hj
  have hsl:T1 g (a.tmps.getD s undef) b0 (kB e):=hlook s (List.mem_append.2 (.inr (by rw[hg]; simp[hj']))) _ _ hl
  have hwant:Region.wanted o (yielded l.toArray a.tmps)=r.p:=(aB hg hj hsl).trans hp
  rw[hwant]
  cases hpp:r.p with
  | false =>
   simp only[Bool.false_eq_true,if_false]
   refine hK _ _ _ (next ⟨fun hf=>(by rw[hpp] at hf; cases hf),fun _=>rfl⟩ (Gh.le_refl _) h.ok (Below.refl _ _) (fun e he=>(by rw[hn] at he; cases he)) (fun _ _=>rfl))
  | true =>
   simp only[if_true]
   refine .inl (Oper.wp_on (st.ok hpp a g w h.ok hMi hops hfresh) ?_)
   rintro a' w' ⟨v,g',rfl,hdid⟩
   exact hK _ _ _ (didn hpp hdid)

def n8 (P:Program) (c:n6) (l:List Oper) (Q:Exit->Act->World->Prop) (u:Nat) (M MA:i1) (q:Nat):List Oper->Nat->i4->i1->Prop
 | [],_,_,_=>False
 | o::rest,0,S,Mc=>∃ct' dep' Mc',o.dst=none/\o.guard=none/\LN P c S M o u ct'/\D5 Mc u ct' dep' Mc'/\B4 ct' dep'/\(∀t∈dep',t∈tags M)/\d5 P c l.toArray S Mc' rest Q
 | o::rest,k+1,S,Mc=>∃r M0,(M0=MA\/(M0=M/\V5 l q (q-(k+1))=true))/\V3 P c l.toArray M0 S Mc o r/\n8 P c l Q u M MA q rest k (r.se::S) (T6 r.new Mc)
theorem n8.recs {u q:Nat} {M0 MA:i1}:∀{k:Nat} {rest:List Oper} {S:i4} {M:i1},k<=q->n8 P c l Q u M0 MA q rest k S M ->
  ∃(rs:List B6) (MI:Nat->i1),rs.length=k/\k<rest.length/\(∀i r o,rs[i]?=some r->rest[i]?=some o->V3 P c l.toArray (MI i) (sl S (rs.take i)) (cl M (rs.take i)) o r) /\
   (∀i,i<k->MI i=MA\/(MI i=M0/\V5 l q (q-k+i)=true))/\(∀i,k<=i->MI i=MA) /\
   ∃o ct' dep' Mc',rest[k]?=some o/\o.dst=none/\o.guard=none/\LN P c (sl S rs) M0 o u ct'/\D5 (cl M rs) u ct' dep' Mc'/\B4 ct' dep'/\(∀t∈dep',t∈tags M0)/\d5 P c l.toArray (sl S rs) Mc' (rest.drop (k+1)) Q
 | k,[],S,M,_,h=>by cases k<;>exact h.elim
 | 0,o::rest,S,M,_,h=>by
  obtain ⟨ct',dep',Mc',h1,h2,h3,h4,h5,h6,h7⟩:=h
  exact ⟨[],fun _=>MA,rfl,by simp,fun i r o h=>by simp at h,fun i hi=>by omega,fun _ _=>rfl,o,ct',dep',Mc',rfl,h1,h2,by simpa [sl] using h3,by simpa [cl] using h4,h5,h6,by simpa [sl] using h7⟩
 | k+1,o::rest,S,M,hk,h=>by
  obtain ⟨r,M1,hM1,h1,h2⟩:=h
  obtain ⟨rs,MI,k1,k2,k3,k4,k5,o',ct',dep',Mc',e1,e2,e3,e4,e5,e6,e7,e8⟩:=n8.recs zo h2
  refine ⟨r::rs,fun i=>match i with | 0=>M1 | i+1=>MI i,by simp[k1],by simp; omega,fun i r' o' hr ho=>?_,fun i hi=>?_,fun i hi=>?_,o',ct',dep',Mc',by simpa using e1,e2,e3,by simpa [sl] using e4,by simpa [cl] using e5,e6,e7,by simpa [sl] using e8⟩
  ·cases i with
   | zero=>simp at hr ho; subst hr ho; simpa [sl,cl] using h1
   | succ i=>simpa [sl,cl] using k3 i r' o' (by simpa using hr) (by simpa using ho)
  ·cases i with
   | zero=>simpa using hM1
   | succ i =>
    have:=k4 i zo
    rw[show q-k+i=q-(k+1)+(i+1) by omega] at this
    exact this
  ·cases i with
   | zero=>omega
   | succ i=>exact k5 i zo
theorem BK.sat (hst:∀i r o,rs[i]?=some r->l[i]?=some o->V3 P c l.toArray (MI i) (sl S (rs.take i)) (cl M (rs.take i)) o r) (hMt:∀i t,t∈tags (MI i)↔t∈tags M) (hml:rs.length<=l.length) (hs:l8 c S M a0 g0 w1) {u:Nat} {ct':t9} {dep':List Nat} {Mc':i1}
  (hup:D5 (cl M rs) u ct' dep' Mc') (hcd:B4 ct' dep') (hdm:∀t∈dep',t∈tags M) (hx1:⟨u,dep',ct'⟩∈Mx) (hx2:∀e∈M,e.t≠u->e∈Mx) {listed:Array Bool} {a:Act} {g:Gh} {w:World} (h:BK l c M Mx rs a0 g0 listed a g w) (hall:∀i,i<rs.length->Ld listed i) :
  l8 c (sl S rs) Mc' a g w:=by
 have hst':∀(i:Nat) (r:B6),rs[i]?=some r->∃o,V3 P c l.toArray (MI i) (sl S (rs.take i)) (cl M (rs.take i)) o r:=fun i r hr =>
  ⟨_,hst i r _ hr (List.getElem?_eq_getElem (by have:=(List.getElem?_eq_some_iff.1 hr).1; omega))⟩
 have hld:∀(i:Nat) (r:B6),rs[i]?=some r->Ld listed i:=fun i r hr=>hall i (List.getElem?_eq_some_iff.1 hr).1
 have htags:∀t∈tags M,t∈tags (cl M rs):=fun t ht=>by
  obtain ⟨e,he,rfl⟩:=List.mem_map.1 ht
  exact List.mem_map.2 ⟨e,(V6 rs).2 (.inl he),rfl⟩
 have htagn:∀(i:Nat) (r:B6) (e:CE),rs[i]?=some r->r.new=some e->e.t∈tags (cl M rs):=fun i r e hr he=>List.mem_map.2 ⟨e,(V6 rs).2 (.inr ⟨i,r,hr,he⟩),rfl⟩
 have hnodup:(tags (cl M rs)).Nodup:=by
  have key:∀n,n<=rs.length->(tags (cl M (rs.take n))).Nodup:=by
   intro n
   induction n with
   | zero=>intro _; exact hs.nodup
   | succ n ih =>
    intro hn
    have hr:=List.getElem?_eq_getElem (l:=rs) (i:=n) zo
    rw[List.take_succ_eq_append_getElem zo]
    simp only[cl,List.foldl_append,List.foldl_cons,List.foldl_nil]
    have ih':=ih zo
    cases hnew:rs[n].new with
    | none=>simpa [T6,cl] using ih'
    | some e =>
     simp only[T6,tags,List.map_cons]
     obtain ⟨o,st⟩:=hst' n _ hr
     exact List.nodup_cons.2 ⟨(st.new e hnew).2.2,ih'⟩
  have:=key rs.length (Nat.le_refl _)
  rwa [List.take_length] at this
 have ht':Fl.tags Mc'=tags (cl M rs):=hup.tags
 refine ⟨h.ok,?_,?_,?_,?_,?_,?_,h.defers,h.size⟩
 ·intro t b k hl
  rcases TB _ hl with ⟨h1,h2⟩ | ⟨i,r,h1,h2,h3,h4,h5⟩
  ·rw[h.base t (fun i r _ hr=>h2 r (List.mem_of_getElem? hr))]
   obtain ⟨e,he,_,_,rfl⟩:=ED h1
   exact (hs.slots t b _ h1).on h.le (hs.sdep e he).1 (fun u hu=>by obtain ⟨x,hx⟩:=hs.conts.tag ((hs.sdep e he).2 u hu); rw[hx]; simp)
  ·subst h2 h3 h4
   exact h.cur i r h1 (hld i r h1) (fun i' r' hlt _ hr'=>h5 i' r' hlt hr')
 ·intro e he
  rcases hup.mem hnodup e he with rfl | ⟨he,hne⟩
  ·exact h.cM _ hx1
  ·rcases (V6 rs).1 he with he | ⟨i,r,hr,hn⟩
   ·exact h.cM e (hx2 e he hne)
   ·exact h.made i r e (hld i r hr) hr hn
 ·intro t ht
  show t∈Fl.tags Mc'
  rw[ht']
  rcases h.dom t ht with h1 | ⟨i,r,e,_,hr,he,rfl⟩
  ·exact htags t (hs.dom t h1)
  ·exact htagn i r e hr he
 ·show (Fl.tags Mc').Nodup
  rw[ht']; exact hnodup
 ·intro e he
  have:∀(rs':List B6),e∈sl S rs'->e∈S\/∃r∈rs',e=r.se:=by
   intro rs'
   induction rs' using TC with
   | h0=>exact fun h=>.inl h
   | h1 rs' r ih =>
    intro h
    simp only[sl,List.foldl_append,List.foldl_cons,List.foldl_nil] at h
    rcases List.mem_cons.1 h with rfl | h
    ·exact .inr ⟨r,by simp,rfl⟩
    ·exact (ih h).imp id fun ⟨x,hx,he⟩=>⟨x,List.mem_append.2 (.inl hx),he⟩
  show o5 e.k e.dep/\∀t∈e.dep,t∈Fl.tags Mc'
  rw[ht']
  rcases this rs he with he | ⟨r,hr,rfl⟩
  ·exact ⟨(hs.sdep e he).1,fun t ht=>htags t ((hs.sdep e he).2 t ht)⟩
  ·obtain ⟨i,hi⟩:=List.mem_iff_getElem?.1 hr
   obtain ⟨o,st⟩:=hst' i r hi
   refine ⟨st.kd,fun t ht=>?_⟩
   rcases st.dep t ht with hd | ⟨hd,_⟩
   rotate_left
   ·exact mC i hd
   cases hn:r.new with
   | none=>rw[hn] at hd; exact htags t ((hMt _ _).1 hd)
   | some x =>
    rw[hn] at hd
    rcases List.mem_cons.1 hd with rfl | hd
    ·exact htagn i r x hi hn
    ·exact htags t ((hMt _ _).1 hd)
 ·intro e he
  show B4 e.c e.dep/\∀t∈e.dep,t∈Fl.tags Mc'
  rw[ht']
  rcases hup.mem hnodup e he with rfl | ⟨he,hne⟩
  ·exact ⟨hcd,fun t ht=>htags t (hdm t ht)⟩
  ·rcases (V6 rs).1 he with he | ⟨i,r,hr,hn⟩
   ·exact ⟨(hs.cdep e he).1,fun t ht=>htags t ((hs.cdep e he).2 t ht)⟩
   ·obtain ⟨o,st⟩:=hst' i r hr
    refine ⟨(st.new e hn).1,fun t ht=>?_⟩
    rcases List.mem_cons.1 ((st.new e hn).2.1 t ht) with rfl | ht'
    ·exact htagn i r e hr hn
    ·exact htags t ((hMt _ _).1 ht')
theorem Tr.drawS {id:Nat} (q u:Nat) {MA:i1} [hA:D5 M u oN [] MA] (hm:P.follows .mixedOrders=true) (chk:PT l (q+1)=true) (h:n8 P c l Q u M MA q l q S M) (hr:LM c.rd l Q:=by first | exact .inl rfl | exact .inr ⟨rfl,fun ⟨_,_,h⟩=>(show False from h)⟩):Tr P c S M (.region id l.toArray true) Q:=by
 intro a g w hs0
 have hs:=hs0.drew
 obtain ⟨rs,MI,hlen,hml,hst,hMI,hMI',os,ct',dep',Mc',hos,hod,hog,hstore,hup,hcd,hdm,htail⟩:=n8.recs (Nat.le_refl _) h
 have hd:=IH.of chk
 have hAt:Fl.tags MA=tags M:=hA.tags
 have hMt:∀i t,t∈tags (MI i)↔t∈tags M:=fun i t=>by
  by_cases hi:i<q
  ·rcases hMI i hi with e | ⟨e,_⟩<;>rw[e]; rw[hAt]
  ·rw[hMI' i zo,hAt]
 let Mx:i1:=⟨u,dep',ct'⟩::M.filter (fun e=>!(e.t==u))
 have hx1:⟨u,dep',ct'⟩∈Mx:=List.mem_cons_self
 have hx2:∀e∈M,e.t≠u->e∈Mx:=fun e he hne=>List.mem_cons_of_mem _ (List.mem_filter.2 ⟨he,by simpa using hne⟩)
 have hxt:∀t,t∈tags M->t∈tags Mx:=fun t ht=>by
  obtain ⟨e,he,rfl⟩:=List.mem_map.1 ht
  by_cases hu:e.t=u
  ·exact List.mem_map.2 ⟨_,hx1,hu.symm⟩
  ·exact List.mem_map.2 ⟨e,hx2 e he hu,rfl⟩
 have hxd:IF Mx Mx:=fun e he=>by
  rcases List.mem_cons.1 he with rfl | he
  ·exact ⟨hcd,fun t ht=>hxt t (hdm t ht)⟩
  ·have:=(List.mem_filter.1 he).1
   exact ⟨(hs.cdep e this).1,fun t ht=>hxt t ((hs.cdep e this).2 t ht)⟩
 have hMA:∀g w,F7 M g w->F7 MA g w:=fun g w hc e he=>by
  rcases hA.mem hs.nodup e he with rfl | ⟨he,_⟩
  ·obtain ⟨b,hb⟩:=hc.tag hA.tag; exact ⟨b,hb,trivial⟩
  ·exact hc e he
 have hxA:∀g w,F7 Mx g w->F7 MA g w:=fun g w hc e he=>by
  rcases hA.mem hs.nodup e he with rfl | ⟨he,hne⟩
  ·obtain ⟨b,hb,_⟩:=hc _ hx1; exact ⟨b,hb,trivial⟩
  ·exact hc e (hx2 e he hne)
 have hnews:LJ M rs:=by
  have hin:∀(i:Nat) (r:B6),rs[i]?=some r->∃o,V3 P c l.toArray (MI i) (sl S (rs.take i)) (cl M (rs.take i)) o r:=fun i r hr =>
   ⟨_,hst i r _ hr (List.getElem?_eq_getElem (by have:=(List.getElem?_eq_some_iff.1 hr).1; omega))⟩
  have hlt:∀(i j:Nat) (r r':B6) (e e':CE),i<j->rs[i]?=some r->rs[j]?=some r'->r.new=some e->r'.new=some e'->e.t≠e'.t:=fun i j r r' e e' hij hi hj he he' ht=>by
   obtain ⟨o,st⟩:=hin j r' hj
   refine (st.new e' he').2.2 (List.mem_map.2 ⟨e,(V6 _).2 (.inr ⟨i,r,?_,he⟩),ht⟩)
   rw[List.getElem?_take,if_pos hij]; exact hi
  refine ⟨fun i r e hr he ht=>?_,fun i j r r' e e' hi hj he he' ht=>?_⟩
  ·obtain ⟨o,st⟩:=hin i r hr
   obtain ⟨x,hx,hxt⟩:=List.mem_map.1 ht
   exact (st.new e he).2.2 (List.mem_map.2 ⟨x,(V6 _).2 (.inl hx),hxt⟩)
  ·rcases Nat.lt_trichotomy i j with hij | rfl | hij
   ·exact absurd ht (hlt i j r r' e e' hij hi hj he he')
   ·rfl
   ·exact absurd ht.symm (hlt j i r' r e' e hij hj hi he' he)
 have hsz0:(Array.replicate l.length false).size=l.length:=by simp
 have hqM:rs[q]?=none:=List.getElem?_eq_none zo
 have main2:∀(f:Nat) (listed:Array Bool) (a':Act) (g':Gh) (w':World),T4 listed<=f->Ld listed q->BK l c M Mx rs a g listed a' g' w'->wpAny P .any l.toArray Q f listed a' w':=by
  intro f
  induction f with
  | zero =>
   intro listed a' g' w' hf hq hI
   have hall:∀i,i<l.length->Ld listed i:=fun i hi=>ZZ (Nat.le_zero.1 hf) (by rw[hI.sz]; exact hi)
   have hlq:l.length=q+1:=by
    rcases Nat.lt_or_ge (q+1) l.length with h' | h'
    ·have:=hI.low _ (hall (q+1) h'); omega
    ·omega
   refine TQ (Nat.zero_le _) hd 0 l.length listed a' w' hI.sz (fun i=>⟨fun h=>by have:=h.lt; rw[hI.sz] at this; exact this,hall i⟩) zo (Nat.le_refl _) zo ?_
   have:=htail a' g' w' (hI.sat hst hMt zo hs hup hcd hdm hx1 hx2 (fun i hi=>hall i zo))
   rw[hlq]
   exact this
  | succ f ih =>
   intro listed a' g' w' hf hq hI
   by_cases hall:∀i,i<q+1->Ld listed i
   ·have hsat:=hI.sat hst hMt zo hs hup hcd hdm hx1 hx2 (fun i hi=>hall i zo)
    exact TQ (Nat.zero_le _) hd (f+1) (q+1) listed a' w' hI.sz (fun i=>⟨fun h=>by have:=hI.low i h; omega,hall i⟩) (Nat.le_refl _) zo (by
     have:T4 listed=l.length-(q+1):=by
      have hsplit:∀k,k<=listed.size->(listed.toList.take k).countP (fun b=>!b)=k-min k (q+1):=by
       intro k
       induction k with
       | zero=>simp
       | succ k ihk =>
        intro hk
        rw[List.take_succ_eq_append_getElem (by simp; omega),List.countP_append,ihk zo]
        by_cases hkm:k<q+1
        ·have h1:=hall k hkm
         unfold Ld at h1
         rw[Array.getElem?_eq_getElem zo] at h1
         simp only[Option.some.injEq] at h1
         simp[h1]; omega
        ·have h1:listed[k]=false:=by
          have h2:¬Ld listed k:=fun h=>by have:=hI.low k h; omega
          unfold Ld at h2
          rw[Array.getElem?_eq_getElem zo] at h2
          simpa using h2
         simp[h1]; omega
      have:=hsplit listed.size (Nat.le_refl _)
      rw[List.take_of_length_le (by simp)] at this
      unfold T4
      rw[this,hI.sz]; omega
     omega) (htail a' g' w' hsat)
   ·obtain ⟨q',hq'⟩:=Classical.not_forall.1 hall
    have hqm:q'<q+1:=Classical.byContradiction fun h=>hq' (fun h'=>absurd h' h)
    have hql:¬Ld listed q':=fun h=>hq' (fun _=>h)
    refine ⟨fun hr=>absurd (ST hd hI.sz hr q' zo) hql,fun i hi=>?_⟩
    obtain ⟨hnl,o,ho,hr⟩:=(GB hI.sz).1 hi
    have hil:=(List.getElem?_eq_some_iff.1 ho).1
    have him:i<q+1:=Classical.byContradiction fun hge=>hql (hI.clo.ready ho hr (hd.tail q' i zo hil zo (Nat.zero_le _)))
    have hiq:i<q:=by
     rcases Nat.lt_or_ge i q with h' | h'
     ·exact h'
     ·exact absurd (show Ld listed i by rw[show i=q by omega]; exact hq) hnl
    have hMi:F7 (MI i) g' w':=by
     rcases hMI i hiq with e | ⟨_,ha⟩
     ·rw[e]; exact hxA _ _ hI.cM
     ·rw[show q-q+i=i by omega] at ha
      exact absurd (hI.clo q i hq ha) hnl
    refine hI.step hst hMt hxt hxd zo hd hnews hs hi zo hMi (fun a'' g'' w'' hI'=>ih _ a'' g'' w'' ?_ ((Ld.set (by rw[hI.sz]; exact hil)).2 (.inr hq)) hI')
    have:=TM (listed:=listed) (i:=i) (by rw[hI.sz]; exact hil) hnl
    omega
 have main:∀(f:Nat) (listed:Array Bool) (a':Act) (g':Gh) (w':World),T4 listed<=f->¬Ld listed q->BK l c M M rs a g listed a' g' w'->wpAny P .any l.toArray Q f listed a' w':=by
  intro f
  induction f with
  | zero =>
   intro listed a' g' w' hf hq hI
   exact absurd (ZZ (Nat.le_zero.1 hf) (by rw[hI.sz]; omega)) hq
  | succ f ih =>
   intro listed a' g' w' hf hq hI
   refine ⟨fun hr=>absurd (ST hd hI.sz hr q zo) hq,fun i hi=>?_⟩
   obtain ⟨hnl,o,ho,hr⟩:=(GB hI.sz).1 hi
   have hil:=(List.getElem?_eq_some_iff.1 ho).1
   have hils:i<listed.size:=by rw[hI.sz]; exact hil
   have him:i<q+1:=Classical.byContradiction fun hge=>hq (hI.clo.ready ho hr (hd.tail q i zo hil zo (Nat.zero_le _)))
   have hun:=TM (listed:=listed) (i:=i) hils hnl
   by_cases hiq:i<q
   ·have hMi:F7 (MI i) g' w':=by
     rcases hMI i hiq with e | ⟨e,_⟩
     ·rw[e]; exact hMA _ _ hI.cM
     ·rw[e]; exact hI.cM
    exact hI.step hst hMt (fun _ h=>h) hs.cdep zo hd hnews hs hi zo hMi (fun a'' g'' w'' hI'=>ih _ a'' g'' w'' zo (fun h'=>by
     rcases (Ld.set hils).1 h' with e | h'
     ·omega
     ·exact hq h') hI')
   ·obtain rfl:i=q:=by omega
    obtain rfl:o=os:=Option.some.inj (ho.symm.trans hos)
    have hlook:=hI.look hst zo hd hs ho hnl hr
    rw[show rs.take i=rs from List.take_of_length_le zo] at hlook
    have hops:IJ (sl S rs) o a' g':=by
     intro x hx b k hxk hb
     cases x with
     | tmp t=>exact (hlook t (List.mem_append.2 (.inl (List.mem_filterMap.2 ⟨.tmp t,by simpa using hx,rfl⟩))) b k hxk).1 hb
     | const v=>cases hxk; rfl
     | global v=>cases hxk; rfl
     | func v=>cases hxk; rfl
    unfold wpOp
    rw[List.getElem?_toArray,ho]
    simp only
    rw[if_pos (by simp[Region.wanted,hog])]
    refine .inl (Oper.wp_on (hstore a' g' w' hI.ok hI.cM hops) ?_)
    rintro a'' w'' ⟨rfl,hdid⟩
    refine main2 f _ a'' g' w'' zo ((Ld.set hils).2 (.inl rfl)) ?_
    have hsub:∀j r,Ld (listed.setIfInBounds i true) j->rs[j]?=some r->Ld listed j:=fun j r hj hr=>by
     rcases (Ld.set hils).1 hj with rfl | hj
     ·rw[hqM] at hr; cases hr
     ·exact hj
    refine ⟨by simpa using hI.sz,hdid.ok hI.ok,hI.le,?_,hI.clo.set hils ho hr,fun j hj=>?_,hdid.marks hI.defers,hI.size,fun t ht=>hI.base t (fun j r hj hr=>ht j r ((Ld.set hils).2 (.inr hj)) hr),fun j r hr hj hlat=>hI.cur j r hr (hsub j r hj hr) (fun i' r' hlt hli hr'=>hlat i' r' hlt ((Ld.set hils).2 (.inr hli)) hr'),fun j r e hj hr he=>?_,fun t ht=>?_⟩
    ·intro e he
     rcases List.mem_cons.1 he with rfl | he
     ·obtain ⟨b,cap,ob,hm',_,_,_,_,_,hob,hct,_⟩:=hdid.ex
      exact ⟨_,hm',by simp only[World.objAt,hob]; exact hct⟩
     ·have hm':=List.mem_filter.1 he
      obtain ⟨bk,h1,h2⟩:=hI.cM e hm'.1
      refine ⟨bk,h1,?_⟩
      rw[hdid.other hI.ok (by simpa using hm'.2) h1]
      exact h2
    ·rcases (Ld.set hils).1 hj with rfl | hj
     ·omega
     ·exact hI.low j hj
    ·obtain ⟨bk,h1,h2⟩:=hI.made j r e (hsub j r hj hr) hr he
     refine ⟨bk,h1,?_⟩
     rw[hdid.other hI.ok (fun hu=>hnews.fresh j r e hr he (by rw[hu]; exact hA.tag)) h1]
     exact h2
    ·rcases hI.dom t ht with h1 | ⟨j,r,e,hj,hr,he,ht'⟩
     ·exact .inl h1
     ·exact .inr ⟨j,r,e,(Ld.set hils).2 (.inr hj),hr,he,ht'⟩
 refine NV hr hm (main _ _ a g w.drew ?_ (fun hi=>?_) ⟨by simp,hs.ok,Gh.le_refl _,hs.conts,fun i j hi=>?_,fun i hi=>?_,hs.defers,hs.size,fun _ _=>rfl,fun i r hr hi=>?_,fun i r e hi=>?_,fun t ht=>.inl ht⟩)
 ·unfold T4
  refine Nat.le_trans (List.countP_le_length) ?_
  simp
 all_goals
  unfold Ld at hi
  rw[Array.getElem?_eq_some_iff] at hi
  obtain ⟨_,hi⟩:=hi
  simp at hi
variable {M0 MA Mc:i1} {rest:List Oper} {d:Nat} {oop:Op} {ty:TypeId} {pos:String} {af:Array Edge} {q u k':Nat} {x y:Operand}
theorem n8.op {k:d7} {dep:List Nat} (h:l4 P c S MA ⟨some d,oop,ty,pos,af,none⟩ true k none) [hk:o5 k dep] (hs:t8 dep (tags MA)=true) (hn:Nat.blt d c.n=true)
  (K:n8 P c l Q u M MA q rest k' (⟨d,true,dep,k⟩::S) Mc):n8 P c l Q u M MA q (⟨some d,oop,ty,pos,af,none⟩::rest) (k'+1) S Mc :=
 ⟨⟨d,true,dep,k,none⟩,MA,.inl rfl,⟨rfl,h,hk,fun t ht=>.inl (C3 hs t ht),fun _ h=>(by cases h),by simpa [Nat.blt_eq] using hn,.inl ⟨rfl,rfl⟩⟩,K⟩
theorem n8.opA {k:d7} {dep:List Nat} (h:l4 P c S M ⟨some d,oop,ty,pos,af,none⟩ true k none) (ha:V5 l q (q-(k'+1))=true) [hk:o5 k dep] (hs:t8 dep (tags M)=true) (hn:Nat.blt d c.n=true)
  (K:n8 P c l Q u M MA q rest k' (⟨d,true,dep,k⟩::S) Mc):n8 P c l Q u M MA q (⟨some d,oop,ty,pos,af,none⟩::rest) (k'+1) S Mc :=
 ⟨⟨d,true,dep,k,none⟩,M,.inr ⟨rfl,ha⟩,⟨rfl,h,hk,fun t ht=>.inl (C3 hs t ht),fun _ h=>(by cases h),by simpa [Nat.blt_eq] using hn,.inl ⟨rfl,rfl⟩⟩,K⟩
theorem n8.z {ct':t9} {dep':List Nat} {Mc':i1} {o:Oper} (h:LN P c S M o u ct') (hd:o.dst=none) (hg:o.guard=none) [hup:D5 Mc u ct' dep' Mc'] [hc:B4 ct' dep'] (hs:t8 dep' (tags M)=true) (K:d5 P c l.toArray S Mc' rest Q):n8 P c l Q u M MA q (o::rest) 0 S Mc :=
 ⟨ct',dep',Mc',hd,hg,h,hup,hc,C3 hs,K⟩
theorem DL {t:TypeId} {n by':Nat} {zz:Value} [hz:p6 P t n by' zz] {u o:Nat} {ks kx ks':List d7} {dep:List Nat} {k:d7} {af:Array Edge} (hx:j2 S x=some (true,y5 u o)) (hy:j2 S y=some (true,k)) [hk:E9 k kx] [hl:q7 M u (j5 ks) dep] [hset:V1 ks o kx ks'] (hn:kx.length=n) :
  LN P c S M ⟨none,.store t x y,ty,pos,af,none⟩ u (j5 ks'):=by
 intro a g w hok hc ho
 obtain ⟨b,cap,hm,he⟩:=ho x (by simp[Op.operands]) _ _ hx rfl
 have hv:=ho y (by simp[Op.operands]) _ _ hy rfl
 obtain ⟨cs,tt,h3,h4⟩:=DT (ks:=ks) hc hm
 obtain ⟨h5,h6⟩:=hk.imp hv
 have hlen:=L6 h5
 have hcl:=L6 h4
 have hsl:=hset.len
 simp only[Array.length_toList] at hlen hcl
 have hr:=KR (P:=P) (t:=t) (o:=o) h3 (hlen.trans hn) zo (List.all_eq_true.1 h6)
 unfold Oper.wp
 simp only[execOp,he,Sem.run_bind,hr,Result.andThen_ok,Sem.run_pure,Oper.upon,Act.put]
 have hnew:=hset.holds h4 h5
 rw[Array.length_toList,hlen,hn] at hnew
 exact ⟨trivial,⟨Nat.le_refl _,b,cap,_,hm,rfl,rfl,rfl,by simp,fun k hk=>setRow_other w b k _ hk,setRow_heap w b cs _ tt (0,0) h3,⟨_,_,rfl,by simpa using hnew⟩,fun e=>by rw[h3] at e; cases e⟩⟩
theorem ah2 {t:TypeId} {n by':Nat} {zz:Value} [hz:p6 P t n by' zz] {α:Type} {zb:Bool} {et:TypeId} {e:i8 α} {xs:List α} {v:α} {u sz i len len':Nat} {dep:List Nat} {k:d7} {af:Array Edge} (hx:j2 S x=some (true,DF u sz i len)) (hy:j2 S y=some (true,k)) [hl:q7 M u (l5 zb et e xs len') dep] [hk:GR k e v]
  (hs:sz=e.n) (hn:e.n=n) (hle:len=len'):LN P c S M ⟨none,.store t x y,ty,pos,af,none⟩ u (l5 zb et e (xs.set i v) len'):=by
 intro a g w hok hc ho
 subst hle hs
 obtain ⟨hlt,b,cap,hm,he⟩:=ho x (by simp[Op.operands]) _ _ hx rfl
 have hv:=ho y (by simp[Op.operands]) _ _ hy rfl
 obtain ⟨h0,hz0,cs,h3,h4,h5,h6,h7⟩:=DS (xs:=xs) hc hm
 obtain ⟨h8,h9⟩:=hk.imp hv
 have hlen:=e.len h8
 have hin:i*e.n+e.n<=cs.size:=by rw[h4,<- Nat.succ_mul]; exact Nat.mul_le_mul_right _ zo
 simp only[Array.length_toList] at hlen
 have hr:=KR (P:=P) (t:=t) (o:=i*e.n) h3 (hlen.trans hn) zo h9
 unfold Oper.wp
 simp only[execOp,he,Sem.run_bind,hr,Result.andThen_ok,Sem.run_pure,Oper.upon,Act.put]
 refine ⟨trivial,⟨Nat.le_refl _,b,cap,_,hm,rfl,rfl,rfl,by simp,fun k hk=>setRow_other w b k _ hk,setRow_heap w b cs _ et (0,0) h3,?_,fun e=>by rw[h3] at e; cases e⟩⟩
 refine ⟨by simpa using h0,hz0,_,rfl,?_,h5,h6,fun j x hx=>?_⟩
 ·simp[hlen]; omega
 ·have hget:∀q,(cs.toList.take (i*e.n)++(a.eval y).cells.toList++cs.toList.drop (i*e.n+n)).toArray[q]?=if q<i*e.n then cs[q]? else if q<i*e.n+e.n then (a.eval y).cells.toList[q-i*e.n]? else cs[q]?:=by
   intro q
   simp only[List.getElem?_toArray,List.append_assoc,List.getElem?_append,List.length_take,Array.length_toList,show min (i*e.n) cs.size=i*e.n by omega,List.getElem?_take,List.getElem?_drop,hlen]
   by_cases q1:q<i*e.n
   ·simp[q1]
   ·simp only[q1,if_false]
    by_cases q2:q<i*e.n+e.n
    ·simp only[q2,if_true,show q-i*e.n<e.n by omega]
    ·simp only[q2,if_false,show ¬q-i*e.n<e.n by omega]
     rw[show i*e.n+n+(q-i*e.n-e.n)=q by omega]
     simp
  by_cases hj:i=j
  ·subst hj
   rw[List.getElem?_set_self zo] at hx
   simp only[Option.some.injEq] at hx
   subst hx
   refine ⟨_,h8,fun q r hq=>?_⟩
   have hql:=(List.getElem?_eq_some_iff.1 hq).1
   simp only[Array.length_toList,hlen] at hql
   rw[hget,if_neg zo,if_pos zo,show i*e.n+q-i*e.n=q by omega]
   exact hq
  ·rw[List.getElem?_set_ne hj] at hx
   obtain ⟨ds,k1,k2⟩:=h7 j x hx
   refine ⟨ds,k1,fun q r hq=>?_⟩
   have hql:=(List.getElem?_eq_some_iff.1 hq).1
   rw[e.len k1] at hql
   rw[hget]
   rcases Nat.lt_or_gt_of_ne hj with hij | hij
   ·have:(i+1)*e.n<=j*e.n:=Nat.mul_le_mul_right _ hij
    rw[Nat.succ_mul] at this
    rw[if_neg zo,if_neg zo]
    exact k2 q r hq
   ·have:(j+1)*e.n<=i*e.n:=Nat.mul_le_mul_right _ hij
    rw[Nat.succ_mul] at this
    rw[if_pos zo]
    exact k2 q r hq
end
end Go.Fl

/- More laws: cells of which nothing is known; arguments that are known to be more than a contract asks. -/
namespace Go.Fl
open Go Go.RowKit
theorem OQ {P:Nat->Prop} {k:Nat} (h:∀i,i<k->P i) (hk:P k):∀i,i<k+1->P i:=fun i hi=>by
 rcases Nat.lt_succ_iff_lt_or_eq.1 hi with h1 | h1
 ·exact h i h1
 ·subst h1; exact hk
theorem P4.e {M M' N:i1} {t:Nat} {ct ct':t9} {dep dep':List Nat} [hl:q7 M t ct dep] (he:ct=ct') [hk:B4 ct' dep'] (hs:t8 dep' (tags M')=true) (r:P4 M N M'):P4 M (⟨t,dep',ct'⟩::N) M':=r.conv (ct:=ct) (fun _ _ _ h=>he▸h) hs
end Go.Fl

/- More laws: rows that nobody writes any more from their making on. -/
namespace Go.Fl
open Go Go.RowKit
theorem H2.allocJ {c:n6} {k:d7} {g:Gh} {w:World} (h:Ok c g w) {cs:Array Value} {ty:TypeId} {v:Value}
  (hk:k ⟨fun b o=>if b=w.heap.size then cs[o]? else g.J b o,g.M⟩ v) :
  H2 c k none g ⟨fun b o=>if b=w.heap.size then cs[o]? else g.J b o,g.M⟩ w (w.alloc (.cells cs ty)) v:=by
 have hbel:Below w.heap.size w (w.alloc (.cells cs ty)):=(Below.refl _ _).alloc (Nat.le_refl _) _
 have hobj:(w.alloc (.cells cs ty)).heap[w.heap.size]?=some (.cells cs ty (0,0)):=heap_alloc_new w _
 have hle:g.J.le (fun b o=>if b=w.heap.size then cs[o]? else g.J b o):=fun b o u hu=>by
  by_cases e:b=w.heap.size
  ·subst e; rw[OB h (Nat.le_refl _)] at hu; cases hu
  ·simp only[if_neg e]; exact hu
 refine ⟨hk,⟨hle,fun _ _ h=>h⟩,⟨h.bel.then hbel,JV.le_trans h.jle hle,fun b o hb=>?_,fun b o u hu=>?_,fun u b cap' hu=>?_,h.inj⟩,hbel,fun e he=>(by cases he),fun u hu=>rfl⟩
 ·have:=h.bel.size
  simp only[if_neg (show b≠w.heap.size by omega)]
  exact h.jold b o hb
 ·simp only at hu
  by_cases e:b=w.heap.size
  ·subst e
   rw[if_pos rfl] at hu
   exact M7 hobj hu
  ·rw[if_neg e] at hu
   have:=h.im b o u hu
   have hlt:=World.block_lt_of_cell? _ _ this
   rw[World.cell?_alloc_lt _ _ _ hlt]; exact this
 ·obtain ⟨a1,a2,a3⟩:=h.own u b cap' hu
  exact ⟨a1,by simp; omega,fun o=>by simp only[if_neg (show b≠w.heap.size by omega)]; exact a3 o⟩
section
variable {P:Program} {c:n6} {S:i4} {M:i1} {p:Bool} {d:Option Tmp} {ty:TypeId} {pos:String} {af:Array Edge} {gd:Option (Nat×Bool)}
variable {x y:Operand} {b b':Bool}
theorem N0 {t et:TypeId} [ht:D1 P t et] {size bytes:Nat} {zz:Value} [hsz:p6 P et size bytes zz] {α:Type} (e:i8 α) {xs:List α} {len:Nat} {parts:List (Nat×Operand)} (h:p=true->CQ S e 0 parts xs) (hl:xs.length=len)
  (hs:size=e.n) (hsm:Nat.ble (len*size) 16777216=true) (hpos:Nat.blt 0 (len*size)=true) :
  l4 P c S M ⟨d,.buildSlice t len parts.toArray,ty,pos,af,gd⟩ p (b8 (eL e) xs) none:=by
 intro hp a g w hok hc ho hf
 obtain ⟨i,hi,rfl,rfl,hzz⟩:=hsz.h
 have hsm':=Nat.le_of_ble_eq_true hsm
 have hpos':0<len*i.size:=by simpa [Nat.blt_eq] using hpos
 obtain ⟨cs,h1,h2,_,h4⟩:=(h hp).fill (g:=g) (ρ:=a.eval) (fun y hy b k hk hb=>ho y.2 (by simp only[Op.operands]; simp; exact ⟨y.1,hy⟩) b k hk hb) (cells:=(Array.range (len*i.size)).map (zz.cells[·%zz.cells.size]!)) (by simp[hl,hs])
 have hmap:(parts.toArray.map fun (y:Nat×Operand)=>(y.1,a.eval y.2)).toList=parts.map fun y=>(y.1,a.eval y.2):=by simp
 rw[<- hs] at h1
 have hr:=run_buildSlice (P:=P) w t et len (parts.toArray.map fun (y:Nat×Operand)=>(y.1,a.eval y.2)) cs i zz ht.h hi hzz zo zo (by rw[hmap]; exact h1)
 unfold Oper.wp
 simp only[execOp,Sem.run_bind]
 rw[show (parts.toArray.map fun x:Nat×Operand=>match x with | (i,x)=>(i,a.eval x))=parts.toArray.map fun (y:Nat×Operand)=>(y.1,a.eval y.2) from rfl,hr]
 simp only[Result.andThen_ok,Sem.run_pure,Oper.upon]
 have hlen:len<=len*i.size:=Nat.le_mul_of_pos_right _ (Nat.pos_of_ne_zero (fun h0=>by rw[h0] at hpos'; simp at hpos'))
 refine ⟨_,_,rfl,H2.allocJ hok ?_⟩
 refine ⟨[.slice (some ⟨w.heap.size,0,none⟩) len len],⟨_,len,by rw[hl],⟨by rw[hl]; simp only[p9]; omega,by rw[hl]; exact Nat.le_refl _⟩,.inr ⟨_,_,rfl,fun k x hx=>?_⟩⟩,rfl⟩
 obtain ⟨ds,k1,k2⟩:=h4 k x hx
 refine ⟨ds,e.mono (J:=g.J) (fun b o u hu=>?_) k1,fun j v hj=>?_⟩
 ·by_cases e':b=w.heap.size
  ·subst e'; rw[OB hok (Nat.le_refl _)] at hu; cases hu
  ·simp only[if_neg e']; exact hu
 ·simp only[if_pos]
  have:=k2 j v hj
  simpa using this
end
theorem vJ {b e w:Bool} (h:(b&&(e==w))=true):b=true:=(Bool.and_eq_true_iff.1 h).1
theorem QK {b e:Bool} (hb:b=true) (h:e=true):(b&&(e==true))=true:=by subst hb h; rfl
theorem QJ {b e:Bool} (hb:b=true) (h:e=false):(b&&(e==false))=true:=by subst hb h; rfl
theorem Tr.meet2 {P:Program} {c:n6} {S:i4} {M:i1} {Q:Exit->Act->World->Prop} {x y:Code} {σ:Type} (U:i4) (V:i1) (_:E4 S M U M) (_:P4 M V M) (I:σ->i4) (J:σ->i1) (R:σ->Prop)
  (hx:Tr P c S M x (Exit.then (LG c (fun s=>I s++U) (fun s=>J s++V) R) Q)) (hy:∀s,R s->Tr P c (I s++U) (J s++V) y Q):Tr P c S M (.seq x y) Q :=
 Tr.cut (fun s=>I s++U) (fun s=>J s++V) R hx hy
end Go.Fl

/- From the row's reading of the arguments to ours, and from a contract to the row's last step. -/
namespace Go.Fl
open Go Go.RowKit Go.ChangeShapes Go.WideShapes Go.ChangeAt
def FS (W:World):JV:=fun b o=>W.cell? ⟨b,o,none⟩
theorem xH (W:World):Im (FS W) W:=fun _ _ _ h=>h
structure C4 (P:Program) (t:TypeId) {α:Type} (e:i8 α) (φ:α->Prop):Prop where
 imp:∀{H:Type} {enc:TypeId×Value->H} {W:World} {n:Nat} {cs:List Value} {x:DataW H×List MemPlace},
 DataW.trod enc P W 0 (fun _=>true) true n t cs=some x->(∀m∈x.1.weights P t,m<=reachBytes)->∃a,e.rd (FS W) cs a/\φ a
def BG {α β:Type} (φ:α->Prop) (ψ:β->Prop):α×β->Prop:=fun x=>φ x.1/\ψ x.2
def OH:Unit->Prop:=fun _=>True
def P6 {α:Type} [Inhabited α] (φ:α->Prop):List α->Prop:=fun xs=>xs.length<=reachBytes/\∀i,i<xs.length->φ (b6 xs i)
def S8 (k:IntKind) (n:Int):Prop:=(Lit.int k n).wf=true
theorem yL {n:Int} (h:S8 .i64 n):-9223372036854775808<=n/\n<=9223372036854775807:=by simpa [S8,Lit.wf,IntKind.min,IntKind.max,IntKind.signed,IntKind.bits] using h
theorem C4.int {P:Program} {t:TypeId} {k:IntKind} [h:IQ P t k]:C4 P t (FK k) (S8 k):=⟨fun hx _=>by
 obtain ⟨n,rfl,rfl,hw⟩:=DataW.trod_int h.h hx
 exact ⟨n,rfl,hw⟩⟩
theorem nE {H:Type} {P:Program} {e:TypeId} {m:Nat} {d:DataW H}:∀{l:List (DataW H)},d∈l->m∈d.weights P e->m∈DataW.weightsAll P e l
 | x::r,hd,hm=>by
  simp only[DataW.weightsAll,List.mem_append]
  rcases List.mem_cons.1 hd with rfl | hd
  ·exact .inl hm
  ·exact .inr (nE hd hm)
theorem C4.slice {P:Program} {t et:TypeId} [ht:D1 P t et] {size bytes:Nat} {zz:Value} [hz:p6 P et size bytes zz] {α:Type} [Inhabited α] {e:i8 α} {φ:α->Prop} (h:C4 P et e φ) (hs:e.n=size) (hp:Nat.blt 0 size=true) (hb:Nat.blt 0 bytes=true) :
  C4 P t (eL e) (P6 φ):=⟨fun {H enc W n cs x} hx hw=>by
 obtain ⟨ti,hi,h1,h2,_⟩:=hz.h
 have hp':0<size:=by simpa [Nat.blt_eq] using hp
 have hb':0<bytes:=by simpa [Nat.blt_eq] using hb
 have hc:P.cellsOf et=size:=by simp[Program.cellsOf,hi,h1]
 have hby:P.bytesOf et=bytes:=by simp[Program.bytesOf,hi,h2]
 rcases DataW.trod_slice ht.h hx with ⟨rfl,rfl⟩ | ⟨a,len,cap,elems,rest,m,rfl,rfl,rfl,_,hlc,hcm,hl,hel,_,_⟩
 ·exact ⟨[],Y1,Nat.zero_le _,fun i hi=>by simp at hi⟩
 ·simp only[DataW.weights,ht.h,List.mem_cons,List.mem_append] at hw
  have hlen:len<=reachBytes:=by
   have:=hw _ (.inl rfl)
   rw[hby] at this
   simp only[List.length_map] at this
   have h3:elems.length+rest.length<=(elems.length+rest.length)*bytes:=Nat.le_mul_of_pos_right _ hb'
   omega
  have one:∀i,i<len->∃ds y,W.cells? 0 (a.add (i*size)) size=some ds/\e.rd (FS W) ds y/\φ y:=fun i hi=>by
   have h4:=hel i hi
   rw[hc,List.getElem?_eq_getElem zo] at h4
   cases hcs:W.cells? 0 (a.add (i*size)) size with
   | none=>rw[hcs] at h4; simp at h4
   | some ds =>
    rw[hcs] at h4
    simp only[Option.bind_some] at h4
    obtain ⟨y,hy1,hy2⟩:=h.imp h4 (fun q hq=>hw q (.inr (.inl (nE (List.mem_map.2 ⟨_,List.getElem_mem _,rfl⟩) hq))))
    exact ⟨ds,y,rfl,hy1,hy2⟩
  let f:Nat->α:=fun i=>if hi:i<len then (one i hi).choose_spec.choose else default
  have hf:∀i (hi:i<len),∃ds,W.cells? 0 (a.add (i*size)) size=some ds/\e.rd (FS W) ds (f i)/\φ (f i):=fun i hi=>by
   refine ⟨(one i hi).choose,?_⟩
   simp only[f,dif_pos hi]
   exact (one i hi).choose_spec.choose_spec
  have hxl:((List.range len).map f).length=len:=by simp
  refine ⟨(List.range len).map f,⟨some a,cap,by rw[hxl],⟨by rw[hxl]; simp only[p9]; simp only[reachBytes] at hlen; omega,by rw[hxl]; exact hlc⟩,?_⟩,by rw[hxl]; exact hlen,fun i hi=>?_⟩
  ·by_cases h0:len=0
   ·subst h0; exact .inl rfl
   ·have hspot:a=⟨a.block,a.off,none⟩:=by
     obtain ⟨ds,h5,_⟩:=hf 0 zo
     obtain ⟨_,h6,h7⟩:=World.cells?_some h5
     have h8:=h7 0 hp'
     have h9:ds[0]?=some (ds[0]'zo):=List.getElem?_eq_getElem zo
     rw[h9,Nat.zero_mul] at h8
     have ha:(a.add 0).add 0=a:=by simp[Addr.add]
     rw[ha] at h8
     unfold World.cell? at h8
     cases hsp:a.spot with
     | none=>cases a; simp_all
     | some q=>rw[hsp] at h8; simp at h8; split at h8<;>simp at h8
    refine .inr ⟨a.block,a.off,by rw[<- hspot],fun i y hy=>?_⟩
    have hi:i<len:=by have:=(List.getElem?_eq_some_iff.1 hy).1; omega
    rw[List.getElem?_map,List.getElem?_range hi] at hy
    simp only[Option.map_some,Option.some.injEq] at hy
    subst hy
    obtain ⟨ds,h5,h6,_⟩:=hf i hi
    refine ⟨ds,h6,fun j v hj=>?_⟩
    obtain ⟨_,h7,h8⟩:=World.cells?_some h5
    have hjl:j<size:=by have:=(List.getElem?_eq_some_iff.1 hj).1; omega
    have h9:=h8 j hjl
    rw[hj,hspot,Addr.add_lit,Addr.add_lit] at h9
    rw[hs]
    exact h9
  ·rw[hxl] at hi
   obtain ⟨_,_,_,h6⟩:=hf i hi
   have h7:=H1 (xs:=(List.range len).map f) (i:=i) (by rw[hxl]; exact hi)
   rw[List.getElem?_map,List.getElem?_range hi] at h7
   rw[<- Option.some.inj h7]
   exact h6⟩
structure O3 (P:Program) (fs:List Field) (o:Nat) {α:Type} (e:i8 α) (φ:α->Prop):Prop where
 imp:∀{H:Type} {enc:TypeId×Value->H} {W:World} {n:Nat} {cs:List Value} {xs:List (DataW H×List MemPlace)},
 (∀(i:Nat) (f:Field),fs[i]?=some f->DataW.trod enc P W 0 (fun _=>true) true n f.type ((cs.drop (f.offset-o)).take (P.cellsOf f.type))=xs[i]?)->xs.length=fs.length->cs.length=(fs.map fun f:Field=>P.cellsOf f.type).sum ->
  (∀m∈DataW.weightsEach P (fs.map fun f:Field=>f.type) (xs.map (·.1)),m<=reachBytes)->∃a,e.rd (FS W) cs a/\φ a
theorem O3.nil {P:Program} {o:Nat}:O3 P [] o eU OH:=⟨fun {H enc W n cs xs} _ _ hc _=>by
 simp at hc
 subst hc
 exact ⟨(),rfl,trivial⟩⟩
theorem O3.cons {P:Program} {f:Field} {fs:List Field} {o size bytes:Nat} {zz:Value} {ft:TypeId} [hz:p6 P ft size bytes zz] {α β:Type} {e:i8 α} {e':i8 β} {φ:α->Prop} {ψ:β->Prop} (h:C4 P ft e φ) (hft:f.type=ft) (ho:f.offset=o) (hge:(fs.all fun g=>Nat.ble (o+size) g.offset)=true)
  (r:O3 P fs (o+size) e' ψ):O3 P (f::fs) o (eP e e') (BG φ ψ):=⟨fun {H enc W n cs xs} hx hl hc hw=>by
 subst hft
 obtain ⟨ti,hi,h1,h2,_⟩:=hz.h
 have hcs:P.cellsOf f.type=size:=by simp[Program.cellsOf,hi,h1]
 cases xs with
 | nil=>simp at hl
 | cons x xs =>
  have h0:=hx 0 f rfl
  rw[ho,Nat.sub_self,List.drop_zero,hcs] at h0
  simp only[List.getElem?_cons_zero] at h0
  simp only[List.map_cons,DataW.weightsEach,List.mem_append] at hw
  simp only[List.map_cons,List.sum_cons,hcs] at hc
  obtain ⟨a,k1,k2⟩:=h.imp h0 (fun m hm=>hw m (.inl hm))
  obtain ⟨b,k3,k4⟩:=r.imp (H:=H) (enc:=enc) (W:=W) (n:=n) (cs:=cs.drop size) (xs:=xs) (fun i g hg=>by
   have:=hx (i+1) g (by simpa using hg)
   simp only[List.getElem?_cons_succ] at this
   rw[<- this,List.drop_drop]
   have hb:=Nat.le_of_ble_eq_true (List.all_eq_true.1 hge g (List.mem_of_getElem? hg))
   rw[show size+(g.offset-(o+size))=g.offset-o by omega]) (by simpa using hl) (by rw[List.length_drop]; omega) (fun m hm=>hw m (.inr hm))
  exact ⟨(a,b),⟨cs.take size,cs.drop size,(List.take_append_drop _ _).symm,k1,k3⟩,k2,k4⟩⟩
theorem C4.struct {P:Program} {t:TypeId} {fs:Array Field} {l:List Field} (hu:P.underlying t=some (.struct fs)) (hl:fs.toList=l) {α:Type} {e:i8 α} {φ:α->Prop} (hsz:P.cellsOf t=(l.map fun f:Field=>P.cellsOf f.type).sum) (F:O3 P l 0 e φ):C4 P t e φ:=⟨fun {H enc W n cs x} hx hw=>by
 subst hl
 obtain ⟨xs,m,rfl,rfl,hc,hn,hf⟩:=DataW.trod_struct hu hx
 simp only[DataW.weights,hu] at hw
 exact F.imp (fun i f hf'=>by rw[Nat.sub_zero]; exact hf i f (by simpa using hf')) (by simpa using hn) (hc.trans hsz) hw⟩
theorem C4.conv {P:Program} {t:TypeId} {α β:Type} {e:i8 α} {φ:α->Prop} (h:C4 P t e φ) {e':i8 β} (f:α->β) (hf:∀J cs a,e.rd J cs a->e'.rd J cs (f a)) {ψ:β->Prop} (hψ:∀a,φ a->ψ (f a)):C4 P t e' ψ:=⟨fun hx hw=>by
 obtain ⟨a,h1,h2⟩:=h.imp hx hw
 exact ⟨f a,hf _ _ _ h1,hψ _ h2⟩⟩
theorem yH {P:Program} {W:World} {r:Reach} {base:Nat} {t:TypeId} {cs:Array Value} (h:Cell.ok P W r base t (.agg cs)):False:=by
 unfold Cell.ok at h
 revert h
 split<;>simp_all
theorem C4.val {P:Program} {t:TypeId} {α:Type} {e:i8 α} {φ:α->Prop} (h:C4 P t e φ) (hag:(match P.underlying t with | some (.struct _) | some (.array _ _)=>true | _=>false)=e.agg) {H:Type} {enc:TypeId×Value->H} {W:World} {base:Nat} {v:Value} {d:DataW H} {ps:List MemPlace}
  (hv:Value.okWide P W .any base t v) (ht:DataW.Trod enc P W 0 (fun _=>true) true t v d ps) (hw:∀m∈d.weights P t,m<=reachBytes):∃a,b8 e a ⟨FS W,y9⟩ v/\φ a:=by
 obtain ⟨n,hn⟩:=ht
 obtain ⟨a,h1,h2⟩:=h.imp hn hw
 refine ⟨a,⟨_,h1,?_⟩,h2⟩
 cases hb:e.agg with
 | true =>
  rw[hb] at hag
  unfold Value.okWide at hv
  split at hv
  ·obtain ⟨cs,rfl,_⟩:=hv; simp[Value.cells]
  ·obtain ⟨cs,rfl,_⟩:=hv; simp[Value.cells]
  ·rename_i h3 h4
   exfalso
   revert hag
   split
   ·rename_i fs hq; exact fun _=>h3 _ hq
   ·rename_i q r hq; exact fun _=>h4 _ _ hq
   ·intro hf; cases hf
 | false =>
  obtain ⟨h3,h4⟩:=e.one hb
  have hl:=e.len h1
  rw[h3] at hl
  simp only[Bool.false_eq_true,if_false]
  cases v with
  | agg cs =>
   exfalso
   rw[hb] at hag
   unfold Value.okWide at hv
   split at hv
   ·rename_i fs hq; rw[hq] at hag; cases hag
   ·rename_i q r hq; rw[hq] at hag; cases hag
   ·have:Cell.ok P W .any base t (.agg cs):=by
     unfold Cell.okWide at hv
     split at hv<;>first | (rename_i hq; cases hq; done) | exact hv
    exact yH this
  | _=>simp[Value.cells]
end Go.Fl
