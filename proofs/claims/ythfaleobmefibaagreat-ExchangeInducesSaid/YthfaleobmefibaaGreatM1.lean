/- Laws on walking typed knowledge through code, and contracts. -/
import Derived.WalkKit
import Derived.Orders
import Derived.RangeFuncLeaves
import Derived.RangeFuncFrom
import Derived.Great.BuildSlice
import Derived.WalkSpells
import Derived.MapKept
import Derived.Lib.SlicesS

/- Typed knowledge on a frame's slots and on memory; what one operation has to show ('OpOk'). No program in sight. -/
namespace Go.Fl
open Go Go.RowKit
theorem zo {p:Prop} (h:p:=by omega):p:=h
theorem zi {p:Prop} (h:p:=by first | rfl | omega | (simp; done) | (simp; omega) | assumption):p:=h

abbrev JV:=Nat->Nat->Option Value
def JV.le (J J':JV):Prop:=∀b o v,J b o=some v->J' b o=some v
theorem JV.le_refl (J:JV):J.le J:=fun _ _ _ h=>h
theorem JV.le_trans {a b c:JV} (h:a.le b) (k:b.le c):a.le c:=fun x y v e=>k x y v (h x y v e)
inductive Bk where
 | nil
 | blk (b cap:Nat)
structure Gh where
 J:JV
 M:Nat->Option Bk
def Gh.le (g g':Gh):Prop:=g.J.le g'.J/\∀t b,g.M t=some b->g'.M t=some b
theorem Gh.le_refl (g:Gh):g.le g:=⟨JV.le_refl _,fun _ _ h=>h⟩
theorem Gh.le_trans {a b c:Gh} (h:a.le b) (k:b.le c):a.le c:=⟨JV.le_trans h.1 k.1,fun t x e=>k.2 t x (h.2 t x e)⟩
abbrev b8:=Gh->Value->Prop
abbrev s9:=Gh->Bk->Option Obj->Prop
def w4:Nat->Option Bk:=fun _=>none
class o4 (k:b8) (dep:outParam (List Nat)):Prop where
 dep:∀{g g':Gh} {v:Value},g.J.le g'.J->(∀t∈dep,g'.M t=g.M t)->k g v->k g' v
class z7 (c:s9) (dep:outParam (List Nat)):Prop where
 dep:∀{g g':Gh} {b:Bk} {o:Option Obj},g.J.le g'.J->(∀t∈dep,g'.M t=g.M t)->c g b o->c g' b o

def CR (J:JV) (b o:Nat) (ds:List Value):Prop:=∀j v,ds[j]?=some v->J b (o+j)=some v
theorem CR.mono {J J':JV} (h:J.le J') {b o:Nat} {ds:List Value} (k:CR J b o ds):CR J' b o ds:=fun j v e=>h _ _ _ (k j v e)
def t6:Nat:=281474976710656
structure i7 (α:Type) where
 n:Nat
 agg:Bool
 rd:JV->List Value->α->Prop
 len:∀{J:JV} {cs:List Value} {x:α},rd J cs x->cs.length=n
 one:agg=false->n=1/\∀{J:JV} {v:Value} {x:α},rd J [v] x->v.oneCell'=true
 all1:∀{J:JV} {cs:List Value} {x:α},rd J cs x->∀v∈cs,v.oneCell'=true
 mono:∀{J J':JV} {cs:List Value} {x:α},J.le J'->rd J cs x->rd J' cs x
def i7.val {α:Type} (e:i7 α) (J:JV) (v:Value) (x:α):Prop :=
 ∃cs,e.rd J cs x/\v=(if e.agg then .agg cs.toArray else cs.headD undef)
theorem i7.val.mono {α:Type} {e:i7 α} {J J':JV} {v:Value} {x:α} (h:J.le J') (k:e.val J v x):e.val J' v x :=
 let ⟨cs,h1,h2⟩:=k; ⟨cs,e.mono h h1,h2⟩
theorem SI {v:Value} (h:v.oneCell'=true):v.cells=#[v]:=by
 cases v<;>first | rfl | (simp[Value.oneCell'] at h)
theorem i7.val.cells {α:Type} {e:i7 α} {J:JV} {v:Value} {x:α} (k:e.val J v x):e.rd J v.cells.toList x:=by
 obtain ⟨cs,h1,rfl⟩:=k
 cases hb:e.agg with
 | true=>simpa [Value.cells] using h1
 | false =>
  have hl:=e.len h1
  obtain ⟨hn,ho⟩:=e.one hb
  rw[hn] at hl
  match cs,hl with
  | [c],_ =>
   have:=ho h1
   simp only[List.headD_cons,Bool.false_eq_true,if_false]
   rw[SI this]
   exact h1
def EC (k:IntKind):i7 Int where
 n:=1
 agg:=false
 rd _ cs x:=cs=[.int k x]
 len h:=by subst h; rfl
 one _:=⟨rfl,fun h=>by cases h; rfl⟩
 all1 h v hv:=by subst h; simp at hv; subst hv; rfl
 mono _ h:=h
abbrev eI:i7 Int:=EC .i64
def AS:i7 Bool where
 n:=1
 agg:=false
 rd _ cs x:=cs=[.bool x]
 len h:=by subst h; rfl
 one _:=⟨rfl,fun h=>by cases h; rfl⟩
 all1 h v hv:=by subst h; simp at hv; subst hv; rfl
 mono _ h:=h
def BE {α:Type} (e:i7 α) (J:JV) (b o:Nat) (xs:List α):Prop :=
 ∀i x,xs[i]?=some x->∃ds,e.rd J ds x/\CR J b (o+i*e.n) ds
theorem BE.mono {α:Type} {e:i7 α} {J J':JV} (h:J.le J') {b o:Nat} {xs:List α} (k:BE e J b o xs):BE e J' b o xs :=
 fun i x hx=>let ⟨ds,h1,h2⟩:=k i x hx; ⟨ds,e.mono h h1,h2.mono h⟩
def eL {α:Type} (e:i7 α):i7 (List α) where
 n:=1
 agg:=false
 rd J cs xs:=∃a cap,cs=[.slice a xs.length cap]/\(xs.length<=t6/\xs.length<=cap)/\(xs=[]\/∃b o,a=some ⟨b,o,none⟩/\BE e J b o xs)
 len h:=by obtain ⟨_,_,rfl,_⟩:=h; rfl
 one _:=⟨rfl,fun h=>by obtain ⟨_,_,h,_⟩:=h; cases h; rfl⟩
 all1 h v hv:=by obtain ⟨_,_,rfl,_⟩:=h; simp at hv; subst hv; rfl
 mono hl h:=by
  obtain ⟨a,cap,h1,hm,h2⟩:=h
  refine ⟨a,cap,h1,hm,?_⟩
  rcases h2 with h2 | ⟨b,o,h3,h4⟩
  ·exact .inl h2
  ·exact .inr ⟨b,o,h3,h4.mono hl⟩
def eU:i7 Unit where
 n:=0
 agg:=true
 rd _ cs _:=cs=[]
 len h:=by subst h; rfl
 one h:=by cases h
 all1 h v hv:=by subst h; simp at hv
 mono _ h:=h
def eP {α β:Type} (e:i7 α) (f:i7 β):i7 (α×β) where
 n:=e.n+f.n
 agg:=true
 rd J cs x:=∃c1 c2,cs=c1++c2/\e.rd J c1 x.1/\f.rd J c2 x.2
 len h:=by obtain ⟨c1,c2,rfl,h1,h2⟩:=h; rw[List.length_append,e.len h1,f.len h2]
 one h:=by cases h
 all1 h v hv:=by
  obtain ⟨c1,c2,rfl,h1,h2⟩:=h
  rcases List.mem_append.1 hv with h | h
  ·exact e.all1 h1 v h
  ·exact f.all1 h2 v h
 mono hl h:=by obtain ⟨c1,c2,h0,h1,h2⟩:=h; exact ⟨c1,c2,h0,e.mono hl h1,f.mono hl h2⟩
def eC {α β:Type} (f:β->α) (e:i7 α):i7 β where
 n:=e.n
 agg:=e.agg
 rd J cs x:=e.rd J cs (f x)
 len h:=e.len h
 one h:=⟨(e.one h).1,fun k=>(e.one h).2 k⟩
 all1 h:=e.all1 h
 mono hl h:=e.mono hl h
def W7 {α:Type} (e:i7 α):i7 α where
 n:=1
 agg:=false
 rd J cs x:=∃b o ds,cs=[.pointer (some ⟨b,o,none⟩)]/\e.rd J ds x/\CR J b o ds
 len h:=by obtain ⟨_,_,_,rfl,_⟩:=h; rfl
 one _:=⟨rfl,fun h=>by obtain ⟨_,_,_,h,_⟩:=h; cases h; rfl⟩
 all1 h v hv:=by obtain ⟨_,_,_,rfl,_⟩:=h; simp at hv; subst hv; rfl
 mono hl h:=by obtain ⟨b,o,ds,h1,h2,h3⟩:=h; exact ⟨b,o,ds,h1,e.mono hl h2,h3.mono hl⟩

def j8 (u:Value):b8:=fun _ v=>v=u
abbrev y3 (k:IntKind) (n:Int):b8:=j8 (.int k n)
abbrev kI (n:Int):b8:=j8 (.int .i64 n)
abbrev kB (b:Bool):b8:=j8 (.bool b)
def b7 {α:Type} (e:i7 α) (x:α):b8:=fun g v=>e.val g.J v x
def r5 {α:Type} (e:i7 α) (x:α):b8:=fun g v=>∃b o ds,v=.pointer (some ⟨b,o,none⟩)/\e.rd g.J ds x/\CR g.J b o ds
def w6 (t o:Nat):b8:=fun g v=>∃b cap,g.M t=some (.blk b cap)/\v=.pointer (some ⟨b,o,none⟩)
def BZ (t n i len:Nat):b8:=fun g v=>i<len/\∃b cap,g.M t=some (.blk b cap)/\v=.pointer (some ⟨b,i*n,none⟩)
def q8 (t len:Nat):b8:=fun g v=>(g.M t=some .nil/\len=0/\v=.slice none 0 0)\/∃b cap,g.M t=some (.blk b cap)/\v=.slice (some ⟨b,0,none⟩) len cap
def o6 (g:Gh):List b8->List Value->Prop
 | [],[]=>True
 | k::ks,v::vs=>k g v/\o6 g ks vs
 | _,_=>False
def y4 (ks:List b8):b8:=fun g v=>∃vs:List Value,v=.tuple vs.toArray/\o6 g ks vs
def G6 (ks:List b8):b8:=fun g v=>∃cs:List Value,v=.agg cs.toArray/\o6 g ks cs
def U3:b8:=fun _ _=>True
instance (u:Value):o4 (j8 u) []:=⟨fun _ _ h=>h⟩
instance:o4 U3 []:=⟨fun _ _ h=>h⟩
instance {α:Type} (e:i7 α) (x:α):o4 (b7 e x) []:=⟨fun h _ k=>i7.val.mono h k⟩
instance {α:Type} (e:i7 α) (x:α):o4 (r5 e x) []:=⟨fun h _ ⟨b,o,ds,h1,h2,h3⟩=>⟨b,o,ds,h1,e.mono h h2,h3.mono h⟩⟩
instance (t o:Nat):o4 (w6 t o) [t]:=⟨fun _ hd ⟨b,cap,h1,h2⟩=>⟨b,cap,(hd t (by simp)).trans h1,h2⟩⟩
instance (t n i l:Nat):o4 (BZ t n i l) [t]:=⟨fun _ hd ⟨h0,b,cap,h1,h2⟩=>⟨h0,b,cap,(hd t (by simp)).trans h1,h2⟩⟩
instance (t l:Nat):o4 (q8 t l) [t]:=⟨fun _ hd h=>h.imp (fun ⟨h1,h2⟩=>⟨(hd t (by simp)).trans h1,h2⟩) (fun ⟨b,cap,h1,h2⟩=>⟨b,cap,(hd t (by simp)).trans h1,h2⟩)⟩
class A6 (ks:List b8) (dep:outParam (List Nat)):Prop where
 dep:∀{g g':Gh} {vs:List Value},g.J.le g'.J->(∀t∈dep,g'.M t=g.M t)->o6 g ks vs->o6 g' ks vs
instance:A6 [] []:=⟨fun {_ _ vs} _ _ h=>by cases vs<;>exact h⟩
instance {k:b8} {ks:List b8} {d ds:List Nat} [h:o4 k d] [hs:A6 ks ds]:A6 (k::ks) (d++ds) :=
 ⟨fun {_ _ vs} hl hd hk=>by
  cases vs with
  | nil=>exact hk
  | cons v vs=>exact ⟨h.dep hl (fun t ht=>hd t (List.mem_append.2 (.inl ht))) hk.1,hs.dep hl (fun t ht=>hd t (List.mem_append.2 (.inr ht))) hk.2⟩⟩
instance {ks:List b8} {ds:List Nat} [h:A6 ks ds]:o4 (y4 ks) ds:=⟨fun hl hd ⟨vs,h1,h2⟩=>⟨vs,h1,h.dep hl hd h2⟩⟩
instance {ks:List b8} {ds:List Nat} [h:A6 ks ds]:o4 (G6 ks) ds:=⟨fun hl hd ⟨vs,h1,h2⟩=>⟨vs,h1,h.dep hl hd h2⟩⟩
theorem o4.mono {k:b8} {d:List Nat} (h:o4 k d) {g g':Gh} {v:Value} (hl:g.le g') (hd:∀t∈d,g.M t≠none) (hk:k g v):k g' v :=
 h.dep hl.1 (fun t ht=>by
  cases e:g.M t with
  | none=>exact absurd e (hd t ht)
  | some x=>exact hl.2 t x e) hk
theorem FI {g:Gh}:∀{ks:List b8} {vs:List Value},o6 g ks vs->∀{i:Nat} {k:b8},ks[i]?=some k->∃v,vs[i]?=some v/\k g v
 | [],[],_,_,_,h=>by simp at h
 | _::_,v::_,hh,0,_,h=>by simp at h; subst h; exact ⟨v,rfl,hh.1⟩
 | _::_,_::_,hh,i+1,k,h=>by simpa using FI hh.2 (i:=i) (k:=k) (by simpa using h)
 | [],_::_,h,_,_,_=>h.elim
 | _::_,[],h,_,_,_=>h.elim
theorem I2 {g:Gh}:∀{ks:List b8} {vs:List Value},o6 g ks vs->vs.length=ks.length
 | [],[],_=>rfl
 | _::_,_::_,h=>by simp[I2 h.2]
 | [],_::_,h=>h.elim
 | _::_,[],h=>h.elim
theorem MH {g:Gh}:∀{ks ls:List b8} {vs ws:List Value},o6 g ks vs->o6 g ls ws->o6 g (ks++ls) (vs++ws)
 | [],_,[],_,_,h=>h
 | _::_,_,_::_,_,h,h'=>⟨h.1,MH h.2 h'⟩
 | [],_,_::_,_,h,_=>h.elim
 | _::_,_,[],_,h,_=>h.elim
theorem YK {g:Gh}:∀{ks:List b8} {vs:List Value},o6 g ks vs->∀(i:Nat) {k:b8} {v:Value},k g v->o6 g (ks.set i k) (vs.set i v)
 | [],[],_,_,_,_,_=>trivial
 | _::_,_::_,h,0,_,_,hk=>⟨hk,h.2⟩
 | _::_,_::_,h,i+1,_,_,hk=>⟨h.1,YK h.2 i hk⟩
 | [],_::_,h,_,_,_,_=>h.elim
 | _::_,[],h,_,_,_,_=>h.elim

def j3 (ks:List b8):s9:=fun g _ o=>∃cs ty,o=some (.cells cs ty (0,0))/\o6 g ks cs.toList
def m9 {α:Type} (z:Bool) (ty:TypeId) (e:i7 α) (xs:List α) (len:Nat):s9:=fun g bk o =>
 xs.length=len/\match bk with
 | .nil=>len=0
 | .blk _ cap=>(z=true->len≠0)/\∃cs:Array Value,o=some (.cells cs ty (0,0))/\cs.size=cap*e.n/\len<=cap/\cap<=maxLen /\
  ∀i x,xs[i]?=some x->∃ds,e.rd g.J ds x/\∀j v,ds[j]?=some v->cs[i*e.n+j]?=some v
def lG:s9:=fun _ _ _=>True
instance {ks:List b8} {ds:List Nat} [h:A6 ks ds]:z7 (j3 ks) ds:=⟨fun hl hd ⟨cs,ty,h1,h2⟩=>⟨cs,ty,h1,h.dep hl hd h2⟩⟩
instance {α:Type} (z:Bool) (ty:TypeId) (e:i7 α) (xs:List α) (len:Nat):z7 (m9 z ty e xs len) [] :=
 ⟨fun {_ _ b _} hl _ ⟨h0,h⟩=>⟨h0,by
  cases b with
  | nil=>exact h
  | blk b cap =>
   obtain ⟨hz,cs,h1,h2,h3,h4,h5⟩:=h
   exact ⟨hz,cs,h1,h2,h3,h4,fun i x hx=>let ⟨ds,k1,k2⟩:=h5 i x hx; ⟨ds,e.mono hl k1,k2⟩⟩⟩⟩
class JM (ct:s9):Prop where
 no:∀{g:Gh} {b cap:Nat} {o:Option Obj},ct g (.blk b cap) o->o≠some (Obj.deferred (some []))
instance {ks:List b8}:JM (j3 ks):=⟨fun ⟨_,_,h,_⟩ e=>by rw[h] at e; cases e⟩
instance {α:Type} {z:Bool} {ty:TypeId} {e:i7 α} {xs:List α} {len:Nat}:JM (m9 z ty e xs len):=⟨fun ⟨_,_,_,h,_⟩ e=>by rw[h] at e; cases e⟩

structure l8 where
 w0:World
 J0:JV
 bor:List Nat
 n:Nat
 rd:Option Nat
 mrk:Bool
 om:List Nat
def l8.F (c:l8):Fence:={ Fence.wide with round:=c.rd }
def N6 (m:Bool) (B:Nat) (om:List Nat) (ds:List Deferred) (w:World):Prop :=
 (match m with
 | false=>ds=[]
 | true=>ds.Nodup/\∀d∈ds,∃D:Nat,d={ target:=.collected D,args:=#[] }/\B<=D/\w.heap[D]?=some (Obj.deferred (some [])))/\∀D∈om,w.heap[D]?=some (Obj.deferred (some []))
theorem N6.on {m:Bool} {B:Nat} {om:List Nat} {ds:List Deferred} {w w':World} (h:N6 m B om ds w) (hk:∀D:Nat,w.heap[D]?=some (Obj.deferred (some []))->w'.heap[D]?=w.heap[D]?):N6 m B om ds w':=by
 refine ⟨?_,fun D hD=>(hk D (h.2 D hD)).trans (h.2 D hD)⟩
 have h:=h.1
 cases m with
 | false=>exact h
 | true=>exact ⟨h.1,fun d hd=>let ⟨D,h1,h2,h3⟩:=h.2 d hd; ⟨D,h1,h2,(hk D h3).trans h3⟩⟩
@[reducible] def dz (_:Nat):Nat:=0
theorem CU (n:Nat):dz n<=dz (n+1):=by unfold dz; omega
structure Below (B:Nat) (w w':World):Prop where
 os:w'.os=w.os
 tape:w'.tape=w.tape
 output:w'.output=w.output
 size:w.heap.size<=w'.heap.size
 block:∀k,k<B->w'.heap[k]?=w.heap[k]?
 drawn:dz w.drawn<=dz w'.drawn
theorem Below.refl (B:Nat) (w:World):Below B w w:=⟨rfl,rfl,rfl,Nat.le_refl _,fun _ _=>rfl,Nat.le_refl _⟩
theorem Below.trans {B:Nat} {a b c:World} (h:Below B a b) (k:Below B b c):Below B a c :=
 ⟨k.os.trans h.os,k.tape.trans h.tape,k.output.trans h.output,Nat.le_trans h.size k.size,fun i hi=>(k.block i hi).trans (h.block i hi),Nat.le_trans h.drawn k.drawn⟩
theorem Below.mono {B B':Nat} {w w':World} (h:Below B w w') (hB:B'<=B):Below B' w w':=⟨h.os,h.tape,h.output,h.size,fun k hk=>h.block k (Nat.lt_of_lt_of_le hk hB),h.drawn⟩
theorem Below.drew {B:Nat} {a w:World} (h:Below B a w):Below B a w.drew:=⟨h.os,h.tape,h.output,h.size,h.block,Nat.le_trans h.drawn (CU _)⟩
theorem Below.heap_alloc (w:World) (o:Obj) (k:Nat) (h:k<w.heap.size):(w.alloc o).heap[k]?=w.heap[k]?:=Go.RowKit.Below.heap_alloc w o k h
theorem Below.alloc {B:Nat} {a w:World} (h:Below B a w) (hB:B<=w.heap.size) (o:Obj):Below B a (w.alloc o) :=
 h.trans ⟨rfl,rfl,rfl,by simp,fun k hk=>Below.heap_alloc _ _ _ zo,Nat.le_refl _⟩
theorem Below.kit {B:Nat} {w w':World} (h:Below B w w'):Go.RowKit.Below B w w':=⟨h.os,h.tape,h.output,h.size,h.block⟩
theorem Below.frame {W w':World} (h:Below W.heap.size W w') (may:MemPlace->Prop):W.keptBut w' may:=h.kit.frame may
theorem Below.cell {B:Nat} {w w':World} (h:Below B w w') {p:Addr} (hp:p.block<B):w'.cell? p=w.cell? p:=h.kit.cell hp
structure LT (bor:List Nat) (w w':World):Prop where
 os:w'.os=w.os
 tape:w'.tape=w.tape
 output:w'.output=w.output
 size:w.heap.size<=w'.heap.size
 block:∀k,k<w.heap.size->k∉bor->w'.heap[k]?=w.heap[k]?
 drawn:dz w.drawn<=dz w'.drawn
theorem N6.below {m:Bool} {B:Nat} {om:List Nat} {ds:List Deferred} {w w':World} (h:N6 m B om ds w) (hb:Below w.heap.size w w'):N6 m B om ds w' :=
 h.on fun D hD=>hb.block D (Array.getElem?_eq_some_iff.1 hD).1
theorem LT.then {bor:List Nat} {a b c:World} (h:LT bor a b) (k:Below b.heap.size b c):LT bor a c :=
 ⟨k.os.trans h.os,k.tape.trans h.tape,k.output.trans h.output,Nat.le_trans h.size k.size,fun i hi hb=>(k.block i (Nat.lt_of_lt_of_le hi h.size)).trans (h.block i hi hb),Nat.le_trans h.drawn k.drawn⟩
structure Ok (c:l8) (g:Gh) (w:World):Prop where
 bel:LT c.bor c.w0 w
 jle:c.J0.le g.J
 jold:∀b o,b<c.w0.heap.size->g.J b o=c.J0 b o
 im:∀b o v,g.J b o=some v->w.cell? ⟨b,o,none⟩=some v
 own:∀t b cap,g.M t=some (.blk b cap)->(c.w0.heap.size<=b\/b∈c.bor)/\b<w.heap.size/\∀o,g.J b o=none
 inj:∀t t' b cap cap',g.M t=some (.blk b cap)->g.M t'=some (.blk b cap')->t=t'
structure SE where
 s:Nat
 b:Bool
 dep:List Nat
 k:b8
structure CE where
 t:Nat
 dep:List Nat
 c:s9
abbrev g9:=List SE
abbrev f0:=List CE
def look:g9->Nat->Option (Bool×b8)
 | [],_=>none
 | e::r,t=>bif Nat.beq e.s t then some (e.b,e.k) else look r t
def j1 (S:g9):Operand->Option (Bool×b8)
 | .tmp t=>look S t
 | .const v=>some (true,j8 v)
 | .global g=>some (true,j8 (.pointer (some ⟨g,0,none⟩)))
 | .func f=>some (true,j8 (.func (.func f) #[] #[]))
def P8 (g:Gh) (v:Value) (b:Bool) (k:b8):Prop:=(b=true->k g v)/\(b=false->v=undef)
def R8 (S:g9) (a:Act) (g:Gh):Prop:=∀t b k,look S t=some (b,k)->P8 g (a.tmps.getD t undef) b k
def RL (S:g9) (M:f0):Prop:=∀e∈S,o4 e.k e.dep/\∀t∈e.dep,t∈M.map (·.t)
def GQ (N:f0) (M:f0):Prop:=∀e∈N,z7 e.c e.dep/\∀t∈e.dep,t∈M.map (·.t)
def World.objAt (w:World):Bk->Option Obj
 | .nil=>none
 | .blk b _=>w.heap[b]?
def D9 (M:f0) (g:Gh) (w:World):Prop:=∀e∈M,∃b,g.M e.t=some b/\e.c g b (World.objAt w b)
structure l4 (c:l8) (S:g9) (M:f0) (a:Act) (g:Gh) (w:World):Prop where
 ok:Ok c g w
 slots:R8 S a g
 conts:D9 M g w
 dom:∀t,g.M t≠none->t∈M.map (·.t)
 nodup:(M.map (·.t)).Nodup
 sdep:RL S M
 cdep:GQ M M
 defers:N6 c.mrk c.w0.heap.size c.om a.defers w
 size:a.tmps.size=c.n
theorem B5 {S:g9} {a:Act} {g:Gh} (h:R8 S a g) {x:Operand} {b:Bool} {k:b8} (hx:j1 S x=some (b,k)) (hb:b=true):k g (a.eval x):=by
 cases x with
 | tmp t=>exact (h t b k hx).1 hb
 | const v=>cases hx; rfl
 | global v=>cases hx; rfl
 | func v=>cases hx; rfl

def FC (S:g9) (o:Oper) (a:Act) (g:Gh):Prop:=∀x∈o.op.operands,∀b k,j1 S x=some (b,k)->b=true->k g (a.eval x)
structure F8 (c:l8) (k:b8) (new:Option CE) (g g':Gh) (w w':World) (v:Value):Prop where
 k:k g' v
 le:g.le g'
 ok:Ok c g' w'
 bel:Below w.heap.size w w'
 made:∀e,new=some e->∃b,g'.M e.t=some b/\e.c g' b (World.objAt w' b)
 old:∀t,(∀e,new=some e->e.t≠t)->g'.M t=g.M t
def l3 (P:Program) (c:l8) (S:g9) (M:f0) (o:Oper) (p:Bool) (k:b8) (new:Option CE):Prop :=
 p=true->∀(a:Act) (g:Gh) (w:World),Ok c g w->D9 M g w->FC S o a g->(∀e,new=some e->g.M e.t=none) ->
  o.wp P a w (fun a' w'=>∃v g',a'=a.put o.dst v/\F8 c k new g g' w w' v) (fun _ _ _=>False)
theorem F8.same {c:l8} {k:b8} {g:Gh} {w:World} {v:Value} (h:Ok c g w) (hk:k g v):F8 c k none g g w w v :=
 ⟨hk,Gh.le_refl _,h,Below.refl _ _,fun _ h=>(by cases h),fun _ _=>rfl⟩
theorem l3.pure {P:Program} {c:l8} {S:g9} {M:f0} {o:Oper} {p:Bool} {k:b8}
  (h:p=true->∀(a:Act) (g:Gh) (w:World),Ok c g w->D9 M g w->FC S o a g->∃v,(execOp a.eval o).run P w=.ok (.value v) w/\k g v):l3 P c S M o p k none :=
 fun hp a g w hok hc ho _=>by
  obtain ⟨v,hr,hv⟩:=h hp a g w hok hc ho
  unfold Oper.wp
  rw[hr]
  exact ⟨v,g,rfl,.same hok hv⟩
end Go.Fl

/- Walking code over typed knowledge: lists of operations, regions, branches, loops, returns; contracts. -/
namespace Go.Fl
open Go Go.RowKit

def s5:List Nat->List Nat->Bool
 | [],_=>true
 | t::r,l=>(l.any fun u=>Nat.beq u t)&&s5 r l
theorem A1:∀{d l:List Nat},s5 d l=true->∀t∈d,t∈l
 | t::r,l,h,u,hu=>by
  simp only[s5,Bool.and_eq_true] at h
  rcases List.mem_cons.1 hu with rfl | hu
  ·obtain ⟨x,hx,he⟩:=List.any_eq_true.1 h.1
   rw[<- Nat.eq_of_beq_eq_true he]; exact hx
  ·exact A1 h.2 u hu
def tags (M:f0):List Nat:=M.map (·.t)
def P4 (e:Option CE) (M:f0):f0:=match e with | some e=>e::M | none=>M
theorem CY:∀{S:g9} {t:Nat} {b:Bool} {k:b8},look S t=some (b,k)->∃e∈S,e.s=t/\e.b=b/\e.k=k
 | e::S,t,b,k,h=>by
  simp only[look] at h
  cases hb:Nat.beq e.s t with
  | true =>
   rw[hb] at h
   simp only[cond_true,Option.some.injEq,Prod.mk.injEq] at h
   exact ⟨e,List.mem_cons_self,Nat.eq_of_beq_eq_true hb,h.1,h.2⟩
  | false =>
   rw[hb] at h
   obtain ⟨x,hx,r⟩:=CY (S:=S) h
   exact ⟨x,List.mem_cons_of_mem _ hx,r⟩
theorem l4.tagM {c:l8} {S:g9} {M:f0} {a:Act} {g:Gh} {w:World} (h:l4 c S M a g w) {t:Nat} (ht:t∈tags M):∃b,g.M t=some b:=by
 obtain ⟨e,he,rfl⟩:=List.mem_map.1 ht
 obtain ⟨b,hb,_⟩:=h.conts e he
 exact ⟨b,hb⟩
theorem D9.tag {M:f0} {g:Gh} {w:World} (h:D9 M g w) {t:Nat} (ht:t∈tags M):∃b,g.M t=some b:=by
 obtain ⟨e,he,rfl⟩:=List.mem_map.1 ht
 obtain ⟨b,hb,_⟩:=h e he
 exact ⟨b,hb⟩
theorem dM {M:f0} {g g':Gh} {w:World} (hc:D9 M g w) (hl:g.le g') {k:b8} {dep:List Nat} (hk:o4 k dep) (hd:∀t∈dep,t∈tags M) {v:Value} (h:k g v):k g' v :=
 hk.dep hl.1 (fun t ht=>by obtain ⟨b,hb⟩:=hc.tag (hd t ht); rw[hb]; exact hl.2 t b hb) h
theorem R8.on {S:g9} {M:f0} {a:Act} {g g':Gh} {w:World} (h:R8 S a g) (hs:RL S M) (hc:D9 M g w) (hl:g.le g'):R8 S a g':=by
 intro t b k hk
 obtain ⟨e,he,_,_,rfl⟩:=CY hk
 obtain ⟨h1,h2⟩:=h t b _ hk
 exact ⟨fun hb=>dM hc hl (hs e he).1 (hs e he).2 (h1 hb),h2⟩
theorem OZ {w w':World} (h:Below w.heap.size w w') {b:Bk} (hb:∀x cap,b=.blk x cap->x<w.heap.size):World.objAt w' b=World.objAt w b:=by
 cases b with
 | nil=>rfl
 | blk x cap=>exact h.block x (hb x cap rfl)
theorem D9.on {N M:f0} {c:l8} {g g':Gh} {w w':World} (h:D9 N g w) (hM:D9 M g w) (hd:GQ N M) (hok:Ok c g w) (hl:g.le g') (hb:Below w.heap.size w w'):D9 N g' w':=by
 intro e he
 obtain ⟨b,h1,h2⟩:=h e he
 refine ⟨b,hl.2 _ _ h1,?_⟩
 rw[OZ hb (fun x cap hx=>by subst hx; exact (hok.own _ _ _ h1).2.1)]
 exact (hd e he).1.dep hl.1 (fun t ht=>by obtain ⟨b,hb⟩:=hM.tag ((hd e he).2 t ht); rw[hb]; exact hl.2 t b hb) h2
theorem UE {a:Act} {d:Nat} {v:Value} (h:d<a.tmps.size):(a.put (some d) v).tmps.getD d undef=v:=by
 simp[Act.put,h]
theorem KI {a:Act} {d t:Nat} {v:Value} (h:d≠t):(a.put (some d) v).tmps.getD t undef=a.tmps.getD t undef:=by
 simp[Act.put,Array.getElem?_setIfInBounds_ne h]
theorem R8.put {S:g9} {a:Act} {g:Gh} {d:Nat} {v:Value} {b:Bool} {dep:List Nat} {k:b8} (h:R8 S a g) (hd:d<a.tmps.size) (hk:P8 g v b k) :
  R8 (⟨d,b,dep,k⟩::S) (a.put (some d) v) g:=by
 intro t b' k' hl
 simp only[look] at hl
 cases hb:Nat.beq d t with
 | true =>
  rw[hb] at hl
  simp only[cond_true,Option.some.injEq,Prod.mk.injEq] at hl
  obtain ⟨rfl,rfl⟩:=hl
  rw[<- Nat.eq_of_beq_eq_true hb,UE hd]
  exact hk
 | false =>
  rw[hb] at hl
  rw[KI (Nat.ne_of_beq_eq_false hb)]
  exact h t b' k' hl
theorem l4.did {c:l8} {S:g9} {M:f0} {a:Act} {g g':Gh} {w w':World} {k:b8} {new:Option CE} {v:Value} (h:l4 c S M a g w) (hd:F8 c k new g g' w w' v)
  (hnew:∀e,new=some e->z7 e.c e.dep/\(∀t∈e.dep,t∈tags (P4 new M))/\e.t∉tags M) {dep:List Nat} (hk:o4 k dep) (hdep:∀t∈dep,t∈tags (P4 new M)) {d:Nat} (hn:d<c.n) :
  l4 c (⟨d,true,dep,k⟩::S) (P4 new M) (a.put (some d) v) g' w':=by
 have hsub:∀t∈tags M,t∈tags (P4 new M):=by
  intro t ht
  cases new with
  | none=>exact ht
  | some e=>exact List.mem_cons_of_mem _ ht
 refine ⟨hd.ok,?_,?_,?_,?_,?_,?_,h.defers.below hd.bel,?_⟩
 ·exact (h.slots.on h.sdep h.conts hd.le).put (by rw[h.size]; exact hn) ⟨fun _=>hd.k,fun hf=>by cases hf⟩
 ·have hold:=h.conts.on h.conts h.cdep h.ok hd.le hd.bel
  cases new with
  | none=>exact hold
  | some e =>
   intro x hx
   rcases List.mem_cons.1 hx with rfl | hx
   ·exact hd.made _ rfl
   ·exact hold x hx
 ·intro t ht
  by_cases hx:∃e,new=some e/\e.t=t
  ·obtain ⟨e,rfl,rfl⟩:=hx
   exact List.mem_cons_self
  ·rw[hd.old t (fun e he ht'=>hx ⟨e,he,ht'⟩)] at ht
   exact hsub t (h.dom t ht)
 ·cases new with
  | none=>exact h.nodup
  | some e=>exact List.nodup_cons.2 ⟨(hnew e rfl).2.2,h.nodup⟩
 ·intro e he
  rcases List.mem_cons.1 he with rfl | he
  ·exact ⟨hk,hdep⟩
  ·exact ⟨(h.sdep e he).1,fun t ht=>hsub t ((h.sdep e he).2 t ht)⟩
 ·intro e he
  cases new with
  | none=>exact h.cdep e he
  | some x =>
   rcases List.mem_cons.1 he with rfl | he
   ·exact ⟨(hnew _ rfl).1,(hnew _ rfl).2.1⟩
   ·exact ⟨(h.cdep e he).1,fun t ht=>hsub t ((h.cdep e he).2 t ht)⟩
 ·simp[Act.put,h.size]
theorem l4.skip {c:l8} {S:g9} {M:f0} {a:Act} {g:Gh} {w:World} (h:l4 c S M a g w) {k:b8} {dep:List Nat} (hk:o4 k dep) (hdep:∀t∈dep,t∈tags M) {d:Nat} (hn:d<c.n) {p:Bool} (hp:p=false) :
  l4 c (⟨d,p,dep,k⟩::S) M (a.put (some d) undef) g w:=by
 refine ⟨h.ok,h.slots.put (by rw[h.size]; exact hn) ⟨fun hf=>(by rw[hp] at hf; cases hf),fun _=>rfl⟩,h.conts,h.dom,h.nodup,?_,h.cdep,h.defers,by simp[Act.put,h.size]⟩
 intro e he
 rcases List.mem_cons.1 he with rfl | he
 ·exact ⟨hk,hdep⟩
 ·exact h.sdep e he

def DB (l:List Oper):Bool:=l.all fun o=>match o.op with | .defer _=>false | _=>true
theorem eN {l:List Oper} (h:DB l=true) {o:Oper} (ho:o∈l):∀c,o.op≠.defer c:=fun c hc=>by
 have:=List.all_eq_true.1 h o ho
 rw[hc] at this; cases this
theorem lJ {rd:Option Nat} {n:Nat} {P:Program} {f:FuncId} {args:Array Value} {w:World} {R:Ending->World->Prop} (h:Calls P f args w R):CallsIn { Fence.wide with round:=rd } n P f args w R :=
 callsIn_wide.2 h
theorem Oper.wpIn_of {l n:Nat} {P:Program} {o:Oper} {a:Act} {w:World} {K K':Act->World->Prop} {Q:Exit->Act->World->Prop} (hnd:∀c,o.op≠.defer c) (hk:∀a w,K a w->K' a w) (h:o.wp P a w K Q) :
  o.wpIn { Fence.wide with round:=some l } n P a w K' Q:=by
 refine ⟨fun _ _=>trivial,?_⟩
 simp only[Oper.semAt_some l _ o hnd]
 unfold Oper.wp at h
 generalize (execOp a.eval o).run P w=r at *
 cases r with
 | ok x w' =>
  cases x<;>simp only[Oper.upon] at h<;>simp only[Oper.uponIn] <;>
   first
    | exact hk _ _ h
    | exact ⟨fun hf=>by simp[Fence.wide] at hf,(lJ h).mono fun e w'' he=>by cases e<;>first | exact hk _ _ he | exact he⟩
    | exact ⟨fun hf=>by simp[Fence.wide] at hf,fun c cs _=>let ⟨v,w'',r,s⟩:=h c cs; ⟨v,w'',hk _ _ r,stepsIn_wide.2 s⟩⟩
 | halt x w'=>cases x<;>simp only[Oper.upon] at h<;>simp only[Oper.uponIn]; exact h
theorem XR {r n:Nat} {P:Program} {ops:Array Oper} {Q:Exit->Act->World->Prop} (hQ:¬LetsOut Q):∀{l:List Oper} {a:Act} {w:World},DB l=true->wpList P ops Q l a w->wpListIn { Fence.wide with round:=some r } n P ops Q l a w
 | [],_,_,_,h=>h
 | o::l,a,w,hnd,h=>by
  have h1:DB l=true:=by simp only[DB,List.all_cons,Bool.and_eq_true] at hnd; exact hnd.2
  have h2:=eN hnd (List.mem_cons_self (a:=o) (l:=l))
  simp only[wpList] at h
  simp only[wpListIn]
  split
  ·rename_i hw
   simp only[hw,if_true] at h
   exact Oper.wpIn_of h2 (fun _ _ hk=>XR hQ h1 hk) (h.resolve_right fun h=>hQ h.2)
  ·rename_i hw
   simp only[hw] at h
   exact ⟨fun _ _=>trivial,XR hQ h1 h⟩
theorem RA {r n:Nat} {P:Program} {ops:Array Oper} {Q:Exit->Act->World->Prop} (hnd:DB ops.toList=true) (hQ:¬LetsOut Q):∀{l:List Nat} {a:Act} {w:World},wpOps P ops Q l a w->wpOpsIn { Fence.wide with round:=some r } n P ops Q l a w
 | [],_,_,h=>h
 | i::l,a,w,h=>by
  simp only[wpOps] at h
  simp only[wpOpsIn]
  cases ho:ops[i]? with
  | none=>rw[ho] at h; exact RA hnd hQ h
  | some o =>
   rw[ho] at h
   simp only at h ⊢
   have h2:=eN hnd (o:=o) (by
    obtain ⟨hi,he⟩:=Array.getElem?_eq_some_iff.1 ho
    rw[<- he]; simp)
   split
   ·rename_i hw
    simp only[hw,if_true] at h
    exact Oper.wpIn_of h2 (fun _ _ hk=>RA hnd hQ hk) (h.resolve_right fun h=>hQ h.2)
   ·rename_i hw
    simp only[hw] at h
    exact ⟨fun _ _=>trivial,RA hnd hQ h⟩
def JN (rd:Option Nat) (l:List Oper) (Q:Exit->Act->World->Prop):Prop:=rd=none\/(DB l=true/\¬LetsOut Q)
theorem zQ {rd:Option Nat} {P:Program} {id:Nat} {l:List Oper} {Q:Exit->Act->World->Prop} {a:Act} {w:World} (hr:JN rd l Q) (h:wpList P l.toArray Q l a w):(Code.region id l.toArray false).wpIn { Fence.wide with round:=rd } 2 P Q a w:=by
 cases rd with
 | none=>exact wpIn_wide.2 (wp_region_lit h)
 | some r =>
  obtain ⟨h1,h2⟩:=hr.resolve_left (by simp)
  exact wpIn_region_lit (XR h2 h1 h)
theorem LQ {rd:Option Nat} {P:Program} {id:Nat} {l:List Oper} {Q:Exit->Act->World->Prop} {a:Act} {w:World} (hr:JN rd l Q) (hm:P.follows .mixedOrders=true)
  (h:wpAny P .any l.toArray Q l.toArray.size (Array.replicate l.toArray.size false) a { w with drawn:=w.drawn+1 }):(Code.region id l.toArray true).wpIn { Fence.wide with round:=rd } 2 P Q a w:=by
 cases rd with
 | none=>exact wpIn_wide.2 (wp_region_any hm h)
 | some r =>
  obtain ⟨h1,h2⟩:=hr.resolve_left (by simp)
  refine wpIn_region_draw fun t=>RA (by simpa using h1) h2 ?_
  simp only[Region.schedule,hm,Bool.true_or,if_true]
  exact wpAny_sound l.toArray.size t _ a _ h

def d5 (P:Program) (c:l8) (ops:Array Oper) (S:g9) (M:f0) (rest:List Oper) (Q:Exit->Act->World->Prop):Prop :=
 ∀a g w,l4 c S M a g w->wpList P ops Q rest a w
def Tr (P:Program) (c:l8) (S:g9) (M:f0) (code:Code) (Q:Exit->Act->World->Prop):Prop :=
 ∀a g w,l4 c S M a g w->code.wpIn c.F 2 P Q a w
def g8 (c:l8) (S:g9) (M:f0) (Q:Exit->Act->World->Prop):Prop:=∀a g w,l4 c S M a g w->Q .normal a w
theorem Oper.wp_on {P:Program} {o:Oper} {a:Act} {w:World} {K K':Act->World->Prop} {Q:Exit->Act->World->Prop}
  (h:o.wp P a w K (fun _ _ _=>False)) (hk:∀a w,K a w->K' a w):o.wp P a w K' Q:=by
 unfold Oper.wp at *
 generalize (execOp a.eval o).run P w=r at *
 cases r with
 | ok n w' =>
  cases n<;>simp only[Oper.upon] at h ⊢ <;>
   first
    | exact hk _ _ h
    | exact Calls.mono h (fun e w'' he=>by
      cases e with
      | returned v=>exact hk _ _ he
      | panicked ch=>exact he.elim
      | outgrown=>obtain ⟨_,_,hf⟩:=he; exact hf.elim)
    | exact Rows.mono h (fun _ _ he=>hk _ _ he)
 | halt x w'=>cases x<;>simp only[Oper.upon] at h ⊢
section
variable {P:Program} {c:l8} {ops:Array Oper} {S:g9} {M:f0} {rest:List Oper} {Q:Exit->Act->World->Prop}
variable {d:Nat} {oop:Op} {ty:TypeId} {pos:String} {af:Array Edge}
theorem d5.op {k:b8} {dep:List Nat} (h:l3 P c S M ⟨some d,oop,ty,pos,af,none⟩ true k none) [hk:o4 k dep] (hs:s5 dep (tags M)=true) (hn:Nat.blt d c.n=true)
  (K:d5 P c ops (⟨d,true,dep,k⟩::S) M rest Q):d5 P c ops S M (⟨some d,oop,ty,pos,af,none⟩::rest) Q:=by
 intro a g w hsat
 refine wpList_plain rfl fun K' hK'=>?_
 refine Oper.wp_on (h rfl a g w hsat.ok hsat.conts (fun x _ b k hx hb=>B5 hsat.slots hx hb) (fun _ h=>by cases h)) ?_
 rintro a' w' ⟨v,g',rfl,hd⟩
 exact hK' _ _ (K _ g' _ (hsat.did hd (fun _ h=>by cases h) hk (A1 hs) (by simpa [Nat.blt_eq] using hn)))
theorem d5.new {k:b8} {dep:List Nat} {t:Nat} {ct:s9} {cdep:List Nat} (h:l3 P c S M ⟨some d,oop,ty,pos,af,none⟩ true k (some ⟨t,cdep,ct⟩)) [hk:o4 k dep] [hc:z7 ct cdep]
  (hs:s5 dep (tags (⟨t,cdep,ct⟩::M))=true) (hcs:s5 cdep (tags (⟨t,cdep,ct⟩::M))=true) (hf:s5 [t] (tags M)=false) (hn:Nat.blt d c.n=true)
  (K:d5 P c ops (⟨d,true,dep,k⟩::S) (⟨t,cdep,ct⟩::M) rest Q):d5 P c ops S M (⟨some d,oop,ty,pos,af,none⟩::rest) Q:=by
 intro a g w hsat
 have hfresh:t∉tags M:=by
  intro ht
  have:s5 [t] (tags M)=true:=by
   simp only[s5,Bool.and_true]
   exact List.any_eq_true.2 ⟨t,ht,Nat.beq_refl t⟩
  rw[hf] at this; cases this
 refine wpList_plain rfl fun K' hK'=>?_
 refine Oper.wp_on (h rfl a g w hsat.ok hsat.conts (fun x _ b k hx hb=>B5 hsat.slots hx hb) (fun e he=>?_)) ?_
 ·cases he
  cases hm:g.M t with
  | none=>rfl
  | some b=>exact absurd (hsat.dom t (by rw[hm]; simp)) hfresh
 rintro a' w' ⟨v,g',rfl,hd⟩
 exact hK' _ _ (K _ g' _ (hsat.did (new:=some ⟨t,cdep,ct⟩) hd (fun e he=>by cases he; exact ⟨hc,A1 hcs,hfresh⟩) hk (A1 hs) (by simpa [Nat.blt_eq] using hn)))
theorem XQ {ops:Array Oper} {a:Act} {g:Gh} {o:Oper} {j s:Nat} {want e b0:Bool} (hg:o.guard=some (j,want)) (hj:(ops[j]?).bind (·.dst)=some s) (hs:P8 g (a.tmps.getD s undef) b0 (kB e)):Region.wanted o (yielded ops a.tmps)=(b0&&(e==want)):=by
 cases b0 with
 | true =>
  have hslot:a.tmps.getD s undef=.bool e:=hs.1 rfl
  have hy:yielded ops a.tmps j=some e:=by
   have hn':a.tmps[s]?=some (.bool e):=by
    rw[Array.getD_eq_getD_getElem?] at hslot
    cases hh:a.tmps[s]? with
    | none=>rw[hh] at hslot; simp[undef] at hslot
    | some x=>rw[hh] at hslot; simpa using hslot
   simp[yielded,hj,hn']
  simp only[Region.wanted,hg,hy]
  cases e<;>cases want<;>rfl
 | false =>
  have hslot:a.tmps.getD s undef=undef:=hs.2 rfl
  have hy:yielded ops a.tmps j=none:=by
   rw[Array.getD_eq_getD_getElem?] at hslot
   cases hh:a.tmps[s]? with
   | none=>simp[yielded,hj,hh]
   | some x=>rw[hh] at hslot; simp only[Option.getD_some] at hslot; subst hslot; simp[yielded,hj,hh,undef]
  simp only[Region.wanted,hg,hy]
  rfl
theorem d5.gd {k:b8} {dep:List Nat} {j s:Nat} {want e p b0:Bool} (hj:(ops[j]?).bind (·.dst)=some s) (hl:look S s=some (b0,kB e)) (hp:(b0&&(e==want))=p)
  (h:l3 P c S M ⟨some d,oop,ty,pos,af,some (j,want)⟩ p k none) [hk:o4 k dep] (hs:s5 dep (tags M)=true) (hn:Nat.blt d c.n=true)
  (K:d5 P c ops (⟨d,p,dep,k⟩::S) M rest Q):d5 P c ops S M (⟨some d,oop,ty,pos,af,some (j,want)⟩::rest) Q:=by
 intro a g w hsat
 have hwant:Region.wanted ⟨some d,oop,ty,pos,af,some (j,want)⟩ (yielded ops a.tmps)=p:=(XQ (g:=g) rfl hj (hsat.slots s _ _ hl)).trans hp
 refine wpList_step fun K' hK'=>?_
 rw[hwant]
 cases hpp:p with
 | false =>
  simp only[Bool.false_eq_true,if_false]
  exact hK' _ _ (K _ g _ (hsat.skip hk (A1 hs) (by simpa [Nat.blt_eq] using hn) hpp))
 | true =>
  simp only[if_true]
  subst hpp
  refine Oper.wp_on (h rfl a g w hsat.ok hsat.conts (fun x _ b k hx hb=>B5 hsat.slots hx hb) (fun _ h=>by cases h)) ?_
  rintro a' w' ⟨v,g',rfl,hd⟩
  exact hK' _ _ (K _ g' _ (hsat.did hd (fun _ h=>by cases h) hk (A1 hs) (by simpa [Nat.blt_eq] using hn)))
theorem d5.nxt {y:Code} {Q':Exit->Act->World->Prop} (h:Tr P c S M y Q):d5 P c ops S M [] (Exit.then (y.wpIn c.F 2 P Q) Q'):=fun a g w hs=>wpList_nil (h a g w hs)
theorem d5.fin (h:g8 c S M Q):d5 P c ops S M [] Q:=fun a g w hs=>wpList_nil (h a g w hs)

theorem Tr.seq {x y:Code} (h:Tr P c S M x (Exit.then (y.wpIn c.F 2 P Q) Q)):Tr P c S M (.seq x y) Q:=fun a g w hs=>wpIn_seq (h a g w hs)
theorem Tr.rg {id:Nat} {l:List Oper} (h:d5 P c l.toArray S M l Q) (hr:JN c.rd l Q:=by first | exact .inl rfl | exact .inr ⟨rfl,fun ⟨_,_,h⟩=>(show False from h)⟩):Tr P c S M (.region id l.toArray false) Q:=fun a g w hs=>zQ hr (h a g w hs)
theorem Tr.skip (h:g8 c S M Q):Tr P c S M .skip Q:=fun a g w hs=>wpIn_skip (h a g w hs)
theorem g8.nxt {y:Code} {Q':Exit->Act->World->Prop} (h:Tr P c S M y Q):g8 c S M (Exit.then (y.wpIn c.F 2 P Q) Q'):=h
theorem Tr.cnd {x:Operand} {t f:Code} {e:Bool} (hl:j1 S x=some (true,kB e)) (ht:e=true->Tr P c S M t Q) (hf:e=false->Tr P c S M f Q):Tr P c S M (.cond x t f) Q :=
 fun a g w hs=>wpIn_cond_split (B5 hs.slots hl rfl) (fun h=>ht h a g w hs) (fun h=>hf h a g w hs)
theorem Tr.blk {id:Nat} {x:Code} (h:Tr P c S M x (Exit.inBlock id Q)):Tr P c S M (.block id x) Q:=fun a g w hs=>wpIn_block (h a g w hs)
theorem g8.blk {id:Nat} (h:g8 c S M Q):g8 c S M (Exit.inBlock id Q):=h
def Y6 (c:l8) (S:g9) (M:f0) (id:Nat) (Q:Exit->Act->World->Prop):Prop:=∀a g w,l4 c S M a g w->Q (.exit id) a w
theorem Tr.exit {id:Nat} (h:Y6 c S M id Q):Tr P c S M (.exit id) Q:=fun a g w hs=>wpIn_exit (h a g w hs)
theorem Y6.thn {id:Nat} {K:Act->World->Prop} (h:Y6 c S M id Q):Y6 c S M id (Exit.then K Q):=h
theorem Y6.out {id id':Nat} (hne:Nat.beq id id'=false) (h:Y6 c S M id Q):Y6 c S M id (Exit.inBlock id' Q):=fun a g w hs=>by
 have hn:id≠id':=Nat.ne_of_beq_eq_false hne
 simp only[Exit.inBlock,if_neg hn]; exact h a g w hs
theorem Y6.here {id:Nat} (h:g8 c S M Q):Y6 c S M id (Exit.inBlock id Q):=fun a g w hs=>by
 simp only[Exit.inBlock,if_true]; exact h a g w hs
def d9 (c:l8) (S:g9) (M:f0) (Q:Exit->Act->World->Prop):Prop:=∀a g w,l4 c S M a g w->Q .ret a w
theorem Tr.ret (h:d9 c S M Q):Tr P c S M .ret Q:=fun a g w hs=>wpIn_ret (h a g w hs)
theorem d9.thn {K:Act->World->Prop} (h:d9 c S M Q):d9 c S M (Exit.then K Q):=h
theorem d9.out {id:Nat} (h:d9 c S M Q):d9 c S M (Exit.inBlock id Q):=h

def d7 (c:l8) (S:g9) (M:f0) (S':g9) (M':f0):Prop:=∀a g w,l4 c S M a g w->∃g',l4 c S' M' a g' w
structure C4 (S:g9) (M:f0) (S':g9) (M':f0):Prop where
 hold:∀a g w,D9 M g w->R8 S a g->R8 S' a g
 dep:RL S' M'
structure N4 (M N:f0) (M':f0):Prop where
 hold:∀g w,D9 M g w->D9 N g w
 dep:GQ N M'
theorem C4.nil {M':f0}:C4 S M [] M':=⟨fun _ _ _ _ _ _ _ _ h=>(by cases h),fun _ h=>(by cases h)⟩
theorem C4.conv {M':f0} {S':g9} {s:Nat} {b:Bool} {k k':b8} {dep:List Nat} (hl:look S s=some (true,k)) (hb:b=true) (hc:∀g v,k g v->k' g v) [hk:o4 k' dep] (hs:s5 dep (tags M')=true)
  (r:C4 S M S' M'):C4 S M (⟨s,b,dep,k'⟩::S') M':=by
 subst hb
 refine ⟨fun a g w hM h t b k0 hl'=>?_,fun e he=>?_⟩
 ·simp only[look] at hl'
  cases hb:Nat.beq s t with
  | true =>
   rw[hb] at hl'
   simp only[cond_true,Option.some.injEq,Prod.mk.injEq] at hl'
   obtain ⟨rfl,rfl⟩:=hl'
   rw[<- Nat.eq_of_beq_eq_true hb]
   exact ⟨fun _=>hc _ _ ((h s _ _ hl).1 rfl),fun hf=>(by cases hf)⟩
  | false =>
   rw[hb] at hl'
   exact r.hold a g w hM h t b k0 hl'
 ·rcases List.mem_cons.1 he with rfl | he
  ·exact ⟨hk,A1 hs⟩
  ·exact r.dep e he
theorem C4.k {M':f0} {S':g9} {s:Nat} {k:b8} {dep:List Nat} (hl:look S s=some (true,k)) [hk:o4 k dep] (hs:s5 dep (tags M')=true)
  (r:C4 S M S' M'):C4 S M (⟨s,true,dep,k⟩::S') M':=r.conv hl rfl (fun _ _ h=>h) hs
theorem C4.i {M':f0} {S':g9} {s:Nat} {ki:IntKind} {m n:Int} (hl:look S s=some (true,y3 ki m)) (he:m=n)
  (r:C4 S M S' M'):C4 S M (⟨s,true,[],y3 ki n⟩::S') M':=r.conv hl rfl (fun _ _ h=>by subst he; exact h) rfl
theorem C4.r {M':f0} {S':g9} {s:Nat} {α:Type} {e:i7 α} {x y:α} (hl:look S s=some (true,b7 e x)) (he:x=y)
  (r:C4 S M S' M'):C4 S M (⟨s,true,[],b7 e y⟩::S') M':=r.conv hl rfl (fun _ _ h=>by subst he; exact h) rfl
theorem C4.b {M':f0} {S':g9} {s:Nat} {x y:Bool} (hl:look S s=some (true,kB x)) (he:x=y)
  (r:C4 S M S' M'):C4 S M (⟨s,true,[],kB y⟩::S') M':=r.conv hl rfl (fun _ _ h=>by subst he; exact h) rfl
class p8 (M:f0) (t:Nat) (ct:outParam s9) (dep:outParam (List Nat)):Prop where
 mem:⟨t,dep,ct⟩∈M
instance {M:f0} {t:Nat} {ct:s9} {dep:List Nat}:p8 (⟨t,dep,ct⟩::M) t ct dep:=⟨List.mem_cons_self⟩
instance (priority:=low) {M:f0} {t:Nat} {ct:s9} {dep:List Nat} {e:CE} [h:p8 M t ct dep]:p8 (e::M) t ct dep:=⟨List.mem_cons_of_mem _ h.mem⟩
theorem N4.nil {M':f0}:N4 M [] M':=⟨fun _ _ _ _ h=>(by cases h),fun _ h=>(by cases h)⟩
theorem N4.conv {M' N:f0} {t:Nat} {ct ct':s9} {dep dep':List Nat} [hl:p8 M t ct dep] (hc:∀g b o,ct g b o->ct' g b o) [hk:z7 ct' dep'] (hs:s5 dep' (tags M')=true)
  (r:N4 M N M'):N4 M (⟨t,dep',ct'⟩::N) M':=by
 refine ⟨fun g w h e he=>?_,fun e he=>?_⟩
 ·rcases List.mem_cons.1 he with rfl | he
  ·obtain ⟨b,h1,h2⟩:=h _ hl.mem
   exact ⟨b,h1,hc _ _ _ h2⟩
  ·exact r.hold g w h e he
 ·rcases List.mem_cons.1 he with rfl | he
  ·exact ⟨hk,A1 hs⟩
  ·exact r.dep e he
theorem N4.k {M' N:f0} {t:Nat} {ct:s9} {dep dep':List Nat} [hl:p8 M t ct dep] [hk:z7 ct dep'] (hs:s5 dep' (tags M')=true)
  (r:N4 M N M'):N4 M (⟨t,dep',ct⟩::N) M':=r.conv (fun _ _ _ h=>h) hs
theorem N4.a {M' N:f0} {t:Nat} {α:Type} {z:Bool} {ty:TypeId} {e:i7 α} {xs ys:List α} {len len':Nat} {dep:List Nat} [hl:p8 M t (m9 z ty e xs len) dep] (he:xs=ys) (hn:len=len')
  (r:N4 M N M'):N4 M (⟨t,[],m9 z ty e ys len'⟩::N) M':=r.conv (ct:=m9 z ty e xs len) (fun _ _ _ h=>by subst he; subst hn; exact h) rfl
def OS:List Nat->Bool
 | []=>true
 | t::r=>!(r.any fun u=>Nat.beq u t)&&OS r
theorem eR:∀{l:List Nat},OS l=true->l.Nodup
 | [],_=>List.nodup_nil
 | t::r,h=>by
  simp only[OS,Bool.and_eq_true,Bool.not_eq_true'] at h
  refine List.nodup_cons.2 ⟨fun hm=>?_,eR h.2⟩
  have:(r.any fun u=>Nat.beq u t)=true:=List.any_eq_true.2 ⟨t,hm,Nat.beq_refl t⟩
  rw[h.1] at this; cases this
theorem d7.mk {S':g9} {M':f0} (hS:C4 S M S' M') (hM:N4 M M' M') (hn:OS (tags M')=true):d7 c S M S' M':=by
 intro a g w h
 have hMt:∀t,t∈tags M'->∃b,g.M t=some b:=fun t ht=>by
  obtain ⟨e,he,rfl⟩:=List.mem_map.1 ht
  obtain ⟨b,hb,_⟩:=hM.hold g w h.conts e he
  exact ⟨b,hb⟩
 let g':Gh:=⟨g.J,fun t=>if t∈tags M' then g.M t else none⟩
 have hin:∀t,t∈tags M'->g'.M t=g.M t:=fun t ht=>by simp only[g',if_pos ht]
 have hle:∀t b,g'.M t=some b->g.M t=some b:=fun t b hb=>by
  by_cases ht:t∈tags M'
  ·rw[hin t ht] at hb; exact hb
  ·simp only[g',if_neg ht] at hb; cases hb
 refine ⟨g',⟨h.ok.bel,h.ok.jle,h.ok.jold,h.ok.im,fun t b cap hb=>h.ok.own t b cap (hle _ _ hb),fun t t' b cap cap' h1 h2=>h.ok.inj t t' b cap cap' (hle _ _ h1) (hle _ _ h2)⟩,?_,?_,?_,eR hn,hS.dep,hM.dep,h.defers,h.size⟩
 ·intro t b k hk
  obtain ⟨e,he,_,_,rfl⟩:=CY hk
  obtain ⟨h1,h2⟩:=hS.hold a g w h.conts h.slots t b _ hk
  exact ⟨fun hb=>(hS.dep e he).1.dep (g:=g) (g':=g') (JV.le_refl _) (fun t ht=>hin t ((hS.dep e he).2 t ht)) (h1 hb),h2⟩
 ·intro e he
  obtain ⟨b,h1,h2⟩:=hM.hold g w h.conts e he
  exact ⟨b,(hin _ (List.mem_map.2 ⟨e,he,rfl⟩)).trans h1,(hM.dep e he).1.dep (g:=g) (g':=g') (JV.le_refl _) (fun t ht=>hin t ((hM.dep e he).2 t ht)) h2⟩
 ·intro t ht
  by_cases h':t∈tags M'
  ·exact h'
  ·simp only[g',if_neg h'] at ht; exact absurd rfl ht
theorem Tr.ent {x:Code} {S':g9} {M':f0} (h:d7 c S M S' M') (k:Tr P c S' M' x Q):Tr P c S M x Q:=fun a g w hs=>let ⟨g',hs'⟩:=h a g w hs; k a g' w hs'
theorem Tr.fact {x:Code} {s:Nat} {k:b8} {φ:Prop} (hl:look S s=some (true,k)) (hf:∀g v,k g v->φ) (h:φ->Tr P c S M x Q):Tr P c S M x Q :=
 fun a g w hs=>h (hf _ _ ((hs.slots s _ _ hl).1 rfl)) a g w hs

def JH {σ:Type} (c:l8) (B:σ->g9) (N:σ->f0) (R:σ->Prop) (a:Act) (w:World):Prop:=∃s,R s/\∃g,l4 c (B s) (N s) a g w
theorem Tr.cut {x y:Code} {σ:Type} (B:σ->g9) (N:σ->f0) (R:σ->Prop) (hx:Tr P c S M x (Exit.then (JH c B N R) Q)) (hy:∀s,R s->Tr P c (B s) (N s) y Q):Tr P c S M (.seq x y) Q :=
 fun a g w hs=>wpIn_seq (wpIn_mono (hx a g w hs) fun e a' w' hq=>by
  cases e with
  | normal=>obtain ⟨s,hR,g',h'⟩:=hq; exact hy s hR a' g' w' h'
  | _=>exact hq)
theorem g8.cut {σ:Type} {B:σ->g9} {N:σ->f0} {R:σ->Prop} (s:σ) (hR:R s) (h:d7 c S M (B s) (N s)):g8 c S M (Exit.then (JH c B N R) Q) :=
 fun a g w hs=>⟨s,hR,h a g w hs⟩
def LW {σ:Type} (c:l8) (I:σ->g9) (J:σ->f0) (R:σ->Prop) (μ:σ->Nat) (s:σ) (a:Act) (w:World):Prop:=∃s',R s'/\μ s'<μ s/\∃g,l4 c (I s') (J s') a g w
theorem Tr.loop {body:Code} {σ:Type} (I:σ->g9) (J:σ->f0) (R:σ->Prop) (μ:σ->Nat) (s0:σ) (h0:R s0) (he:d7 c S M (I s0) (J s0))
  (round:∀s,R s->Tr P c (I s) (J s) body (Exit.then (LW c I J R μ s) Q)):Tr P c S M (.loop body) Q:=by
 intro a w' w hs
 obtain ⟨g0,hs0⟩:=he a w' w hs
 intro b k cs hro hb hr
 have key:∀n s a g w,μ s=n->R s->l4 c (I s) (J s) a g w ->
   ∃e a' w',Q e a' w'/\ArrivesIn (Machine.fenced P c.F) P (lone (b.atR a (.code body::.inLoop body::k)) cs w) b k cs e a' w':=by
  intro n
  induction n using Nat.strongRecOn with
  | _ n ih =>
   intro s a g w hn hR hI
   obtain ⟨e,a₁,w₁,hq,harr⟩:=round s hR a g w hI b (.inLoop body::k) cs hro hb hr
   cases e with
   | normal =>
    obtain ⟨s',hR',hlt,g',hI₁⟩:=hq
    obtain ⟨e₂,a₂,w₂,hq₂,harr₂⟩:=ih (μ s') (hn▸hlt) s' a₁ g' w₁ rfl hR' hI₁
    exact ⟨e₂,a₂,w₂,hq₂,.of_steps (StepsIn.trans harr (.one (fenced_calm hb hr rfl) stepR_inLoop)) harr₂⟩
   | exit id=>exact ⟨_,a₁,w₁,hq,.pass (x:=.inLoop body) rfl (fun _ _=>.inl (by simp)) harr⟩
   | goto l=>exact ⟨_,a₁,w₁,hq,.pass (x:=.inLoop body) rfl (fun _ _=>.inl (by simp)) harr⟩
   | ret=>exact ⟨_,a₁,w₁,hq,.pass (x:=.inLoop body) rfl (fun _ _=>.inl (by simp)) harr⟩
   | panic ch=>exact ⟨_,a₁,w₁,hq,.pass (x:=.inLoop body) rfl (fun _ _=>.inl (by simp)) harr⟩
   | outgrown=>exact ⟨_,a₁,w₁,hq,.pass (x:=.inLoop body) rfl (fun _ _=>.inl (by simp)) harr⟩
 obtain ⟨e,a',w',hq,harr⟩:=key _ s0 a g0 w rfl h0 hs0
 exact ⟨e,a',w',hq,.of_steps (.one (fenced_calm hb hr rfl) stepR_loop) harr⟩
theorem g8.lp {σ:Type} {I:σ->g9} {J:σ->f0} {R:σ->Prop} {μ:σ->Nat} {s:σ} (s':σ) (hR:R s') (hlt:μ s'<μ s) (h:d7 c S M (I s') (J s')):g8 c S M (Exit.then (LW c I J R μ s) Q) :=
 fun a g w hs=>⟨s',hR,hlt,h a g w hs⟩
end

def Im (J:JV) (w:World):Prop:=∀b o v,J b o=some v->w.cell? ⟨b,o,none⟩=some v
def Y9 (w:World) (J:JV) (res:b8):Ending->World->Prop:=fun e w'=>∃r J',e=.returned r/\Below w.heap.size w w'/\J.le J'/\(∀b o,b<w.heap.size->J' b o=J b o)/\Im J' w'/\res ⟨J',w4⟩ r
def Ct (P:Program) (f:FuncId) (args:List b8) (res:b8):Prop:=∀w J,Im J w->∀vs,o6 ⟨J,w4⟩ args vs->Calls P f vs.toArray w (Y9 w J res)
class H5 (d:List Nat):Prop where
 eq:d=[]
instance:H5 []:=⟨rfl⟩
instance {d:List Nat} [h:H5 d]:H5 ([]++d):=⟨by have:=h.eq; subst this; rfl⟩
class V5 (ks:List b8):Prop where
 all:∀k∈ks,o4 k []
instance:V5 []:=⟨fun _ h=>by cases h⟩
instance {k:b8} {ks:List b8} {d:List Nat} [h:o4 k d] [hd:H5 d] [hs:V5 ks]:V5 (k::ks):=⟨fun x hx=>by
 rcases List.mem_cons.1 hx with rfl | hx
 ·have:=hd.eq; subst this; exact h
 ·exact hs.all x hx⟩
def params:Nat->List b8->g9
 | _,[]=>[]
 | i,k::ks=>⟨i,true,[],k⟩::params (i+1) ks
theorem GC {g:Gh}:∀{ks:List b8} {vs:List Value} {i t:Nat} {b:Bool} {k:b8},o6 g ks vs->look (params i ks) t=some (b,k)->i<=t/\b=true/\∃v,vs[t-i]?=some v/\k g v
 | [],_,_,_,_,_,_,h=>by cases h
 | k0::ks,v::vs,i,t,b,k,hh,h=>by
  simp only[params,look] at h
  cases hb:Nat.beq i t with
  | true =>
   rw[hb] at h
   simp only[cond_true,Option.some.injEq,Prod.mk.injEq] at h
   obtain ⟨rfl,rfl⟩:=h
   have:=Nat.eq_of_beq_eq_true hb
   subst this
   exact ⟨Nat.le_refl _,rfl,v,by simp,hh.1⟩
  | false =>
   rw[hb] at h
   obtain ⟨h1,h2,u,h3,h4⟩:=GC (ks:=ks) (i:=i+1) hh.2 h
   refine ⟨by omega,h2,u,?_,h4⟩
   rw[show t-i=(t-(i+1))+1 by omega]
   simpa using h3
 | _::_,[],_,_,_,_,hh,_=>hh.elim
theorem GB:∀{ks:List b8} {i:Nat} {e:SE},(∀k∈ks,o4 k [])->e∈params i ks->o4 e.k e.dep/\e.dep=[]
 | [],_,_,_,h=>by cases h
 | k::ks,i,e,hk,h=>by
  rcases List.mem_cons.1 h with rfl | h
  ·exact ⟨hk k List.mem_cons_self,rfl⟩
  ·exact GB (fun x hx=>hk x (List.mem_cons_of_mem _ hx)) h
theorem Ct.mk {P:Program} {f:FuncId} {fn:Func} {code:Code} {args:List b8} {res:b8} {n:Nat} (hf:P.funcs[f]?=some fn) (hb:fn.body=some code) (hn:fn.ntmps=n) (hl:Nat.ble args.length n=true) [hj:V5 args]
  (h:∀w J,Tr P ⟨w,J,[],n,none,false,[]⟩ (params 0 args) [] code (bodyPost P fn (Y9 w J res))):Ct P f args res:=by
 intro w J him vs hvs
 have hlen:=I2 hvs
 have hle:args.length<=n:=Nat.le_of_ble_eq_true hl
 refine calls_of_wp hf hb (wpIn_wide.1 (h w J _ ⟨J,w4⟩ w ⟨⟨⟨rfl,rfl,rfl,Nat.le_refl _,fun _ _ _=>rfl,Nat.le_refl _⟩,JV.le_refl _,fun _ _ _=>rfl,him,fun _ _ _ h=>(by cases h),fun _ _ _ _ _ h=>(by cases h)⟩,?_,fun _ h=>(by cases h),fun _ h=>absurd rfl h,List.nodup_nil,?_,fun _ h=>(by cases h),⟨rfl,fun _ h=>(by cases h)⟩,?_⟩))
 ·intro t b k hk
  obtain ⟨_,rfl,v,hv,hkv⟩:=GC hvs hk
  refine ⟨fun _=>?_,fun hf=>(by cases hf)⟩
  have ht:t<vs.length:=(List.getElem?_eq_some_iff.1 (by simpa using hv)).1
  have:(vs.toArray++Array.replicate (fn.ntmps-vs.toArray.size) undef).getD t undef=v:=by
   rw[Array.getD_eq_getD_getElem?,Array.getElem?_append_left (by simpa using ht)]
   simp only[List.getElem?_toArray]
   rw[show vs[t]?=some v by simpa using hv]
   rfl
  rw[this]; exact hkv
 ·intro e he
  obtain ⟨h1,h2⟩:=GB hj.all he
  exact ⟨h1,fun t ht=>by rw[h2] at ht; cases ht⟩
 ·simp only[Array.size_append,List.size_toArray,Array.size_replicate]; omega
end Go.Fl

/- The laws of the operations over typed knowledge. (Printed by gen_a3.py.) -/
namespace Go.Fl
open Go Go.RowKit

class E0 (P:Program) (t:TypeId):Prop where
 run:∀w,(isAgg t).run P w=.ok false w
class D0 (P:Program) (t:TypeId):Prop where
 run:∀w,(isAgg t).run P w=.ok true w
class q7 (P:Program) (t:TypeId) (size bytes:outParam Nat) (z:outParam Value):Prop where
 h:∃i,P.info? t=some i/\i.size=size/\i.bytes=bytes/\i.zero=some z
class C5 (P:Program) (t:TypeId) (e:outParam TypeId):Prop where
 h:P.underlying t=some (.slice e)
class GW (P:Program) (t:TypeId) (k:outParam IntKind):Prop where
 h:P.underlying t=some (.int k)
class u7 (P:Program) (s:TypeId) (f:Nat) (off:outParam Nat):Prop where
 run:∀a w,(Instr.fieldAt s (.pointer (some a)) f).run P w=.ok (.pointer (some (a.add off))) w
theorem E0.mk' {P:Program} {t:TypeId} {d:TypeDesc} (h:P.underlying t=some d) (hd:(match d with | .struct _ | .array _ _=>false | _=>true)=true):E0 P t :=
 ⟨fun w=>by cases d<;>first | (simp at hd; done) | simp[isAgg,run_underlying h]⟩
theorem D0.mk' {P:Program} {t:TypeId} {d:TypeDesc} (h:P.underlying t=some d) (hd:(match d with | .struct _ | .array _ _=>true | _=>false)=true):D0 P t :=
 ⟨fun w=>by cases d<;>first | (simp at hd; done) | simp[isAgg,run_underlying h]⟩
theorem q7.mk' {P:Program} {t:TypeId} {size bytes:Nat} {z:Value} (h:(P.info? t).map (fun i=>(i.zero,i.size,i.bytes))=some (some z,size,bytes)):q7 P t size bytes z:=by
 cases hi:P.info? t with
 | none=>simp[hi] at h
 | some i=>simp[hi] at h; exact ⟨i,hi,h.2.1,h.2.2,h.1⟩
theorem u7.mk' {P:Program} {s:TypeId} {f off:Nat} {fs:Array Field} {fl:Field} (h:P.underlying s=some (.struct fs)) (hf:fs[f]?=some fl) (ho:fl.offset=off) (hs:((P.info? fl.type).map (·.size)).any (fun n=>!Nat.beq n 0)=true):u7 P s f off :=
 ⟨fun a w=>by
  cases hi:P.info? fl.type with
  | none=>simp[hi] at hs
  | some i =>
   have hne:i.size≠0:=by intro h0; rw[hi] at hs; simp[h0] at hs
   simp[Instr.fieldAt,run_underlying h,hf,Instr.sureAddr,fieldPlace,sizeOf,typeInfo,hi,hne,ho]⟩

def b6 {α:Type} [Inhabited α] (xs:List α) (i:Nat):α:=xs.getD i default
theorem G0 {α:Type} [Inhabited α] {xs:List α} {i:Nat} (h:i<xs.length):xs[i]?=some (b6 xs i):=by
 simp[b6,List.getD,List.getElem?_eq_getElem h]
class P3 {α:Type} (e:i7 α) (x:α) (k:outParam b8):Prop where
 imp:∀{g:Gh} {v:Value},e.val g.J v x->k g v
instance {k:IntKind} {x:Int}:P3 (EC k) x (y3 k x):=⟨fun ⟨cs,h1,h2⟩=>by subst h1; exact h2⟩
instance {x:Bool}:P3 AS x (kB x):=⟨fun ⟨cs,h1,h2⟩=>by subst h1; exact h2⟩
instance {α:Type} {e:i7 α} {x:List α}:P3 (eL e) x (b7 (eL e) x):=⟨fun h=>h⟩
instance {α:Type} {e:i7 α} {x:α}:P3 (W7 e) x (r5 e x):=⟨fun ⟨_,⟨b,o,ds,h1,h2,h3⟩,h4⟩=>⟨b,o,ds,by subst h1; exact h4,h2,h3⟩⟩
class K4 {α:Type} (e:i7 α) (x:α) (tl:List b8) (out:outParam (List b8)):Prop where
 imp:∀{g:Gh} {cs ds:List Value},e.rd g.J cs x->o6 g tl ds->o6 g out (cs++ds)
instance {k:IntKind} {x:Int} {tl:List b8}:K4 (EC k) x tl (y3 k x::tl):=⟨fun h h'=>by subst h; exact ⟨rfl,h'⟩⟩
instance {x:Bool} {tl:List b8}:K4 AS x tl (kB x::tl):=⟨fun h h'=>by subst h; exact ⟨rfl,h'⟩⟩
instance {α:Type} {e:i7 α} {x:List α} {tl:List b8}:K4 (eL e) x tl (b7 (eL e) x::tl):=⟨fun {g cs ds} h h'=>by
 have hh:=h
 obtain ⟨a,cap,rfl,r⟩:=h
 exact ⟨⟨_,hh,rfl⟩,h'⟩⟩
instance {x:Unit} {tl:List b8}:K4 eU x tl tl:=⟨fun h h'=>by have:_=[]:=h; subst this; exact h'⟩
instance {α β:Type} {e:i7 α} {f:i7 β} {x:α×β} {tl mid out:List b8} [h2:K4 f x.2 tl mid] [h1:K4 e x.1 mid out]:K4 (eP e f) x tl out:=⟨fun h h'=>by
 obtain ⟨c1,c2,rfl,k1,k2⟩:=h
 rw[List.append_assoc]
 exact h1.imp k1 (h2.imp k2 h')⟩
instance {α β:Type} {f:β->α} {e:i7 α} {x:β} {tl out:List b8} [h:K4 e (f x) tl out]:K4 (eC f e) x tl out:=⟨fun hv h'=>h.imp hv h'⟩
class F3 (k:b8) (ks:outParam (List b8)):Prop where
 imp:∀{g:Gh} {v:Value},k g v->o6 g ks v.cells.toList/\v.cells.toList.all (·.oneCell')=true
class Y8 (k:b8):Prop where
 imp:∀{g:Gh} {v:Value},k g v->v.oneCell'=true
instance {k:IntKind} {n:Int}:Y8 (y3 k n):=⟨fun h=>by cases h; rfl⟩
instance {b:Bool}:Y8 (kB b):=⟨fun h=>by cases h; rfl⟩
instance {a:Option Addr} {l c:Nat}:Y8 (j8 (.slice a l c)):=⟨fun h=>by cases h; rfl⟩
instance {t l:Nat}:Y8 (q8 t l):=⟨fun h=>by rcases h with ⟨_,_,rfl⟩ | ⟨_,_,_,rfl⟩<;>rfl⟩
instance {α:Type} {e:i7 α} {x:α}:Y8 (r5 e x):=⟨fun ⟨_,_,_,h,_⟩=>by subst h; rfl⟩
instance {α:Type} {e:i7 α} {x:List α}:Y8 (b7 (eL e) x):=⟨fun ⟨_,⟨_,_,h1,_⟩,h2⟩=>by subst h1; subst h2; rfl⟩
instance {k:b8} [h:Y8 k]:F3 k [k]:=⟨fun hk=>by rw[SI (h.imp hk)]; exact ⟨⟨hk,trivial⟩,by simp[h.imp hk]⟩⟩
instance {α β:Type} {e:i7 α} {f:i7 β} {x:α×β} {ks:List b8} [h:K4 (eP e f) x [] ks]:F3 (b7 (eP e f) x) ks:=⟨fun {g v} hk=>by
 have h1:=hk.cells
 have h2:=h.imp (g:=g) (ds:=[]) h1 trivial
 refine ⟨by simpa using h2,List.all_eq_true.2 fun x hx=>i7.all1 _ h1 x hx⟩⟩
instance {α β:Type} {f:β->α} {e:i7 α} {x:β} {ks:List b8} [h:F3 (b7 e (f x)) ks]:F3 (b7 (eC f e) x) ks:=⟨fun hk=>h.imp hk⟩
class DT (ks:List b8):Prop where
 imp:∀{g:Gh} {cs:List Value},o6 g ks cs->cs.all (·.oneCell')=true
instance:DT []:=⟨fun {_ cs} h=>by cases cs with | nil=>rfl | cons=>exact h.elim⟩
instance {k:b8} {ks:List b8} [h:Y8 k] [hs:DT ks]:DT (k::ks):=⟨fun {g cs} hk=>by
 cases cs with
 | nil=>rfl
 | cons v vs=>simp only[List.all_cons,h.imp hk.1,hs.imp hk.2,Bool.and_self]⟩
instance {ks:List b8} [h:DT ks]:F3 (G6 ks) ks:=⟨fun ⟨cs,h1,h2⟩=>by subst h1; exact ⟨by simpa [Value.cells] using h2,by simpa [Value.cells] using h.imp h2⟩⟩

class v5 {α:Type} (ks:List b8) (e:i7 α) (x:outParam α) (rest:outParam (List b8)):Prop where
 imp:∀{g:Gh} {cs:List Value},o6 g ks cs->∃c1 c2,cs=c1++c2/\e.rd g.J c1 x/\o6 g rest c2
theorem v5.one {α:Type} {k:b8} {r:List b8} {e:i7 α} {x:α} (h:∀{g:Gh} {v:Value},k g v->e.rd g.J [v] x):v5 (k::r) e x r:=⟨fun {g cs} hk=>by
 cases cs with
 | nil=>exact hk.elim
 | cons v vs=>exact ⟨[v],vs,rfl,h hk.1,hk.2⟩⟩
instance {k:IntKind} {n:Int} {r:List b8}:v5 (y3 k n::r) (EC k) n r:=.one fun h=>by cases h; rfl
instance {b:Bool} {r:List b8}:v5 (kB b::r) AS b r:=.one fun h=>by cases h; rfl
instance {α:Type} {e:i7 α} {x:List α} {r:List b8}:v5 (b7 (eL e) x::r) (eL e) x r:=.one fun {g v} h=>by
 have:=h.cells
 rwa [SI (Y8.imp (k:=b7 (eL e) x) h)] at this
theorem V0 {α:Type} {e:i7 α} {J:JV} {c:Nat}:(eL e).rd J [.slice none 0 c] []:=⟨none,c,rfl,⟨Nat.zero_le _,Nat.zero_le _⟩,.inl rfl⟩
instance {α:Type} {e:i7 α} {c:Nat} {r:List b8}:v5 (j8 (.slice none 0 c)::r) (eL e) [] r:=.one fun h=>by cases h; exact V0
instance {α:Type} {e:i7 α} {x:α} {r:List b8}:v5 (r5 e x::r) (W7 e) x r:=.one fun ⟨b,o,ds,h1,h2,h3⟩=>⟨b,o,ds,by subst h1; rfl,h2,h3⟩
instance {ks:List b8}:v5 ks eU () ks:=⟨fun h=>⟨[],_,rfl,rfl,h⟩⟩
instance {α β:Type} {ks r1 r:List b8} {e:i7 α} {f:i7 β} {x:α} {y:β} [h1:v5 ks e x r1] [h2:v5 r1 f y r]:v5 ks (eP e f) (x,y) r:=⟨fun hk=>by
 obtain ⟨c1,c2,rfl,a1,a2⟩:=h1.imp hk
 obtain ⟨d1,d2,rfl,b1,b2⟩:=h2.imp a2
 exact ⟨c1++d1,d2,by rw[List.append_assoc],⟨c1,d1,rfl,a1,b1⟩,b2⟩⟩
theorem v5.whole {α:Type} {ks:List b8} {e:i7 α} {x:α} [h:v5 ks e x []] {g:Gh} {cs:List Value} (hk:o6 g ks cs):e.rd g.J cs x:=by
 obtain ⟨c1,c2,rfl,a1,a2⟩:=h.imp hk
 cases c2 with
 | nil=>simpa using a1
 | cons=>exact a2.elim
class u6 {α:Type} (e:i7 α) (x:α) (i:Nat) {β:outParam Type} (e':outParam (i7 β)) (x':outParam β) (off:outParam Nat):Prop where
 imp:∀{J:JV} {cs:List Value},e.rd J cs x->∃ds,e'.rd J ds x'/\∀j v,ds[j]?=some v->cs[off+j]?=some v
instance {α β:Type} {e:i7 α} {f:i7 β} {x:α×β}:u6 (eP e f) x 0 e x.1 0:=⟨fun ⟨c1,c2,h0,h1,_⟩=>⟨c1,h1,fun j v hj=>by
 subst h0
 rw[Nat.zero_add,List.getElem?_append_left (List.getElem?_eq_some_iff.1 hj).1]; exact hj⟩⟩
instance {α β γ:Type} {e:i7 α} {f:i7 β} {x:α×β} {i off:Nat} {e':i7 γ} {x':γ} [h:u6 f x.2 i e' x' off]:u6 (eP e f) x (i+1) e' x' (e.n+off):=⟨fun ⟨c1,c2,h0,h1,h2⟩=>by
 obtain ⟨ds,k1,k2⟩:=h.imp h2
 refine ⟨ds,k1,fun j v hj=>?_⟩
 subst h0
 rw[Nat.add_assoc,<- e.len h1,List.getElem?_append_right zo,Nat.add_sub_cancel_left]
 exact k2 j v hj⟩
instance {α β γ:Type} {f:β->α} {e:i7 α} {x:β} {i off:Nat} {e':i7 γ} {x':γ} [h:u6 e (f x) i e' x' off]:u6 (eC f e) x i e' x' off:=⟨fun hv=>h.imp hv⟩

section
variable {P:Program}
theorem SH {c:l8} {g:Gh} {w:World} (h:Ok c g w) {b o:Nat} {ds:List Value} (hd:CR g.J b o ds):∀j v,ds[j]?=some v->w.cell? ⟨b,o+j,none⟩=some v:=fun j v hj=>h.im _ _ _ (hd j v hj)
theorem LI {t:TypeId} [ht:E0 P t] {w:World} {a:Addr} {v:Value} (h:w.cell? a=some v):(Instr.loadAt t (.pointer (some a))).run P w=.ok v w:=by
 simp[Instr.loadAt,Instr.sureAddr,loadVar,ht.run,h]
theorem QE {t:TypeId} [ht:D0 P t] {n by':Nat} {z:Value} [hz:q7 P t n by' z] {w:World} {b o:Nat} {ds:List Value} (hl:ds.length=n) (h:∀j v,ds[j]?=some v->w.cell? ⟨b,o+j,none⟩=some v) :
  (Instr.loadAt t (.pointer (some ⟨b,o,none⟩))).run P w=.ok (.agg ds.toArray) w:=by
 obtain ⟨i,hi,rfl,_,_⟩:=hz.h
 have:=run_loadCells_list (P:=P) w ⟨b,o,none⟩ ds (fun j v hj=>by rw[Addr.add_lit]; exact h j v hj)
 rw[hl] at this
 simp[Instr.loadAt,Instr.sureAddr,loadVar,ht.run,sizeOf,typeInfo,hi,this]
theorem J6 {w:World} {b o:Nat} {cs:Array Value} {ty:TypeId} {fr:Nat×Nat} {v:Value} (h:w.heap[b]?=some (.cells cs ty fr)) (hv:cs[o]?=some v):w.cell? ⟨b,o,none⟩=some v:=by
 simp[World.cell?,h,hv]
def Gh.add (g:Gh) (t:Nat) (b:Bk):Gh:=⟨g.J,fun u=>if u=t then some b else g.M u⟩
theorem Gh.add_same (g:Gh) (t:Nat) (b:Bk):(g.add t b).M t=some b:=by simp[Gh.add]
theorem LV {c:l8} {g:Gh} {w:World} (h:Ok c g w) {b o:Nat} (hb:w.heap.size<=b):g.J b o=none:=by
 cases hj:g.J b o with
 | none=>rfl
 | some v =>
  have:=World.block_lt_of_cell? _ _ (h.im _ _ _ hj)
  simp only at this
  omega
theorem F8.alloc {c:l8} {k:b8} {g:Gh} {w w1:World} (h:Ok c g w) {t:Nat} {dep:List Nat} {ct:s9} (hf:g.M t=none) {cs:Array Value} {ty:TypeId} {cap:Nat} {v:Value} (hw:w1=w\/w1=w.drew)
  (hk:k (g.add t (.blk w.heap.size cap)) v) (hct:ct (g.add t (.blk w.heap.size cap)) (.blk w.heap.size cap) (some (.cells cs ty (0,0)))) :
  F8 c k (some ⟨t,dep,ct⟩) g (g.add t (.blk w.heap.size cap)) w (w1.alloc (.cells cs ty)) v:=by
 have hheap:w1.heap=w.heap:=by rcases hw with rfl | rfl<;>rfl
 have hsz:w1.heap.size=w.heap.size:=by rw[hheap]
 have hbel:Below w.heap.size w (w1.alloc (.cells cs ty)):=by
  rcases hw with rfl | rfl
  ·exact (Below.refl _ _).alloc (Nat.le_refl _) _
  ·exact ((Below.refl _ _).drew).alloc (Nat.le_refl _) _
 have hle:g.le (g.add t (.blk w.heap.size cap)):=⟨JV.le_refl _,fun u b hb=>by
  simp only[Gh.add]
  by_cases hu:u=t
  ·subst hu; rw[hf] at hb; cases hb
  ·rw[if_neg hu]; exact hb⟩
 have hobj:(w1.alloc (.cells cs ty)).heap[w.heap.size]?=some (.cells cs ty (0,0)):=by rw[<- hsz]; exact heap_alloc_new w1 _
 refine ⟨hk,hle,⟨h.bel.then hbel,h.jle,h.jold,fun b o u hu=>?_,fun u b cap' hu=>?_,fun u u' b c1 c2 h1 h2=>?_⟩,hbel,fun e he=>?_,fun u hu=>?_⟩
 ·have:=h.im b o u hu
  have hlt:=World.block_lt_of_cell? _ _ this
  rw[World.cell?_alloc_lt _ _ _ (by rw[hsz]; exact hlt)]
  rw[<- this]; simp only[World.cell?,hheap]
 ·simp only[Gh.add] at hu
  by_cases hut:u=t
  ·rw[if_pos hut] at hu
   cases hu
   refine ⟨.inl (Nat.le_trans h.bel.size (Nat.le_refl _)),by simp[hsz],fun o=>LV h (Nat.le_refl _)⟩
  ·rw[if_neg hut] at hu
   obtain ⟨a1,a2,a3⟩:=h.own u b cap' hu
   exact ⟨a1,by simp[hsz]; omega,a3⟩
 ·simp only[Gh.add] at h1 h2
  by_cases hut:u=t
  ·rw[if_pos hut] at h1
   cases h1
   by_cases hut':u'=t
   ·rw[hut,hut']
   ·rw[if_neg hut'] at h2
    have:=(h.own _ _ _ h2).2.1
    omega
  ·rw[if_neg hut] at h1
   by_cases hut':u'=t
   ·rw[if_pos hut'] at h2
    cases h2
    have:=(h.own _ _ _ h1).2.1
    omega
   ·rw[if_neg hut'] at h2
    exact h.inj _ _ _ _ _ h1 h2
 ·cases he
  exact ⟨_,Gh.add_same _ _ _,by rw[World.objAt]; simp only[hobj]; exact hct⟩
 ·simp only[Gh.add]
  rw[if_neg (fun e=>hu _ rfl e.symm)]
end

section
variable {P:Program} {c:l8} {S:g9} {M:f0} {p:Bool} {d:Option Tmp} {ty:TypeId} {pos:String} {af:Array Edge} {gd:Option (Nat×Bool)}
variable {x y z:Operand} {b b' b'':Bool}
theorem H3 {k:b8} (hx:j1 S x=some (b,k)) (hb:p=true->b=true):l3 P c S M ⟨d,.move x,ty,pos,af,gd⟩ p k none :=
 l3.pure fun hp a g w _ _ ho=>⟨a.eval x,by simp[execOp],ho x (by simp[Op.operands]) b k hx (hb hp)⟩
theorem LA {k:b8} (hx:j1 S x=some (b,k)) (hb:p=true->b=true):l3 P c S M ⟨d,.assign x,ty,pos,af,gd⟩ p k none :=
 l3.pure fun hp a g w _ _ ho=>⟨a.eval x,by simp[execOp],ho x (by simp[Op.operands]) b k hx (hb hp)⟩
theorem X4 {op:BinOp} {t t':TypeId} {u v r:Value} (hr:∀w,(do eqGuard op t x y u v; binOp op t u v:Sem Value).run P w=.ok r w) (hx:j1 S x=some (b,j8 u)) (hb:p=true->b=true) (hy:j1 S y=some (b',j8 v)) (hb':p=true->b'=true) :
  l3 P c S M ⟨d,.binOp op t x y t',ty,pos,af,gd⟩ p (j8 r) none :=
 l3.pure fun hp a g w _ _ ho=>by
  have h1:a.eval x=u:=ho x (by simp[Op.operands]) b _ hx (hb hp)
  have h2:a.eval y=v:=ho y (by simp[Op.operands]) b' _ hy (hb' hp)
  refine ⟨r,?_,rfl⟩
  have:=hr w
  simp only[Sem.run_bind] at this
  simp only[execOp,h1,h2,Sem.run_bind,this,Result.andThen_ok,Sem.run_pure]
theorem HZ {t t':TypeId} {m n:Int} (hx:j1 S x=some (b,kI m)) (hb:p=true->b=true) (hy:j1 S y=some (b',kI n)) (hb':p=true->b'=true) (h:p=true->-9223372036854775808<=m+n/\m+n<=9223372036854775807) :
  l3 P c S M ⟨d,.binOp .add t x y t',ty,pos,af,gd⟩ p (kI (m+n)) none:=by
 cases p with
 | false=>exact fun hp=>by cases hp
 | true=>exact X4 (fun w=>by simp[go_sem,IntWalk.i64_in _ (h rfl)]) hx hb hy hb'
theorem BB {t t':TypeId} {m n:Int} (hx:j1 S x=some (b,kI m)) (hb:p=true->b=true) (hy:j1 S y=some (b',kI n)) (hb':p=true->b'=true) (h:p=true->-9223372036854775808<=m-n/\m-n<=9223372036854775807) :
  l3 P c S M ⟨d,.binOp .sub t x y t',ty,pos,af,gd⟩ p (kI (m-n)) none:=by
 cases p with
 | false=>exact fun hp=>by cases hp
 | true=>exact X4 (fun w=>by simp[go_sem,IntWalk.i64_in _ (h rfl)]) hx hb hy hb'
theorem II {t t':TypeId} {m n:Int} (hx:j1 S x=some (b,kI m)) (hb:p=true->b=true) (hy:j1 S y=some (b',kI n)) (hb':p=true->b'=true) (h:p=true->-9223372036854775808<=m*n/\m*n<=9223372036854775807) :
  l3 P c S M ⟨d,.binOp .mul t x y t',ty,pos,af,gd⟩ p (kI (m*n)) none:=by
 cases p with
 | false=>exact fun hp=>by cases hp
 | true=>exact X4 (fun w=>by simp[go_sem,IntWalk.i64_in _ (h rfl)]) hx hb hy hb'
theorem BA {t t':TypeId} {m n:Int} (hx:j1 S x=some (b,kI m)) (hb:p=true->b=true) (hy:j1 S y=some (b',kI n)) (hb':p=true->b'=true) (h:p=true->n≠0/\-9223372036854775808<=m.tdiv n/\m.tdiv n<=9223372036854775807) :
  l3 P c S M ⟨d,.binOp .quo t x y t',ty,pos,af,gd⟩ p (kI (m.tdiv n)) none:=by
 cases p with
 | false=>exact fun hp=>by cases hp
 | true=>exact X4 (fun w=>by simp[go_sem,(h rfl).1,IntWalk.i64_in _ (h rfl).2]) hx hb hy hb'
theorem EN {t t':TypeId} {k:IntKind} {m n:Int} (hx:j1 S x=some (b,y3 k m)) (hb:p=true->b=true) (hy:j1 S y=some (b',y3 k n)) (hb':p=true->b'=true) (h:p=true->n≠0) :
  l3 P c S M ⟨d,.binOp .rem t x y t',ty,pos,af,gd⟩ p (y3 k (m.tmod n)) none:=by
 cases p with
 | false=>exact fun hp=>by cases hp
 | true=>exact X4 (fun w=>by simp[go_sem,h rfl]) hx hb hy hb'
theorem PA {t t':TypeId} {k:IntKind} {m n:Int} (hx:j1 S x=some (b,y3 k m)) (hb:p=true->b=true) (hy:j1 S y=some (b',y3 k n)) (hb':p=true->b'=true) :
  l3 P c S M ⟨d,.binOp .eql t x y t',ty,pos,af,gd⟩ p (kB (decide (m=n))) none :=
 X4 (fun w=>by first | (simp[go_sem]; done) | (simp[go_sem]; rfl) | (simp[go_sem,bne,beq_eq_decide])) hx hb hy hb'
theorem PJ {t t':TypeId} {k:IntKind} {m n:Int} (hx:j1 S x=some (b,y3 k m)) (hb:p=true->b=true) (hy:j1 S y=some (b',y3 k n)) (hb':p=true->b'=true) :
  l3 P c S M ⟨d,.binOp .neq t x y t',ty,pos,af,gd⟩ p (kB (decide (m≠n))) none :=
 X4 (fun w=>by first | (simp[go_sem]; done) | (simp[go_sem]; rfl) | (simp[go_sem,bne,beq_eq_decide])) hx hb hy hb'
theorem PH {t t':TypeId} {k:IntKind} {m n:Int} (hx:j1 S x=some (b,y3 k m)) (hb:p=true->b=true) (hy:j1 S y=some (b',y3 k n)) (hb':p=true->b'=true) :
  l3 P c S M ⟨d,.binOp .lss t x y t',ty,pos,af,gd⟩ p (kB (decide (m<n))) none :=
 X4 (fun w=>by first | (simp[go_sem]; done) | (simp[go_sem]; rfl) | (simp[go_sem,bne,beq_eq_decide])) hx hb hy hb'
theorem PG {t t':TypeId} {k:IntKind} {m n:Int} (hx:j1 S x=some (b,y3 k m)) (hb:p=true->b=true) (hy:j1 S y=some (b',y3 k n)) (hb':p=true->b'=true) :
  l3 P c S M ⟨d,.binOp .leq t x y t',ty,pos,af,gd⟩ p (kB (decide (m<=n))) none :=
 X4 (fun w=>by first | (simp[go_sem]; done) | (simp[go_sem]; rfl) | (simp[go_sem,bne,beq_eq_decide])) hx hb hy hb'
theorem PC {t t':TypeId} {k:IntKind} {m n:Int} (hx:j1 S x=some (b,y3 k m)) (hb:p=true->b=true) (hy:j1 S y=some (b',y3 k n)) (hb':p=true->b'=true) :
  l3 P c S M ⟨d,.binOp .gtr t x y t',ty,pos,af,gd⟩ p (kB (decide (n<m))) none :=
 X4 (fun w=>by first | (simp[go_sem]; done) | (simp[go_sem]; rfl) | (simp[go_sem,bne,beq_eq_decide])) hx hb hy hb'
theorem PB {t t':TypeId} {k:IntKind} {m n:Int} (hx:j1 S x=some (b,y3 k m)) (hb:p=true->b=true) (hy:j1 S y=some (b',y3 k n)) (hb':p=true->b'=true) :
  l3 P c S M ⟨d,.binOp .geq t x y t',ty,pos,af,gd⟩ p (kB (decide (n<=m))) none :=
 X4 (fun w=>by first | (simp[go_sem]; done) | (simp[go_sem]; rfl) | (simp[go_sem,bne,beq_eq_decide])) hx hb hy hb'

theorem PL {t:TypeId} {e:Bool} (hx:j1 S x=some (b,kB e)) (hb:p=true->b=true):l3 P c S M ⟨d,.unOp .not t x,ty,pos,af,gd⟩ p (kB (!e)) none :=
 l3.pure fun hp a g w _ _ ho=>by
  have h1:a.eval x=.bool e:=ho x (by simp[Op.operands]) b _ hx (hb hp)
  exact ⟨_,by simp[execOp,h1,Op.unary],rfl⟩
theorem FW {t:TypeId} {m:Int} (hx:j1 S x=some (b,kI m)) (hb:p=true->b=true) (h:p=true->-9223372036854775807<=m/\m<=9223372036854775807):l3 P c S M ⟨d,.unOp .neg t x,ty,pos,af,gd⟩ p (kI (-m)) none :=
 l3.pure fun hp a g w _ _ ho=>by
  have h1:a.eval x=.int .i64 m:=ho x (by simp[Op.operands]) b _ hx (hb hp)
  have hm:=h hp
  have:=IntWalk.i64_in (0-m) zo
  rw[show (0:Int)-m=-m by omega] at this
  exact ⟨.int .i64 (-m),by simp[execOp,h1,Op.unary,Op.intArith,this],rfl⟩
theorem VY {e u:Bool} (hx:j1 S x=some (b,kB e)) (hb:p=true->b=true) (hy:j1 S y=some (b',kB u)) (hb':p=true->e=true->b'=true) :
  l3 P c S M ⟨d,.pick x y (.const (.bool false)),ty,pos,af,gd⟩ p (kB (e&&u)) none :=
 l3.pure fun hp a g w _ _ ho=>by
  have h1:a.eval x=.bool e:=ho x (by simp[Op.operands]) b _ hx (hb hp)
  cases e with
  | false =>
   have h2:a.eval (.const (.bool false))=.bool false:=rfl
   exact ⟨.bool false,by simp[execOp,h1,h2,asBool],rfl⟩
  | true =>
   have h2:a.eval y=.bool u:=ho y (by simp[Op.operands]) b' _ hy (hb' hp rfl)
   exact ⟨_,by simp[execOp,h1,h2,asBool],rfl⟩
theorem WD {e u:Bool} (hx:j1 S x=some (b,kB e)) (hb:p=true->b=true) (hy:j1 S y=some (b',kB u)) (hb':p=true->e=false->b'=true) :
  l3 P c S M ⟨d,.pick x (.const (.bool true)) y,ty,pos,af,gd⟩ p (kB (e||u)) none :=
 l3.pure fun hp a g w _ _ ho=>by
  have h1:a.eval x=.bool e:=ho x (by simp[Op.operands]) b _ hx (hb hp)
  cases e with
  | true =>
   have h2:a.eval (.const (.bool true))=.bool true:=rfl
   exact ⟨.bool true,by simp[execOp,h1,h2,asBool],rfl⟩
  | false =>
   have h2:a.eval y=.bool u:=ho y (by simp[Op.operands]) b' _ hy (hb' hp rfl)
   exact ⟨_,by simp[execOp,h1,h2,asBool],rfl⟩
theorem uP {src t:TypeId} {sk k:IntKind} {n:Int} [hs:GW P src sk] [ht:GW P t k] (hx:j1 S x=some (b,y3 sk n)) (hb:p=true->b=true):l3 P c S M ⟨d,.convert src t x,ty,pos,af,gd⟩ p (y3 k (k.wrap n)) none :=
 l3.pure fun hp a g w _ _ ho=>by
  have h1:a.eval x=.int sk n:=ho x (by simp[Op.operands]) b _ hx (hb hp)
  exact ⟨_,by simp[execOp,h1,convert,run_underlying hs.h,run_underlying ht.h,Conv.intToInt],rfl⟩
theorem ab1 {src t:TypeId} {sk:IntKind} {n:Int} [hs:GW P src sk] [ht:GW P t .i64] (hx:j1 S x=some (b,y3 sk n)) (hb:p=true->b=true) (h:p=true->-9223372036854775808<=n/\n<=9223372036854775807):l3 P c S M ⟨d,.convert src t x,ty,pos,af,gd⟩ p (kI n) none:=by
 cases p with
 | false=>exact fun hp=>by cases hp
 | true =>
  have:=uP (P:=P) (c:=c) (M:=M) (d:=d) (ty:=ty) (pos:=pos) (af:=af) (gd:=gd) (src:=src) (t:=t) hx hb
  rw[IntWalk.i64_in n (h rfl)] at this
  exact this
theorem G7 {α:Type} {e:i7 α} {v:α} (hx:j1 S x=some (b,r5 e v)) (hb:p=true->b=true):l3 P c S M ⟨d,.nilCheck x,ty,pos,af,gd⟩ p (r5 e v) none :=
 l3.pure fun hp a g w _ _ ho=>by
  have hk:=ho x (by simp[Op.operands]) b _ hx (hb hp)
  obtain ⟨b,o,ds,h1,h2⟩:=id hk
  exact ⟨a.eval x,by simp[execOp,h1],hk⟩
theorem O7 {t o:Nat} (hx:j1 S x=some (b,w6 t o)) (hb:p=true->b=true):l3 P c S M ⟨d,.nilCheck x,ty,pos,af,gd⟩ p (w6 t o) none :=
 l3.pure fun hp a g w _ _ ho=>by
  have hk:=ho x (by simp[Op.operands]) b _ hx (hb hp)
  obtain ⟨b,o,h1,h2⟩:=id hk
  exact ⟨a.eval x,by simp[execOp,h2],hk⟩
theorem PF {t:TypeId} {e':TypeId} [ht:C5 P t e'] {α:Type} {e:i7 α} {xs:List α} (hx:j1 S x=some (b,b7 (eL e) xs)) (hb:p=true->b=true):l3 P c S M ⟨d,.call { callee:=.builtin .len,args:=#[x],argTypes:=#[t] },ty,pos,af,gd⟩ p (kI xs.length) none :=
 l3.pure fun hp a g w _ _ ho=>by
  obtain ⟨cs,⟨ad,cap,rfl,_⟩,h2⟩:=ho x (by simp[Op.operands,Call.operands]) b _ hx (hb hp)
  simp only[eL,Bool.false_eq_true,if_false,List.headD_cons] at h2
  exact ⟨_,by simp[execOp,resolve,invoke,builtin,Builtin.len_,h2,run_underlying ht.h,goInt],rfl⟩
theorem Z9 {t:TypeId} {e':TypeId} [ht:C5 P t e'] {u len:Nat} (hx:j1 S x=some (b,q8 u len)) (hb:p=true->b=true):l3 P c S M ⟨d,.call { callee:=.builtin .len,args:=#[x],argTypes:=#[t] },ty,pos,af,gd⟩ p (kI len) none :=
 l3.pure fun hp a g w _ _ ho=>by
  rcases ho x (by simp[Op.operands,Call.operands]) b _ hx (hb hp) with ⟨_,rfl,h2⟩ | ⟨bk,cap,_,h2⟩
  ·exact ⟨_,by simp[execOp,resolve,invoke,builtin,Builtin.len_,h2,run_underlying ht.h,goInt],rfl⟩
  ·exact ⟨_,by simp[execOp,resolve,invoke,builtin,Builtin.len_,h2,run_underlying ht.h,goInt],rfl⟩
theorem ID {s:TypeId} {f off:Nat} [ht:u7 P s f off] {α β:Type} {e:i7 α} {v:α} {e':i7 β} {v':β} {off':Nat} [hf:u6 e v f e' v' off'] (hx:j1 S x=some (b,r5 e v)) (hb:p=true->b=true) (ho:off=off') :
  l3 P c S M ⟨d,.fieldAddr s x f,ty,pos,af,gd⟩ p (r5 e' v') none :=
 l3.pure fun hp a g w _ _ hop=>by
  obtain ⟨bl,o,ds,h1,h2,h3⟩:=hop x (by simp[Op.operands]) b _ hx (hb hp)
  obtain ⟨es,k1,k2⟩:=hf.imp h2
  refine ⟨.pointer (some ⟨bl,o+off,none⟩),by simp[execOp,h1,ht.run,Addr.add_lit],bl,o+off',es,by rw[ho],k1,fun j u hj=>?_⟩
  rw[Nat.add_assoc]
  exact h3 _ _ (k2 j u hj)
theorem X5 {s:TypeId} {f off:Nat} [ht:u7 P s f off] {t o:Nat} (hx:j1 S x=some (b,w6 t o)) (hb:p=true->b=true) :
  l3 P c S M ⟨d,.fieldAddr s x f,ty,pos,af,gd⟩ p (w6 t (o+off)) none :=
 l3.pure fun hp a g w _ _ hop=>by
  obtain ⟨bl,cap,h1,h2⟩:=hop x (by simp[Op.operands]) b _ hx (hb hp)
  exact ⟨.pointer (some ⟨bl,o+off,none⟩),by simp[execOp,h2,ht.run,Addr.add_lit],bl,cap,h1,rfl⟩
theorem KL {t et:TypeId} [ht:C5 P t et] {sz by':Nat} {zz:Value} [hz:q7 P et sz by' zz] {w:World} {bl o len cap:Nat} {i:Int} {ik:IntKind} (h:0<=i/\i<len) :
  (Instr.indexAt t (.slice (some ⟨bl,o,none⟩) len cap) (.int ik i)).run P w=.ok (.pointer (some ⟨bl,o+i.toNat*sz,none⟩)) w:=by
 obtain ⟨ti,hi,rfl,_,_⟩:=hz.h
 simp[Instr.indexAt,run_underlying ht.h,asIntOf,h,sizeOf,typeInfo,hi,Addr.add_lit]
theorem AY {t et:TypeId} [ht:C5 P t et] {sz by':Nat} {zz:Value} [hz:q7 P et sz by' zz] {α:Type} [Inhabited α] {e:i7 α} {xs:List α} {ik:IntKind} {i:Int} (hx:j1 S x=some (b,b7 (eL e) xs)) (hb:p=true->b=true) (hy:j1 S y=some (b',y3 ik i)) (hb':p=true->b'=true)
  (hs:sz=e.n) (h:p=true->0<=i/\i<xs.length):l3 P c S M ⟨d,.indexAddr t x y,ty,pos,af,gd⟩ p (r5 e (b6 xs i.toNat)) none :=
 l3.pure fun hp a g w _ _ ho=>by
  obtain ⟨cs,⟨ad,cap,rfl,_,hr⟩,h2⟩:=ho x (by simp[Op.operands]) b _ hx (hb hp)
  have hi:a.eval y=_:=ho y (by simp[Op.operands]) b' _ hy (hb' hp)
  simp only[eL,Bool.false_eq_true,if_false,List.headD_cons] at h2
  have hlt:=h hp
  rcases hr with rfl | ⟨bl,o,rfl,hrow⟩
  ·simp at hlt; omega
  obtain ⟨ds,k1,k2⟩:=hrow i.toNat (b6 xs i.toNat) (G0 zo)
  exact ⟨.pointer (some ⟨bl,o+i.toNat*sz,none⟩),by simp only[execOp,h2,hi,Sem.run_bind,KL (P:=P) hlt,Result.andThen_ok,Sem.run_pure],bl,o+i.toNat*sz,ds,rfl,k1,by rw[hs]; exact k2⟩
theorem I0 {t et:TypeId} [ht:C5 P t et] {sz by':Nat} {zz:Value} [hz:q7 P et sz by' zz] {α:Type} [Inhabited α] {e:i7 α} {xs:List α} {ik:IntKind} {i:Nat} (hx:j1 S x=some (b,b7 (eL e) xs)) (hb:p=true->b=true) (hy:j1 S y=some (b',y3 ik (i:Int))) (hb':p=true->b'=true)
  (hs:sz=e.n) (h:p=true->i<xs.length):l3 P c S M ⟨d,.indexAddr t x y,ty,pos,af,gd⟩ p (r5 e (b6 xs i)) none :=
 AY (i:=(i:Int)) hx hb hy hb' hs (fun hp=>by have:=h hp; omega)
theorem FV {t et:TypeId} [ht:C5 P t et] {sz by':Nat} {zz:Value} [hz:q7 P et sz by' zz] {u len:Nat} {ik:IntKind} {i:Int} (hx:j1 S x=some (b,q8 u len)) (hb:p=true->b=true) (hy:j1 S y=some (b',y3 ik i)) (hb':p=true->b'=true)
  (h:p=true->0<=i/\i<len):l3 P c S M ⟨d,.indexAddr t x y,ty,pos,af,gd⟩ p (BZ u sz i.toNat len) none :=
 l3.pure fun hp a g w _ _ ho=>by
  have hi:a.eval y=_:=ho y (by simp[Op.operands]) b' _ hy (hb' hp)
  have hlt:=h hp
  rcases ho x (by simp[Op.operands]) b _ hx (hb hp) with ⟨_,h0,_⟩ | ⟨bk,cap,h1,h2⟩
  ·omega
  ·exact ⟨.pointer (some ⟨bk,0+i.toNat*sz,none⟩),by simp only[execOp,h2,hi,Sem.run_bind,KL (P:=P) hlt,Result.andThen_ok,Sem.run_pure],by omega,bk,cap,h1,by simp⟩
theorem IE {t et:TypeId} [ht:C5 P t et] {sz by':Nat} {zz:Value} [hz:q7 P et sz by' zz] {u len:Nat} {ik:IntKind} {i:Nat} (hx:j1 S x=some (b,q8 u len)) (hb:p=true->b=true) (hy:j1 S y=some (b',y3 ik (i:Int))) (hb':p=true->b'=true)
  (h:p=true->i<len):l3 P c S M ⟨d,.indexAddr t x y,ty,pos,af,gd⟩ p (BZ u sz i len) none :=
 FV (i:=(i:Int)) hx hb hy hb' (fun hp=>by have:=h hp; omega)
theorem K1 {t:TypeId} [ht:E0 P t] {α:Type} {e:i7 α} {v:α} {k:b8} [hk:P3 e v k] (hx:j1 S x=some (b,r5 e v)) (hb:p=true->b=true) (ha:e.agg=false):l3 P c S M ⟨d,.load t x,ty,pos,af,gd⟩ p k none :=
 l3.pure fun hp a g w hok _ ho=>by
  obtain ⟨bl,o,ds,h1,h2,h3⟩:=ho x (by simp[Op.operands]) b _ hx (hb hp)
  have hl:=e.len h2
  rw[(e.one ha).1] at hl
  match ds,hl with
  | [u],_ =>
   have hc:=SH hok h3 0 u rfl
   exact ⟨u,by simp only[execOp,h1,Sem.run_bind,LI (P:=P) (t:=t) (by simpa using hc),Result.andThen_ok,Sem.run_pure],hk.imp ⟨_,h2,by rw[ha]; rfl⟩⟩
theorem S7 {t:TypeId} [ht:D0 P t] {n by':Nat} {zz:Value} [hz:q7 P t n by' zz] {α:Type} {e:i7 α} {v:α} {k:b8} [hk:P3 e v k] (hx:j1 S x=some (b,r5 e v)) (hb:p=true->b=true) (ha:e.agg=true) (hn:e.n=n):l3 P c S M ⟨d,.load t x,ty,pos,af,gd⟩ p k none :=
 l3.pure fun hp a g w hok _ ho=>by
  obtain ⟨bl,o,ds,h1,h2,h3⟩:=ho x (by simp[Op.operands]) b _ hx (hb hp)
  exact ⟨.agg ds.toArray,by simp only[execOp,h1,Sem.run_bind,QE (P:=P) (t:=t) ((e.len h2).trans hn) (SH hok h3),Result.andThen_ok,Sem.run_pure],hk.imp ⟨_,h2,by rw[ha]; rfl⟩⟩
theorem BT {ks:List b8} {t:Nat} {dep:List Nat} [hl:p8 M t (j3 ks) dep] {g:Gh} {w:World} (hc:D9 M g w) {bl cap:Nat} (hm:g.M t=some (.blk bl cap)):∃cs ty,w.heap[bl]?=some (.cells cs ty (0,0))/\o6 g ks cs.toList:=by
 obtain ⟨b,h1,cs,ty,h2,h3⟩:=hc _ hl.mem
 simp only at h1
 rw[hm] at h1
 cases h1
 exact ⟨cs,ty,h2,h3⟩
theorem AZ {t:TypeId} [ht:E0 P t] {u o:Nat} {ks:List b8} {dep:List Nat} [hl:p8 M u (j3 ks) dep] {k:b8} (hx:j1 S x=some (b,w6 u o)) (hb:p=true->b=true) (hk:ks[o]?=some k):l3 P c S M ⟨d,.load t x,ty,pos,af,gd⟩ p k none :=
 l3.pure fun hp a g w hok hc ho=>by
  obtain ⟨bl,cap,h1,h2⟩:=ho x (by simp[Op.operands]) b _ hx (hb hp)
  obtain ⟨cs,ty,h3,h4⟩:=BT (ks:=ks) hc h1
  obtain ⟨v,hv,hkv⟩:=FI h4 hk
  exact ⟨v,by simp only[execOp,h2,Sem.run_bind,LI (P:=P) (t:=t) (J6 h3 (by simpa using hv)),Result.andThen_ok,Sem.run_pure],hkv⟩
theorem FH {g:Gh}:∀{ks:List b8} {vs:List Value} (o n:Nat),o6 g ks vs->o6 g ((ks.drop o).take n) ((vs.drop o).take n)
 | [],[],_,_,_=>by simp[o6]
 | _::_,_::_,0,0,_=>by simp[o6]
 | _::_,_::_,0,n+1,h=>⟨h.1,by simpa using FH 0 n h.2⟩
 | _::_,_::_,o+1,n,h=>by simpa using FH o n h.2
 | [],_::_,_,_,h=>h.elim
 | _::_,[],_,_,h=>h.elim
theorem uV {t:TypeId} [ht:D0 P t] {n by':Nat} {zz:Value} [hz:q7 P t n by' zz] {u o:Nat} {ks ks':List b8} {dep:List Nat} [hl:p8 M u (j3 ks) dep] (hx:j1 S x=some (b,w6 u o)) (hb:p=true->b=true) (hk:(ks.drop o).take n=ks') (hn:ks'.length=n) :
  l3 P c S M ⟨d,.load t x,ty,pos,af,gd⟩ p (G6 ks') none :=
 l3.pure fun hp a g w hok hc ho=>by
  obtain ⟨bl,cap,h1,h2⟩:=ho x (by simp[Op.operands]) b _ hx (hb hp)
  obtain ⟨cs,ty,h3,h4⟩:=BT (ks:=ks) hc h1
  have h5:=FH o n h4
  rw[hk] at h5
  refine ⟨.agg ((cs.toList.drop o).take n).toArray,?_,_,rfl,h5⟩
  have hr:=QE (P:=P) (t:=t) (w:=w) (b:=bl) (o:=o) (ds:=(cs.toList.drop o).take n) ((I2 h5).trans hn) (fun j v hj=>by
   refine J6 h3 ?_
   rw[List.getElem?_take] at hj
   split at hj
   ·rw[List.getElem?_drop] at hj; simpa using hj
   ·cases hj)
  simp only[execOp,h2,Sem.run_bind,hr,Result.andThen_ok,Sem.run_pure]
theorem CQ {α:Type} {zb:Bool} {et:TypeId} {e:i7 α} {xs:List α} {len t:Nat} {dep:List Nat} [hl:p8 M t (m9 zb et e xs len) dep] {g:Gh} {w:World} (hc:D9 M g w) {bl cap:Nat} (hm:g.M t=some (.blk bl cap)) :
  xs.length=len/\(zb=true->len≠0)/\∃cs:Array Value,w.heap[bl]?=some (.cells cs et (0,0))/\cs.size=cap*e.n/\len<=cap/\cap<=maxLen/\∀i x,xs[i]?=some x->∃ds,e.rd g.J ds x/\∀j v,ds[j]?=some v->cs[i*e.n+j]?=some v:=by
 obtain ⟨b,h1,h0,h2⟩:=hc _ hl.mem
 simp only at h1
 rw[hm] at h1
 cases h1
 obtain ⟨hz,cs,h3,h4⟩:=h2
 exact ⟨h0,hz,cs,h3,h4⟩
theorem PD {t:TypeId} [ht:E0 P t] {α:Type} [Inhabited α] {zb:Bool} {et:TypeId} {e:i7 α} {xs:List α} {u sz i len len':Nat} {dep:List Nat} [hl:p8 M u (m9 zb et e xs len') dep] {k:b8} [hk:P3 e (b6 xs i) k] (hx:j1 S x=some (b,BZ u sz i len)) (hb:p=true->b=true)
  (ha:e.agg=false) (hs:sz=e.n) (hle:len=len'):l3 P c S M ⟨d,.load t x,ty,pos,af,gd⟩ p k none :=
 l3.pure fun hp a g w hok hc ho=>by
  obtain ⟨hlt,bl,cap,h1,h2⟩:=ho x (by simp[Op.operands]) b _ hx (hb hp)
  obtain ⟨h0,_,cs,h3,_,_,_,h5⟩:=CQ (xs:=xs) hc h1
  obtain ⟨ds,k1,k2⟩:=h5 i _ (G0 zo)
  have hn:=e.len k1
  rw[(e.one ha).1] at hn
  match ds,hn with
  | [v],_ =>
   have hc:=k2 0 v rfl
   have hcell:w.cell? ⟨bl,i*sz,none⟩=some v:=J6 h3 (by rw[hs]; simpa using hc)
   exact ⟨v,by simp only[execOp,h2,Sem.run_bind,LI (P:=P) (t:=t) hcell,Result.andThen_ok,Sem.run_pure],hk.imp ⟨_,k1,by rw[ha]; rfl⟩⟩
theorem CG {t:TypeId} [ht:D0 P t] {n by':Nat} {zz:Value} [hz:q7 P t n by' zz] {α:Type} [Inhabited α] {zb:Bool} {et:TypeId} {e:i7 α} {xs:List α} {u sz i len len':Nat} {dep:List Nat} [hl:p8 M u (m9 zb et e xs len') dep] {k:b8} [hk:P3 e (b6 xs i) k] (hx:j1 S x=some (b,BZ u sz i len)) (hb:p=true->b=true)
  (ha:e.agg=true) (hs:sz=e.n) (hn:e.n=n) (hle:len=len'):l3 P c S M ⟨d,.load t x,ty,pos,af,gd⟩ p k none :=
 l3.pure fun hp a g w hok hc ho=>by
  obtain ⟨hlt,bl,cap,h1,h2⟩:=ho x (by simp[Op.operands]) b _ hx (hb hp)
  obtain ⟨h0,_,cs,h3,_,_,_,h5⟩:=CQ (xs:=xs) hc h1
  obtain ⟨ds,k1,k2⟩:=h5 i _ (G0 zo)
  have hcell:∀j v,ds[j]?=some v->w.cell? ⟨bl,i*sz+j,none⟩=some v:=fun j v hj=>J6 h3 (by rw[hs]; exact k2 j v hj)
  exact ⟨.agg ds.toArray,by simp only[execOp,h2,Sem.run_bind,QE (P:=P) (t:=t) ((e.len k1).trans hn) hcell,Result.andThen_ok,Sem.run_pure],hk.imp ⟨_,k1,by rw[ha]; rfl⟩⟩
end

theorem uu {p:Bool}:p=true->true=true:=fun _=>rfl
section
variable {P:Program} {c:l8} {ops:Array Oper} {S:g9} {M:f0} {rest:List Oper} {Q:Exit->Act->World->Prop} {d:Nat} {x:Operand} {ty:TypeId} {pos:String} {af:Array Edge} {k:b8} {dep:List Nat}
theorem mv (hx:j1 S x=some (true,k)) [hk:o4 k dep] (hs:s5 dep (tags M)=true) (hn:Nat.blt d c.n=true) (K:d5 P c ops (⟨d,true,dep,k⟩::S) M rest Q):d5 P c ops S M (⟨some d,.move x,ty,pos,af,none⟩::rest) Q:=d5.op (H3 hx uu) hs hn K
theorem mw (hx:j1 S x=some (true,k)) [hk:o4 k dep] (hs:s5 dep (tags M)=true) (hn:Nat.blt d c.n=true) (K:d5 P c ops (⟨d,true,dep,k⟩::S) M rest Q):d5 P c ops S M (⟨some d,.assign x,ty,pos,af,none⟩::rest) Q:=d5.op (LA hx uu) hs hn K
end
end Go.Fl

/- Operations that make things of the call's own, stores, appends, calls. -/
namespace Go.Fl
open Go Go.RowKit

class R7 (ks:List b8) (off:Nat) (kx:List b8) (out:outParam (List b8)):Prop where
 len:off+kx.length<=ks.length
 eq:out=ks.take off++kx++ks.drop (off+kx.length)
instance {ks:List b8}:R7 ks 0 [] ks:=⟨by simp,by simp⟩
instance {k0 k:b8} {ks kx out:List b8} [h:R7 ks 0 kx out]:R7 (k0::ks) 0 (k::kx) (k::out):=⟨by have:=h.len; simp at this ⊢; omega,by have:=h.eq; simp at this ⊢; exact this⟩
instance {k0:b8} {ks kx out:List b8} {n:Nat} [h:R7 ks n kx out]:R7 (k0::ks) (n+1) kx (k0::out):=⟨by have:=h.len; simp; omega,by
 have:=h.eq
 rw[this]
 simp[Nat.add_right_comm n 1]⟩
theorem R7.holds {g:Gh} {ks kx out:List b8} {off:Nat} (h:R7 ks off kx out) {cs vs:List Value} (hc:o6 g ks cs) (hv:o6 g kx vs):o6 g out (cs.take off++vs++cs.drop (off+vs.length)):=by
 rw[h.eq,I2 hv]
 have h1:=FH 0 off hc
 have h2:=FH (off+kx.length) cs.length hc
 simp only[List.drop_zero] at h1
 rw[List.take_of_length_le (by rw[List.length_drop,I2 hc]; omega),List.take_of_length_le (by rw[List.length_drop]; omega)] at h2
 exact MH (MH h1 hv) h2
theorem qV (vs:List Value) (off:Nat):∀(i:Nat) (cs:List Value),off+i+vs.length<=cs.length ->
  ((vs.zipIdx i).foldl (fun (a:Array Value) (x:Value×Nat)=>a.setIfInBounds (off+x.2) x.1) cs.toArray).toList=cs.take (off+i)++vs++cs.drop (off+i+vs.length):=by
 induction vs with
 | nil=>intro i cs _; simp
 | cons v vs ih =>
  intro i cs h
  simp only[List.length_cons] at h
  have h1:((v::vs).zipIdx i).foldl (fun (a:Array Value) (x:Value×Nat)=>a.setIfInBounds (off+x.2) x.1) cs.toArray=(vs.zipIdx (i+1)).foldl (fun (a:Array Value) (x:Value×Nat)=>a.setIfInBounds (off+x.2) x.1) (cs.set (off+i) v).toArray:=by
   simp[List.zipIdx_cons]
  rw[h1,ih (i+1) (cs.set (off+i) v) (by simp; omega)]
  apply List.ext_getElem?
  intro j
  simp only[List.append_assoc,List.getElem?_append,List.getElem?_take,List.length_take,List.length_set,List.getElem?_drop,List.getElem?_set,List.length_cons]
  by_cases hj:j<off+i
  ·simp[show j<off+(i+1) by omega,hj,show min (off+(i+1)) cs.length=off+(i+1) by omega,show min (off+i) cs.length=off+i by omega,show ¬off+i=j by omega]
  ·by_cases hj2:j=off+i
   ·subst hj2
    simp[show min (off+(i+1)) cs.length=off+(i+1) by omega,show min (off+i) cs.length=off+i by omega,show off+i<off+(i+1) by omega,show off+i<cs.length by omega]
   ·have e1:min (off+(i+1)) cs.length=off+(i+1):=by omega
    have e2:min (off+i) cs.length=off+i:=by omega
    simp only[e1,e2,hj,if_false,show ¬j<off+(i+1) by omega]
    rw[show j-(off+i)=(j-(off+(i+1)))+1 by omega]
    simp only[List.getElem?_cons_succ]
    by_cases hj3:j-(off+(i+1))<vs.length
    ·simp[hj3,show j-(off+(i+1))+1<vs.length+1 by omega]
    ·simp[hj3]
     rw[if_neg zo]
     congr 1
     omega
def NW (place:Nat->Option (Nat×Nat)) (cells:Array Value) (i:Nat) (v:Value):Option (Array Value) :=
 match place i with
 | none=>none
 | some (off,size)=>if v.cells.size≠size||off+v.cells.size>cells.size then none else some (v.cells.zipIdx.foldl (fun cs (c,j)=>cs.setIfInBounds (off+j) c) cells)
theorem cH (place:Nat->Option (Nat×Nat)) (cells:Array Value) (i:Nat) (v:Value) (rest:List (Nat×Value)) :
  Instr.fill place cells ((i,v)::rest)=(NW place cells i v).bind fun cs=>Instr.fill place cs rest:=by
 unfold NW
 simp only[Instr.fill]
 cases place i with
 | none=>rfl
 | some x=>simp only; split<;>simp_all
theorem cG (place:Nat->Option (Nat×Nat)) (cells:Array Value) (i off size:Nat) (v:Value) (hp:place i=some (off,size)) (hs:v.cells.size=size) (hl:off+size<=cells.size) :
  ∃cs,NW place cells i v=some cs/\cs.toList=cells.toList.take off++v.cells.toList++cells.toList.drop (off+size):=by
 have h:=qV v.cells.toList off 0 cells.toList (by simp; omega)
 refine ⟨_,by simp only[NW,hp]; rw[if_neg (by simp[hs]; omega)],?_⟩
 have e:v.cells.zipIdx.foldl (fun cs (x:Value×Nat)=>cs.setIfInBounds (off+x.2) x.1) cells=(v.cells.toList.zipIdx 0).foldl (fun (a:Array Value) (x:Value×Nat)=>a.setIfInBounds (off+x.2) x.1) cells.toList.toArray:=by
  rw[<- Array.foldl_toList]; simp
 rw[show (v.cells.zipIdx.foldl (fun cs (x:Value×Nat)=>match x with | (c,j)=>cs.setIfInBounds (off+j) c) cells)=v.cells.zipIdx.foldl (fun cs (x:Value×Nat)=>cs.setIfInBounds (off+x.2) x.1) cells from rfl,e,h]
 simp[hs]
inductive T5 (S:g9) (place:Nat->Option (Nat×Nat)):List (Nat×Operand)->List b8->List b8->Prop
 | nil {ks:List b8}:T5 S place [] ks ks
 | consG {i off size:Nat} {x:Operand} {r:List (Nat×Operand)} {k:b8} {b:Bool} {kx ks k1 out:List b8} (hx:j1 S x=some (b,k)) (hb:b=true) [hk:F3 k kx] (hp:place i=some (off,size)) (hs:kx.length=size) [h:R7 ks off kx k1] (rest:T5 S place r k1 out) :
   T5 S place ((i,x)::r) ks out
theorem T5.cons {S:g9} {place:Nat->Option (Nat×Nat)} {i off size:Nat} {x:Operand} {r:List (Nat×Operand)} {k:b8} {kx ks k1 out:List b8} (hx:j1 S x=some (true,k)) [hk:F3 k kx] (hp:place i=some (off,size)) (hs:kx.length=size) [h:R7 ks off kx k1] (rest:T5 S place r k1 out) :
   T5 S place ((i,x)::r) ks out:=.consG hx rfl hp hs rest
theorem T5.fill {S:g9} {place:Nat->Option (Nat×Nat)} {ps:List (Nat×Operand)} {ks out:List b8} (h:T5 S place ps ks out) {g:Gh} {ρ:Operand->Value} (hρ:∀y∈ps,∀b k,j1 S y.2=some (b,k)->b=true->k g (ρ y.2)) :
  ∀{cells:Array Value},o6 g ks cells.toList->∃cs,Instr.fill place cells (ps.map fun y=>(y.1,ρ y.2))=some cs/\o6 g out cs.toList:=by
 induction h with
 | nil=>intro cells hc; exact ⟨cells,rfl,hc⟩
 | @consG i off size x r k b kx ks k1 out hx hb hk hp hs hset rest ih =>
  intro cells hc
  have hv:=(hk.imp (hρ (i,x) List.mem_cons_self _ _ hx hb)).1
  have hsz:(ρ x).cells.size=size:=by have:=I2 hv; simp at this; omega
  have hl:=hset.len
  have hcl:=I2 hc
  simp at hcl
  obtain ⟨cs,h1,h2⟩:=cG place cells i off size (ρ x) hp hsz zo
  have h3:=hset.holds hc hv
  have hsz':(ρ x).cells.toList.length=size:=by simpa using hsz
  rw[hsz',<- h2] at h3
  obtain ⟨cs',h4,h5⟩:=ih (fun y hy=>hρ y (List.mem_cons_of_mem _ hy)) h3
  refine ⟨cs',?_,h5⟩
  simp only[List.map_cons,cH,h1,Option.bind_some]
  exact h4
class F4 (P:Program) (t:TypeId) (ks:outParam (List b8)):Prop where
 h:∃z:Value,(∀w,(zeroValue t).run P w=.ok z w)/\∀g,o6 g ks z.cells.toList
theorem F4.mk' {P:Program} {t:TypeId} {z:Value} {ks:List b8} (h:(P.info? t).map (·.zero)=some (some z)) (hk:∀g,o6 g ks z.cells.toList):F4 P t ks:=by
 refine ⟨z,fun w=>?_,hk⟩
 cases hi:P.info? t with
 | none=>simp[hi] at h
 | some i=>simp[hi] at h; simp[zeroValue,typeInfo,hi,h]
class CO (P:Program) (t:TypeId) (pl:outParam (List (Nat×Nat))):Prop where
 h:∃fs:Array Field,P.underlying t=some (.struct fs)/\fs.toList.mapM (fun f=>(P.info? f.type).map fun i=>(f.offset,i.size))=some pl
section
variable {P:Program} {c:l8} {S:g9} {M:f0} {p:Bool} {d:Option Tmp} {ty:TypeId} {pos:String} {af:Array Edge} {gd:Option (Nat×Bool)}
variable {x y z:Operand} {b b' b'':Bool}
theorem dN {ks:List b8} {dep:List Nat} [hk:A6 ks dep] {g:Gh} {t:Nat} {bk:Bk} {vs:List Value} (hc:∀u∈dep,∃b,g.M u=some b) (hf:g.M t=none) (h:o6 g ks vs):o6 (g.add t bk) ks vs :=
 hk.dep (g:=g) (g':=g.add t bk) (JV.le_refl _) (fun u hu=>by
  obtain ⟨b,hb⟩:=hc u hu
  simp only[Gh.add]
  rw[if_neg (fun e=>by subst e; rw[hf] at hb; cases hb)]) h
theorem uM {el:TypeId} {k:b8} {ks:List b8} {dep:List Nat} (t:Nat) (hx:j1 S x=some (b,k)) (hb:p=true->b=true) [hk:F3 k ks] [hd:A6 ks dep] (hs:s5 dep (tags M)=true) :
  l3 P c S M ⟨d,.box el x,ty,pos,af,gd⟩ p (w6 t 0) (some ⟨t,dep,j3 ks⟩):=by
 intro hp a g w hok hc ho hf
 have hv:=(hk.imp (ho x (by simp[Op.operands]) b _ hx (hb hp))).1
 have hf':=hf _ rfl
 unfold Oper.wp
 simp only[execOp,Instr.box,newVar,newRow,newObj,Sem.run_bind,Sem.run,Sem.run_pure,Result.andThen,Oper.upon]
 exact ⟨_,_,rfl,F8.alloc (cap:=0) hok hf' (.inl rfl) ⟨_,_,Gh.add_same _ _ _,rfl⟩ ⟨_,_,rfl,dN (fun u hu=>hc.tag (A1 hs u hu)) hf' hv⟩⟩
theorem IA {el:TypeId} {ks:List b8} (t:Nat) [hz:F4 P el ks] [hd:A6 ks []]:l3 P c S M ⟨d,.alloc el,ty,pos,af,gd⟩ p (w6 t 0) (some ⟨t,[],j3 ks⟩):=by
 intro hp a g w hok hc ho hf
 obtain ⟨z,h1,h2⟩:=hz.h
 have hf':=hf _ rfl
 unfold Oper.wp
 simp only[execOp,Instr.alloc,newVar,newRow,newObj,Sem.run_bind,h1,Sem.run,Sem.run_pure,Result.andThen,Oper.upon]
 exact ⟨_,_,rfl,F8.alloc (cap:=0) hok hf' (.inl rfl) ⟨_,_,Gh.add_same _ _ _,rfl⟩ ⟨_,_,rfl,dN (dep:=[]) (fun u hu=>by cases hu) hf' (h2 g)⟩⟩
theorem A4 {t:TypeId} {pl:List (Nat×Nat)} [hpl:CO P t pl] {zs:List b8} [hz:F4 P t zs] {parts:List (Nat×Operand)} {ks:List b8} (h:p=true->T5 S (pl.toArray[·]?) parts zs ks) :
  l3 P c S M ⟨d,.build t parts.toArray,ty,pos,af,gd⟩ p (G6 ks) none :=
 l3.pure fun hp a g w _ _ ho=>by
  obtain ⟨fs,hu,hm⟩:=hpl.h
  obtain ⟨z,h1,h2⟩:=hz.h
  obtain ⟨cs,h3,h4⟩:=(h hp).fill (g:=g) (ρ:=a.eval) (fun y hy b k hk hb=>ho y.2 (by simp only[Op.operands]; simp; exact ⟨y.1,hy⟩) b k hk hb) (h2 g)
  refine ⟨.agg cs,?_,cs.toList,rfl,h4⟩
  have hr:=fun w=>run_places (P:=P) w fs.toList pl hm
  have hpl':∀w,(fs.mapM fun f=>do pure (f.offset,<- sizeOf f.type):Sem (Array (Nat×Nat))).run P w=.ok pl.toArray w:=by
   intro w
   have:=hr w
   rw[Array.mapM_eq_mapM_toList]
   simp[this]
  have hmap:(parts.toArray.map fun (y:Nat×Operand)=>(y.1,a.eval y.2)).toList=parts.map fun y=>(y.1,a.eval y.2):=by simp
  have hb2:(Instr.build t (parts.toArray.map fun (y:Nat×Operand)=>(y.1,a.eval y.2))).run P w=.ok (.agg cs) w:=by
   simp only[Instr.build,Sem.run_bind,h1,Result.andThen_ok,run_underlying hu,hpl',hmap,h3,Sem.run_pure]
  simp only[execOp,Sem.run_bind]
  rw[show (parts.toArray.map fun x:Nat×Operand=>match x with | (i,x)=>(i,a.eval x))=parts.toArray.map fun (y:Nat×Operand)=>(y.1,a.eval y.2) from rfl,hb2]
  rfl

class FF (k:b8) {α:Type} (e:i7 α) (x:outParam α):Prop where
 imp:∀{g:Gh} {v:Value},k g v->e.rd g.J v.cells.toList x/\∀u∈v.cells.toList,u.oneCell'=true
instance (priority:=high) {α:Type} {e:i7 α} {x:α}:FF (b7 e x) e x:=⟨fun h=>⟨h.cells,e.all1 h.cells⟩⟩
instance {α:Type} {k:b8} {ks:List b8} {e:i7 α} {x:α} [hk:F3 k ks] [h:v5 ks e x []]:FF k e x:=⟨fun hv=>by
 have:=v5.whole (h:=h) (hk.imp hv).1
 exact ⟨this,e.all1 this⟩⟩
class GX {α:Type} (e:i7 α) (z:Value) (x:outParam α):Prop where
 imp:∀J,e.rd J z.cells.toList x
instance {k:IntKind}:GX (EC k) (.int k 0) 0:=⟨fun _=>rfl⟩
instance:GX AS (.bool false) false:=⟨fun _=>rfl⟩
theorem tD {α:Type} {g:Gh} {e:i7 α} {z:Value} {x0:α} [hz:GX e z x0] {et:TypeId} {n size bl:Nat} (hs:size=e.n) (_:0<e.n) (hn:n<=maxLen) :
  m9 false et e (List.replicate n x0) n g (.blk bl n) (some (.cells (madeCells z.cells (n*size)) et (0,0))):=by
 refine ⟨by simp,fun h=>(by cases h),_,rfl,by rw[size_madeCells,hs],Nat.le_refl _,hn,fun i x hx=>?_⟩
 obtain ⟨hi,rfl⟩:=List.getElem?_eq_some_iff.1 hx
 simp only[List.length_replicate] at hi
 simp only[List.getElem_replicate]
 have hrd:=hz.imp g.J
 have hlen:=e.len hrd
 refine ⟨_,hrd,fun j v hj=>?_⟩
 have hjl:j<e.n:=by have:=(List.getElem?_eq_some_iff.1 hj).1; omega
 have hlt:i*e.n+j<n*size:=by rw[hs]; exact Nat.lt_of_lt_of_le (Nat.add_lt_add_left hjl _) (by rw[<- Nat.succ_mul]; exact Nat.mul_le_mul_right _ hi)
 have hzl:z.cells.size=e.n:=by simpa using hlen
 have hmod:(i*e.n+j)%z.cells.size=j:=by rw[hzl,Nat.add_comm,Nat.add_mul_mod_self_right,Nat.mod_eq_of_lt hjl]
 have h2:z.cells[j]?=some v:=by simpa using hj
 rw[madeCells,Array.getElem?_map,show (Array.range (n*size))[i*e.n+j]?=some (i*e.n+j) by simp[hlt],Option.map_some,hmod]
 obtain ⟨hjs,e2⟩:=Array.getElem?_eq_some_iff.1 h2
 rw[getElem!_pos z.cells j hjs,e2]
theorem PI {t et:TypeId} [ht:C5 P t et] {size bytes:Nat} {zz:Value} [hsz:q7 P et size bytes zz] {α:Type} (e:i7 α) {x0:α} [hz:GX e zz x0] {n:Int} (u:Nat) (hx:j1 S x=some (b,kI n)) (hb:p=true->b=true) (hy:j1 S y=some (b',kI n)) (hb':p=true->b'=true)
  (hs:size=e.n) (hpos:Nat.blt 0 size=true) (h:p=true->0<=n/\bytes*n<=281474976710656/\n<=9223372036854775807) :
  l3 P c S M ⟨d,.makeSlice t x y,ty,pos,af,gd⟩ p (q8 u n.toNat) (some ⟨u,[],m9 false et e (List.replicate n.toNat x0) n.toNat⟩):=by
 intro hp a g w hok hc ho hf
 have hf':=hf _ rfl
 obtain ⟨i,hi,rfl,rfl,hzz⟩:=hsz.h
 obtain ⟨h0,h1,h2⟩:=h hp
 have e1:a.eval x=_:=ho x (by simp[Op.operands]) b _ hx (hb hp)
 have e2:a.eval y=_:=ho y (by simp[Op.operands]) b' _ hy (hb' hp)
 have hr:=run_make (P:=P) w t et i zz ht.h hi hzz .i64 .i64 n n h0 (Int.le_refl _) h1 h2
 unfold Oper.wp
 simp only[execOp,e1,e2,Sem.run_bind,hr,Result.andThen_ok,Sem.run_pure,Oper.upon]
 exact ⟨_,_,rfl,F8.alloc (cap:=n.toNat) hok hf' (.inl rfl) (.inr ⟨_,_,Gh.add_same _ _ _,rfl⟩) (tD hs (by rw[<- hs]; simpa [Nat.blt_eq] using hpos) (by simp only[maxLen]; omega))⟩
theorem IG {t et:TypeId} [ht:C5 P t et] {size bytes:Nat} {zz:Value} [hsz:q7 P et size bytes zz] {α:Type} (e:i7 α) {x0:α} [hz:GX e zz x0] {n:Nat} (u:Nat) (hx:j1 S x=some (b,kI (n:Int))) (hb:p=true->b=true) (hy:j1 S y=some (b',kI (n:Int))) (hb':p=true->b'=true)
  (hs:size=e.n) (hpos:Nat.blt 0 size=true) (hby:Nat.blt 0 bytes=true) (h:p=true->bytes*n<=281474976710656) :
  l3 P c S M ⟨d,.makeSlice t x y,ty,pos,af,gd⟩ p (q8 u n) (some ⟨u,[],m9 false et e (List.replicate n x0) n⟩):=by
 have hb0:0<bytes:=by simpa [Nat.blt_eq] using hby
 ·have:=PI (P:=P) (c:=c) (S:=S) (M:=M) (d:=d) (ty:=ty) (pos:=pos) (af:=af) (gd:=gd) (t:=t) e u hx hb hy hb' hs hpos (fun hp=>by
   have h1:=h hp
   have h2:n<=bytes*n:=Nat.le_mul_of_pos_left _ zo
   have h3:((bytes*n:Nat):Int)<=281474976710656:=by omega
   rw[Int.natCast_mul] at h3
   exact ⟨by omega,h3,by omega⟩)
  exact this
inductive BQ (S:g9) {α:Type} (e:i7 α):Nat->List (Nat×Operand)->List α->Prop
 | nil {i:Nat}:BQ S e i [] []
 | consG {i:Nat} {x:Operand} {r:List (Nat×Operand)} {k:b8} {b:Bool} {v:α} {vs:List α} (hx:j1 S x=some (b,k)) (hb:b=true) [hk:FF k e v] (rest:BQ S e (i+1) r vs):BQ S e i ((i,x)::r) (v::vs)
theorem BQ.cons {S:g9} {α:Type} {e:i7 α} {i:Nat} {x:Operand} {r:List (Nat×Operand)} {k:b8} {v:α} {vs:List α} (hx:j1 S x=some (true,k)) [hk:FF k e v] (rest:BQ S e (i+1) r vs):BQ S e i ((i,x)::r) (v::vs):=.consG hx rfl rest
theorem BQ.fill {α:Type} {e:i7 α} {i:Nat} {ps:List (Nat×Operand)} {xs:List α} (h:BQ S e i ps xs) {g:Gh} {ρ:Operand->Value} (hρ:∀y∈ps,∀b k,j1 S y.2=some (b,k)->b=true->k g (ρ y.2)) :
  ∀{cells:Array Value},(i+xs.length)*e.n<=cells.size->∃cs,Instr.fill (fun i=>some (i*e.n,e.n)) cells (ps.map fun y=>(y.1,ρ y.2))=some cs/\cs.size=cells.size/\(∀j,j<i*e.n->cs[j]?=cells[j]?) /\
   ∀k x,xs[k]?=some x->∃ds,e.rd g.J ds x/\∀j v,ds[j]?=some v->cs[(i+k)*e.n+j]?=some v:=by
 induction h with
 | nil=>intro cells _; exact ⟨cells,rfl,rfl,fun _ _=>rfl,fun k x hx=>by simp at hx⟩
 | @consG i x r k b v vs hx hb hk rest ih =>
  intro cells hsz
  have hv:=(hk.imp (hρ (i,x) List.mem_cons_self _ _ hx hb)).1
  have hcl:(ρ x).cells.size=e.n:=by have:=e.len hv; simpa using this
  have hin:i*e.n+e.n<=cells.size:=by
   refine Nat.le_trans ?_ hsz
   rw[<- Nat.succ_mul]
   exact Nat.mul_le_mul_right _ (by simp)
  obtain ⟨c1,h1,h2⟩:=cG (fun i=>some (i*e.n,e.n)) cells i (i*e.n) e.n (ρ x) rfl hcl hin
  have hc1:c1.size=cells.size:=by
   have:=congrArg List.length h2
   simp[hcl] at this
   omega
  have hsz1:(i+1+vs.length)*e.n<=c1.size:=by rw[hc1]; refine Nat.le_trans (Nat.le_of_eq ?_) hsz; simp[Nat.add_comm,Nat.add_left_comm]
  obtain ⟨cs,h3,h4,h5,h6⟩:=ih (fun y hy=>hρ y (List.mem_cons_of_mem _ hy)) hsz1
  have hlo:∀j,j<i*e.n->c1[j]?=cells[j]?:=fun j hj=>by
   have:c1.toList[j]?=cells.toList[j]?:=by
    rw[h2,List.append_assoc,List.getElem?_append_left (by simp; omega),List.getElem?_take,if_pos hj]
   simpa using this
  have hmid:∀j u,(ρ x).cells.toList[j]?=some u->c1[i*e.n+j]?=some u:=fun j u hj=>by
   have hjl:j<e.n:=by have:=(List.getElem?_eq_some_iff.1 hj).1; simp[hcl] at this; omega
   have:c1.toList[i*e.n+j]?=some u:=by
    rw[h2,List.append_assoc,List.getElem?_append_right (by simp; omega)]
    rw[show i*e.n+j-(List.take (i*e.n) cells.toList).length=j by simp; omega]
    rw[List.getElem?_append_left (by simp[hcl]; exact hjl)]
    exact hj
   simpa using this
  refine ⟨cs,?_,h4.trans hc1,fun j hj=>?_,fun k' x' hx'=>?_⟩
  ·simp only[List.map_cons,cH,h1,Option.bind_some]
   exact h3
  ·rw[h5 j (by rw[Nat.succ_mul]; omega)]; exact hlo j hj
  ·cases k' with
   | zero =>
    simp only[List.getElem?_cons_zero,Option.some.injEq] at hx'
    subst hx'
    refine ⟨_,hv,fun j u hj=>?_⟩
    have hjl:j<e.n:=by have:=(List.getElem?_eq_some_iff.1 hj).1; simp[hcl] at this; omega
    rw[Nat.add_zero,h5 _ (by rw[Nat.succ_mul]; omega)]
    exact hmid j u hj
   | succ k' =>
    obtain ⟨ds,a1,a2⟩:=h6 k' x' (by simpa using hx')
    exact ⟨ds,a1,fun j u hj=>by rw[show i+(k'+1)=i+1+k' by omega]; exact a2 j u hj⟩
theorem D5 {t et:TypeId} [ht:C5 P t et] {size bytes:Nat} {zz:Value} [hsz:q7 P et size bytes zz] {α:Type} (e:i7 α) {xs:List α} {len:Nat} {parts:List (Nat×Operand)} (u:Nat) (h:p=true->BQ S e 0 parts xs) (hl:xs.length=len)
  (hs:size=e.n) (hsm:Nat.ble (len*size) 16777216=true) (hpos:Nat.blt 0 (len*size)=true) :
  l3 P c S M ⟨d,.buildSlice t len parts.toArray,ty,pos,af,gd⟩ p (q8 u len) (some ⟨u,[],m9 false et e xs len⟩):=by
 intro hp a g w hok hc ho hf
 have hf':=hf _ rfl
 obtain ⟨i,hi,rfl,rfl,hzz⟩:=hsz.h
 have hsm':=Nat.le_of_ble_eq_true hsm
 have hpos':0<len*i.size:=by simpa [Nat.blt_eq] using hpos
 obtain ⟨cs,h1,h2,_,h4⟩:=(h hp).fill (g:=g) (ρ:=a.eval) (fun y hy b k hk hb=>ho y.2 (by simp only[Op.operands]; simp; exact ⟨y.1,hy⟩) b k hk hb) (cells:=(Array.range (len*i.size)).map (zz.cells[·%zz.cells.size]!)) (by simp[hl,hs])
 have hmap:(parts.toArray.map fun (y:Nat×Operand)=>(y.1,a.eval y.2)).toList=parts.map fun y=>(y.1,a.eval y.2):=by simp
 rw[<- hs] at h1
 have hr:=run_buildSlice (P:=P) w t et len (parts.toArray.map fun (y:Nat×Operand)=>(y.1,a.eval y.2)) cs i zz ht.h hi hzz zo zo (by rw[hmap]; exact h1)
 unfold Oper.wp
 simp only[execOp,Sem.run_bind]
 rw[show (parts.toArray.map fun x:Nat×Operand=>match x with | (i,x)=>(i,a.eval x))=parts.toArray.map fun (y:Nat×Operand)=>(y.1,a.eval y.2) from rfl,hr]
 simp only[Result.andThen_ok,Sem.run_pure,Oper.upon]
 refine ⟨_,_,rfl,F8.alloc (cap:=len) hok hf' (.inl rfl) (.inr ⟨_,_,Gh.add_same _ _ _,rfl⟩) ⟨hl,fun h=>(by cases h),cs,rfl,?_,Nat.le_refl _,?_,fun k x hx=>?_⟩⟩
 ·rw[h2]; simp[hs]
 ·have:len<=len*i.size:=Nat.le_mul_of_pos_right _ (Nat.pos_of_ne_zero (fun h0=>by rw[h0] at hpos'; simp at hpos'))
  simp only[maxLen]; omega
 ·obtain ⟨ds,k1,k2⟩:=h4 k x hx
  exact ⟨ds,k1,fun j v hj=>by have:=k2 j v hj; simpa using this⟩
theorem FU {t et:TypeId} [ht:C5 P t et] {size bytes:Nat} {zz:Value} [hsz:q7 P et size bytes zz] {α:Type} (e:i7 α) (u:Nat) :
  l3 P c S M ⟨d,.buildSlice t 0 #[],ty,pos,af,gd⟩ p (q8 u 0) (some ⟨u,[],m9 false et e [] 0⟩):=by
 intro hp a g w hok hc ho hf
 have hf':=hf _ rfl
 obtain ⟨i,hi,rfl,rfl,hzz⟩:=hsz.h
 have hr:(Instr.buildSlice t 0 #[]).run P w=.ok (.slice (some ⟨w.heap.size,0,none⟩) 0 0) (w.alloc (.cells #[] et)):=by
  simp[Instr.buildSlice,run_underlying ht.h,sizeOf,typeInfo,hi,Instr.fill,newRow,Array.range_zero']
 unfold Oper.wp
 simp only[execOp,Sem.run_bind]
 rw[show (Array.map (fun x:Nat×Operand=>(x.fst,a.eval x.snd)) #[])=#[] by simp,hr]
 simp only[Result.andThen_ok,Sem.run_pure,Oper.upon]
 exact ⟨_,_,rfl,F8.alloc (cap:=0) hok hf' (.inl rfl) (.inr ⟨_,_,Gh.add_same _ _ _,rfl⟩) ⟨rfl,fun h=>(by cases h),#[],rfl,by simp,Nat.le_refl _,Nat.zero_le _,fun k x hx=>by simp at hx⟩⟩
end
end Go.Fl

/- Stores, appends, calls; what is frozen. -/
namespace Go.Fl
open Go Go.RowKit

class A7 (M:f0) (u:Nat) (ct':s9) (dep':List Nat) (M':outParam f0):Prop where
 eq:∃pre post ct dep,M=pre++⟨u,dep,ct⟩::post/\M'=pre++⟨u,dep',ct'⟩::post
instance {M:f0} {u:Nat} {ct ct':s9} {dep dep':List Nat}:A7 (⟨u,dep,ct⟩::M) u ct' dep' (⟨u,dep',ct'⟩::M):=⟨[],M,ct,dep,rfl,rfl⟩
instance (priority:=low) {M M':f0} {u:Nat} {ct':s9} {dep':List Nat} {e:CE} [h:A7 M u ct' dep' M']:A7 (e::M) u ct' dep' (e::M'):=⟨by
 obtain ⟨pre,post,ct,dep,h1,h2⟩:=h.eq
 exact ⟨e::pre,post,ct,dep,by rw[h1]; rfl,by rw[h2]; rfl⟩⟩
theorem A7.tags {M M':f0} {u:Nat} {ct':s9} {dep':List Nat} (h:A7 M u ct' dep' M'):Fl.tags M'=Fl.tags M:=by
 obtain ⟨pre,post,ct,dep,h1,h2⟩:=h.eq
 subst h1 h2
 simp[Fl.tags]
theorem A7.mem {M M':f0} {u:Nat} {ct':s9} {dep':List Nat} (h:A7 M u ct' dep' M') (hn:(Fl.tags M).Nodup):∀e∈M',e=⟨u,dep',ct'⟩\/(e∈M/\e.t≠u):=by
 obtain ⟨pre,post,ct,dep,h1,h2⟩:=h.eq
 subst h1 h2
 intro e he
 simp only[Fl.tags,List.map_append,List.map_cons] at hn
 rw[List.nodup_append] at hn
 obtain ⟨_,h3,h4⟩:=hn
 rw[List.nodup_cons] at h3
 rcases List.mem_append.1 he with he | he
 ·exact .inr ⟨List.mem_append.2 (.inl he),fun hu=>h4 e.t (List.mem_map.2 ⟨e,he,rfl⟩) u List.mem_cons_self hu⟩
 ·rcases List.mem_cons.1 he with he | he
  ·exact .inl he
  ·exact .inr ⟨List.mem_append.2 (.inr (List.mem_cons_of_mem _ he)),fun hu=>h3.1 (List.mem_map.2 ⟨e,he,hu⟩)⟩
theorem l4.store {c:l8} {S:g9} {M M':f0} {a:Act} {g:Gh} {w:World} (h:l4 c S M a g w) {u b cap:Nat} (hm:g.M u=some (.blk b cap)) {cur cs:Array Value} {ty:TypeId} (hb:w.heap[b]?=some (.cells cur ty (0,0))) {ct':s9} {dep':List Nat}
  (hup:A7 M u ct' dep' M') (hct:ct' g (.blk b cap) (some (.cells cs ty (0,0)))) (hd:z7 ct' dep') (hs:∀t∈dep',t∈tags M):l4 c S M' a g (w.setRow b cs):=by
 have htag:=hup.tags
 have hother:∀k,k≠b->(w.setRow b cs).heap[k]?=w.heap[k]?:=fun k hk=>setRow_other w b k cs hk
 obtain ⟨hob,hlt,hJ⟩:=h.ok.own u b cap hm
 refine ⟨⟨⟨h.ok.bel.os,h.ok.bel.tape,h.ok.bel.output,by simpa using h.ok.bel.size,fun k hk hnb=>?_,h.ok.bel.drawn⟩,h.ok.jle,h.ok.jold,fun b' o v hv=>?_,fun t b' cap' ht=>?_,h.ok.inj⟩,h.slots,?_,?_,?_,?_,?_,h.defers.on fun D hD=>hother D (fun e=>by subst e; rw[hb] at hD; cases hD),h.size⟩
 ·rw[hother k (fun e=>by subst e; rcases hob with h1 | h1; omega; exact hnb h1)]
  exact h.ok.bel.block k hk hnb
 ·have:=h.ok.im b' o v hv
  rw[World.cell?_of_block (w:=w) (hother b' (fun e=>by subst e; rw[hJ o] at hv; cases hv))]
  exact this
 ·obtain ⟨h1,h2,h3⟩:=h.ok.own t b' cap' ht
  exact ⟨h1,by simpa using h2,h3⟩
 ·intro e he
  rcases hup.mem h.nodup e he with rfl | ⟨he,hne⟩
  ·exact ⟨_,hm,by simp only[World.objAt,setRow_heap w b cur cs ty (0,0) hb]; exact hct⟩
  ·obtain ⟨bk,h1,h2⟩:=h.conts e he
   refine ⟨bk,h1,?_⟩
   have:World.objAt (w.setRow b cs) bk=World.objAt w bk:=by
    cases bk with
    | nil=>rfl
    | blk b' cap'=>exact hother b' (fun e'=>by subst e'; exact hne (h.ok.inj _ _ _ _ _ h1 hm))
   rw[this]; exact h2
 ·intro t ht
  have:=h.dom t ht
  show t∈tags M'
  rw[htag]; exact this
 ·show (tags M').Nodup
  rw[htag]; exact h.nodup
 ·intro e he
  exact ⟨(h.sdep e he).1,fun t ht=>by show t∈tags M'; rw[htag]; exact (h.sdep e he).2 t ht⟩
 ·intro e he
  rcases hup.mem h.nodup e he with rfl | ⟨he,_⟩
  ·exact ⟨hd,fun t ht=>by show t∈tags M'; rw[htag]; exact hs t ht⟩
  ·exact ⟨(h.cdep e he).1,fun t ht=>by show t∈tags M'; rw[htag]; exact (h.cdep e he).2 t ht⟩
section
variable {P:Program} {c:l8} {ops:Array Oper} {S:g9} {M:f0} {rest:List Oper} {Q:Exit->Act->World->Prop}
variable {d:Nat} {ty:TypeId} {pos:String} {af:Array Edge} {x y:Operand}
theorem IS {t:TypeId} {n by':Nat} {zz:Value} [hz:q7 P t n by' zz] {w:World} {b o:Nat} {v:Value} {cur:Array Value} {tt:TypeId} (hb:w.heap[b]?=some (.cells cur tt (0,0))) (hv:v.cells.size=n) (hl:o+n<=cur.size) (h1:∀u∈v.cells.toList,u.oneCell'=true) :
  (Instr.storeAt t (.pointer (some ⟨b,o,none⟩)) v).run P w=.ok () (w.setRow b (cur.toList.take o++v.cells.toList++cur.toList.drop (o+n)).toArray):=by
 obtain ⟨i,hi,rfl,_,_⟩:=hz.h
 have hr:=run_storeCells_at P b o tt v.cells.toList 0 cur w hb (by simp; omega) h1
 simp only[Nat.add_zero,Array.length_toList,hv] at hr
 simp[Instr.storeAt,Instr.sureAddr,storeVar,sizeOf,typeInfo,hi,hv,hr]
theorem d5.stB {t:TypeId} {n by':Nat} {zz:Value} [hz:q7 P t n by' zz] {u o:Nat} {ks kx ks':List b8} {dep dep':List Nat} {k:b8} {M':f0} (hx:j1 S x=some (true,w6 u o)) (hy:j1 S y=some (true,k)) [hk:F3 k kx] [hl:p8 M u (j3 ks) dep] [hset:R7 ks o kx ks']
  [hd:A6 ks' dep'] [hup:A7 M u (j3 ks') dep' M'] (hn:kx.length=n) (hs:s5 dep' (tags M)=true) (K:d5 P c ops S M' rest Q):d5 P c ops S M (⟨none,.store t x y,ty,pos,af,none⟩::rest) Q:=by
 intro a g w hsat
 obtain ⟨b,cap,hm,he⟩:=B5 hsat.slots hx rfl
 have hv:=B5 hsat.slots hy rfl
 obtain ⟨cs,tt,h3,h4⟩:=BT (ks:=ks) hsat.conts hm
 obtain ⟨h5,h6⟩:=hk.imp hv
 have hlen:=I2 h5
 have hcl:=I2 h4
 have hsl:=hset.len
 simp only[Array.length_toList] at hlen hcl
 have hr:=IS (P:=P) (t:=t) (o:=o) h3 (hlen.trans hn) zo (List.all_eq_true.1 h6)
 refine wpList_plain rfl fun K' hK'=>?_
 unfold Oper.wp
 simp only[execOp,he,Sem.run_bind,hr,Result.andThen_ok,Sem.run_pure,Oper.upon,Act.put]
 have hnew:=hset.holds h4 h5
 rw[Array.length_toList,hlen,hn] at hnew
 exact hK' _ _ (K a g _ (hsat.store hm h3 hup ⟨_,_,rfl,by simpa using hnew⟩ inferInstance (A1 hs)))
theorem d5.stE {t:TypeId} {n by':Nat} {zz:Value} [hz:q7 P t n by' zz] {α:Type} {zb:Bool} {et:TypeId} {e:i7 α} {xs:List α} {v:α} {u sz i len len':Nat} {dep:List Nat} {k:b8} {M':f0} (hx:j1 S x=some (true,BZ u sz i len)) (hy:j1 S y=some (true,k)) [hl:p8 M u (m9 zb et e xs len') dep] [hk:FF k e v]
  [hup:A7 M u (m9 zb et e (xs.set i v) len') [] M'] (hs:sz=e.n) (hn:e.n=n) (hle:len=len') (K:d5 P c ops S M' rest Q):d5 P c ops S M (⟨none,.store t x y,ty,pos,af,none⟩::rest) Q:=by
 intro a g w hsat
 subst hle hs
 obtain ⟨hlt,b,cap,hm,he⟩:=B5 hsat.slots hx rfl
 have hv:=B5 hsat.slots hy rfl
 obtain ⟨h0,hz0,cs,h3,h4,h5,h6,h7⟩:=CQ (xs:=xs) hsat.conts hm
 obtain ⟨h8,h9⟩:=hk.imp hv
 have hlen:=e.len h8
 have hin:i*e.n+e.n<=cs.size:=by rw[h4,<- Nat.succ_mul]; exact Nat.mul_le_mul_right _ zo
 simp only[Array.length_toList] at hlen
 have hr:=IS (P:=P) (t:=t) (o:=i*e.n) h3 (hlen.trans hn) zo h9
 refine wpList_plain rfl fun K' hK'=>?_
 unfold Oper.wp
 simp only[execOp,he,Sem.run_bind,hr,Result.andThen_ok,Sem.run_pure,Oper.upon,Act.put]
 refine hK' _ _ (K a g _ (hsat.store hm h3 hup ⟨by simpa using h0,hz0,_,rfl,?_,h5,h6,fun j x hx=>?_⟩ inferInstance (fun _ h=>by cases h)))
 ·simp[hlen]; omega
 ·have hget:∀q,(cs.toList.take (i*e.n)++(a.eval y).cells.toList++cs.toList.drop (i*e.n+n)).toArray[q]?=if q<i*e.n then cs[q]? else if q<i*e.n+e.n then (a.eval y).cells.toList[q-i*e.n]? else cs[q]?:=by
   intro q
   simp only[List.getElem?_toArray,List.append_assoc,List.getElem?_append,List.length_take,Array.length_toList,show min (i*e.n) cs.size=i*e.n by omega,List.getElem?_take,List.getElem?_drop,hlen]
   by_cases q1:q<i*e.n
   ·simp[q1]
   ·simp only[q1,if_false]
    by_cases q2:q<i*e.n+e.n
    ·simp only[q2,if_true,show q-i*e.n<e.n by omega]
    ·simp only[q2,if_false,show ¬q-i*e.n<e.n by omega]
     rw[show i*e.n+n+(q-i*e.n-e.n)=q by omega]
     simp
  by_cases hj:i=j
  ·subst hj
   rw[List.getElem?_set_self zo] at hx
   simp only[Option.some.injEq] at hx
   subst hx
   refine ⟨_,h8,fun q r hq=>?_⟩
   have hql:=(List.getElem?_eq_some_iff.1 hq).1
   simp only[Array.length_toList,hlen] at hql
   rw[hget,if_neg zo,if_pos zo,show i*e.n+q-i*e.n=q by omega]
   exact hq
  ·rw[List.getElem?_set_ne hj] at hx
   obtain ⟨ds,k1,k2⟩:=h7 j x hx
   refine ⟨ds,k1,fun q r hq=>?_⟩
   have hql:=(List.getElem?_eq_some_iff.1 hq).1
   rw[e.len k1] at hql
   rw[hget]
   rcases Nat.lt_or_gt_of_ne hj with hij | hij
   ·have:(i+1)*e.n<=j*e.n:=Nat.mul_le_mul_right _ hij
    rw[Nat.succ_mul] at this
    rw[if_neg zo,if_neg zo]
    exact k2 q r hq
   ·have:(j+1)*e.n<=i*e.n:=Nat.mul_le_mul_right _ hij
    rw[Nat.succ_mul] at this
    rw[if_pos zo]
    exact k2 q r hq
end
end Go.Fl

/- Appends, calls, freezing. -/
namespace Go.Fl
open Go Go.RowKit

def inv (u:Nat):g9->g9
 | []=>[]
 | e::r=>(bif e.dep.any (Nat.beq u) then ⟨e.s,e.b,[],U3⟩ else e)::inv u r
theorem SB {u:Nat} {l:List Nat}:l.any (Nat.beq u)=false->u∉l:=fun h hu=>by
 have:l.any (Nat.beq u)=true:=List.any_eq_true.2 ⟨u,hu,Nat.beq_refl u⟩
 rw[h] at this; cases this
theorem KO {u:Nat}:∀{S:g9} {t:Nat} {b:Bool} {k:b8},look (inv u S) t=some (b,k)->∃k0,look S t=some (b,k0)/\(k=U3\/(k=k0/\∃e∈S,e.k=k/\u∉e.dep))
 | e::S,t,b,k,h=>by
  simp only[inv,look] at h ⊢
  cases hd:e.dep.any (Nat.beq u) with
  | true =>
   rw[hd] at h
   simp only[cond_true] at h
   cases hb:Nat.beq e.s t with
   | true=>rw[hb] at h; simp only[cond_true,Option.some.injEq,Prod.mk.injEq] at h ⊢; exact ⟨e.k,⟨h.1,rfl⟩,.inl h.2.symm⟩
   | false =>
    rw[hb] at h
    obtain ⟨k0,h1,h2⟩:=KO h
    exact ⟨k0,h1,h2.imp id fun ⟨h3,x,hx,h4⟩=>⟨h3,x,List.mem_cons_of_mem _ hx,h4⟩⟩
  | false =>
   rw[hd] at h
   simp only[cond_false] at h
   cases hb:Nat.beq e.s t with
   | true =>
    rw[hb] at h
    simp only[cond_true,Option.some.injEq,Prod.mk.injEq] at h ⊢
    exact ⟨e.k,⟨h.1,rfl⟩,.inr ⟨h.2.symm,e,List.mem_cons_self,h.2,SB hd⟩⟩
   | false =>
    rw[hb] at h
    obtain ⟨k0,h1,h2⟩:=KO h
    exact ⟨k0,h1,h2.imp id fun ⟨h3,x,hx,h4⟩=>⟨h3,x,List.mem_cons_of_mem _ hx,h4⟩⟩
theorem OF {u:Nat}:∀{S:g9} {e:SE},e∈inv u S->(e∈S/\u∉e.dep)\/(e.dep=[]/\e.k=U3)
 | x::S,e,h=>by
  simp only[inv] at h
  rcases List.mem_cons.1 h with h | h
  ·cases hd:x.dep.any (Nat.beq u) with
   | true=>rw[hd] at h; subst h; exact .inr ⟨rfl,rfl⟩
   | false=>rw[hd] at h; subst h; exact .inl ⟨List.mem_cons_self,SB hd⟩
  ·exact (OF h).imp (fun ⟨h1,h2⟩=>⟨List.mem_cons_of_mem _ h1,h2⟩) id
def H9 (u:Nat):f0->Bool
 | []=>true
 | e::r=>!(e.dep.any (Nat.beq u))&&H9 u r
theorem HX {u:Nat}:∀{M:f0},H9 u M=true->∀e∈M,u∉e.dep
 | x::M,h,e,he=>by
  simp only[H9,Bool.and_eq_true,Bool.not_eq_true'] at h
  rcases List.mem_cons.1 he with rfl | he
  ·exact SB h.1
  ·exact HX h.2 e he
structure DO (bk:Bk) (w w':World):Prop where
 os:w'.os=w.os
 tape:w'.tape=w.tape
 output:w'.output=w.output
 size:w.heap.size<=w'.heap.size
 block:∀k,k<w.heap.size->(∀cap,bk≠.blk k cap)->w'.heap[k]?=w.heap[k]?
 drawn:dz w.drawn<=dz w'.drawn
theorem l4.nomark {c:l8} {S:g9} {M:f0} {a:Act} {g:Gh} {w:World} (h:l4 c S M a g w) {u:Nat} {bk:Bk} {ct:s9} {dep:List Nat} (hl:p8 M u ct dep) [hn:JM ct] (hm:g.M u=some bk):∀b cap,bk=.blk b cap->w.heap[b]?≠some (Obj.deferred (some [])):=by
 intro b cap hb
 subst hb
 obtain ⟨bk,h1,h2⟩:=h.conts _ hl.mem
 simp only at h1
 rw[hm] at h1; cases h1
 exact hn.no h2
theorem l4.rebind {c:l8} {S:g9} {M M':f0} {a:Act} {g:Gh} {w w':World} (h:l4 c S M a g w) {u:Nat} {bk bk':Bk} (hm:g.M u=some bk) (hnm:∀b cap,bk=.blk b cap->w.heap[b]?≠some (Obj.deferred (some []))) (hbut:DO bk w w') {ct':s9} (hup:A7 M u ct' [] M') (hnd:H9 u M=true) (hd:z7 ct' [])
  (hbk:∀b cap,bk'=.blk b cap->(∃cap0,bk=.blk b cap0)\/(w.heap.size<=b/\b<w'.heap.size)) (hct:ct' ⟨g.J,fun t=>if t=u then some bk' else g.M t⟩ bk' (World.objAt w' bk')) {d:Nat} (hn:d<c.n) {k:b8} {v:Value} (hk:k ⟨g.J,fun t=>if t=u then some bk' else g.M t⟩ v) [hkd:o4 k [u]] :
  l4 c (⟨d,true,[u],k⟩::inv u S) M' (a.put (some d) v) ⟨g.J,fun t=>if t=u then some bk' else g.M t⟩ w':=by
 have htag:=hup.tags
 have hum:u∈tags M:=h.dom u (by rw[hm]; simp)
 have hother:∀t,t≠u->(if t=u then some bk' else g.M t)=g.M t:=fun t ht=>if_neg ht
 have hcell:∀b o v,g.J b o=some v->w'.cell? ⟨b,o,none⟩=some v:=fun b o v hv=>by
  have h1:=h.ok.im b o v hv
  have hlt:=World.block_lt_of_cell? _ _ h1
  rw[World.cell?_of_block (w:=w) (hbut.block b hlt (fun cap hb=>by
   subst hb
   have:=(h.ok.own u b cap hm).2.2 o
   rw[this] at hv; cases hv))]
  exact h1
 refine ⟨⟨⟨hbut.os.trans h.ok.bel.os,hbut.tape.trans h.ok.bel.tape,hbut.output.trans h.ok.bel.output,Nat.le_trans h.ok.bel.size hbut.size,fun k hk hnb=>?_,Nat.le_trans h.ok.bel.drawn hbut.drawn⟩,h.ok.jle,h.ok.jold,hcell,fun t b cap ht=>?_,fun t t' b c1 c2 h1 h2=>?_⟩,?_,?_,?_,?_,?_,?_,h.defers.on fun D hD=>hbut.block D (Array.getElem?_eq_some_iff.1 hD).1 (fun cap hb=>hnm D cap hb hD),by simp[Act.put,h.size]⟩
 ·rw[hbut.block k (Nat.lt_of_lt_of_le hk h.ok.bel.size) (fun cap hb=>by
   subst hb
   rcases (h.ok.own u k cap hm).1 with h1 | h1
   ·omega
   ·exact hnb h1)]
  exact h.ok.bel.block k hk hnb
 ·simp only at ht
  by_cases htu:t=u
  ·rw[if_pos htu] at ht
   cases ht
   rcases hbk b cap rfl with ⟨cap0,hb0⟩ | ⟨h1,h2⟩
   ·subst hb0
    obtain ⟨a1,a2,a3⟩:=h.ok.own u b cap0 hm
    exact ⟨a1,Nat.lt_of_lt_of_le a2 hbut.size,a3⟩
   ·exact ⟨.inl (Nat.le_trans h.ok.bel.size h1),h2,fun o=>LV h.ok h1⟩
  ·rw[if_neg htu] at ht
   obtain ⟨a1,a2,a3⟩:=h.ok.own t b cap ht
   exact ⟨a1,Nat.lt_of_lt_of_le a2 hbut.size,a3⟩
 ·simp only at h1 h2
  have key:∀t c2,t≠u->g.M t=some (.blk b c2)->bk'=.blk b c1\/(∃c,bk'=.blk b c)->False:=fun t c2 hne hM hor=>by
   obtain ⟨cc,hcc⟩:∃c,bk'=.blk b c:=hor.elim (fun e=>⟨_,e⟩) id
   rcases hbk b cc hcc with ⟨cap0,hb0⟩ | ⟨h3,_⟩
   ·subst hb0; exact hne (h.ok.inj _ _ _ _ _ hM hm)
   ·have:=(h.ok.own t b c2 hM).2.1; omega
  by_cases htu:t=u
  ·rw[if_pos htu] at h1
   by_cases htu':t'=u
   ·rw[htu,htu']
   ·rw[if_neg htu'] at h2
    cases h1
    exact (key t' c2 htu' h2 (.inl rfl)).elim
  ·rw[if_neg htu] at h1
   by_cases htu':t'=u
   ·rw[if_pos htu'] at h2
    cases h2
    exact (key t c1 htu h1 (.inr ⟨_,rfl⟩)).elim
   ·rw[if_neg htu'] at h2
    exact h.ok.inj _ _ _ _ _ h1 h2
 ·refine R8.put ?_ (by rw[h.size]; exact hn) ⟨fun _=>hk,fun hf=>(by cases hf)⟩
  intro t b k' hl
  obtain ⟨k0,h1,h2⟩:=KO hl
  obtain ⟨h3,h4⟩:=h.slots t b k0 h1
  refine ⟨fun hb=>?_,h4⟩
  rcases h2 with rfl | ⟨rfl,e,he,rfl,hnu⟩
  ·trivial
  ·exact (h.sdep e he).1.dep (g:=g) (JV.le_refl _) (fun t ht=>if_neg (fun (e':t=u)=>hnu (e'▸ht))) (h3 hb)
 ·intro e he
  rcases hup.mem h.nodup e he with rfl | ⟨he,hne⟩
  ·exact ⟨bk',if_pos rfl,hct⟩
  ·obtain ⟨b,h1,h2⟩:=h.conts e he
   refine ⟨b,(if_neg hne).trans h1,?_⟩
   have:World.objAt w' b=World.objAt w b:=by
    cases b with
    | nil=>rfl
    | blk x cap=>exact hbut.block x (h.ok.own _ _ _ h1).2.1 (fun cap' hb=>by subst hb; exact hne (h.ok.inj _ _ _ _ _ h1 hm))
   rw[this]
   exact (h.cdep e he).1.dep (g:=g) (JV.le_refl _) (fun t ht=>if_neg (fun (e':t=u)=>HX hnd e he (e'▸ht))) h2
 ·intro t ht
  show t∈tags M'
  rw[htag]
  simp only at ht
  by_cases htu:t=u
  ·subst htu; exact hum
  ·rw[if_neg htu] at ht; exact h.dom t ht
 ·show (tags M').Nodup
  rw[htag]; exact h.nodup
 ·intro e he
  rcases List.mem_cons.1 he with rfl | he
  ·exact ⟨hkd,fun t ht=>by simp at ht; subst ht; show t∈tags M'; rw[htag]; exact hum⟩
  ·rcases OF he with ⟨h1,_⟩ | ⟨h1,h2⟩
   ·exact ⟨(h.sdep e h1).1,fun t ht=>by show t∈tags M'; rw[htag]; exact (h.sdep e h1).2 t ht⟩
   ·rw[h1,h2]; exact ⟨inferInstance,fun _ h=>by cases h⟩
 ·intro e he
  rcases hup.mem h.nodup e he with rfl | ⟨he,_⟩
  ·exact ⟨hd,fun _ h=>by cases h⟩
  ·exact ⟨(h.cdep e he).1,fun t ht=>by show t∈tags M'; rw[htag]; exact (h.cdep e he).2 t ht⟩

def YC {α:Type} (g:Gh) (w:World) (e:i7 α) (ys:List α) (v:Value):Prop :=
 ∃ad cap,v=.slice ad ys.length cap/\(ys=[]\/∃b o,ad=some ⟨b,o,none⟩/\∀i x,ys[i]?=some x->∃ds,e.rd g.J ds x/\∀j u,ds[j]?=some u->w.cell? ⟨b,o+i*e.n+j,none⟩=some u)
class MB (M:f0) (k:b8) {α:Type} (e:i7 α) (ys:outParam (List α)):Prop where
 imp:∀{c:l8} {g:Gh} {w:World} {v:Value},Ok c g w->D9 M g w->k g v->YC g w e ys v
instance {M:f0} {α:Type} {e:i7 α} {ys:List α}:MB M (b7 (eL e) ys) e ys:=⟨fun {c g w v} hok _ ⟨cs,⟨ad,cap,h1,_,h2⟩,h3⟩=>by
 subst h1
 refine ⟨ad,cap,h3,h2.imp id fun ⟨b,o,h4,h5⟩=>⟨b,o,h4,fun i x hx=>?_⟩⟩
 obtain ⟨ds,k1,k2⟩:=h5 i x hx
 exact ⟨ds,k1,SH hok k2⟩⟩
instance {M:f0} {α:Type} {zb:Bool} {et:TypeId} {e:i7 α} {ys:List α} {t len:Nat} {dep:List Nat} [hl:p8 M t (m9 zb et e ys len) dep]:MB M (q8 t len) e ys:=⟨fun {c g w v} hok hc hk=>by
 rcases hk with ⟨h1,h2,h3⟩ | ⟨b,cap,h1,h2⟩
 ·obtain ⟨bk,h4,h5,_⟩:=hc _ hl.mem
  simp only at h4
  subst h2
  have:ys=[]:=List.eq_nil_of_length_eq_zero h5
  subst this
  exact ⟨none,0,h3,.inl rfl⟩
 ·obtain ⟨h0,_,cs,h3,_,_,_,h4⟩:=CQ (xs:=ys) hc h1
  refine ⟨some ⟨b,0,none⟩,cap,by rw[h0]; exact h2,.inr ⟨b,0,rfl,fun i x hx=>?_⟩⟩
  obtain ⟨ds,k1,k2⟩:=h4 i x hx
  exact ⟨ds,k1,fun j u hj=>J6 h3 (by rw[Nat.zero_add]; exact k2 j u hj)⟩⟩
theorem cI {α:Type} {e:i7 α} {g:Gh} {w:World} {b o:Nat}:∀(ys:List α) (s:Nat),(∀i x,ys[i]?=some x->∃ds,e.rd g.J ds x/\∀j u,ds[j]?=some u->w.cell? ⟨b,o+(s+i)*e.n+j,none⟩=some u) ->
  ∃news:List Value,news.length=ys.length*e.n/\(∀j u,news[j]?=some u->w.cell? ⟨b,o+s*e.n+j,none⟩=some u)/\(∀u∈news,u.oneCell'=true)/\∀i x,ys[i]?=some x->∃ds,e.rd g.J ds x/\∀j u,ds[j]?=some u->news[i*e.n+j]?=some u
 | [],s,_=>⟨[],by simp,fun j u h=>(by simp at h),fun u h=>(by cases h),fun i x h=>(by simp at h)⟩
 | y::ys,s,h=>by
  obtain ⟨ds,h1,h2⟩:=h 0 y rfl
  have hl:=e.len h1
  obtain ⟨news,k1,k2,k3,k4⟩:=cI (e:=e) (g:=g) (w:=w) (b:=b) (o:=o) ys (s+1) (fun i x hx=>by
   obtain ⟨es,q1,q2⟩:=h (i+1) x (by simpa using hx)
   exact ⟨es,q1,fun j u hj=>by rw[show s+1+i=s+(i+1) by omega]; exact q2 j u hj⟩)
  refine ⟨ds++news,by simp[hl,k1,Nat.succ_mul]; omega,fun j u hj=>?_,fun u hu=>?_,fun i x hx=>?_⟩
  ·by_cases hj':j<ds.length
   ·rw[List.getElem?_append_left hj'] at hj
    have:=h2 j u hj
    simpa using this
   ·rw[List.getElem?_append_right zo] at hj
    have:=k2 _ u hj
    rw[Nat.succ_mul,hl] at this
    rw[show o+s*e.n+j=o+(s*e.n+e.n)+(j-e.n) by omega]
    exact this
  ·rcases List.mem_append.1 hu with hu | hu
   ·exact e.all1 h1 u hu
   ·exact k3 u hu
  ·cases i with
   | zero =>
    simp only[List.getElem?_cons_zero,Option.some.injEq] at hx
    subst hx
    refine ⟨ds,h1,fun j u hj=>?_⟩
    rw[Nat.zero_mul,Nat.zero_add,List.getElem?_append_left (List.getElem?_eq_some_iff.1 hj).1]
    exact hj
   | succ i =>
    obtain ⟨es,q1,q2⟩:=k4 i x (by simpa using hx)
    refine ⟨es,q1,fun j u hj=>?_⟩
    rw[Nat.succ_mul,List.getElem?_append_right zo,hl,show i*e.n+e.n+j-e.n=i*e.n+j by omega]
    exact q2 j u hj
section
variable {P:Program}
theorem WV {w:World} {b o m cap size:Nat} {news:List Value} (hl:news.length=m*size) (h:∀j u,news[j]?=some u->w.cell? ⟨b,o+j,none⟩=some u):(Builtin.firstCells size m (.slice (some ⟨b,o,none⟩) m cap)).run P w=.ok news.toArray w :=
 run_firstCells_some w size m ⟨b,o,none⟩ m cap news hl (fun j u hj=>by rw[Addr.add_lit]; exact h j u hj)
theorem iG {α:Type} {e:i7 α} {ys:List α} {g:Gh} {w:World} {v:Value} (h:YC g w e ys v):∃(news:List Value) (ad:Option Addr) (cap:Nat),v=.slice ad ys.length cap/\news.length=ys.length*e.n/\(∀u∈news,u.oneCell'=true) /\
  (∀i x,ys[i]?=some x->∃ds,e.rd g.J ds x/\∀j u,ds[j]?=some u->news[i*e.n+j]?=some u)/\∀w1:World,w1.heap=w.heap->(Builtin.firstCells e.n ys.length v).run P w1=.ok news.toArray w1:=by
 obtain ⟨ad,cap,rfl,h⟩:=h
 rcases h with rfl | ⟨b,o,rfl,h⟩
 ·refine ⟨[],ad,cap,rfl,by simp,fun _ h=>(by cases h),fun i x hx=>(by simp at hx),fun w1 _=>?_⟩
  cases ad with
  | none=>simp[Builtin.firstCells]
  | some a=>simp[Builtin.firstCells,loadCells,loadCellsFrom]
 ·obtain ⟨news,k1,k2,k3,k4⟩:=cI (o:=o) ys 0 (fun i x hx=>by simpa using h i x hx)
  refine ⟨news,_,cap,rfl,k1,k3,k4,fun w1 hw=>WV k1 (fun j u hj=>?_)⟩
  have:=k2 j u hj
  simp only[Nat.zero_mul,Nat.add_zero] at this
  rw[<- this]
  simp only[World.cell?,hw]
end
end Go.Fl

/- Append, calls, freezing: the steps of a walk. -/
namespace Go.Fl
open Go Go.RowKit
section
variable {P:Program}
theorem QD {t ty et:TypeId} {i:TypeInfo} (ht:P.underlying t=some (.slice et)) (hi:P.info? et=some i) {w:World} {base ad:Option Addr} {n cap m c2:Nat} {news:List Value} (hf:(Builtin.firstCells i.size m (.slice ad m c2)).run P w=.ok news.toArray w) (hroom:n+m<=cap) :
  (Builtin.append_ #[t,t] ty #[.slice base n cap,.slice ad m c2]).run P w=((match base with | some a=>storeCells (a.add (n*i.size)) news | none=>pure ()).run P w).andThen fun _ w'=>.ok (.slice base (n+m) cap) w':=by
 cases base with
 | none=>simp[Builtin.append_,run_underlying ht,sizeOf,typeInfo,hi,Builtin.lenOf,hroom,hf]
 | some a=>simp[Builtin.append_,run_underlying ht,sizeOf,typeInfo,hi,Builtin.lenOf,hroom,hf]
theorem gR {t ty et:TypeId} {i:TypeInfo} {z:Value} (ht:P.underlying t=some (.slice et)) (hi:P.info? et=some i) (hz:i.zero=some z) {w:World} {base ad:Option Addr} {n cap m c2:Nat} {olds news:List Value}
  (hfo:(Builtin.firstCells i.size n (.slice base n cap)).run P w.drew=.ok olds.toArray w.drew) (hf:(Builtin.firstCells i.size m (.slice ad m c2)).run P w.drew=.ok news.toArray w.drew) (hroom:cap<n+m) (h63:((n+m:Nat):Int)<=9223372036854775807) (hfit:Builtin.nextslicecap (n+m) cap*i.bytes<=281474976710656) :
  (Builtin.append_ #[t,t] ty #[.slice base n cap,.slice ad m c2]).run P w =
   .ok (.slice (some ⟨w.heap.size,0,none⟩) (n+m) (grownCap w (n+m) cap et)) (w.drew.alloc (.cells (olds.toArray++news.toArray++Builtin.zeroCells z.cells (grownCap w (n+m) cap et-(n+m))) et)):=by
 have hn:¬(n+m<=cap):=by omega
 have h63':¬(9223372036854775807<((n:Int)+(m:Int))):=by omega
 have h48':¬(281474976710656<Builtin.nextslicecap (n+m) cap*i.bytes):=by omega
 simp[Builtin.append_,run_underlying ht,sizeOf,typeInfo,zeroValue,hi,hz,Builtin.lenOf,hn,h63',h48',Question.forced,hf,hfo,newRow,grownCap]
 congr 2
 apply Array.ext'
 simp[List.append_assoc]
theorem MN {α:Type} {J:JV} {e:i7 α} {xs ys:List α} {olds news:List Value} {cs:List Value} (hl:olds.length=xs.length*e.n) (hcs:∀(j:Nat) (v:Value),(olds++news)[j]?=some v->cs[j]?=some v)
  (h1:∀(i:Nat) x,xs[i]?=some x->∃ds,e.rd J ds x/\∀(j:Nat) v,ds[j]?=some v->olds[i*e.n+j]?=some v) (h2:∀(i:Nat) x,ys[i]?=some x->∃ds,e.rd J ds x/\∀j v,ds[j]?=some v->news[i*e.n+j]?=some v) :
  ∀(i:Nat) x,(xs++ys)[i]?=some x->∃ds,e.rd J ds x/\∀(j:Nat) v,ds[j]?=some v->cs[i*e.n+j]?=some v:=by
 intro i x hx
 by_cases hi:i<xs.length
 ·rw[List.getElem?_append_left hi] at hx
  obtain ⟨ds,k1,k2⟩:=h1 i x hx
  refine ⟨ds,k1,fun j v hj=>hcs _ _ ?_⟩
  have:=k2 j v hj
  rw[List.getElem?_append_left (List.getElem?_eq_some_iff.1 this).1]; exact this
 ·rw[List.getElem?_append_right zo] at hx
  obtain ⟨ds,k1,k2⟩:=h2 _ x hx
  refine ⟨ds,k1,fun j v hj=>hcs _ _ ?_⟩
  have:=k2 j v hj
  have e1:i*e.n=xs.length*e.n+(i-xs.length)*e.n:=by rw[<- Nat.add_mul]; congr 1; omega
  rw[List.getElem?_append_right (by rw[hl]; omega),hl,show i*e.n+j-xs.length*e.n=(i-xs.length)*e.n+j by omega]
  exact this
variable {c:l8} {ops:Array Oper} {S:g9} {M:f0} {rest:List Oper} {Q:Exit->Act->World->Prop}
variable {d:Nat} {ty:TypeId} {pos:String} {af:Array Edge} {x y:Operand}
theorem d5.app {t et:TypeId} [ht:C5 P t et] {size bytes:Nat} {zz:Value} [hsz:q7 P et size bytes zz] {α:Type} {zb:Bool} {e:i7 α} {xs ys:List α} {u len len' m:Nat} {dep:List Nat} {k:b8} {M':f0}
  (hx:j1 S x=some (true,q8 u len)) [hl:p8 M u (m9 zb et e xs len') dep] (hle:len=len') (hy:j1 S y=some (true,k)) [hsrc:MB M k e ys] (hm:ys.length=m) [hup:A7 M u (m9 zb et e (xs++ys) (len'+m)) [] M']
  (hs:size=e.n) (hzz:zz.cells.size=size) (hnd:H9 u M=true) (hn:Nat.blt d c.n=true) (h63:len'+m<=9223372036854775807) (hb:(len'+m)*bytes<=140737488355328)
  (K:d5 P c ops (⟨d,true,[u],q8 u (len'+m)⟩::inv u S) M' rest Q):d5 P c ops S M (⟨some d,.call { callee:=.builtin .append,args:=#[x,y],argTypes:=#[t,t] },ty,pos,af,none⟩::rest) Q:=by
 intro a g w hsat
 subst hle hm
 obtain ⟨i,hi,rfl,rfl,hz⟩:=hsz.h
 have hdn:d<c.n:=by simpa [Nat.blt_eq] using hn
 have hk1:=B5 hsat.slots hx rfl
 have hk2:=hsrc.imp hsat.ok hsat.conts (B5 hsat.slots hy rfl)
 obtain ⟨news,ad,c2,e2,n1,n2,n3,n4⟩:=iG (P:=P) hk2
 rw[<- hs] at n1 n4
 refine wpList_plain rfl fun K' hK'=>?_
 unfold Oper.wp
 simp only[execOp,resolve,invoke,builtin,Sem.run_bind,Sem.run_pure,Result.andThen_ok,List.map_toArray,List.map_cons,List.map_nil]
 have finish:∀{bk bk':Bk} {w':World} {v':Value},g.M u=some bk->DO bk w w'->(∀b cap,bk'=.blk b cap->(∃cap0,bk=.blk b cap0)\/(w.heap.size<=b/\b<w'.heap.size)) ->
   m9 zb et e (xs++ys) (len+ys.length) ⟨g.J,fun t=>if t=u then some bk' else g.M t⟩ bk' (World.objAt w' bk')->q8 u (len+ys.length) ⟨g.J,fun t=>if t=u then some bk' else g.M t⟩ v' ->
   (Builtin.append_ #[t,t] ty #[a.eval x,a.eval y]).run P w=.ok v' w' ->
   Oper.upon P ⟨some d,.call { callee:=.builtin .append,args:=#[x,y],argTypes:=#[t,t] },ty,pos,af,none⟩ a K' Q (((Builtin.append_ #[t,t] ty #[a.eval x,a.eval y]).run P w).andThen fun v w=>.ok (.value v) w):=by
  intro bk bk' w' v' hm hbut hbk hct hkk hr
  rw[hr]
  simp only[Result.andThen_ok,Oper.upon]
  exact hK' _ _ (K _ _ _ (hsat.rebind hm (hsat.nomark hl hm) hbut hup hnd inferInstance hbk hct hdn hkk))
 have grow:∀{bk:Bk} {base:Option Addr} {cap:Nat} {olds:List Value},g.M u=some bk->a.eval x=.slice base len cap->olds.length=len*e.n->xs.length=len->(∀i x,xs[i]?=some x->∃ds,e.rd g.J ds x/\∀j v,ds[j]?=some v->olds[i*e.n+j]?=some v) ->
   (Builtin.firstCells i.size len (.slice base len cap)).run P w.drew=.ok olds.toArray w.drew->cap<len+ys.length ->
   Oper.upon P ⟨some d,.call { callee:=.builtin .append,args:=#[x,y],argTypes:=#[t,t] },ty,pos,af,none⟩ a K' Q (((Builtin.append_ #[t,t] ty #[a.eval x,a.eval y]).run P w).andThen fun v w=>.ok (.value v) w):=by
  intro bk base cap olds hm ex hol hxl holds hfo hroom
  have hr:=gR (ty:=ty) ht.h hi hz hfo (e2▸n4 w.drew rfl) hroom zo (growslice_fits hroom hb)
  have hge:=grownCap_ge w (len+ys.length) cap et
  have hcm:=grownCap_le_maxLen w (len+ys.length) cap et (by simp only[maxLen]; omega)
  have hobj:(w.drew.alloc (.cells (olds.toArray++news.toArray++Builtin.zeroCells zz.cells (grownCap w (len+ys.length) cap et-(len+ys.length))) et)).heap[w.heap.size]?=some (.cells (olds.toArray++news.toArray++Builtin.zeroCells zz.cells (grownCap w (len+ys.length) cap et-(len+ys.length))) et (0,0)):=heap_alloc_new w.drew _
  refine finish (bk':=.blk w.heap.size (grownCap w (len+ys.length) cap et)) (w':=w.drew.alloc (.cells (olds.toArray++news.toArray++Builtin.zeroCells zz.cells (grownCap w (len+ys.length) cap et-(len+ys.length))) et)) hm ⟨rfl,rfl,rfl,by simp,fun q hq _=>Below.heap_alloc w.drew _ q hq,CU _⟩ (fun b cap hb=>by cases hb; exact .inr ⟨Nat.le_refl _,by simp⟩) ?_ (.inr ⟨_,_,if_pos rfl,rfl⟩) (by rw[ex,e2]; exact hr)
  refine ⟨by simp[hxl],fun _=>by omega,_,hobj,?_,hge,hcm,fun i' x' hx'=>?_⟩
  ·simp only[Array.size_append,List.size_toArray,size_zeroCells,hol,n1,hzz,hs,<- Nat.add_mul]
   congr 1; omega
  ·obtain ⟨ds,q1,q2⟩:=MN (cs:=olds++news++(Builtin.zeroCells zz.cells (grownCap w (len+ys.length) cap et-(len+ys.length))).toList) (by rw[hol,hxl]) (fun j v hj=>by rw[List.getElem?_append_left (List.getElem?_eq_some_iff.1 hj).1]; exact hj) holds n3 i' x' hx'
   refine ⟨ds,q1,fun j v hj=>?_⟩
   have:=q2 j v hj
   rw[<- Array.getElem?_toList]
   simpa [List.append_assoc] using this
 rcases hk1 with ⟨hm,h0,ex⟩ | ⟨b,cap,hm,ex⟩
 ·subst h0
  obtain ⟨bk,h4,h5,_⟩:=hsat.conts _ hl.mem
  have hxs:xs=[]:=List.eq_nil_of_length_eq_zero h5
  subst hxs
  by_cases hy0:ys=[]
  ·subst hy0
   have hnews:news=[]:=List.eq_nil_of_length_eq_zero (by simpa using n1)
   subst hnews
   refine finish (bk':=.nil) hm ⟨rfl,rfl,rfl,Nat.le_refl _,fun _ _ _=>rfl,Nat.le_refl _⟩ (fun _ _ h=>by cases h) ⟨rfl,rfl⟩ (.inl ⟨if_pos rfl,rfl,rfl⟩) ?_
   rw[ex,e2,QD ht.h hi (e2▸n4 w rfl) (by simp)]
   simp
  ·have hpos:0<ys.length:=List.length_pos_iff.2 hy0
   exact grow (olds:=[]) hm ex (by simp) rfl (fun i x hx=>by simp at hx) (by simp[Builtin.firstCells]) zo
 ·obtain ⟨h0,hzl,cs,h3,h4,h5,h6,h7⟩:=CQ (xs:=xs) hsat.conts hm
  have hcl:len*e.n<=cs.size:=by rw[h4]; exact Nat.mul_le_mul_right _ h5
  have holdl:(cs.toList.take (len*e.n)).length=len*e.n:=by simp; omega
  have hold:∀i x,xs[i]?=some x->∃ds,e.rd g.J ds x/\∀j v,ds[j]?=some v->(cs.toList.take (len*e.n))[i*e.n+j]?=some v:=fun i x hx=>by
   obtain ⟨ds,q1,q2⟩:=h7 i x hx
   refine ⟨ds,q1,fun j v hj=>?_⟩
   have hil:=(List.getElem?_eq_some_iff.1 hx).1
   have hjl:=(List.getElem?_eq_some_iff.1 hj).1
   rw[e.len q1] at hjl
   have:(i+1)*e.n<=len*e.n:=Nat.mul_le_mul_right _ zo
   rw[Nat.succ_mul] at this
   rw[List.getElem?_take,if_pos zo]
   simpa using q2 j v hj
  by_cases hroom:len+ys.length<=cap
  ·have hst:=run_storeCells_at P b (len*e.n) et news 0 cs w h3 (by rw[n1,hs,Nat.add_zero,<- Nat.add_mul,h4]; exact Nat.mul_le_mul_right _ hroom) n2
   simp only[Nat.add_zero] at hst
   refine finish (bk':=.blk b cap) (w':=w.setRow b (cs.toList.take (len*e.n)++news++cs.toList.drop (len*e.n+news.length)).toArray) (v':=.slice (some ⟨b,0,none⟩) (len+ys.length) cap) hm ⟨rfl,rfl,rfl,by simp,fun k _ hk=>setRow_other w b k _ (fun e'=>hk cap (by rw[e'])),Nat.le_refl _⟩ (fun b' cap' hb=>by cases hb; exact .inl ⟨_,rfl⟩) ?_ (.inr ⟨_,_,if_pos rfl,rfl⟩) ?_
   ·refine ⟨by simp[h0],fun hz0=>by have:=hzl hz0; omega,_,setRow_heap w b cs _ et (0,0) h3,?_,hroom,h6,fun i' x' hx'=>?_⟩
    ·simp[n1,hs]; rw[Nat.min_eq_left hcl]; have:len*e.n+ys.length*e.n<=cs.size:=by rw[<- Nat.add_mul,h4]; exact Nat.mul_le_mul_right _ hroom
     omega
    ·obtain ⟨ds,q1,q2⟩:=MN (cs:=cs.toList.take (len*e.n)++news++cs.toList.drop (len*e.n+news.length)) (by rw[holdl,h0]) (fun j v hj=>by rw[List.getElem?_append_left (List.getElem?_eq_some_iff.1 hj).1]; exact hj) hold n3 i' x' hx'
     exact ⟨ds,q1,fun j v hj=>by have:=q2 j v hj; simpa using this⟩
   ·rw[ex,e2,QD ht.h hi (e2▸n4 w rfl) hroom]
    simp only[Addr.add_lit,Nat.zero_add,hs,hst,Result.andThen_ok]
  ·have hcells:∀j v,(cs.toList.take (len*e.n))[j]?=some v->w.cell? ⟨b,0+j,none⟩=some v:=fun j v hj=>by
    rw[List.getElem?_take] at hj
    split at hj
    ·exact J6 h3 (by simpa using hj)
    ·cases hj
   exact grow hm ex holdl h0 hold (WV (by rw[holdl,hs]) (fun j v hj=>by rw[World.cell?_drew]; exact hcells j v hj)) zo
end
end Go.Fl

/- Calls, tuples, freezing. -/
namespace Go.Fl
open Go Go.RowKit
section
variable {P:Program} {c:l8} {S:g9} {M:f0} {p:Bool} {d:Option Tmp} {ty:TypeId} {pos:String} {af:Array Edge} {gd:Option (Nat×Bool)}
variable {x y:Operand} {b b':Bool}
theorem IC {ks:List b8} {i:Nat} {k:b8} (hx:j1 S x=some (b,y4 ks)) (hb:p=true->b=true) (hk:ks[i]?=some k):l3 P c S M ⟨d,.extract x i,ty,pos,af,gd⟩ p k none :=
 l3.pure fun hp a g w _ _ ho=>by
  obtain ⟨vs,h1,h2⟩:=ho x (by simp[Op.operands]) b _ hx (hb hp)
  obtain ⟨v,h3,h4⟩:=FI h2 hk
  exact ⟨v,by simp[execOp,Instr.extract,h1,h3],h4⟩
class d8 (P:Program) (f:FuncId):Prop where
 run:∀args w,(callFunc f args).run P w=.ok (.enter f args) w
theorem d8.mk' {P:Program} {f:FuncId} {fn:Func} (h:P.funcs[f]?=some fn) (hn:(fn.name == "runtime.NumGoroutine")=false) (hb:fn.body.isNone=false):d8 P f :=
 ⟨fun args w=>by
  have hne:¬fn.name = "runtime.NumGoroutine":=by rw[beq_eq_false_iff_ne] at hn; exact hn
  have hb':¬fn.body=none:=fun e=>by rw[e] at hb; cases hb
  simp[callFunc,h,hne,hb']⟩
inductive D8 (S:g9) (p:Bool):List Operand->List b8->Prop
 | nil:D8 S p [] []
 | cons {x:Operand} {xs:List Operand} {k k0:b8} {ks:List b8} {b:Bool} (hx:j1 S x=some (b,k0)) (hb:p=true->b=true) (hc:∀(g:Gh) (v:Value),k0 g v->k ⟨g.J,w4⟩ v) (r:D8 S p xs ks):D8 S p (x::xs) (k::ks)
theorem D8.a {x:Operand} {xs:List Operand} {k:b8} {ks:List b8} (hx:j1 S x=some (b,k)) (hb:p=true->b=true) [hk:o4 k []] (r:D8 S p xs ks):D8 S p (x::xs) (k::ks) :=
 .cons hx hb (fun g v h=>hk.dep (g:=g) (g':=⟨g.J,w4⟩) (JV.le_refl _) (fun _ h=>by cases h) h) r
theorem D8.i {x:Operand} {xs:List Operand} {ki:IntKind} {m n:Int} {ks:List b8} (hx:j1 S x=some (b,y3 ki m)) (hb:p=true->b=true) (he:m=n) (r:D8 S p xs ks):D8 S p (x::xs) (y3 ki n::ks) :=
 .cons hx hb (fun _ _ h=>by subst he; exact h) r
theorem D8.s {x:Operand} {xs:List Operand} {kl:List b8} {α:Type} {e:i7 α} {v:α} {ks:List b8} (hx:j1 S x=some (b,G6 kl)) (hb:p=true->b=true) [hr:v5 kl e v []] (ha:e.agg=true) (r:D8 S p xs ks):D8 S p (x::xs) (b7 e v::ks) :=
 .cons hx hb (fun g u ⟨cs,h1,h2⟩=>⟨cs,v5.whole (h:=hr) (g:=g) h2,by rw[ha]; exact h1⟩) r
theorem D8.n {x:Operand} {xs:List Operand} {α:Type} {e:i7 α} {cp:Nat} {ks:List b8} (hx:j1 S x=some (b,j8 (.slice none 0 cp))) (hb:p=true->b=true) (r:D8 S p xs ks):D8 S p (x::xs) (b7 (eL e) []::ks) :=
 .cons hx hb (fun _ _ h=>⟨_,V0 (c:=cp),h⟩) r
theorem D8.eval {S:g9} {p:Bool} {xs:List Operand} {ks:List b8} (h:D8 S p xs ks) {g:Gh} {ρ:Operand->Value} (hp:p=true) (hρ:∀y∈xs,∀b k,j1 S y=some (b,k)->b=true->k g (ρ y)):o6 ⟨g.J,w4⟩ ks (xs.map ρ):=by
 induction h with
 | nil=>trivial
 | @cons x xs k k0 ks b hx hb hc r ih=>exact ⟨hc g _ (hρ x List.mem_cons_self b k0 hx (hb hp)),ih (fun y hy=>hρ y (List.mem_cons_of_mem _ hy))⟩
theorem F8.call {c:l8} {g:Gh} {w w':World} {J':JV} {k:b8} {v:Value} (hok:Ok c g w) (hbel:Below w.heap.size w w') (hJ:g.J.le J') (hold:∀b o,b<w.heap.size->J' b o=g.J b o) (him:Im J' w') [hk:o4 k []] (h:k ⟨J',w4⟩ v):F8 c k none g ⟨J',g.M⟩ w w' v:=by
 refine ⟨hk.dep (g:=⟨J',w4⟩) (JV.le_refl _) (fun _ h=>by cases h) h,⟨hJ,fun _ _ h=>h⟩,⟨hok.bel.then hbel,JV.le_trans hok.jle hJ,fun b o hb=>?_,him,fun t b cap ht=>?_,hok.inj⟩,hbel,fun _ h=>(by cases h),fun _ _=>rfl⟩
 ·show J' b o=c.J0 b o
  rw[hold b o (Nat.lt_of_lt_of_le hb hok.bel.size)]; exact hok.jold b o hb
 ·obtain ⟨h1,h2,h3⟩:=hok.own t b cap ht
  exact ⟨h1,Nat.lt_of_lt_of_le h2 hbel.size,fun o=>by show J' b o=none; rw[hold b o h2]; exact h3 o⟩
theorem j7 {f:FuncId} [hf:d8 P f] {args:List Operand} {tys:Array TypeId} {ks:List b8} {res:b8} (hct:p=true->Ct P f ks res) (ha:D8 S p args ks) [hk:o4 res []] :
  l3 P c S M ⟨d,.call { callee:=.value (.func f),args:=args.toArray,argTypes:=tys },ty,pos,af,gd⟩ p res none:=by
 intro hp a g w hok hc ho _
 have hargs:=ha.eval (g:=g) (ρ:=a.eval) hp (fun y hy b k hk hb=>ho y (by simp[Op.operands,Call.operands,hy]) b k hk hb)
 have hr:=hct hp w g.J hok.im _ hargs
 unfold Oper.wp
 simp only[execOp,resolve,Act.eval,Deferred.ofValue,Sem.run_bind,Sem.run_pure,Result.andThen_ok,invoke,List.map_toArray,Array.append_empty,Array.empty_append]
 rw[hf.run]
 simp only[Oper.upon]
 refine hr.mono fun e w' he=>?_
 obtain ⟨r,J',rfl,hbel,hJ,hold,him,hres⟩:=he
 exact ⟨r,_,rfl,F8.call hok hbel hJ hold him hres⟩
theorem IB {f:FuncId} [hf:d8 P f] {args:List Operand} {tys:Array TypeId} {ks:List b8} {res:b8} (hx:j1 S x=some (b,j8 (.func (.func f) #[] #[]))) (hb:p=true->b=true) (hct:p=true->Ct P f ks res) (ha:D8 S p args ks) [hk:o4 res []] :
  l3 P c S M ⟨d,.call { callee:=.value x,args:=args.toArray,argTypes:=tys },ty,pos,af,gd⟩ p res none:=by
 intro hp a g w hok hc ho _
 have hfv:a.eval x=_:=ho x (by simp[Op.operands,Call.operands]) b _ hx (hb hp)
 have hargs:=ha.eval (g:=g) (ρ:=a.eval) hp (fun y hy b k hk hb=>ho y (by simp[Op.operands,Call.operands,hy]) b k hk hb)
 have hr:=hct hp w g.J hok.im _ hargs
 unfold Oper.wp
 simp only[execOp,resolve,hfv,Deferred.ofValue,Sem.run_bind,Sem.run_pure,Result.andThen_ok,invoke,List.map_toArray,Array.append_empty,Array.empty_append]
 rw[hf.run]
 simp only[Oper.upon]
 refine hr.mono fun e w' he=>?_
 obtain ⟨r,J',rfl,hbel,hJ,hold,him,hres⟩:=he
 exact ⟨r,_,rfl,F8.call hok hbel hJ hold him hres⟩
end

class K3 (M:f0) (u:Nat) (M':outParam f0):Prop where
 eq:∃pre post ct dep,M=pre++⟨u,dep,ct⟩::post/\M'=pre++post
instance {M:f0} {u:Nat} {ct:s9} {dep:List Nat}:K3 (⟨u,dep,ct⟩::M) u M:=⟨[],M,ct,dep,rfl,rfl⟩
instance (priority:=low) {M M':f0} {u:Nat} {e:CE} [h:K3 M u M']:K3 (e::M) u (e::M'):=⟨by
 obtain ⟨pre,post,ct,dep,h1,h2⟩:=h.eq
 exact ⟨e::pre,post,ct,dep,by rw[h1]; rfl,by rw[h2]; rfl⟩⟩
theorem K3.mem {M M':f0} {u:Nat} (h:K3 M u M') (hn:(tags M).Nodup):(∀e∈M',e∈M/\e.t≠u)/\(tags M').Nodup/\∀t,t∈tags M'↔t∈tags M/\t≠u:=by
 obtain ⟨pre,post,ct,dep,h1,h2⟩:=h.eq
 subst h1 h2
 simp only[tags,List.map_append,List.map_cons] at hn ⊢
 have hp:(u::(pre.map (·.t)++post.map (·.t))).Nodup:=(List.perm_middle.nodup_iff).1 hn
 rw[List.nodup_cons] at hp
 refine ⟨fun e he=>?_,hp.2,fun t=>?_⟩
 ·rw[List.mem_append] at he
  refine ⟨?_,fun hu=>hp.1 ?_⟩
  ·rcases he with he | he
   ·exact List.mem_append.2 (.inl he)
   ·exact List.mem_append.2 (.inr (List.mem_cons_of_mem _ he))
  ·rcases he with he | he
   ·exact List.mem_append.2 (.inl (List.mem_map.2 ⟨e,he,hu⟩))
   ·exact List.mem_append.2 (.inr (List.mem_map.2 ⟨e,he,hu⟩))
 ·simp only[List.mem_append,List.mem_cons]
  constructor
  ·intro h'
   exact ⟨h'.elim .inl (fun h=>.inr (.inr h)),fun e=>hp.1 (List.mem_append.2 (e▸h'))⟩
  ·rintro ⟨h | h | h,hne⟩
   ·exact .inl h
   ·exact absurd h hne
   ·exact .inr h
def JV.with (J:JV) (b:Nat) (cs:Array Value):JV:=fun b' o=>if b'=b then cs[o]? else J b' o
theorem JV.le_with {J:JV} {b:Nat} {cs:Array Value} (h:∀o,J b o=none):J.le (J.with b cs):=fun b' o v hv=>by
 unfold JV.with
 by_cases e:b'=b
 ·subst e; rw[h o] at hv; cases hv
 ·rw[if_neg e]; exact hv
def Gh.frz (g:Gh) (u:Nat) (bk:Bk) (cs:Array Value):Gh:=⟨match bk with | .nil=>g.J | .blk b _=>g.J.with b cs,fun t=>if t=u then none else g.M t⟩
def g9.setAll (ss:List Nat) (k:b8) (S:g9):g9:=ss.map (fun s=>⟨s,true,[],k⟩)++S
theorem dX {k:b8} {S:g9}:∀{ss:List Nat} {t:Nat} {b:Bool} {k':b8},look (g9.setAll ss k S) t=some (b,k')->(t∈ss/\b=true/\k'=k)\/(look S t=some (b,k'))
 | [],t,b,k',h=>.inr h
 | s::ss,t,b,k',h=>by
  simp only[g9.setAll,List.map_cons,List.cons_append,look] at h
  cases hb:Nat.beq s t with
  | true =>
   rw[hb] at h
   simp only[cond_true,Option.some.injEq,Prod.mk.injEq] at h
   exact .inl ⟨by rw[Nat.eq_of_beq_eq_true hb]; exact List.mem_cons_self,h.1.symm,h.2.symm⟩
  | false =>
   rw[hb] at h
   exact (dX (ss:=ss) h).imp (fun ⟨h1,h2⟩=>⟨List.mem_cons_of_mem _ h1,h2⟩) id
theorem l4.freezeGB {n:Nat} {bor:List Nat} {rd:Option Nat} {mrk:Bool} {om:List Nat} {w0:World} {J0:JV} {S:g9} {M M':f0} {a:Act} {g:Gh} {w:World} (h:l4 ⟨w0,J0,bor,n,rd,mrk,om⟩ S M a g w) {u:Nat} {bk:Bk} (hm:g.M u=some bk) (hbo:∀b cap,bk=.blk b cap->b∉bor) {cs:Array Value} {ty:TypeId} (hb:∀b cap,bk=.blk b cap->w.heap[b]?=some (.cells cs ty (0,0)))
  (h3:∀t,t∈tags M'↔t∈tags M/\t≠u) (h2:(tags M').Nodup)
  (hconts:∀e∈M',(∃e0∈M,e0.t=e.t/\e.t≠u/\∀b o,g.M e.t=some b->e0.c g b o->e.c (g.frz u bk cs) b o)/\z7 e.c e.dep/\∀t∈e.dep,t∈tags M') {ss:List Nat} {k:b8} (hk:o4 k []) (hss:∀s∈ss,k (g.frz u bk cs) (a.tmps.getD s undef)) :
  l4 ⟨w0,J0,bor,n,rd,mrk,om⟩ (g9.setAll ss k (inv u S)) M' a (g.frz u bk cs) w:=by
 have hJ:g.J.le (g.frz u bk cs).J:=by
  cases bk with
  | nil=>exact JV.le_refl _
  | blk b cap=>exact JV.le_with (h.ok.own u b cap hm).2.2
 have hM:∀t,t≠u->(g.frz u bk cs).M t=g.M t:=fun t ht=>if_neg ht
 have hMs:∀t b cap,(g.frz u bk cs).M t=some (.blk b cap)->t≠u/\g.M t=some (.blk b cap):=fun t b cap ht=>by
  simp only[Gh.frz] at ht
  by_cases e:t=u
  ·rw[if_pos e] at ht; cases ht
  ·rw[if_neg e] at ht; exact ⟨e,ht⟩
 refine ⟨⟨h.ok.bel,JV.le_trans h.ok.jle hJ,fun b o hlt=>?_,fun b o v hv=>?_,fun t b cap ht=>?_,fun t t' b c1 c2 q1 q2=>h.ok.inj t t' b c1 c2 (hMs _ _ _ q1).2 (hMs _ _ _ q2).2⟩,?_,?_,?_,h2,?_,?_,h.defers,h.size⟩
 ·cases bk with
  | nil=>exact h.ok.jold b o hlt
  | blk b' cap =>
   show (g.J.with b' cs) b o=J0 b o
   unfold JV.with
   rw[if_neg (fun e=>by
    subst e
    rcases (h.ok.own u b cap hm).1 with hh | hh
    ·exact absurd hlt (Nat.not_lt.2 hh)
    ·exact absurd hh (hbo b cap rfl))]
   exact h.ok.jold b o hlt
 ·cases bk with
  | nil=>exact h.ok.im b o v hv
  | blk b' cap =>
   have hv':(g.J.with b' cs) b o=some v:=hv
   unfold JV.with at hv'
   by_cases e:b=b'
   ·rw[if_pos e] at hv'
    subst e
    exact J6 (hb b cap rfl) hv'
   ·rw[if_neg e] at hv'; exact h.ok.im b o v hv'
 ·obtain ⟨hne,ht'⟩:=hMs _ _ _ ht
  obtain ⟨q1,q2,q3⟩:=h.ok.own t b cap ht'
  refine ⟨q1,q2,fun o=>?_⟩
  cases bk with
  | nil=>exact q3 o
  | blk b' cap' =>
   show (g.J.with b' cs) b o=none
   unfold JV.with
   rw[if_neg (fun e=>by subst e; exact hne (h.ok.inj _ _ _ _ _ ht' hm))]
   exact q3 o
 ·intro t b k' hl
  rcases dX hl with ⟨ht,rfl,rfl⟩ | hl
  ·exact ⟨fun _=>hss t ht,fun hf=>by cases hf⟩
  ·obtain ⟨k0,q1,q2⟩:=KO hl
   obtain ⟨q3,q4⟩:=h.slots t b k0 q1
   refine ⟨fun hb=>?_,q4⟩
   rcases q2 with rfl | ⟨rfl,e,he,rfl,hnu⟩
   ·trivial
   ·exact (h.sdep e he).1.dep (g:=g) hJ (fun t ht=>hM t (fun (e':t=u)=>hnu (e'▸ht))) (q3 hb)
 ·intro e he
  obtain ⟨⟨e0,he0,ht0,hne,hc⟩,_⟩:=hconts e he
  obtain ⟨b,q1,q2⟩:=h.conts e0 he0
  rw[ht0] at q1
  exact ⟨b,(hM _ hne).trans q1,hc _ _ q1 q2⟩
 ·intro t ht
  refine (h3 t).2 ⟨h.dom t (fun e=>ht ?_),fun e=>ht ?_⟩
  ·simp only[Gh.frz]; split<;>simp_all
  ·simp only[Gh.frz,if_pos e]
 ·intro e he
  rcases List.mem_append.1 he with he | he
  ·obtain ⟨s,_,rfl⟩:=List.mem_map.1 he
   exact ⟨hk,fun _ h=>by cases h⟩
  ·rcases OF he with ⟨q1,q2⟩ | ⟨q1,q2⟩
   ·exact ⟨(h.sdep e q1).1,fun t ht=>(h3 t).2 ⟨(h.sdep e q1).2 t ht,fun (e':t=u)=>q2 (e'▸ht)⟩⟩
   ·rw[q1,q2]; exact ⟨inferInstance,fun _ h=>by cases h⟩
 ·intro e he
  exact (hconts e he).2
theorem l4.freezeG {n:Nat} {rd:Option Nat} {mrk:Bool} {om:List Nat} {w0:World} {J0:JV} {S:g9} {M M':f0} {a:Act} {g:Gh} {w:World} (h:l4 ⟨w0,J0,[],n,rd,mrk,om⟩ S M a g w) {u:Nat} {bk:Bk} (hm:g.M u=some bk) {cs:Array Value} {ty:TypeId} (hb:∀b cap,bk=.blk b cap->w.heap[b]?=some (.cells cs ty (0,0)))
  (h3:∀t,t∈tags M'↔t∈tags M/\t≠u) (h2:(tags M').Nodup)
  (hconts:∀e∈M',(∃e0∈M,e0.t=e.t/\e.t≠u/\∀b o,g.M e.t=some b->e0.c g b o->e.c (g.frz u bk cs) b o)/\z7 e.c e.dep/\∀t∈e.dep,t∈tags M') {ss:List Nat} {k:b8} (hk:o4 k []) (hss:∀s∈ss,k (g.frz u bk cs) (a.tmps.getD s undef)) :
  l4 ⟨w0,J0,[],n,rd,mrk,om⟩ (g9.setAll ss k (inv u S)) M' a (g.frz u bk cs) w:=h.freezeGB hm (fun _ _ _=>List.not_mem_nil) hb h3 h2 hconts hk hss
theorem Gh.le_frz {c:l8} {g:Gh} {w:World} (h:Ok c g w) {u:Nat} {bk:Bk} (hm:g.M u=some bk) (cs:Array Value):g.J.le (g.frz u bk cs).J:=by
 cases bk with
 | nil=>exact JV.le_refl _
 | blk b cap=>exact JV.le_with (h.own u b cap hm).2.2
theorem l4.freezeB {n:Nat} {bor:List Nat} {rd:Option Nat} {mrk:Bool} {om:List Nat} {w0:World} {J0:JV} {S:g9} {M M':f0} {a:Act} {g:Gh} {w:World} (h:l4 ⟨w0,J0,bor,n,rd,mrk,om⟩ S M a g w) {u:Nat} {bk:Bk} (hm:g.M u=some bk) (hbo:∀b cap,bk=.blk b cap->b∉bor) {cs:Array Value} {ty:TypeId} (hb:∀b cap,bk=.blk b cap->w.heap[b]?=some (.cells cs ty (0,0)))
  (hdel:K3 M u M') (hnd:H9 u M=true) {ss:List Nat} {k:b8} (hk:o4 k []) (hss:∀s∈ss,k (g.frz u bk cs) (a.tmps.getD s undef)) :
  l4 ⟨w0,J0,bor,n,rd,mrk,om⟩ (g9.setAll ss k (inv u S)) M' a (g.frz u bk cs) w:=by
 obtain ⟨h1,h2,h3⟩:=hdel.mem h.nodup
 refine h.freezeGB hm hbo hb h3 h2 (fun e he=>?_) hk hss
 obtain ⟨he',hne⟩:=h1 e he
 refine ⟨⟨e,he',rfl,hne,fun b o _ q2=>?_⟩,(h.cdep e he').1,fun t ht=>(h3 t).2 ⟨(h.cdep e he').2 t ht,fun (e':t=u)=>HX hnd e he' (e'▸ht)⟩⟩
 exact (h.cdep e he').1.dep (g:=g) (Gh.le_frz h.ok hm cs) (fun t ht=>if_neg (fun (e':t=u)=>HX hnd e he' (e'▸ht))) q2
theorem l4.freeze {n:Nat} {rd:Option Nat} {mrk:Bool} {om:List Nat} {w0:World} {J0:JV} {S:g9} {M M':f0} {a:Act} {g:Gh} {w:World} (h:l4 ⟨w0,J0,[],n,rd,mrk,om⟩ S M a g w) {u:Nat} {bk:Bk} (hm:g.M u=some bk) {cs:Array Value} {ty:TypeId} (hb:∀b cap,bk=.blk b cap->w.heap[b]?=some (.cells cs ty (0,0)))
  (hdel:K3 M u M') (hnd:H9 u M=true) {ss:List Nat} {k:b8} (hk:o4 k []) (hss:∀s∈ss,k (g.frz u bk cs) (a.tmps.getD s undef)) :
  l4 ⟨w0,J0,[],n,rd,mrk,om⟩ (g9.setAll ss k (inv u S)) M' a (g.frz u bk cs) w:=h.freezeB hm (fun _ _ _=>List.not_mem_nil) hb hdel hnd hk hss
def FJ (S:g9) (u len:Nat):List Nat->Prop
 | []=>True
 | s::r=>look S s=some (true,q8 u len)/\FJ S u len r
theorem RV {S:g9} {u len:Nat}:∀{ss:List Nat},FJ S u len ss->∀s∈ss,look S s=some (true,q8 u len)
 | s::r,h,t,ht=>by
  rcases List.mem_cons.1 ht with rfl | ht
  ·exact h.1
  ·exact RV h.2 t ht
theorem l4.frzAB {n:Nat} {bor:List Nat} {rd:Option Nat} {mrk:Bool} {om:List Nat} {w0:World} {J0:JV} {S:g9} {M M':f0} {a:Act} {g:Gh} {w:World} (h:l4 ⟨w0,J0,bor,n,rd,mrk,om⟩ S M a g w) {u len:Nat} {α:Type} {zb:Bool} {et:TypeId} {e:i7 α} {xs:List α} {dep:List Nat} {ss:List Nat} [hl:p8 M u (m9 zb et e xs len) dep]
  (hbo:∀b cap,g.M u=some (.blk b cap)->b∉bor) (hss:FJ S u len ss) (hlen:len<=t6) [hdel:K3 M u M'] (hnd:H9 u M=true):∃g',l4 ⟨w0,J0,bor,n,rd,mrk,om⟩ (g9.setAll ss (b7 (eL e) xs) (inv u S)) M' a g' w:=by
 obtain ⟨bk,hm,h0,h1⟩:=h.conts _ hl.mem
 simp only at hm h0
 cases bk with
 | nil =>
  subst h1
  have hxs:xs=[]:=List.eq_nil_of_length_eq_zero h0
  subst hxs
  refine ⟨_,h.freezeB (cs:=#[]) (ty:=0) hm (fun b cap e=>by cases e) (fun _ _ h=>by cases h) hdel hnd inferInstance (fun s hs=>?_)⟩
  rcases (h.slots s _ _ (RV hss s hs)).1 rfl with ⟨_,_,hv⟩ | ⟨b,cap,hb,_⟩
  ·exact ⟨_,V0,hv⟩
  ·rw[hm] at hb; cases hb
 | blk b cap =>
  obtain ⟨_,cs,h3,h4,h5,h6,h7⟩:=h1
  refine ⟨_,h.freezeB (cs:=cs) (ty:=et) hm (fun b2 cap2 e=>by cases e; exact hbo _ _ hm) (fun b' cap' hb=>by cases hb; exact h3) hdel hnd inferInstance (fun s hs=>?_)⟩
  have hJ:g.J.le (g.J.with b cs):=JV.le_with (h.ok.own u b cap hm).2.2
  rcases (h.slots s _ _ (RV hss s hs)).1 rfl with ⟨hb,_⟩ | ⟨b',cap',hb,hv⟩
  ·rw[hm] at hb; cases hb
  ·rw[hm] at hb; cases hb
   refine ⟨_,⟨some ⟨b,0,none⟩,cap,rfl,⟨by rw[h0]; exact hlen,by rw[h0]; exact h5⟩,.inr ⟨b,0,rfl,fun i x hx=>?_⟩⟩,by rw[h0]; exact hv⟩
   obtain ⟨ds,q1,q2⟩:=h7 i x hx
   refine ⟨ds,e.mono hJ q1,fun j v hj=>?_⟩
   show (g.J.with b cs) b (0+i*e.n+j)=some v
   unfold JV.with
   rw[if_pos rfl,Nat.zero_add]
   exact q2 j v hj
theorem l4.frzA {n:Nat} {rd:Option Nat} {mrk:Bool} {om:List Nat} {w0:World} {J0:JV} {S:g9} {M M':f0} {a:Act} {g:Gh} {w:World} (h:l4 ⟨w0,J0,[],n,rd,mrk,om⟩ S M a g w) {u len:Nat} {α:Type} {zb:Bool} {et:TypeId} {e:i7 α} {xs:List α} {dep:List Nat} {ss:List Nat} [hl:p8 M u (m9 zb et e xs len) dep]
  (hss:FJ S u len ss) (hlen:len<=t6) [hdel:K3 M u M'] (hnd:H9 u M=true):∃g',l4 ⟨w0,J0,[],n,rd,mrk,om⟩ (g9.setAll ss (b7 (eL e) xs) (inv u S)) M' a g' w:=h.frzAB (ss:=ss) (u:=u) (fun _ _ _=>List.not_mem_nil) hss hlen hnd
section
variable {P:Program} {n:Nat} {rd:Option Nat} {mrk:Bool} {om:List Nat} {w0:World} {J0:JV} {S:g9} {M M':f0} {Q:Exit->Act->World->Prop} {ops:Array Oper} {rest:List Oper}
theorem Tr.frz {code:Code} (u:Nat) (ss:List Nat) {len:Nat} {α:Type} {zb:Bool} {et:TypeId} {e:i7 α} {xs:List α} {dep:List Nat} [hl:p8 M u (m9 zb et e xs len) dep] (hss:FJ S u len ss) (hlen:len<=t6) [hdel:K3 M u M'] (hnd:H9 u M=true)
  (K:Tr P ⟨w0,J0,[],n,rd,mrk,om⟩ (g9.setAll ss (b7 (eL e) xs) (inv u S)) M' code Q):Tr P ⟨w0,J0,[],n,rd,mrk,om⟩ S M code Q:=fun a _ w hs=>let ⟨g',hs'⟩:=hs.frzA (ss:=ss) (u:=u) hss hlen hnd; K a g' w hs'
theorem d5.frz (u:Nat) (ss:List Nat) {len:Nat} {α:Type} {zb:Bool} {et:TypeId} {e:i7 α} {xs:List α} {dep:List Nat} [hl:p8 M u (m9 zb et e xs len) dep] (hss:FJ S u len ss) (hlen:len<=t6) [hdel:K3 M u M'] (hnd:H9 u M=true)
  (K:d5 P ⟨w0,J0,[],n,rd,mrk,om⟩ ops (g9.setAll ss (b7 (eL e) xs) (inv u S)) M' rest Q):d5 P ⟨w0,J0,[],n,rd,mrk,om⟩ ops S M rest Q:=fun a _ w hs=>let ⟨g',hs'⟩:=hs.frzA (ss:=ss) (u:=u) hss hlen hnd; K a g' w hs'
end
end Go.Fl

/- Regions that draw their order: what each operation has to show is shown from its operands, so every order that its edges allow serves. -/
namespace Go.Fl
open Go Go.RowKit

def RZ (acc:List Nat) (es:List Edge):Nat:=es.foldl (fun s e=>if Region.binds .any e then s ||| 2 ^ e.on ||| acc.getD e.on 0 else s) 0
def Z1:List Oper->List Nat->List Nat
 | [],acc=>acc
 | o::r,acc=>Z1 r (acc++[RZ acc o.after.toList])
theorem YL {acc:List Nat} {j:Nat}:∀(es:List Edge) (s:Nat),(es.foldl (fun s e=>if Region.binds .any e then s ||| 2 ^ e.on ||| acc.getD e.on 0 else s) s).testBit j=true ->
  s.testBit j=true\/∃e∈es,Region.binds .any e=true/\(j=e.on\/(acc.getD e.on 0).testBit j=true)
 | [],s,h=>.inl h
 | e::es,s,h=>by
  simp only[List.foldl_cons] at h
  rcases YL es _ h with h1 | ⟨x,hx,h2⟩
  ·by_cases hb:Region.binds .any e=true
   ·rw[if_pos hb] at h1
    simp only[Nat.testBit_or,Bool.or_eq_true,Nat.testBit_two_pow,decide_eq_true_eq] at h1
    rcases h1 with (h1 | h1) | h1
    ·exact .inl h1
    ·exact .inr ⟨e,List.mem_cons_self,hb,.inl h1.symm⟩
    ·exact .inr ⟨e,List.mem_cons_self,hb,.inr h1⟩
   ·rw[if_neg hb] at h1; exact .inl h1
  ·exact .inr ⟨x,List.mem_cons_of_mem _ hx,h2⟩
theorem YM:∀(l:List Oper) (acc:List Nat),(∀i,i<acc.length->(Z1 l acc)[i]?=acc[i]?)/\(Z1 l acc).length=acc.length+l.length /\
  ∀i o,l[i]?=some o->∃acc',(Z1 l acc)[acc.length+i]?=some (RZ acc' o.after.toList)/\acc'.length=acc.length+i/\∀k,k<acc'.length->(Z1 l acc)[k]?=acc'[k]?
 | [],acc=>⟨fun _ _=>rfl,by simp[Z1],fun i o h=>by simp at h⟩
 | o::l,acc=>by
  obtain ⟨h1,h2,h3⟩:=YM l (acc++[RZ acc o.after.toList])
  refine ⟨fun i hi=>?_,by simp only[Z1,h2]; simp; omega,fun i x hx=>?_⟩
  ·simp only[Z1]
   rw[h1 i (by simp; omega),List.getElem?_append_left hi]
  ·cases i with
   | zero =>
    simp only[List.getElem?_cons_zero,Option.some.injEq] at hx
    subst hx
    refine ⟨acc,?_,rfl,fun k hk=>?_⟩
    ·simp only[Z1,Nat.add_zero]
     rw[h1 acc.length (by simp)]
     simp
    ·simp only[Z1]
     rw[h1 k (by simp; omega),List.getElem?_append_left hk]
   | succ i =>
    obtain ⟨acc',k1,k2,k3⟩:=h3 i x (by simpa using hx)
    refine ⟨acc',?_,by simp at k2; omega,k3⟩
    simp only[Z1]
    rw[<- k1]; congr 1; simp; omega
def Q5 (l:List Oper) (i j:Nat):Bool:=((Z1 l []).getD i 0).testBit j
theorem MM {l:List Oper} {i j:Nat} {o:Oper} (ho:l[i]?=some o) (h:Q5 l i j=true):∃e∈o.after.toList,Region.binds .any e=true/\(j=e.on\/Q5 l e.on j=true):=by
 obtain ⟨acc',h1,h2,h3⟩:=(YM l []).2.2 i o ho
 simp only[List.length_nil,Nat.zero_add] at h1 h2
 unfold Q5 at h
 rw[List.getD_eq_getElem?_getD,h1] at h
 rcases YL _ _ h with hz | ⟨e,he,hb,hj⟩
 ·simp at hz
 ·refine ⟨e,he,hb,hj.imp id fun hj=>?_⟩
  unfold Q5
  by_cases hlt:e.on<acc'.length
  ·rw[List.getD_eq_getElem?_getD,h3 _ hlt,<- List.getD_eq_getElem?_getD]; exact hj
  ·rw[List.getD_eq_getElem?_getD,List.getElem?_eq_none zo] at hj
   simp at hj
def PQ (ops:Array Oper) (l:List Oper) (i:Nat) (x:Oper) (j:Nat) (y:Oper):Bool :=
 Q5 l j i||!((match x.dst with | some t=>(y.looksAt ops).contains t||y.dst==some t | none=>false)||(match y.dst with | some t=>(x.looksAt ops).contains t | none=>false))
def NM (l:List Oper) (m:Nat):Bool :=
 (l.zipIdx.all fun (o,i)=>o.after.toList.all fun e=>!Region.binds .any e||decide (e.on<i)) &&
 (l.zipIdx.all fun (x,i)=>l.zipIdx.all fun (y,j)=>!decide (i<j)||(PQ l.toArray l i x j y&&(decide (j<m)||Q5 l j i)))
structure DR (z:Nat) (l:List Oper) (m:Nat):Prop where
 edge:∀i o,l[i]?=some o->∀e∈o.after.toList,Region.binds .any e=true->e.on<i
 pair:∀i j x y,i<j->l[i]?=some x->l[j]?=some y->Q5 l j i=true\/((∀t,x.dst=some t->t∉y.looksAt l.toArray/\y.dst≠some t)/\∀t,y.dst=some t->t∉x.looksAt l.toArray)
 tail:∀i j,i<j->j<l.length->m<=j->z<=i->Q5 l j i=true
abbrev GS (l:List Oper) (m:Nat):Prop:=DR 0 l m
theorem GS.of {l:List Oper} {m:Nat} (h:NM l m=true):GS l m:=by
 simp only[NM,Bool.and_eq_true,List.all_eq_true] at h
 obtain ⟨h1,h2⟩:=h
 have hm:∀i o,l[i]?=some o->(o,i)∈l.zipIdx:=fun i o ho=>List.mem_iff_getElem?.2 ⟨i,by simp[ho]⟩
 refine ⟨fun i o ho e he hb=>?_,fun i j x y hij hx hy=>?_,fun i j hij hj hmj _=>?_⟩
 ·have:=h1 _ (hm i o ho) e he
  simp only[hb,Bool.not_true,Bool.false_or,decide_eq_true_eq] at this
  exact this
 ·have:=h2 _ (hm i x hx) _ (hm j y hy)
  simp only[hij,decide_true,Bool.not_true,Bool.false_or,Bool.and_eq_true] at this
  have hp:=this.1
  unfold PQ at hp
  rw[Bool.or_eq_true] at hp
  refine hp.imp id fun hp=>?_
  simp only[Bool.not_eq_true',Bool.or_eq_false_iff] at hp
  refine ⟨fun t ht=>?_,fun t ht=>?_⟩
  ·have:=hp.1
   rw[ht] at this
   simp only[Bool.or_eq_false_iff] at this
   exact ⟨by simpa using this.1,by simpa using this.2⟩
  ·have:=hp.2
   rw[ht] at this
   simpa using this
 ·have hx:=List.getElem?_eq_getElem (l:=l) (i:=i) zo
  have hy:=List.getElem?_eq_getElem (l:=l) (i:=j) hj
  have:=h2 _ (hm i _ hx) _ (hm j _ hy)
  simp only[hij,decide_true,Bool.not_true,Bool.false_or,Bool.and_eq_true,Bool.or_eq_true,decide_eq_true_eq] at this
  exact this.2.resolve_left zo

def TL (l:List Oper) (m:Nat):Bool :=
 (l.zipIdx.all fun (o,i)=>o.after.toList.all fun e=>!Region.binds .any e||decide (e.on<i)) &&
 (l.zipIdx.all fun (x,i)=>l.zipIdx.all fun (y,j)=>!decide (i<j)||(PQ l.toArray l i x j y&&((decide (j<m)||Q5 l j i)||decide (i<1))))
theorem DR.of1 {l:List Oper} {m:Nat} (h:TL l m=true):DR 1 l m:=by
 simp only[TL,Bool.and_eq_true,List.all_eq_true] at h
 obtain ⟨h1,h2⟩:=h
 have hm:∀i o,l[i]?=some o->(o,i)∈l.zipIdx:=fun i o ho=>List.mem_iff_getElem?.2 ⟨i,by simp[ho]⟩
 refine ⟨fun i o ho e he hb=>?_,fun i j x y hij hx hy=>?_,fun i j hij hj hmj hzi=>?_⟩
 ·have:=h1 _ (hm i o ho) e he
  simp only[hb,Bool.not_true,Bool.false_or,decide_eq_true_eq] at this
  exact this
 ·have:=h2 _ (hm i x hx) _ (hm j y hy)
  simp only[hij,decide_true,Bool.not_true,Bool.false_or,Bool.and_eq_true] at this
  have hp:=this.1
  unfold PQ at hp
  rw[Bool.or_eq_true] at hp
  refine hp.imp id fun hp=>?_
  simp only[Bool.not_eq_true',Bool.or_eq_false_iff] at hp
  refine ⟨fun t ht=>?_,fun t ht=>?_⟩
  ·have:=hp.1
   rw[ht] at this
   simp only[Bool.or_eq_false_iff] at this
   exact ⟨by simpa using this.1,by simpa using this.2⟩
  ·have:=hp.2
   rw[ht] at this
   simpa using this
 ·have hx:=List.getElem?_eq_getElem (l:=l) (i:=i) zo
  have hy:=List.getElem?_eq_getElem (l:=l) (i:=j) hj
  have:=h2 _ (hm i _ hx) _ (hm j _ hy)
  simp only[hij,decide_true,Bool.not_true,Bool.false_or,Bool.and_eq_true,Bool.or_eq_true,decide_eq_true_eq] at this
  exact (this.2.resolve_right zo).resolve_left zo

structure A3 where
 d:Nat
 p:Bool
 dep:List Nat
 k:b8
 new:Option CE
def A3.se (r:A3):SE:=⟨r.d,r.p,r.dep,r.k⟩
def sl (S:g9) (rs:List A3):g9:=rs.foldl (fun S r=>r.se::S) S
def cl (M:f0) (rs:List A3):f0:=rs.foldl (fun M r=>P4 r.new M) M
class kJ (k:b8) (t:Nat):Prop where
 has:∀{g:Gh} {v:Value},k g v->g.M t≠none
structure Q3 (P:Program) (c:l8) (ops:Array Oper) (M0:f0) (S:g9) (M:f0) (o:Oper) (r:A3):Prop where
 dst:o.dst=some r.d
 ok:l3 P c S M0 o r.p r.k r.new
 kd:o4 r.k r.dep
 dep:∀t∈r.dep,t∈tags (P4 r.new M0)\/(t∈tags M/\kJ r.k t)
 new:∀e,r.new=some e->z7 e.c e.dep/\(∀t∈e.dep,t∈tags (e::M0))/\e.t∉tags M
 lt:r.d<c.n
 gd:(o.guard=none/\r.p=true)\/(r.new=none/\∃j want e s b0,o.guard=some (j,want)/\(ops[j]?).bind (·.dst)=some s/\look S s=some (b0,kB e)/\(b0&&(e==want))=r.p)
def i6 (P:Program) (c:l8) (ops:Array Oper) (Q:Exit->Act->World->Prop) (M0:f0):List Oper->Nat->g9->f0->Prop
 | rest,0,S,M=>d5 P c ops S M rest Q
 | [],_+1,_,_=>False
 | o::rest,m+1,S,M=>∃r,Q3 P c ops M0 S M o r/\i6 P c ops Q M0 rest m (r.se::S) (P4 r.new M)
theorem i6.recs {P:Program} {c:l8} {ops:Array Oper} {Q:Exit->Act->World->Prop} {M0:f0}:∀{m:Nat} {rest:List Oper} {S:g9} {M:f0},i6 P c ops Q M0 rest m S M ->
  ∃rs:List A3,rs.length=m/\m<=rest.length/\(∀i r o,rs[i]?=some r->rest[i]?=some o->Q3 P c ops M0 (sl S (rs.take i)) (cl M (rs.take i)) o r)/\d5 P c ops (sl S rs) (cl M rs) (rest.drop m) Q
 | 0,rest,S,M,h=>⟨[],rfl,Nat.zero_le _,fun i r o h=>by simp at h,by simpa [i6,sl,cl] using h⟩
 | m+1,[],S,M,h=>by cases h
 | m+1,o::rest,S,M,h=>by
  obtain ⟨r,h1,h2⟩:=h
  obtain ⟨rs,k1,k2,k3,k4⟩:=i6.recs h2
  refine ⟨r::rs,by simp[k1],by simp; omega,fun i r' o' hr ho=>?_,by simpa [sl,cl] using k4⟩
  cases i with
  | zero=>simp at hr ho; subst hr ho; simpa [sl,cl] using h1
  | succ i=>simpa [sl,cl] using k3 i r' o' (by simpa using hr) (by simpa using ho)
theorem QL {α:Type} {motive:List α->Prop} (h0:motive []) (h1:∀rs r,motive rs->motive (rs++[r])) (rs:List α):motive rs:=by
 have:∀l:List α,motive l.reverse:=fun l=>by
  induction l with
  | nil=>exact h0
  | cons x l ih=>rw[List.reverse_cons]; exact h1 _ _ ih
 simpa using this rs.reverse
theorem QJ {S:g9} {t:Nat} {b:Bool} {k:b8}:∀(rs:List A3),look (sl S rs) t=some (b,k) ->
  (look S t=some (b,k)/\∀r∈rs,r.d≠t)\/∃(i:Nat) (r:A3),rs[i]?=some r/\r.d=t/\r.p=b/\r.k=k/\∀(i':Nat) (r':A3),i<i'->rs[i']?=some r'->r'.d≠t:=by
 intro rs
 induction rs using QL with
 | h0=>exact fun h=>.inl ⟨h,fun _ h=>by cases h⟩
 | h1 rs r ih =>
  intro h
  simp only[sl,List.foldl_append,List.foldl_cons,List.foldl_nil,look,A3.se] at h
  cases hb:Nat.beq r.d t with
  | true =>
   rw[hb] at h
   simp only[cond_true,Option.some.injEq,Prod.mk.injEq] at h
   refine .inr ⟨rs.length,r,by simp,Nat.eq_of_beq_eq_true hb,h.1,h.2,fun i' r' hi hr=>?_⟩
   rw[List.getElem?_eq_none (by simp; omega)] at hr; cases hr
  | false =>
   rw[hb] at h
   have hne:=Nat.ne_of_beq_eq_false hb
   rcases ih h with ⟨h1,h2⟩ | ⟨i,r0,h1,h2,h3,h4,h5⟩
   ·exact .inl ⟨h1,fun x hx=>by
     rcases List.mem_append.1 hx with hx | hx
     ·exact h2 x hx
     ·simp at hx; subst hx; exact hne⟩
   ·have hlt:=(List.getElem?_eq_some_iff.1 h1).1
    refine .inr ⟨i,r0,by rw[List.getElem?_append_left hlt]; exact h1,h2,h3,h4,fun i' r' hi hr=>?_⟩
    by_cases hl:i'<rs.length
    ·rw[List.getElem?_append_left hl] at hr; exact h5 i' r' hi hr
    ·rw[List.getElem?_append_right zo] at hr
     have:i'-rs.length=0:=by
      rcases Nat.eq_zero_or_pos (i'-rs.length) with h0 | h0
      ·exact h0
      ·rw[List.getElem?_eq_none (by simp; omega)] at hr; cases hr
     rw[this] at hr
     simp at hr; subst hr; exact hne
theorem S3 {M:f0} {e:CE}:∀(rs:List A3),e∈cl M rs↔e∈M\/∃(i:Nat) (r:A3),rs[i]?=some r/\r.new=some e:=by
 intro rs
 induction rs using QL with
 | h0=>simp[cl]
 | h1 rs r ih =>
  simp only[cl,List.foldl_append,List.foldl_cons,List.foldl_nil]
  have hc:e∈P4 r.new (rs.foldl (fun M r=>P4 r.new M) M)↔r.new=some e\/e∈cl M rs:=by
   cases hn:r.new with
   | none=>simp[P4,cl]
   | some x=>simp only[P4,List.mem_cons,Option.some.injEq,cl]; exact ⟨fun h=>h.imp Eq.symm id,fun h=>h.imp Eq.symm id⟩
  rw[hc,ih]
  constructor
  ·rintro (h | h | ⟨i,r',h1,h2⟩)
   ·exact .inr ⟨rs.length,r,by simp,h⟩
   ·exact .inl h
   ·exact .inr ⟨i,r',by rw[List.getElem?_append_left (List.getElem?_eq_some_iff.1 h1).1]; exact h1,h2⟩
  ·rintro (h | ⟨i,r',h1,h2⟩)
   ·exact .inr (.inl h)
   ·by_cases hl:i<rs.length
    ·rw[List.getElem?_append_left hl] at h1; exact .inr (.inr ⟨i,r',h1,h2⟩)
    ·rw[List.getElem?_append_right zo] at h1
     have:i-rs.length=0:=by
      rcases Nat.eq_zero_or_pos (i-rs.length) with h0 | h0
      ·exact h0
      ·rw[List.getElem?_eq_none (by simp; omega)] at h1; cases h1
     rw[this] at h1
     simp at h1; subst h1; exact .inl h2

def Ld (listed:Array Bool) (i:Nat):Prop:=listed[i]?=some true
theorem Ld.lt {listed:Array Bool} {i:Nat} (h:Ld listed i):i<listed.size:=(Array.getElem?_eq_some_iff.1 h).1
theorem Ld.set {listed:Array Bool} {i j:Nat} (hi:i<listed.size):Ld (listed.setIfInBounds i true) j↔j=i\/Ld listed j:=by
 unfold Ld
 by_cases h:i=j
 ·subst h; simp[hi]
 ·rw[Array.getElem?_setIfInBounds_ne h]; exact ⟨.inr,fun h'=>h'.resolve_left (Ne.symm h)⟩
theorem ER {l:List Oper} {listed:Array Bool} {i:Nat} (hs:listed.size=l.length):i∈Region.ready .any l.toArray listed↔¬Ld listed i/\∃o,l[i]?=some o/\∀e∈o.after.toList,Region.binds .any e=true->Ld listed e.on:=by
 simp only[Region.ready,List.mem_filter,List.mem_range,List.size_toArray,Bool.and_eq_true,Bool.not_eq_true']
 constructor
 ·rintro ⟨h1,h2,h3⟩
  have ho:=List.getElem?_eq_getElem h1
  refine ⟨fun hl=>?_,l[i],ho,fun e he hb=>?_⟩
  ·unfold Ld at hl
   rw[Array.getD_eq_getD_getElem?,hl] at h2; cases h2
  ·rw[List.getElem?_toArray,ho] at h3
   simp only[Option.map_some,Option.getD_some,Array.all_eq_true_iff_forall_mem] at h3
   have:=h3 e (by simpa using he)
   simp only[hb,Bool.not_true,Bool.false_or] at this
   unfold Ld
   rw[Array.getD_eq_getD_getElem?] at this
   cases hh:listed[e.on]? with
   | none=>rw[hh] at this; cases this
   | some b=>rw[hh] at this; simp at this; rw[this]
 ·rintro ⟨h1,o,ho,h2⟩
  have hlt:=(List.getElem?_eq_some_iff.1 ho).1
  refine ⟨hlt,?_,?_⟩
  ·rw[Array.getD_eq_getD_getElem?]
   unfold Ld at h1
   rw[Array.getElem?_eq_getElem zo] at h1 ⊢
   simpa using h1
  ·rw[List.getElem?_toArray,ho]
   simp only[Option.map_some,Option.getD_some,Array.all_eq_true_iff_forall_mem]
   intro e he
   by_cases hb:Region.binds .any e=true
   ·have:=h2 e (by simpa using he) hb
    unfold Ld at this
    simp[hb,Array.getD_eq_getD_getElem?,this]
   ·simp only[Bool.not_eq_true] at hb; simp[hb]
def Q1 (listed:Array Bool):Nat:=listed.toList.countP (fun b=>!b)
theorem QV {listed:Array Bool} {i:Nat} (hi:i<listed.size) (h:¬Ld listed i):Q1 (listed.setIfInBounds i true)+1=Q1 listed:=by
 have hf:listed[i]=false:=by
  unfold Ld at h
  rw[Array.getElem?_eq_getElem hi] at h
  simpa using h
 unfold Q1
 rw[Array.toList_setIfInBounds]
 have hsplit:listed.toList=listed.toList.take i++false::listed.toList.drop (i+1):=by
  rw[<- hf,<- Array.getElem_toList,List.getElem_cons_drop,List.take_append_drop]
 have hset:listed.toList.set i true=listed.toList.take i++true::listed.toList.drop (i+1):=by
  rw[List.set_eq_take_append_cons_drop,if_pos (by simpa using hi)]
 rw[hset]
 conv=>rhs; rw[hsplit]
 simp[List.countP_append]
 omega
theorem XO {listed:Array Bool} (h:Q1 listed=0) {i:Nat} (hi:i<listed.size):Ld listed i:=by
 unfold Q1 at h
 rw[List.countP_eq_zero] at h
 have:=h listed[i] (by simp)
 unfold Ld
 rw[Array.getElem?_eq_getElem hi]
 simpa using this
def DP (l:List Oper) (listed:Array Bool):Prop:=∀i j,Ld listed i->Q5 l i j=true->Ld listed j
theorem DP.ready {l:List Oper} {listed:Array Bool} (h:DP l listed) {i:Nat} {o:Oper} (ho:l[i]?=some o) (hr:∀e∈o.after.toList,Region.binds .any e=true->Ld listed e.on) {j:Nat} (ha:Q5 l i j=true):Ld listed j:=by
 obtain ⟨e,he,hb,hj⟩:=MM ho ha
 rcases hj with rfl | hj
 ·exact hr e he hb
 ·exact h _ _ (hr e he hb) hj
theorem DP.set {l:List Oper} {listed:Array Bool} (h:DP l listed) {i:Nat} {o:Oper} (hi:i<listed.size) (ho:l[i]?=some o) (hr:∀e∈o.after.toList,Region.binds .any e=true->Ld listed e.on):DP l (listed.setIfInBounds i true):=by
 intro a b ha hb
 rw[Ld.set hi] at ha ⊢
 rcases ha with rfl | ha
 ·exact .inr (h.ready ho hr hb)
 ·exact .inr (h a b ha hb)
theorem PU {l:List Oper} {m z:Nat} (hd:DR z l m) {listed:Array Bool} (hs:listed.size=l.length) (h:Region.ready .any l.toArray listed=[]):∀i,i<l.length->Ld listed i:=by
 intro i
 induction i using Nat.strongRecOn with
 | _ i ih =>
  intro hi
  apply Classical.byContradiction
  intro hn
  have ho:=List.getElem?_eq_getElem hi
  have:i∈Region.ready .any l.toArray listed:=(ER hs).2 ⟨hn,_,ho,fun e he hb=>ih e.on (hd.edge i _ ho e he hb) (by have:=hd.edge i _ ho e he hb; omega)⟩
  rw[h] at this; cases this
section
variable {P:Program} {Q:Exit->Act->World->Prop} {l:List Oper} {m:Nat}
theorem QZ {z:Nat} (hz:z<=m) (hd:DR z l m):∀(f k:Nat) (listed:Array Bool) (a:Act) (w:World),listed.size=l.length->(∀i,Ld listed i↔i<k)->m<=k->k<=l.length->l.length-k<=f ->
  wpList P l.toArray Q (l.drop k) a w->wpAny P .any l.toArray Q f listed a w:=by
 intro f
 induction f with
 | zero =>
  intro k listed a w hs hl hm hk hf h
  have hkl:k=l.length:=by omega
  subst hkl
  rw[List.drop_length] at h
  refine ⟨?_,h⟩
  rw[List.eq_nil_iff_forall_not_mem]
  intro i hi
  obtain ⟨h1,o,ho,_⟩:=(ER hs).1 hi
  exact h1 ((hl i).2 (List.getElem?_eq_some_iff.1 ho).1)
 | succ f ih =>
  intro k listed a w hs hl hm hk hf h
  refine ⟨fun hr=>?_,fun i hi=>?_⟩
  ·have hall:=PU hd hs hr
   have hkl:k=l.length:=by
    rcases Nat.lt_or_ge k l.length with h' | h'
    ·have:=(hl k).1 (hall k h'); omega
    ·omega
   subst hkl
   rw[List.drop_length] at h
   exact h
  ·obtain ⟨h1,o,ho,h2⟩:=(ER hs).1 hi
   have hil:=(List.getElem?_eq_some_iff.1 ho).1
   have hki:k<=i:=by
    rcases Nat.lt_or_ge i k with h' | h'
    ·exact absurd ((hl i).2 h') h1
    ·exact h'
   have hclo:DP l listed:=fun x y hx hy=>by
    obtain ⟨e,he,hb,hj⟩:=MM (List.getElem?_eq_getElem (by have:=hx.lt; omega)) hy
    have hlt:=hd.edge x _ (List.getElem?_eq_getElem (by have:=hx.lt; omega)) e he hb
    have hxk:=(hl x).1 hx
    refine (hl y).2 ?_
    rcases hj with rfl | hj
    ·omega
    ·have:∀n u v,u<=n->u<l.length->Q5 l u v=true->v<u:=by
      intro n
      induction n with
      | zero=>intro u v hu hul ha; obtain ⟨e,he,hb,_⟩:=MM (List.getElem?_eq_getElem hul) ha; have:=hd.edge u _ (List.getElem?_eq_getElem hul) e he hb; omega
      | succ n ihn =>
       intro u v hu hul ha
       obtain ⟨e,he,hb,hj⟩:=MM (List.getElem?_eq_getElem hul) ha
       have hlt:=hd.edge u _ (List.getElem?_eq_getElem hul) e he hb
       rcases hj with rfl | hj
       ·exact hlt
       ·have:=ihn e.on v zo zo hj; omega
     have:=this e.on e.on y (Nat.le_refl _) zo hj
     omega
   have hik:i=k:=by
    rcases Nat.eq_or_lt_of_le hki with h' | h'
    ·exact h'.symm
    ·have:=(hl k).1 (hclo.ready ho h2 (hd.tail k i h' hil zo zo)); omega
   subst hik
   rw[List.drop_eq_getElem_cons hil] at h
   have hoe:l[i]=o:=by rw[List.getElem?_eq_getElem hil] at ho; exact Option.some.inj ho
   rw[hoe] at h
   have hnext:∀a w,wpList P l.toArray Q (l.drop (i+1)) a w->wpAny P .any l.toArray Q f (listed.setIfInBounds i true) a w:=fun a w h=>by
    refine ih (i+1) _ a w (by simpa using hs) (fun x=>?_) zo zo zo h
    rw[Ld.set zo,hl]; omega
   unfold wpOp
   rw[List.getElem?_toArray,ho]
   simp only
   unfold wpList at h
   split
   ·rename_i hw; rw[if_pos hw] at h; exact h.imp (Oper.wp_mono hnext) id
   ·rename_i hw; rw[if_neg hw] at h; exact hnext _ _ h
end
end Go.Fl

/- A region that draws its order, by what each operation shows. -/
namespace Go.Fl
open Go Go.RowKit
section
variable {P:Program} {c:l8} {Q:Exit->Act->World->Prop} {l:List Oper} {m:Nat} {S:g9} {M:f0} {rs:List A3} {a0:Act} {g0:Gh} {w1:World}
structure AJ (l:List Oper) (c:l8) (M:f0) (rs:List A3) (a0:Act) (g0:Gh) (w1:World) (listed:Array Bool) (a:Act) (g:Gh) (w:World):Prop where
 sz:listed.size=l.length
 ok:Ok c g w
 le:g0.le g
 bel:Below w1.heap.size w1 w
 clo:DP l listed
 low:∀i,Ld listed i->i<rs.length
 defers:a.defers=a0.defers
 size:a.tmps.size=c.n
 base:∀t,(∀i r,Ld listed i->rs[i]?=some r->r.d≠t)->a.tmps.getD t undef=a0.tmps.getD t undef
 cur:∀i r,rs[i]?=some r->Ld listed i->(∀i' r',i<i'->Ld listed i'->rs[i']?=some r'->r'.d≠r.d)->P8 g (a.tmps.getD r.d undef) r.p r.k
 made:∀i r e,Ld listed i->rs[i]?=some r->r.new=some e->∃b,g.M e.t=some b/\e.c g b (World.objAt w b)
 dom:∀t,g.M t≠none->g0.M t≠none\/∃(i:Nat) (r:A3) (e:CE),Ld listed i/\rs[i]?=some r/\r.new=some e/\e.t=t
theorem P8.on {g g':Gh} {v:Value} {p:Bool} {k:b8} {dep:List Nat} (h:P8 g v p k) (hl:g.le g') (hk:o4 k dep) (hd:∀t∈dep,g.M t≠none):P8 g' v p k :=
 ⟨fun hp=>hk.mono hl hd (h.1 hp),h.2⟩
theorem P8.on' {g g':Gh} {v:Value} {p:Bool} {k:b8} {dep:List Nat} (h:P8 g v p k) (hl:g.le g') (hk:o4 k dep) (hd:∀t∈dep,k g v->g.M t≠none):P8 g' v p k :=
 ⟨fun hp=>hk.mono hl (fun t ht=>hd t ht (h.1 hp)) (h.1 hp),h.2⟩
structure JL (M:f0) (rs:List A3):Prop where
 fresh:∀(i:Nat) (r:A3) (e:CE),rs[i]?=some r->r.new=some e->e.t∉tags M
 uniq:∀(i j:Nat) (r r':A3) (e e':CE),rs[i]?=some r->rs[j]?=some r'->r.new=some e->r'.new=some e'->e.t=e'.t->i=j
theorem AJ.step (hst:∀i r o,rs[i]?=some r->l[i]?=some o->Q3 P c l.toArray M (sl S (rs.take i)) (cl M (rs.take i)) o r) (hm:rs.length=m) (hml:m<=l.length) {z:Nat} (hd:DR z l m) (hnews:JL M rs)
  (hs:l4 c S M a0 g0 w1) {listed:Array Bool} {a:Act} {g:Gh} {w:World} (h:AJ l c M rs a0 g0 w1 listed a g w) {i:Nat} (hi:i∈Region.ready .any l.toArray listed) (him:i<m) {K:Act->World->Prop}
  (hK:∀a' g' w',AJ l c M rs a0 g0 w1 (listed.setIfInBounds i true) a' g' w'->K a' w'):wpOp P l.toArray Q i K a w:=by
 obtain ⟨hnl,o,ho,hr⟩:=(ER h.sz).1 hi
 have hil:=(List.getElem?_eq_some_iff.1 ho).1
 have hilst:i<listed.size:=by rw[h.sz]; exact hil
 have hri:=List.getElem?_eq_getElem (l:=rs) (i:=i) zo
 generalize rs[i]=r at hri
 have st:=hst i r o hri ho
 have hcM:D9 M g w:=hs.conts.on hs.conts hs.cdep hs.ok h.le h.bel
 have hdst:∀(j:Nat) (r':A3) (o':Oper),rs[j]?=some r'->l[j]?=some o'->o'.dst=some r'.d:=fun j r' o' h1 h2=>(hst j r' o' h1 h2).dst
 have hop:∀j,j<rs.length->∃o',l[j]?=some o':=fun j hj=>⟨_,List.getElem?_eq_getElem zo⟩
 have hlook:∀t,t∈o.looksAt l.toArray->∀b k,look (sl S (rs.take i)) t=some (b,k)->P8 g (a.tmps.getD t undef) b k:=by
  intro t ht b k hl
  have hlate:∀(i':Nat) (r':A3),i<i'->Ld listed i'->rs[i']?=some r'->r'.d≠t:=fun i' r' hii hli hr' hdt=>by
   obtain ⟨o',ho'⟩:=hop i' (List.getElem?_eq_some_iff.1 hr').1
   rcases hd.pair i i' o o' hii ho ho' with hp | ⟨_,hp⟩
   ·exact hnl (h.clo i' i hli hp)
   ·exact hp t (by rw[hdst i' r' o' hr' ho',hdt]) ht
  rcases QJ _ hl with ⟨h1,h2⟩ | ⟨j,r',h1,h2,h3,h4,h5⟩
  ·have hb:=h.base t (fun i' r' hli hr' hdt=>by
    rcases Nat.lt_trichotomy i' i with hlt | rfl | hlt
    ·exact h2 r' (List.mem_iff_getElem?.2 ⟨i',by rw[List.getElem?_take,if_pos hlt]; exact hr'⟩) hdt
    ·exact hnl hli
    ·exact hlate i' r' hlt hli hr' hdt)
   rw[hb]
   obtain ⟨e,he,_,_,rfl⟩:=CY h1
   exact (hs.slots t b _ h1).on h.le (hs.sdep e he).1 (fun u hu=>by obtain ⟨x,hx⟩:=hs.conts.tag ((hs.sdep e he).2 u hu); rw[hx]; simp)
  ·rw[List.getElem?_take] at h1
   split at h1
   case isFalse=>cases h1
   rename_i hji
   subst h2 h3 h4
   obtain ⟨oj,hoj⟩:=hop j (List.getElem?_eq_some_iff.1 h1).1
   have hjl:Ld listed j:=by
    rcases hd.pair j i oj o hji hoj ho with hp | ⟨hp,_⟩
    ·exact h.clo.ready ho hr hp
    ·exact absurd ht (hp _ (hdst j r' oj h1 hoj)).1
   refine h.cur j r' h1 hjl (fun i' r'' hlt hli hr'' hdt=>?_)
   rcases Nat.lt_trichotomy i' i with hlt' | rfl | hlt'
   ·exact h5 i' r'' hlt (by rw[List.getElem?_take,if_pos hlt']; exact hr'') hdt
   ·exact hnl hli
   ·exact hlate i' r'' hlt' hli hr'' hdt
 have hops:FC (sl S (rs.take i)) o a g:=by
  intro x hx b k hxk hb
  cases x with
  | tmp t=>exact (hlook t (List.mem_append.2 (.inl (List.mem_filterMap.2 ⟨.tmp t,by simpa using hx,rfl⟩))) b k hxk).1 hb
  | const v=>cases hxk; rfl
  | global v=>cases hxk; rfl
  | func v=>cases hxk; rfl
 have hfresh:∀e,r.new=some e->g.M e.t=none:=fun e he=>by
  cases hg:g.M e.t with
  | none=>rfl
  | some b =>
   rcases h.dom e.t (by rw[hg]; simp) with h1 | ⟨j,r',e',hj,hr',he',ht⟩
   ·exact absurd (hs.dom _ h1) (hnews.fresh i r e hri he)
   ·have:=hnews.uniq j i r' r e' e hr' hri he' he ht
    subst this
    exact absurd hj hnl
 have hlt:=st.lt
 have next:∀{v:Value} {g':Gh} {w':World},P8 g' v r.p r.k->g.le g'->Ok c g' w'->Below w.heap.size w w'->(∀e,r.new=some e->∃b,g'.M e.t=some b/\e.c g' b (World.objAt w' b))->(∀t,(∀e,r.new=some e->e.t≠t)->g'.M t=g.M t) ->
   AJ l c M rs a0 g0 w1 (listed.setIfInBounds i true) (a.put o.dst v) g' w':=by
  intro v g' w' hk hle hok hbel hmade hold
  rw[st.dst]
  have hsz:r.d<a.tmps.size:=by rw[h.size]; exact hlt
  refine ⟨by simpa using h.sz,hok,Gh.le_trans h.le hle,?_,h.clo.set hilst ho hr,fun j hj=>?_,h.defers,by simp[Act.put,h.size],fun t ht=>?_,fun j r' hr' hj hlat=>?_,fun j r' e hj hr' he=>?_,fun t ht=>?_⟩
  ·exact h.bel.trans (hbel.mono h.bel.size)
  ·rw[Ld.set hilst] at hj
   rcases hj with rfl | hj
   ·omega
   ·exact h.low j hj
  ·have hne:r.d≠t:=ht i r ((Ld.set hilst).2 (.inl rfl)) hri
   rw[KI hne]
   exact h.base t (fun j r' hj hr'=>ht j r' ((Ld.set hilst).2 (.inr hj)) hr')
  ·rw[Ld.set hilst] at hj
   by_cases hdd:r.d=r'.d
   ·rcases hj with rfl | hj
    ·rw[hri] at hr'; cases hr'
     rw[UE hsz]; exact hk
    ·-- an elder writer of the same slot: it is not the last one
     rcases Nat.lt_trichotomy j i with hlt' | rfl | hlt'
     ·exact absurd hdd (hlat i r hlt' ((Ld.set hilst).2 (.inl rfl)) hri)
     ·exact absurd hj hnl
     ·obtain ⟨oj,hoj⟩:=hop j (List.getElem?_eq_some_iff.1 hr').1
      rcases hd.pair i j o oj hlt' ho hoj with hp | ⟨hp,_⟩
      ·exact absurd (h.clo j i hj hp) hnl
      ·exact absurd (by rw[hdst j r' oj hr' hoj,hdd]) (hp _ st.dst).2
   ·rcases hj with rfl | hj
    ·rw[hri] at hr'; cases hr'; exact absurd rfl hdd
    ·rw[KI hdd]
     refine (h.cur j r' hr' hj (fun i' r'' hlt' hli hr''=>hlat i' r'' hlt' ((Ld.set hilst).2 (.inr hli)) hr'')).on' hle (hst j r' _ hr' (List.getElem?_eq_getElem (by have:=(List.getElem?_eq_some_iff.1 hr').1; omega))).kd (fun t ht hkv=>?_)
     rcases (hst j r' _ hr' (List.getElem?_eq_getElem (by have:=(List.getElem?_eq_some_iff.1 hr').1; omega))).dep t ht with hdep | ⟨_,hhas⟩
     rotate_left
     ·exact hhas.has hkv
     cases hn:r'.new with
     | none=>rw[hn] at hdep; obtain ⟨x,hx⟩:=hcM.tag hdep; rw[hx]; simp
     | some e =>
      rw[hn] at hdep
      rcases List.mem_cons.1 hdep with rfl | hdep
      ·obtain ⟨x,hx,_⟩:=h.made j r' e hj hr' hn; rw[hx]; simp
      ·obtain ⟨x,hx⟩:=hcM.tag hdep; rw[hx]; simp
  ·rw[Ld.set hilst] at hj
   rcases hj with rfl | hj
   ·rw[hri] at hr'; cases hr'; exact hmade e he
   ·obtain ⟨b,h1,h2⟩:=h.made j r' e hj hr' he
    refine ⟨b,hle.2 _ _ h1,?_⟩
    rw[OZ hbel (fun x cap hx=>by subst hx; exact (h.ok.own _ _ _ h1).2.1)]
    have hnew:=(hst j r' _ hr' (List.getElem?_eq_getElem (by have:=(List.getElem?_eq_some_iff.1 hr').1; omega))).new e he
    exact hnew.1.dep hle.1 (fun t ht=>by
     rcases List.mem_cons.1 (hnew.2.1 t ht) with rfl | ht'
     ·rw[h1]; exact hle.2 _ _ h1
     ·obtain ⟨x,hx⟩:=hcM.tag ht'; rw[hx]; exact hle.2 _ _ hx) h2
  ·by_cases hx:∃e,r.new=some e/\e.t=t
   ·obtain ⟨e,he,rfl⟩:=hx
    exact .inr ⟨i,r,e,(Ld.set hilst).2 (.inl rfl),hri,he,rfl⟩
   ·rw[hold t (fun e he ht'=>hx ⟨e,he,ht'⟩)] at ht
    rcases h.dom t ht with h1 | ⟨j,r',e,hj,hr',he,ht'⟩
    ·exact .inl h1
    ·exact .inr ⟨j,r',e,(Ld.set hilst).2 (.inr hj),hr',he,ht'⟩
 have didn:∀{v:Value} {g':Gh} {w':World},r.p=true->F8 c r.k r.new g g' w w' v->AJ l c M rs a0 g0 w1 (listed.setIfInBounds i true) (a.put o.dst v) g' w':=fun hp hd =>
  next ⟨fun _=>hd.k,fun hf=>(by rw[hp] at hf; cases hf)⟩ hd.le hd.ok hd.bel hd.made hd.old
 unfold wpOp
 rw[List.getElem?_toArray,ho]
 simp only
 rcases st.gd with ⟨hg,hp⟩ | ⟨hn,j,want,e,s,b0,hg,hj,hl,hp⟩
 ·rw[if_pos (by simp[Region.wanted,hg])]
  refine .inl (Oper.wp_on (st.ok hp a g w h.ok hcM hops hfresh) ?_)
  rintro a' w' ⟨v,g',rfl,hdid⟩
  exact hK _ _ _ (didn hp hdid)
 ·have hj':(l[j]?.bind fun x=>x.dst)=some s:=by simpa using hj
  have hsl:P8 g (a.tmps.getD s undef) b0 (kB e):=hlook s (List.mem_append.2 (.inr (by rw[hg]; simp[hj']))) _ _ hl
  have hwant:Region.wanted o (yielded l.toArray a.tmps)=r.p:=(XQ hg hj hsl).trans hp
  rw[hwant]
  cases hpp:r.p with
  | false =>
   simp only[Bool.false_eq_true,if_false]
   refine hK _ _ _ (next ⟨fun hf=>(by rw[hpp] at hf; cases hf),fun _=>rfl⟩ (Gh.le_refl _) h.ok (Below.refl _ _) (fun e he=>(by rw[hn] at he; cases he)) (fun _ _=>rfl))
  | true =>
   simp only[if_true]
   refine .inl (Oper.wp_on (st.ok hpp a g w h.ok hcM hops hfresh) ?_)
   rintro a' w' ⟨v,g',rfl,hdid⟩
   exact hK _ _ _ (didn hpp hdid)
theorem iS {M:f0} {rs:List A3} (i:Nat) {t:Nat} (h:t∈tags (cl M (rs.take i))):t∈tags (cl M rs):=by
 obtain ⟨e,he,rfl⟩:=List.mem_map.1 h
 refine List.mem_map.2 ⟨e,?_,rfl⟩
 rcases (S3 _).1 he with he | ⟨j,r,hr,hn⟩
 ·exact (S3 rs).2 (.inl he)
 ·refine (S3 rs).2 (.inr ⟨j,r,?_,hn⟩)
  rw[List.getElem?_take] at hr
  split at hr
  ·exact hr
  ·cases hr
theorem AJ.sat (hst:∀i r o,rs[i]?=some r->l[i]?=some o->Q3 P c l.toArray M (sl S (rs.take i)) (cl M (rs.take i)) o r) (hml:rs.length<=l.length) (hs:l4 c S M a0 g0 w1) {listed:Array Bool} {a:Act} {g:Gh} {w:World} (h:AJ l c M rs a0 g0 w1 listed a g w) (hall:∀i,i<rs.length->Ld listed i) :
  l4 c (sl S rs) (cl M rs) a g w:=by
 have hst':∀(i:Nat) (r:A3),rs[i]?=some r->∃o,Q3 P c l.toArray M (sl S (rs.take i)) (cl M (rs.take i)) o r:=fun i r hr =>
  ⟨_,hst i r _ hr (List.getElem?_eq_getElem (by have:=(List.getElem?_eq_some_iff.1 hr).1; omega))⟩
 have hld:∀(i:Nat) (r:A3),rs[i]?=some r->Ld listed i:=fun i r hr=>hall i (List.getElem?_eq_some_iff.1 hr).1
 have htags:∀t∈tags M,t∈tags (cl M rs):=fun t ht=>by
  obtain ⟨e,he,rfl⟩:=List.mem_map.1 ht
  exact List.mem_map.2 ⟨e,(S3 rs).2 (.inl he),rfl⟩
 have htagn:∀(i:Nat) (r:A3) (e:CE),rs[i]?=some r->r.new=some e->e.t∈tags (cl M rs):=fun i r e hr he=>List.mem_map.2 ⟨e,(S3 rs).2 (.inr ⟨i,r,hr,he⟩),rfl⟩
 refine ⟨h.ok,?_,?_,?_,?_,?_,?_,by rw[h.defers]; exact hs.defers.below h.bel,h.size⟩
 ·intro t b k hl
  rcases QJ _ hl with ⟨h1,h2⟩ | ⟨i,r,h1,h2,h3,h4,h5⟩
  ·rw[h.base t (fun i r _ hr=>h2 r (List.mem_of_getElem? hr))]
   obtain ⟨e,he,_,_,rfl⟩:=CY h1
   exact (hs.slots t b _ h1).on h.le (hs.sdep e he).1 (fun u hu=>by obtain ⟨x,hx⟩:=hs.conts.tag ((hs.sdep e he).2 u hu); rw[hx]; simp)
  ·subst h2 h3 h4
   exact h.cur i r h1 (hld i r h1) (fun i' r' hlt _ hr'=>h5 i' r' hlt hr')
 ·intro e he
  rcases (S3 rs).1 he with he | ⟨i,r,hr,hn⟩
  ·exact hs.conts.on hs.conts hs.cdep hs.ok h.le h.bel e he
  ·exact h.made i r e (hld i r hr) hr hn
 ·intro t ht
  rcases h.dom t ht with h1 | ⟨i,r,e,_,hr,he,rfl⟩
  ·exact htags t (hs.dom t h1)
  ·exact htagn i r e hr he
 ·-- the tags are unlike
  have key:∀n,n<=rs.length->(tags (cl M (rs.take n))).Nodup:=by
   intro n
   induction n with
   | zero=>intro _; exact hs.nodup
   | succ n ih =>
    intro hn
    have hr:=List.getElem?_eq_getElem (l:=rs) (i:=n) zo
    rw[List.take_succ_eq_append_getElem zo]
    simp only[cl,List.foldl_append,List.foldl_cons,List.foldl_nil]
    have ih':=ih zo
    cases hnew:rs[n].new with
    | none=>simpa [P4,cl] using ih'
    | some e =>
     simp only[P4,tags,List.map_cons]
     obtain ⟨o,st⟩:=hst' n _ hr
     exact List.nodup_cons.2 ⟨(st.new e hnew).2.2,ih'⟩
  have:=key rs.length (Nat.le_refl _)
  rwa [List.take_length] at this
 ·intro e he
  have:∀(rs':List A3),e∈sl S rs'->e∈S\/∃r∈rs',e=r.se:=by
   intro rs'
   induction rs' using QL with
   | h0=>exact fun h=>.inl h
   | h1 rs' r ih =>
    intro h
    simp only[sl,List.foldl_append,List.foldl_cons,List.foldl_nil] at h
    rcases List.mem_cons.1 h with rfl | h
    ·exact .inr ⟨r,by simp,rfl⟩
    ·exact (ih h).imp id fun ⟨x,hx,he⟩=>⟨x,List.mem_append.2 (.inl hx),he⟩
  rcases this rs he with he | ⟨r,hr,rfl⟩
  ·exact ⟨(hs.sdep e he).1,fun t ht=>htags t ((hs.sdep e he).2 t ht)⟩
  ·obtain ⟨i,hi⟩:=List.mem_iff_getElem?.1 hr
   obtain ⟨o,st⟩:=hst' i r hi
   refine ⟨st.kd,fun t ht=>?_⟩
   rcases st.dep t ht with hd | ⟨hd,_⟩
   rotate_left
   ·exact iS i hd
   cases hn:r.new with
   | none=>rw[hn] at hd; exact htags t hd
   | some x =>
    rw[hn] at hd
    rcases List.mem_cons.1 hd with rfl | hd
    ·exact htagn i r x hi hn
    ·exact htags t hd
 ·intro e he
  rcases (S3 rs).1 he with he | ⟨i,r,hr,hn⟩
  ·exact ⟨(hs.cdep e he).1,fun t ht=>htags t ((hs.cdep e he).2 t ht)⟩
  ·obtain ⟨o,st⟩:=hst' i r hr
   refine ⟨(st.new e hn).1,fun t ht=>?_⟩
   rcases List.mem_cons.1 ((st.new e hn).2.1 t ht) with rfl | ht'
   ·exact htagn i r e hr hn
   ·exact htags t ht'
theorem l4.drew {a:Act} {g:Gh} {w:World} (h:l4 c S M a g w):l4 c S M a g w.drew :=
 ⟨⟨⟨h.ok.bel.os,h.ok.bel.tape,h.ok.bel.output,h.ok.bel.size,h.ok.bel.block,Nat.le_trans h.ok.bel.drawn (CU _)⟩,h.ok.jle,h.ok.jold,h.ok.im,h.ok.own,h.ok.inj⟩,h.slots,fun e he=>by
  obtain ⟨b,h1,h2⟩:=h.conts e he
  exact ⟨b,h1,by cases b<;>exact h2⟩,h.dom,h.nodup,h.sdep,h.cdep,h.defers,h.size⟩
theorem bT (hst:∀i r o,rs[i]?=some r->l[i]?=some o->Q3 P c l.toArray M (sl S (rs.take i)) (cl M (rs.take i)) o r) (hml:rs.length<=l.length):JL M rs:=by

 have hin:∀(i:Nat) (r:A3),rs[i]?=some r->∃o,Q3 P c l.toArray M (sl S (rs.take i)) (cl M (rs.take i)) o r:=fun i r hr =>
  ⟨_,hst i r _ hr (List.getElem?_eq_getElem (by have:=(List.getElem?_eq_some_iff.1 hr).1; omega))⟩
 have hlt:∀(i j:Nat) (r r':A3) (e e':CE),i<j->rs[i]?=some r->rs[j]?=some r'->r.new=some e->r'.new=some e'->e.t≠e'.t:=fun i j r r' e e' hij hi hj he he' ht=>by
  obtain ⟨o,st⟩:=hin j r' hj
  refine (st.new e' he').2.2 (List.mem_map.2 ⟨e,(S3 _).2 (.inr ⟨i,r,?_,he⟩),ht⟩)
  rw[List.getElem?_take,if_pos hij]; exact hi
 refine ⟨fun i r e hr he ht=>?_,fun i j r r' e e' hi hj he he' ht=>?_⟩
 ·obtain ⟨o,st⟩:=hin i r hr
  obtain ⟨x,hx,hxt⟩:=List.mem_map.1 ht
  exact (st.new e he).2.2 (List.mem_map.2 ⟨x,(S3 _).2 (.inl hx),hxt⟩)
 ·rcases Nat.lt_trichotomy i j with hij | rfl | hij
  ·exact absurd ht (hlt i j r r' e e' hij hi hj he he')
  ·rfl
  ·exact absurd ht.symm (hlt j i r' r e' e hij hj hi he' he)
theorem bS {z:Nat} (hd:DR z l m) (hzm:z<=m) (hlen:rs.length=m) (hml:m<=l.length) (hst:∀i r o,rs[i]?=some r->l[i]?=some o->Q3 P c l.toArray M (sl S (rs.take i)) (cl M (rs.take i)) o r) (htail:d5 P c l.toArray (sl S rs) (cl M rs) (l.drop m) Q)
  (hs:l4 c S M a0 g0 w1):∀(f:Nat) (listed:Array Bool) (a':Act) (g':Gh) (w':World),Q1 listed<=f->(∀i,i<z->Ld listed i)->AJ l c M rs a0 g0 w1 listed a' g' w'->wpAny P .any l.toArray Q f listed a' w':=by
 have hnews:JL M rs:=bT hst zo

 intro f
 induction f with
 | zero =>
  intro listed a' g' w' hf hzL hI
  have hall:∀i,i<l.length->Ld listed i:=fun i hi=>XO (Nat.le_zero.1 hf) (by rw[hI.sz]; exact hi)
  refine QZ hzm hd 0 l.length listed a' w' hI.sz (fun i=>⟨fun h=>by have:=h.lt; rw[hI.sz] at this; exact this,hall i⟩) hml (Nat.le_refl _) zo ?_
  have hml':rs.length=l.length:=by
   rcases Nat.lt_or_ge rs.length l.length with h' | h'
   ·have:=hI.low _ (hall rs.length h'); omega
   ·omega
  have:=htail a' g' w' (hI.sat hst zo hs (fun i hi=>hall i zo))
  rw[<- hlen,hml'] at this
  exact this
 | succ f ih =>
  intro listed a' g' w' hf hzL hI
  by_cases hall:∀i,i<m->Ld listed i
  ·have hsat:=hI.sat hst zo hs (fun i hi=>hall i zo)
   exact QZ hzm hd (f+1) m listed a' w' hI.sz (fun i=>⟨fun h=>by have:=hI.low i h; omega,hall i⟩) (Nat.le_refl _) hml (by
    have:Q1 listed=l.length-m:=by
     have hsplit:∀k,k<=listed.size->(listed.toList.take k).countP (fun b=>!b)=k-min k m:=by
      intro k
      induction k with
      | zero=>simp
      | succ k ihk =>
       intro hk
       rw[List.take_succ_eq_append_getElem (by simp; omega),List.countP_append,ihk zo]
       by_cases hkm:k<m
       ·have h1:=hall k hkm
        unfold Ld at h1
        rw[Array.getElem?_eq_getElem zo] at h1
        simp only[Option.some.injEq] at h1
        simp[h1]; omega
       ·have h1:listed[k]=false:=by
         have h2:¬Ld listed k:=fun h=>by have:=hI.low k h; omega
         unfold Ld at h2
         rw[Array.getElem?_eq_getElem zo] at h2
         simpa using h2
        simp[h1]; omega
     have:=hsplit listed.size (Nat.le_refl _)
     rw[List.take_of_length_le (by simp)] at this
     unfold Q1
     rw[this,hI.sz]; omega
    omega) (htail a' g' w' hsat)
  ·obtain ⟨q,hq⟩:=Classical.not_forall.1 hall
   have hqm:q<m:=Classical.byContradiction fun h=>hq (fun h'=>absurd h' h)
   have hql:¬Ld listed q:=fun h=>hq (fun _=>h)
   refine ⟨fun hr=>absurd (PU hd hI.sz hr q zo) hql,fun i hi=>?_⟩
   obtain ⟨hnl,o,ho,hr⟩:=(ER hI.sz).1 hi
   have hil:=(List.getElem?_eq_some_iff.1 ho).1
   have him:i<m:=Classical.byContradiction fun hge=>hql (hI.clo.ready ho hr (hd.tail q i zo hil zo (Nat.le_of_not_lt fun hqz=>hql (hzL q hqz))))
   refine hI.step hst hlen hml hd hnews hs hi him (fun a'' g'' w'' hI'=>ih _ a'' g'' w'' ?_ (fun x hx=>(Ld.set (by rw[hI.sz]; exact hil)).2 (.inr (hzL x hx))) hI')
   have:=QV (listed:=listed) (i:=i) (by rw[hI.sz]; exact hil) hnl
   omega
theorem Tr.draw {id:Nat} (m:Nat) (hm:P.follows .mixedOrders=true) (chk:NM l m=true) (h:i6 P c l.toArray Q M l m S M) (hr:JN c.rd l Q:=by first | exact .inl rfl | exact .inr ⟨rfl,fun ⟨_,_,h⟩=>(show False from h)⟩):Tr P c S M (.region id l.toArray true) Q:=by
 intro a g w hs0
 have hs:=hs0.drew
 obtain ⟨rs,hlen,hml,hst,htail⟩:=i6.recs h
 have hd:=GS.of chk
 refine LQ hr hm (bS hd (Nat.zero_le _) hlen hml hst htail hs _ _ a g w.drew ?_ (fun _ h=>absurd h (Nat.not_lt_zero _)) ⟨by simp,hs.ok,Gh.le_refl _,Below.refl _ _,fun i j hi=>?_,fun i hi=>?_,rfl,hs.size,fun _ _=>rfl,fun i r hr hi=>?_,fun i r e hi=>?_,fun t ht=>.inl ht⟩)
 ·unfold Q1
  refine Nat.le_trans (List.countP_le_length) ?_
  simp
 all_goals
  unfold Ld at hi
  rw[Array.getElem?_eq_some_iff] at hi
  obtain ⟨_,hi⟩:=hi
  simp at hi
variable {ops:Array Oper} {M0:f0} {rest:List Oper} {d:Nat} {oop:Op} {ty:TypeId} {pos:String} {af:Array Edge}
theorem i6.z (h:d5 P c ops S M rest Q):i6 P c ops Q M0 rest 0 S M:=by cases rest<;>exact h
theorem i6.op {k:b8} {dep:List Nat} (h:l3 P c S M0 ⟨some d,oop,ty,pos,af,none⟩ true k none) [hk:o4 k dep] (hs:s5 dep (tags M0)=true) (hn:Nat.blt d c.n=true)
  (K:i6 P c ops Q M0 rest m (⟨d,true,dep,k⟩::S) M):i6 P c ops Q M0 (⟨some d,oop,ty,pos,af,none⟩::rest) (m+1) S M :=
 ⟨⟨d,true,dep,k,none⟩,⟨rfl,h,hk,fun t ht=>.inl (A1 hs t ht),fun _ h=>(by cases h),by simpa [Nat.blt_eq] using hn,.inl ⟨rfl,rfl⟩⟩,K⟩
theorem i6.new {k:b8} {dep:List Nat} {t:Nat} {ct:s9} {cdep:List Nat} (h:l3 P c S M0 ⟨some d,oop,ty,pos,af,none⟩ true k (some ⟨t,cdep,ct⟩)) [hk:o4 k dep] [hc:z7 ct cdep]
  (hs:s5 dep (tags (⟨t,cdep,ct⟩::M0))=true) (hcs:s5 cdep (tags (⟨t,cdep,ct⟩::M0))=true) (hf:s5 [t] (tags M)=false) (hn:Nat.blt d c.n=true)
  (K:i6 P c ops Q M0 rest m (⟨d,true,dep,k⟩::S) (⟨t,cdep,ct⟩::M)):i6 P c ops Q M0 (⟨some d,oop,ty,pos,af,none⟩::rest) (m+1) S M :=
 ⟨⟨d,true,dep,k,some ⟨t,cdep,ct⟩⟩,⟨rfl,h,hk,fun t ht=>.inl (A1 hs t ht),fun e he=>(by
  cases he
  refine ⟨hc,A1 hcs,fun ht=>?_⟩
  have:s5 [t] (tags M)=true:=by
   simp only[s5,Bool.and_true]
   exact List.any_eq_true.2 ⟨t,ht,Nat.beq_refl t⟩
  rw[hf] at this; cases this),by simpa [Nat.blt_eq] using hn,.inl ⟨rfl,rfl⟩⟩,K⟩
theorem i6.gd {k:b8} {dep:List Nat} {j s:Nat} {want e p b0:Bool} (hj:(ops[j]?).bind (·.dst)=some s) (hl:look S s=some (b0,kB e)) (hp:(b0&&(e==want))=p)
  (h:l3 P c S M0 ⟨some d,oop,ty,pos,af,some (j,want)⟩ p k none) [hk:o4 k dep] (hs:s5 dep (tags M0)=true) (hn:Nat.blt d c.n=true)
  (K:i6 P c ops Q M0 rest m (⟨d,p,dep,k⟩::S) M):i6 P c ops Q M0 (⟨some d,oop,ty,pos,af,some (j,want)⟩::rest) (m+1) S M :=
 ⟨⟨d,p,dep,k,none⟩,⟨rfl,h,hk,fun t ht=>.inl (A1 hs t ht),fun _ h=>(by cases h),by simpa [Nat.blt_eq] using hn,.inr ⟨rfl,j,want,e,s,b0,rfl,hj,hl,hp⟩⟩,K⟩
end
end Go.Fl

/- Returns of several results, loops with what follows them: the forms that our printer uses. -/
namespace Go.Fl
open Go Go.RowKit
section
variable {P:Program} {c:l8} {S:g9} {M:f0} {Q:Exit->Act->World->Prop}
theorem Tr.norm {x:Code} {S':g9} {M':f0} (hS:S=S') (hM:M=M') (h:Tr P c S' M' x Q):Tr P c S M x Q:=by subst hS hM; exact h
theorem d5.norm {ops:Array Oper} {rest:List Oper} {S':g9} {M':f0} (hS:S=S') (hM:M=M') (h:d5 P c ops S' M' rest Q):d5 P c ops S M rest Q:=by subst hS hM; exact h
theorem C4.o {M':f0} {S':g9} {s t m n:Nat} (hl:look S s=some (true,q8 t m)) (he:m=n) (hs:s5 [t] (tags M')=true) (r:C4 S M S' M'):C4 S M (⟨s,true,[t],q8 t n⟩::S') M' :=
 r.conv hl rfl (fun _ _ h=>by subst he; exact h) hs
theorem l4.grow {a:Act} {g:Gh} {w:World} (h:l4 c S M a g w) {s:Nat} {cp:Nat} (hl:look S s=some (true,j8 (.slice none 0 cp))) (hcp:cp=0) (u:Nat) (hf:s5 [u] (tags M)=false) {α:Type} (et:TypeId) (e:i7 α) (hn:s<c.n) :
  ∃g',l4 c (⟨s,true,[u],q8 u 0⟩::S) (⟨u,[],m9 true et e [] 0⟩::M) a g' w:=by
 have hfresh:u∉tags M:=by
  intro ht
  have:s5 [u] (tags M)=true:=by
   simp only[s5,Bool.and_true]
   exact List.any_eq_true.2 ⟨u,ht,Nat.beq_refl u⟩
  rw[hf] at this; cases this
 have hnone:g.M u=none:=by
  cases hm:g.M u with
  | none=>rfl
  | some b=>exact absurd (h.dom u (by rw[hm]; simp)) hfresh
 have hle:g.le (g.add u .nil):=⟨JV.le_refl _,fun t b hb=>by
  simp only[Gh.add]
  by_cases ht:t=u
  ·subst ht; rw[hnone] at hb; cases hb
  ·rw[if_neg ht]; exact hb⟩
 have hv:a.tmps.getD s undef=.slice none 0 0:=by have:=(h.slots s _ _ hl).1 rfl; rw[hcp] at this; exact this
 have hblk:∀t b cap,(g.add u .nil).M t=some (.blk b cap)->g.M t=some (.blk b cap):=fun t b cap ht=>by
  simp only[Gh.add] at ht
  by_cases e:t=u
  ·rw[if_pos e] at ht; cases ht
  ·rw[if_neg e] at ht; exact ht
 have hd:F8 c (q8 u 0) (some ⟨u,[],m9 true et e [] 0⟩) g (g.add u .nil) w w (.slice none 0 0):=by
  refine ⟨.inl ⟨Gh.add_same _ _ _,rfl,rfl⟩,hle,⟨h.ok.bel,h.ok.jle,h.ok.jold,h.ok.im,fun t b cap ht=>h.ok.own t b cap (hblk _ _ _ ht),fun t t' b c1 c2 h1 h2=>h.ok.inj t t' b c1 c2 (hblk _ _ _ h1) (hblk _ _ _ h2)⟩,Below.refl _ _,fun x hx=>?_,fun t ht=>?_⟩
  ·cases hx; exact ⟨_,Gh.add_same _ _ _,rfl,rfl⟩
  ·simp only[Gh.add]; rw[if_neg (fun e'=>ht _ rfl e'.symm)]
 have:=h.did (new:=some ⟨u,[],m9 true et e [] 0⟩) hd (fun x hx=>by cases hx; exact ⟨inferInstance,fun _ h=>(by cases h),hfresh⟩) (dep:=[u]) inferInstance (fun t ht=>by simp at ht; subst ht; exact List.mem_cons_self) hn
 refine ⟨g.add u .nil,?_⟩
 have ha:a.put (some s) (.slice none 0 0)=a:=by
  cases a with
  | mk tmps defers =>
   simp only[Act.put,Act.mk.injEq,and_true]
   simp only at hv
   apply Array.ext_getElem?
   intro i
   by_cases hi:s=i
   ·subst hi
    have hlt:s<tmps.size:=by have:=h.size; simp only at this; omega
    rw[Array.getElem?_setIfInBounds_self_of_lt hlt]
    rw[Array.getD_eq_getD_getElem?,Array.getElem?_eq_getElem hlt] at hv
    rw[Array.getElem?_eq_getElem hlt]
    simp at hv; rw[hv]
   ·rw[Array.getElem?_setIfInBounds_ne hi]
 rw[ha] at this
 exact this
theorem Tr.grow {x:Code} {s cp:Nat} (hl:look S s=some (true,j8 (.slice none 0 cp))) (hcp:cp=0) (u:Nat) (hf:s5 [u] (tags M)=false) {α:Type} (et:TypeId) (e:i7 α) (hn:Nat.blt s c.n=true)
  (K:Tr P c (⟨s,true,[u],q8 u 0⟩::S) (⟨u,[],m9 true et e [] 0⟩::M) x Q):Tr P c S M x Q:=fun a _ w hs=>let ⟨g',hs'⟩:=hs.grow hl hcp u hf et e (by simpa [Nat.blt_eq] using hn); K a g' w hs'
theorem Tr.for {body y:Code} {id:Nat} {σ:Type} (U:g9) (V:f0) (I:σ->g9) (J:σ->f0) (R E:σ->Prop) (μ:σ->Nat) (s0:σ) (h0:R s0) (he:d7 c S M (I s0++U) (J s0++V))
  (round:∀s,R s->Tr P c (I s++U) (J s++V) body (Exit.then (LW c (fun s=>I s++U) (fun s=>J s++V) R μ s) (Exit.inBlock id (Exit.then (JH c (fun s=>I s++U) (fun s=>J s++V) E) Q))))
  (rest:∀s,E s->Tr P c (I s++U) (J s++V) y Q):Tr P c S M (.seq (.block id (.loop body)) y) Q :=
 Tr.cut (fun s=>I s++U) (fun s=>J s++V) E (Tr.blk (Tr.loop (fun s=>I s++U) (fun s=>J s++V) R μ s0 h0 he round)) rest
theorem Tr.for1 {body:Code} {id:Nat} {σ:Type} (U:g9) (V:f0) (I:σ->g9) (J:σ->f0) (R E:σ->Prop) (μ:σ->Nat) (s0:σ) (h0:R s0) (he:d7 c S M (I s0++U) (J s0++V))
  (round:∀s,R s->Tr P c (I s++U) (J s++V) body (Exit.then (LW c (fun s=>I s++U) (fun s=>J s++V) R μ s) (Exit.inBlock id (Exit.then (JH c (fun s=>I s++U) (fun s=>J s++V) E) Q))))
  (rest:∀s,E s->g8 c (I s++U) (J s++V) Q):Tr P c S M (.block id (.loop body)) Q:=by
 intro a g w hs
 refine wpIn_block (wpIn_mono (Tr.loop (fun s=>I s++U) (fun s=>J s++V) R μ s0 h0 he round a g w hs) fun e a' w' hq=>?_)
 cases e with
 | normal=>obtain ⟨s,hE,g',h'⟩:=hq; exact rest s hE a' g' w' h'
 | exit id' =>
  simp only[Exit.then,Exit.inBlock] at hq ⊢
  by_cases h:id'=id
  ·rw[if_pos h] at hq ⊢; obtain ⟨s,hE,g',h'⟩:=hq; exact rest s hE a' g' w' h'
  ·rw[if_neg h] at hq ⊢; exact hq
 | goto l=>exact hq
 | ret=>exact hq
 | panic ch=>exact hq
 | outgrown=>exact hq
theorem g8.norm {S':g9} {M':f0} (hS:S=S') (hM:M=M') (h:g8 c S' M' Q):g8 c S M Q:=by subst hS hM; exact h
end
inductive C8 (S:g9):List Nat->List b8->Prop
 | nil:C8 S [] []
 | cons {t:Nat} {ts:List Nat} {k0 k:b8} {ks:List b8} (hl:look S t=some (true,k0)) (hc:∀(g:Gh) (v:Value),k0 g v->k ⟨g.J,w4⟩ v) (r:C8 S ts ks):C8 S (t::ts) (k::ks)
section
variable {S:g9} {t:Nat} {ts:List Nat} {ks:List b8}
theorem C8.k {k:b8} (hl:look S t=some (true,k)) [hk:o4 k []] (r:C8 S ts ks):C8 S (t::ts) (k::ks):=.cons hl (fun g v h=>hk.dep (g:=g) (g':=⟨g.J,w4⟩) (JV.le_refl _) (fun _ h=>by cases h) h) r
theorem C8.b {x y:Bool} (hl:look S t=some (true,kB x)) (he:x=y) (r:C8 S ts ks):C8 S (t::ts) (kB y::ks):=.cons hl (fun _ _ h=>by subst he; exact h) r
theorem C8.i {k:IntKind} {x y:Int} (hl:look S t=some (true,y3 k x)) (he:x=y) (r:C8 S ts ks):C8 S (t::ts) (y3 k y::ks):=.cons hl (fun _ _ h=>by subst he; exact h) r
theorem C8.r {α:Type} {e:i7 α} {x y:α} (hl:look S t=some (true,b7 e x)) (he:x=y) (r:C8 S ts ks):C8 S (t::ts) (b7 e y::ks):=.cons hl (fun _ _ h=>by subst he; exact h) r
theorem C8.p {α:Type} {e:i7 α} {x y:α} (hl:look S t=some (true,r5 e x)) (he:x=y) (r:C8 S ts ks):C8 S (t::ts) (r5 e y::ks):=.cons hl (fun _ _ h=>by subst he; exact h) r
theorem C8.n {α:Type} {e:i7 α} {y:List α} {cp:Nat} (hl:look S t=some (true,j8 (.slice none 0 cp))) (he:[]=y) (r:C8 S ts ks):C8 S (t::ts) (b7 (eL e) y::ks):=.cons hl (fun _ _ h=>by subst he; exact ⟨_,V0 (c:=cp),h⟩) r
theorem C8.holds {a:Act} {g:Gh} (hs:R8 S a g):∀{ts:List Nat} {ks:List b8},C8 S ts ks->o6 ⟨g.J,w4⟩ ks (ts.map fun t=>a.tmps.getD t undef)
 | [],[],_=>trivial
 | _::_,_::_,.cons hl hc r=>⟨hc g _ ((hs _ _ _ hl).1 rfl),C8.holds hs r⟩
variable {P:Program} {n:Nat} {w0:World} {J0:JV} {M:f0} {fn:Func}
theorem d9.res1 {k:b8} (hr:fn.results=#[.tmp t]) (h:C8 S [t] [k]):d9 ⟨w0,J0,[],n,none,false,[]⟩ S M (bodyPost P fn (Y9 w0 J0 k)):=by
 intro a g w hs
 refine ⟨hs.defers.1,_,results_tmp hr _ _ _,_,g.J,rfl,⟨hs.ok.bel.os,hs.ok.bel.tape,hs.ok.bel.output,hs.ok.bel.size,fun k hk=>hs.ok.bel.block k hk (by simp),hs.ok.bel.drawn⟩,hs.ok.jle,hs.ok.jold,hs.ok.im,?_⟩
 exact (h.holds hs.slots).1
theorem wT {P:Program} {fn:Func} {ts:List Nat} (h:fn.results=(ts.map ResultVar.tmp).toArray) (hl:(Nat.blt 1 ts.length&&Nat.blt ts.length 7)=true) (tmps:Array Value) (w:World):(results fn tmps).run P w=.ok (.tuple (ts.map fun t=>tmps.getD t undef).toArray) w:=by
 match ts,hl with
 | [a,b],_=>simp[results,h]
 | [a,b,c],_=>simp[results,h]
 | [a,b,c,d],_=>simp[results,h]
 | [a,b,c,d,e],_=>simp[results,h]
 | [a,b,c,d,e,f],_=>simp[results,h]
theorem d9.res {ts:List Nat} {ks:List b8} (hr:fn.results=(ts.map ResultVar.tmp).toArray) (hl:(Nat.blt 1 ts.length&&Nat.blt ts.length 7)=true) (h:C8 S ts ks):d9 ⟨w0,J0,[],n,none,false,[]⟩ S M (bodyPost P fn (Y9 w0 J0 (y4 ks))):=by
 intro a g w hs
 refine ⟨hs.defers.1,_,wT hr hl _ _,_,g.J,rfl,⟨hs.ok.bel.os,hs.ok.bel.tape,hs.ok.bel.output,hs.ok.bel.size,fun k hk=>hs.ok.bel.block k hk (by simp),hs.ok.bel.drawn⟩,hs.ok.jle,hs.ok.jold,hs.ok.im,?_⟩
 exact ⟨_,rfl,h.holds hs.slots⟩
end
theorem S4 {α:Type} {e:i7 α} {xs:List α} {g:Gh} {v:Value} (h:b7 (eL e) xs g v):xs.length<=281474976710656:=by
 obtain ⟨cs,⟨_,_,_,h2,_⟩,_⟩:=h
 exact h2.1
end Go.Fl

/- More laws: knowledge under a condition, nil slices, arrays, freezing what a struct holds. -/
namespace Go.Fl
open Go Go.RowKit

section
variable {P:Program} {c:l8} {S:g9} {M:f0} {Q:Exit->Act->World->Prop}
theorem Tr.re {x:Code} {s:Nat} {k k':b8} {dep:List Nat} (hl:look S s=some (true,k)) (hc:∀g v,k g v->k' g v) [hk:o4 k' dep] (hs:s5 dep (tags M)=true) (K:Tr P c (⟨s,true,dep,k'⟩::S) M x Q):Tr P c S M x Q:=fun a g w h =>
 K a g w ⟨h.ok,fun t b k0 hl'=>by
  simp only[look] at hl'
  cases hb:Nat.beq s t with
  | true =>
   rw[hb] at hl'
   simp only[cond_true,Option.some.injEq,Prod.mk.injEq] at hl'
   obtain ⟨rfl,rfl⟩:=hl'
   rw[<- Nat.eq_of_beq_eq_true hb]
   exact ⟨fun _=>hc _ _ ((h.slots s _ _ hl).1 rfl),fun hf=>by cases hf⟩
  | false =>
   rw[hb] at hl'
   exact h.slots t b k0 hl',h.conts,h.dom,h.nodup,fun e he=>by
  rcases List.mem_cons.1 he with rfl | he
  ·exact ⟨hk,A1 hs⟩
  ·exact h.sdep e he,h.cdep,h.defers,h.size⟩
end
section
variable {P:Program} {c:l8} {S:g9} {M:f0} {p:Bool} {d:Option Tmp} {ty:TypeId} {pos:String} {af:Array Edge} {gd:Option (Nat×Bool)}
variable {x y:Operand} {b b':Bool}
class YA {α:Type} (ks:List b8) (e:i7 α) (xs:outParam (List α)):Prop where
 imp:∀{g:Gh} {cs:List Value},o6 g ks cs->∀i x,xs[i]?=some x->∃ds,e.rd g.J ds x/\∀j v,ds[j]?=some v->cs[i*e.n+j]?=some v
class BS (P:Program) (t:TypeId) (n:outParam Nat) (et:outParam TypeId):Prop where
 h:P.underlying t=some (.array n et)
theorem uN {t et:TypeId} {n:Nat} [ht:BS P t n et] {sz by':Nat} {zz:Value} [hsz:q7 P et sz by' zz] {zs:List b8} [hz:F4 P t zs] {parts:List (Nat×Operand)} {ks:List b8} (h:p=true->T5 S (fun i=>some (i*sz,sz)) parts zs ks) :
  l3 P c S M ⟨d,.build t parts.toArray,ty,pos,af,gd⟩ p (G6 ks) none :=
 l3.pure fun hp a g w _ _ ho=>by
  obtain ⟨z,h1,h2⟩:=hz.h
  obtain ⟨ti,hi,rfl,_,_⟩:=hsz.h
  obtain ⟨cs,h3,h4⟩:=(h hp).fill (g:=g) (ρ:=a.eval) (fun y hy b k hk hb=>ho y.2 (by simp only[Op.operands]; simp; exact ⟨y.1,hy⟩) b k hk hb) (h2 g)
  refine ⟨.agg cs,?_,cs.toList,rfl,h4⟩
  have hmap:(parts.toArray.map fun (y:Nat×Operand)=>(y.1,a.eval y.2)).toList=parts.map fun y=>(y.1,a.eval y.2):=by simp
  have hs:∀w,(sizeOf et).run P w=.ok ti.size w:=fun w=>by simp[sizeOf,typeInfo,hi]
  have hb2:(Instr.build t (parts.toArray.map fun (y:Nat×Operand)=>(y.1,a.eval y.2))).run P w=.ok (.agg cs) w:=by
   simp only[Instr.build,Sem.run_bind,h1,Result.andThen_ok,run_underlying ht.h,hs,hmap,h3,Sem.run_pure]
  simp only[execOp,Sem.run_bind]
  rw[show (parts.toArray.map fun x:Nat×Operand=>match x with | (i,x)=>(i,a.eval x))=parts.toArray.map fun (y:Nat×Operand)=>(y.1,a.eval y.2) from rfl,hb2]
  rfl
end

theorem qZ {c:l8} {g:Gh} {w:World} (hok:Ok c g w) {u len:Nat} {bk:Bk} (hm:g.M u=some bk) {α:Type} {zb:Bool} {et:TypeId} {e:i7 α} {xs:List α} (hct:m9 zb et e xs len g bk (World.objAt w bk)) (hlen:len<=t6) :
  ∃(cs:Array Value) (ty:TypeId),(∀b cap,bk=.blk b cap->w.heap[b]?=some (.cells cs ty (0,0)))/\∀x,q8 u len g x->b7 (eL e) xs (g.frz u bk cs) x:=by
 obtain ⟨h0,h1⟩:=hct
 cases bk with
 | nil =>
  subst h1
  have hxs:xs=[]:=List.eq_nil_of_length_eq_zero h0
  subst hxs
  refine ⟨#[],0,fun _ _ h=>(by cases h),fun x hx=>?_⟩
  rcases hx with ⟨_,_,hv⟩ | ⟨b,cap,hb,_⟩
  ·exact ⟨_,V0,hv⟩
  ·rw[hm] at hb; cases hb
 | blk b cap =>
  obtain ⟨_,cs,h3,h4,h5,h6,h7⟩:=h1
  refine ⟨cs,et,fun b' cap' hb=>(by cases hb; exact h3),fun x hx=>?_⟩
  have hJ:g.J.le (g.J.with b cs):=JV.le_with (hok.own u b cap hm).2.2
  rcases hx with ⟨hb,_⟩ | ⟨b',cap',hb,hv⟩
  ·rw[hm] at hb; cases hb
  ·rw[hm] at hb; cases hb
   refine ⟨_,⟨some ⟨b,0,none⟩,cap,rfl,⟨by rw[h0]; exact hlen,by rw[h0]; exact h5⟩,.inr ⟨b,0,rfl,fun i x hx=>?_⟩⟩,by rw[h0]; exact hv⟩
   obtain ⟨ds,q1,q2⟩:=h7 i x hx
   refine ⟨ds,e.mono hJ q1,fun j v hj=>?_⟩
   show (g.J.with b cs) b (0+i*e.n+j)=some v
   unfold JV.with
   rw[if_pos rfl,Nat.zero_add]
   exact q2 j v hj
class FB (u len:Nat) (new:b8) (ks:List b8) (out:outParam (List b8)):Prop where
 hold:∀{g g':Gh} {vs:List Value},g.J.le g'.J->(∀t,t≠u->g'.M t=g.M t)->(∀v,q8 u len g v->new g' v)->o6 g ks vs->o6 g' out vs
instance {u len:Nat} {new:b8}:FB u len new [] []:=⟨fun {_ _ vs} _ _ _ h=>by cases vs<;>exact h⟩
instance (priority:=high) {u len:Nat} {new:b8} {ks out:List b8} [h:FB u len new ks out]:FB u len new (q8 u len::ks) (new::out):=⟨fun {_ _ vs} h1 h2 h3 hk=>by
 cases vs with
 | nil=>exact hk.elim
 | cons v vs=>exact ⟨h3 v hk.1,h.hold h1 h2 h3 hk.2⟩⟩
instance {u len:Nat} {new k:b8} {ks out:List b8} {d:List Nat} [hk:o4 k d] [hd:H5 d] [h:FB u len new ks out]:FB u len new (k::ks) (k::out):=⟨fun {_ _ vs} h1 h2 h3 hk'=>by
 cases vs with
 | nil=>exact hk'.elim
 | cons v vs=>exact ⟨hk.dep h1 (fun t ht=>by rw[hd.eq] at ht; cases ht) hk'.1,h.hold h1 h2 h3 hk'.2⟩⟩
theorem l4.frzC {n:Nat} {rd:Option Nat} {mrk:Bool} {om:List Nat} {w0:World} {J0:JV} {S:g9} {M M1 M':f0} {a:Act} {g:Gh} {w:World} (h:l4 ⟨w0,J0,[],n,rd,mrk,om⟩ S M a g w) {u v len:Nat} {α:Type} {zb:Bool} {et:TypeId} {e:i7 α} {xs:List α} {ks ks':List b8} {dep dep1 dep':List Nat}
  [hl:p8 M u (m9 zb et e xs len) dep] [hlv:p8 M v (j3 ks) dep1] [hf:FB u len (b7 (eL e) xs) ks ks'] [hd:A6 ks' dep'] [hup:A7 M v (j3 ks') dep' M1] [hdel:K3 M1 u M'] (hlen:len<=t6) (hnd:H9 u M'=true) (hds:s5 dep' (tags M')=true) :
  ∃g',l4 ⟨w0,J0,[],n,rd,mrk,om⟩ (inv u S) M' a g' w:=by
 obtain ⟨bk,hm,hct⟩:=h.conts _ hl.mem
 simp only at hm
 obtain ⟨cs,ty,hb,hrd⟩:=qZ h.ok hm hct hlen
 have hJ:=Gh.le_frz h.ok hm cs
 have hM:∀t,t≠u->(g.frz u bk cs).M t=g.M t:=fun t ht=>if_neg ht
 have hn1:(tags M1).Nodup:=by rw[hup.tags]; exact h.nodup
 obtain ⟨q1,q2,q3⟩:=hdel.mem hn1
 have htag:∀t,t∈tags M'↔t∈tags M/\t≠u:=fun t=>by rw[q3,hup.tags]
 have:=h.freezeG (M':=M') (ss:=[]) (k:=U3) (cs:=cs) (ty:=ty) hm hb htag q2 (fun x hx=>?_) inferInstance (fun _ h=>by cases h)
 ·exact ⟨_,this⟩
 obtain ⟨r1,r2⟩:=q1 x hx
 rcases hup.mem h.nodup x r1 with rfl | ⟨r3,r4⟩
 ·refine ⟨⟨_,hlv.mem,rfl,r2,fun b o _ ho=>?_⟩,inferInstance,A1 hds⟩
  obtain ⟨vs,vt,e1,e2⟩:=ho
  exact ⟨vs,vt,e1,hf.hold hJ hM hrd e2⟩
 ·refine ⟨⟨x,r3,rfl,r2,fun b o _ ho=>?_⟩,(h.cdep x r3).1,fun t ht=>(htag t).2 ⟨(h.cdep x r3).2 t ht,fun (e':t=u)=>HX hnd x hx (e'▸ht)⟩⟩
  exact (h.cdep x r3).1.dep (g:=g) hJ (fun t ht=>hM t (fun (e':t=u)=>HX hnd x hx (e'▸ht))) ho
def HC (S:g9) (u:Nat):List Nat->Prop
 | []=>True
 | s::r=>look S s=some (true,w6 u 0)/\HC S u r
theorem RY {S:g9} {u:Nat}:∀{ss:List Nat},HC S u ss->∀s∈ss,look S s=some (true,w6 u 0)
 | s::r,h,t,ht=>by
  rcases List.mem_cons.1 ht with rfl | ht
  ·exact h.1
  ·exact RY h.2 t ht
theorem l4.frzB {n:Nat} {rd:Option Nat} {mrk:Bool} {om:List Nat} {w0:World} {J0:JV} {S:g9} {M M':f0} {a:Act} {g:Gh} {w:World} (h:l4 ⟨w0,J0,[],n,rd,mrk,om⟩ S M a g w) {u:Nat} {α:Type} {e:i7 α} {x:α} {ks:List b8} {dep dep2:List Nat} {ss:List Nat} [hl:p8 M u (j3 ks) dep] [hr:v5 ks e x []] [hd:A6 ks dep2] [hdn:H5 dep2]
  (hss:HC S u ss) [hdel:K3 M u M'] (hnd:H9 u M=true):∃g',l4 ⟨w0,J0,[],n,rd,mrk,om⟩ (g9.setAll ss (r5 e x) (inv u S)) M' a g' w:=by
 obtain ⟨bk,hm,cs,ty,ho,hk⟩:=h.conts _ hl.mem
 simp only at hm
 cases bk with
 | nil=>cases ho
 | blk b cap =>
  refine ⟨_,h.freeze (cs:=cs) (ty:=ty) hm (fun b' cap' hb=>by cases hb; exact ho) hdel hnd inferInstance (fun s hs=>?_)⟩
  have hJ:g.J.le (g.J.with b cs):=JV.le_with (h.ok.own u b cap hm).2.2
  obtain ⟨b',cap',hb,hv⟩:=(h.slots s _ _ (RY hss s hs)).1 rfl
  rw[hm] at hb; cases hb
  have hk':=hd.dep (g:=g) (g':=g.frz u (.blk b cap) cs) hJ (fun t ht=>by rw[hdn.eq] at ht; cases ht) hk
  refine ⟨b,0,cs.toList,hv,v5.whole (h:=hr) hk',fun j v hj=>?_⟩
  show (g.J.with b cs) b (0+j)=some v
  unfold JV.with
  rw[if_pos rfl,Nat.zero_add]
  simpa using hj
section
variable {P:Program} {n:Nat} {rd:Option Nat} {mrk:Bool} {om:List Nat} {w0:World} {J0:JV} {S:g9} {M M1 M':f0} {Q:Exit->Act->World->Prop}
theorem Tr.frzC {code:Code} (u v:Nat) {len:Nat} {α:Type} {zb:Bool} {et:TypeId} {e:i7 α} {xs:List α} {ks ks':List b8} {dep dep1 dep':List Nat}
  [hl:p8 M u (m9 zb et e xs len) dep] [hlv:p8 M v (j3 ks) dep1] [hf:FB u len (b7 (eL e) xs) ks ks'] [hd:A6 ks' dep'] [hup:A7 M v (j3 ks') dep' M1] [hdel:K3 M1 u M'] (hlen:len<=t6) (hnd:H9 u M'=true) (hds:s5 dep' (tags M')=true)
  (K:Tr P ⟨w0,J0,[],n,rd,mrk,om⟩ (inv u S) M' code Q):Tr P ⟨w0,J0,[],n,rd,mrk,om⟩ S M code Q:=fun a _ w hs=>let ⟨g',hs'⟩:=hs.frzC (u:=u) (v:=v) hlen hnd hds; K a g' w hs'
theorem Tr.frzB {code:Code} (u:Nat) (ss:List Nat) {α:Type} (e:i7 α) {x:α} {ks:List b8} {dep dep2:List Nat} [hl:p8 M u (j3 ks) dep] [hr:v5 ks e x []] [hd:A6 ks dep2] [hdn:H5 dep2] (hss:HC S u ss) [hdel:K3 M u M'] (hnd:H9 u M=true)
  (K:Tr P ⟨w0,J0,[],n,rd,mrk,om⟩ (g9.setAll ss (r5 e x) (inv u S)) M' code Q):Tr P ⟨w0,J0,[],n,rd,mrk,om⟩ S M code Q:=fun a _ w hs=>let ⟨g',hs'⟩:=hs.frzB (u:=u) (e:=e) (x:=x) hss hnd; K a g' w hs'
end
end Go.Fl

/- More laws: whether a list's slice is nil; what is known but for a boolean. -/
namespace Go.Fl
open Go Go.RowKit
def UV (q:Bool->Prop):b8:=fun _ v=>∃b,v=.bool b/\q b
instance {q:Bool->Prop}:o4 (UV q) []:=⟨fun _ _ h=>h⟩
section
variable {P:Program} {c:l8} {S:g9} {M:f0} {Q:Exit->Act->World->Prop}
theorem Tr.exB {x:Code} {s:Nat} {q:Bool->Prop} (hl:look S s=some (true,UV q)) (K:∀b,q b->Tr P c (⟨s,true,[],kB b⟩::S) M x Q):Tr P c S M x Q:=fun a g w h=>by
 obtain ⟨b,h1,h2⟩:=(h.slots s _ _ hl).1 rfl
 refine K b h2 a g w ⟨h.ok,fun t b' k0 hl'=>?_,h.conts,h.dom,h.nodup,fun e he=>?_,h.cdep,h.defers,h.size⟩
 ·simp only[look] at hl'
  cases hb:Nat.beq s t with
  | true =>
   rw[hb] at hl'
   simp only[cond_true,Option.some.injEq,Prod.mk.injEq] at hl'
   obtain ⟨rfl,rfl⟩:=hl'
   rw[<- Nat.eq_of_beq_eq_true hb]
   exact ⟨fun _=>h1,fun hf=>by cases hf⟩
  | false =>
   rw[hb] at hl'
   exact h.slots t b' k0 hl'
 ·rcases List.mem_cons.1 he with rfl | he
  ·exact ⟨inferInstance,fun _ h=>by cases h⟩
  ·exact h.sdep e he
variable {p:Bool} {d:Option Tmp} {ty:TypeId} {pos:String} {af:Array Edge} {gd:Option (Nat×Bool)}
variable {x y:Operand} {b b':Bool}
theorem LB {t et t':TypeId} [ht:C5 P t et] {α:Type} {e:i7 α} {xs:List α} (hx:j1 S x=some (b,b7 (eL e) xs)) (hb:p=true->b=true) :
  l3 P c S M ⟨d,.binOp .eql t x (.const (.slice none 0 0)) t',ty,pos,af,gd⟩ p (UV (fun b=>b=true->xs=[])) none :=
 l3.pure fun hp a g w _ _ ho=>by
  obtain ⟨cs,h1,h2⟩:=ho x (by simp[Op.operands]) b _ hx (hb hp)
  obtain ⟨ad,cap,rfl,_,h4⟩:=h1
  have he:a.eval (.const (.slice none 0 0))=.slice none 0 0:=rfl
  have h2':a.eval x=.slice ad xs.length cap:=h2
  refine ⟨.bool ad.isNone,by simp only[execOp,h2',he,eqGuard_at_slice,Sem.run_bind,Sem.run_pure,Result.andThen_ok,Lib.run_eql_slice_nil w t et ad _ _ 0 0 ht.h],_,rfl,fun hn=>?_⟩
  rcases h4 with h4 | ⟨_,_,h4,_⟩
  ·exact h4
  ·subst h4; cases hn
end
end Go.Fl

/- More laws: array literals with their places told, a struct out of a struct of the call's own. -/
namespace Go.Fl
open Go Go.RowKit
class N7 (ks:List b8) (o n:Nat) (out:outParam (List b8)):Prop where
 eq:(ks.drop o).take n=out
 len:out.length=n
instance {ks:List b8}:N7 ks 0 0 []:=⟨by simp,rfl⟩
instance {k:b8} {ks out:List b8} {n:Nat} [h:N7 ks 0 n out]:N7 (k::ks) 0 (n+1) (k::out):=⟨by have:=h.eq; simp at this ⊢; exact this,by have:=h.len; simp[this]⟩
instance {k:b8} {ks out:List b8} {o n:Nat} [h:N7 ks o n out]:N7 (k::ks) (o+1) n out:=⟨by have:=h.eq; simpa using this,h.len⟩
theorem T5.imp {S:g9} {pl pl':Nat->Option (Nat×Nat)} (hp:∀i q,pl i=some q->pl' i=some q) {ps:List (Nat×Operand)} {ks out:List b8} (h:T5 S pl ps ks out):T5 S pl' ps ks out:=by
 induction h with
 | nil=>exact .nil
 | consG hx hb h1 hs rest ih=>exact .consG hx hb (hp _ _ h1) hs ih
def LD (sz:Nat):Nat->List (Nat×Nat)->Bool
 | _,[]=>true
 | i,q::r=>Nat.beq q.1 (i*sz)&&Nat.beq q.2 sz&&LD sz (i+1) r
theorem fR {sz:Nat}:∀{l:List (Nat×Nat)} {i j:Nat} {q:Nat×Nat},LD sz i l=true->l[j]?=some q->some ((i+j)*sz,sz)=some q
 | x::r,i,0,q,h,hj=>by
  simp only[LD,Bool.and_eq_true] at h
  simp at hj; subst hj
  have h1:=Nat.eq_of_beq_eq_true h.1.1
  have h2:=Nat.eq_of_beq_eq_true h.1.2
  obtain ⟨a,b⟩:=x
  simp only at h1 h2
  rw[h1,h2]; rfl
 | x::r,i,j+1,q,h,hj=>by
  simp only[LD,Bool.and_eq_true] at h
  have:=fR (j:=j) (q:=q) h.2 (by simpa using hj)
  rw[<- this,show i+(j+1)=i+1+j by omega]
section
variable {P:Program} {c:l8} {S:g9} {M:f0} {p:Bool} {d:Option Tmp} {ty:TypeId} {pos:String} {af:Array Edge} {gd:Option (Nat×Bool)}
variable {x y:Operand} {b b':Bool}
theorem uO {t et:TypeId} {n:Nat} [ht:BS P t n et] {sz by':Nat} {zz:Value} [hsz:q7 P et sz by' zz] {zs:List b8} [hz:F4 P t zs] (pl:List (Nat×Nat)) (hpl:LD sz 0 pl=true) {parts:List (Nat×Operand)} {ks:List b8} (h:p=true->T5 S (fun i=>pl[i]?) parts zs ks) :
  l3 P c S M ⟨d,.build t parts.toArray,ty,pos,af,gd⟩ p (G6 ks) none :=
 uN fun hp=>(h hp).imp fun i q hq=>by have:=fR hpl hq; rwa [Nat.zero_add] at this
theorem O6 {t:TypeId} [ht:D0 P t] {n by':Nat} {zz:Value} [hz:q7 P t n by' zz] {u o:Nat} {ks ks':List b8} {dep:List Nat} [hl:p8 M u (j3 ks) dep] (hx:j1 S x=some (b,w6 u o)) (hb:p=true->b=true) [hs:N7 ks o n ks'] :
  l3 P c S M ⟨d,.load t x,ty,pos,af,gd⟩ p (G6 ks') none:=uV hx hb hs.eq hs.len
variable {Q:Exit->Act->World->Prop}
theorem Tr.rwI {code:Code} {s:Nat} {k:IntKind} {u v:Int} (hl:look S s=some (true,y3 k u)) (he:u=v) (K:Tr P c (⟨s,true,[],y3 k v⟩::S) M code Q):Tr P c S M code Q :=
 Tr.re hl (fun _ _ h=>by subst he; exact h) rfl K
end
end Go.Fl

/- More laws: results that lie in a variable's cells; an array's element that is a struct. -/
namespace Go.Fl
open Go Go.RowKit
section
variable {P:Program}
theorem gU {t:TypeId} [ht:D0 P t] {n by':Nat} {z:Value} [hz:q7 P t n by' z] {w:World} {b o:Nat} {ds:List Value} (hl:ds.length=n) (h:∀j v,ds[j]?=some v->w.cell? ⟨b,o+j,none⟩=some v) :
  (loadVar t ⟨b,o,none⟩).run P w=.ok (.agg ds.toArray) w:=by
 obtain ⟨i,hi,rfl,_,_⟩:=hz.h
 have:=run_loadCells_list (P:=P) w ⟨b,o,none⟩ ds (fun j v hj=>by rw[Addr.add_lit]; exact h j v hj)
 rw[hl] at this
 simp[loadVar,ht.run,sizeOf,typeInfo,hi,this]
theorem wQ {fn:Func} {a ty:Nat} {ts:List Nat} (h:fn.results=(ResultVar.cell a ty::ts.map ResultVar.tmp).toArray) (hl:(Nat.blt 0 ts.length&&Nat.blt ts.length 5)=true) {tmps:Array Value} {w:World} {ad:Addr} {v:Value} (ha:tmps.getD a undef=.pointer (some ad)) (hr:(loadVar ty ad).run P w=.ok v w) :
  (results fn tmps).run P w=.ok (.tuple (v::ts.map fun t=>tmps.getD t undef).toArray) w:=by
 rw[Array.getD_eq_getD_getElem?] at ha
 have hs:(asAddr (tmps[a]?.getD undef)).run P w=.ok ad w:=by rw[ha]; rfl
 match ts,hl with
 | [b],_=>simp[results,h,hs,hr]
 | [b,c],_=>simp[results,h,hs,hr]
 | [b,c,d],_=>simp[results,h,hs,hr]
 | [b,c,d,e],_=>simp[results,h,hs,hr]
theorem WS {fn:Func} {a ty:Nat} (h:fn.results=#[.cell a ty]) {tmps:Array Value} {w:World} {ad:Addr} {v:Value} (ha:tmps.getD a undef=.pointer (some ad)) (hr:(loadVar ty ad).run P w=.ok v w) :
  (results fn tmps).run P w=.ok v w:=by
 rw[Array.getD_eq_getD_getElem?] at ha
 have hs:(asAddr (tmps[a]?.getD undef)).run P w=.ok ad w:=by rw[ha]; rfl
 simp[results,h,hs,hr]
variable {n0:Nat} {w0:World} {J0:JV} {S:g9} {M:f0} {fn:Func}
theorem JY {a u o n by':Nat} {ty:TypeId} {zz:Value} {kc kc':List b8} {dep:List Nat} [hlk:p8 M u (j3 kc) dep] [ht:D0 P ty] [hz:q7 P ty n by' zz] [hs:N7 kc o n kc'] (hx:look S a=some (true,w6 u o)) {act:Act} {g:Gh} {w:World} (h:l4 ⟨w0,J0,[],n0,none,false,[]⟩ S M act g w) :
  ∃ad v,act.tmps.getD a undef=.pointer (some ad)/\(loadVar ty ad).run P w=.ok v w/\G6 kc' g v:=by
 obtain ⟨bl,cap,h1,h2⟩:=(h.slots a _ _ hx).1 rfl
 obtain ⟨cs,ty',h3,h4⟩:=BT (ks:=kc) h.conts h1
 have h5:=FH o n h4
 rw[hs.eq] at h5
 refine ⟨_,.agg ((cs.toList.drop o).take n).toArray,h2,gU (P:=P) (t:=ty) (w:=w) (b:=bl) (o:=o) (ds:=(cs.toList.drop o).take n) ((I2 h5).trans hs.len) (fun j v hj=>?_),_,rfl,h5⟩
 refine J6 h3 ?_
 rw[List.getElem?_take] at hj
 split at hj
 ·rw[List.getElem?_drop] at hj; simpa using hj
 ·cases hj
theorem d9.resC1 {a u o n by':Nat} {ty:TypeId} {zz:Value} {kc kc':List b8} {dep:List Nat} [hlk:p8 M u (j3 kc) dep] [ht:D0 P ty] [hz:q7 P ty n by' zz] [hs:N7 kc o n kc'] {k:b8} (hr:fn.results=#[.cell a ty]) (hx:look S a=some (true,w6 u o))
  (hc:∀(g:Gh) (v:Value),G6 kc' g v->k ⟨g.J,w4⟩ v):d9 ⟨w0,J0,[],n0,none,false,[]⟩ S M (bodyPost P fn (Y9 w0 J0 k)):=by
 intro act g w hst
 obtain ⟨ad,v,h1,h2,h3⟩:=JY (ty:=ty) (P:=P) hx hst
 exact ⟨hst.defers.1,_,WS hr h1 h2,_,g.J,rfl,⟨hst.ok.bel.os,hst.ok.bel.tape,hst.ok.bel.output,hst.ok.bel.size,fun k hk=>hst.ok.bel.block k hk (by simp),hst.ok.bel.drawn⟩,hst.ok.jle,hst.ok.jold,hst.ok.im,hc _ _ h3⟩
theorem d9.resC {a u o n by':Nat} {ty:TypeId} {zz:Value} {kc kc':List b8} {dep:List Nat} [hlk:p8 M u (j3 kc) dep] [ht:D0 P ty] [hz:q7 P ty n by' zz] [hs:N7 kc o n kc'] {k:b8} {ts:List Nat} {ks:List b8} (hr:fn.results=(ResultVar.cell a ty::ts.map ResultVar.tmp).toArray) (hl:(Nat.blt 0 ts.length&&Nat.blt ts.length 5)=true) (hx:look S a=some (true,w6 u o))
  (hc:∀(g:Gh) (v:Value),G6 kc' g v->k ⟨g.J,w4⟩ v) (h:C8 S ts ks):d9 ⟨w0,J0,[],n0,none,false,[]⟩ S M (bodyPost P fn (Y9 w0 J0 (y4 (k::ks)))):=by
 intro act g w hst
 obtain ⟨ad,v,h1,h2,h3⟩:=JY (ty:=ty) (P:=P) hx hst
 exact ⟨hst.defers.1,_,wQ hr hl h1 h2,_,g.J,rfl,⟨hst.ok.bel.os,hst.ok.bel.tape,hst.ok.bel.output,hst.ok.bel.size,fun k hk=>hst.ok.bel.block k hk (by simp),hst.ok.bel.drawn⟩,hst.ok.jle,hst.ok.jold,hst.ok.im,_,rfl,hc _ _ h3,h.holds hst.slots⟩
theorem u8 {kc:List b8} {α:Type} {e:i7 α} {x y:α} [hr:v5 kc e x []] (ha:e.agg=true) (he:x=y) (g:Gh) (v:Value) (h:G6 kc g v):b7 e y ⟨g.J,w4⟩ v:=by
 obtain ⟨cs,h1,h2⟩:=h
 subst he
 exact ⟨cs,v5.whole (h:=hr) (g:=g) h2,by rw[ha]; exact h1⟩
variable {c:l8} {p:Bool} {d:Option Tmp} {ty:TypeId} {pos:String} {af:Array Edge} {gd:Option (Nat×Bool)}
variable {x y:Operand} {b b':Bool}
theorem uT {t et:TypeId} {n:Nat} [ht:BS P t n et] {sz by':Nat} {zz:Value} [hz:q7 P et sz by' zz] [hag:D0 P et] {α:Type} [Inhabited α] (e:i7 α) {ks:List b8} {xs:List α} [hr:YA ks e xs] {ik:IntKind} {i:Nat}
  (hx:j1 S x=some (b,G6 ks)) (hb:p=true->b=true) (hy:j1 S y=some (b',y3 ik (i:Int))) (hb':p=true->b'=true) (ha:e.agg=true) (hs:sz=e.n) (hn:ks.length=n*sz) (h:p=true->i<n/\i<xs.length) :
  l3 P c S M ⟨d,.index t x y,ty,pos,af,gd⟩ p (b7 e (b6 xs i)) none :=
 l3.pure fun hp a g w _ _ ho=>by
  obtain ⟨cs,h1,h2⟩:=ho x (by simp[Op.operands]) b _ hx (hb hp)
  have h3:a.eval y=_:=ho y (by simp[Op.operands]) b' _ hy (hb' hp)
  obtain ⟨hlt,hlx⟩:=h hp
  obtain ⟨ds,k1,k2⟩:=hr.imp h2 i _ (G0 hlx)
  obtain ⟨ti,hi,rfl,_,_⟩:=hz.h
  have hl:=e.len k1
  have hcl:=I2 h2
  have hsub:(cs.drop (i*ti.size)).take ti.size=ds:=by
   refine List.ext_getElem? fun j=>?_
   rw[List.getElem?_take]
   by_cases hj:j<ti.size
   ·rw[if_pos hj,List.getElem?_drop]
    have:j<ds.length:=by omega
    rw[List.getElem?_eq_getElem this,hs]
    exact k2 j _ (List.getElem?_eq_getElem this)
   ·rw[if_neg hj,List.getElem?_eq_none zo]
  have hle:i*ti.size+ti.size<=cs.length:=by
   rw[hcl,hn,<- Nat.succ_mul]; exact Nat.mul_le_mul_right _ hlt
  refine ⟨.agg ds.toArray,?_,ds,k1,by rw[ha]; rfl⟩
  have hpart:(cs.toArray.extract (i*ti.size) (i*ti.size+ti.size))=ds.toArray:=by
   rw[<- hsub]
   apply Array.ext'
   simp[List.take_drop,Nat.add_comm]
  simp[execOp,h1,h3,Instr.index,asIntOf,run_underlying ht.h,hlt,sizeOf,typeInfo,hi,part,hag.run]
  simpa [hs] using hpart
end
end Go.Fl

/- Maps of the call's own; functions that return a thing of their own. -/
namespace Go.Fl
open Go Go.RowKit
instance {ks ls:List b8} {d e:List Nat} [h1:A6 ks d] [h2:A6 ls e]:A6 (ks++ls) (d++e):=⟨fun {g g' vs} hl hd hk=>by
 have:∀(ks:List b8) (vs:List Value),(∀us,o6 g ks us->o6 g' ks us)->o6 g (ks++ls) vs->o6 g' (ks++ls) vs:=by
  intro ks
  induction ks with
  | nil=>intro vs _ h; exact h2.dep hl (fun t ht=>hd t (List.mem_append.2 (.inr ht))) h
  | cons k ks ih =>
   intro vs hk h
   cases vs with
   | nil=>exact h.elim
   | cons v vs =>
    have hlen:∀(ks:List b8) (vs:List Value),o6 g (ks++ls) vs->∃us,o6 g ks us:=by
     intro ks
     induction ks with
     | nil=>intro vs _; exact ⟨[],trivial⟩
     | cons k ks ih=>intro vs h; cases vs with | nil=>exact h.elim | cons v vs=>obtain ⟨us,hu⟩:=ih vs h.2; exact ⟨v::us,h.1,hu⟩
    obtain ⟨us,hu⟩:=hlen ks vs h.2
    exact ⟨(hk (v::us) ⟨h.1,hu⟩).1,ih vs (fun us hu=>(hk (v::us) ⟨h.1,hu⟩).2) h.2⟩
 exact this ks vs (fun us hu=>h1.dep hl (fun t ht=>hd t (List.mem_append.2 (.inl ht))) hu) hk⟩
section
variable {P:Program} {c:l8} {ops:Array Oper} {S:g9} {M:f0} {rest:List Oper} {Q:Exit->Act->World->Prop}
variable {p:Bool} {d:Option Tmp} {ty:TypeId} {pos:String} {af:Array Edge} {gd:Option (Nat×Bool)}
variable {x y z:Operand} {b b':Bool}
end

def LX (w:World) (J:JV) (res:Nat->b8) (ct:s9):Ending->World->Prop:=fun e w'=>∃r J' bk,e=.returned r/\Below w.heap.size w w'/\J.le J'/\(∀b o,b<w.heap.size->J' b o=J b o)/\Im J' w' /\
 (∀b cap,bk=.blk b cap->w.heap.size<=b/\b<w'.heap.size/\∀o,J' b o=none)/\ct ⟨J',w4⟩ bk (World.objAt w' bk)/\∀t,res t ⟨J',fun u=>if u=t then some bk else none⟩ r
def R5 (P:Program) (f:FuncId) (args:List b8) (res:Nat->b8) (ct:s9):Prop:=∀w J,Im J w->∀vs,o6 ⟨J,w4⟩ args vs->Calls P f vs.toArray w (LX w J res ct)
section
variable {P:Program} {c:l8} {S:g9} {M:f0} {p:Bool} {d:Option Tmp} {ty:TypeId} {pos:String} {af:Array Edge} {gd:Option (Nat×Bool)}
theorem DD {f:FuncId} [hf:d8 P f] {args:List Operand} {tys:Array TypeId} {ks:List b8} {res:Nat->b8} {ct:s9} (u:Nat) (hct:p=true->R5 P f ks res ct) (ha:D8 S p args ks) [hk:o4 (res u) [u]] [hd:z7 ct []] :
  l3 P c S M ⟨d,.call { callee:=.value (.func f),args:=args.toArray,argTypes:=tys },ty,pos,af,gd⟩ p (res u) (some ⟨u,[],ct⟩):=by
 intro hp a g w hok hc ho hfr
 have hf':=hfr _ rfl
 have hargs:=ha.eval (g:=g) (ρ:=a.eval) hp (fun y hy b k hk hb=>ho y (by simp[Op.operands,Call.operands,hy]) b k hk hb)
 have hr:=hct hp w g.J hok.im _ hargs
 unfold Oper.wp
 simp only[execOp,resolve,Act.eval,Deferred.ofValue,Sem.run_bind,Sem.run_pure,Result.andThen_ok,invoke,List.map_toArray,Array.append_empty,Array.empty_append]
 rw[hf.run]
 simp only[Oper.upon]
 refine hr.mono fun e w' he=>?_
 obtain ⟨r,J',bk,rfl,hbel,hJ,hold,him,n3,n4,n5⟩:=he
 refine ⟨r,⟨J',(g.add u bk).M⟩,rfl,?_⟩
 have hadd:∀t,(g.add u bk).M t=if t=u then some bk else g.M t:=fun t=>rfl
 refine ⟨?_,⟨hJ,fun t b hb=>?_⟩,⟨hok.bel.then hbel,JV.le_trans hok.jle hJ,fun b o hb=>?_,him,fun t b cap' ht=>?_,fun t t' b c1 c2 h1 h2=>?_⟩,hbel,fun e he=>?_,fun t ht=>?_⟩
 ·exact hk.dep (g:=⟨J',fun q=>if q=u then some bk else none⟩) (JV.le_refl _) (fun t ht=>by simp at ht; subst ht; simp[hadd]) (n5 u)
 ·rw[hadd]
  by_cases e:t=u
  ·subst e; rw[hf'] at hb; cases hb
  ·rw[if_neg e]; exact hb
 ·show J' b o=c.J0 b o
  rw[hold b o (Nat.lt_of_lt_of_le hb hok.bel.size)]; exact hok.jold b o hb
 ·rw[hadd] at ht
  by_cases e:t=u
  ·rw[if_pos e] at ht; cases ht
   obtain ⟨n1,n2,n3⟩:=n3 _ _ rfl
   exact ⟨.inl (Nat.le_trans hok.bel.size n1),n2,n3⟩
  ·rw[if_neg e] at ht
   obtain ⟨h1,h2,h3⟩:=hok.own t b cap' ht
   exact ⟨h1,Nat.lt_of_lt_of_le h2 hbel.size,fun o=>by show J' b o=none; rw[hold b o h2]; exact h3 o⟩
 ·rw[hadd] at h1 h2
  by_cases e:t=u
  ·rw[if_pos e] at h1; cases h1
   obtain ⟨n1,n2,n3⟩:=n3 _ _ rfl
   by_cases e':t'=u
   ·rw[e,e']
   ·rw[if_neg e'] at h2
    have:=(hok.own _ _ _ h2).2.1
    omega
  ·rw[if_neg e] at h1
   by_cases e':t'=u
   ·rw[if_pos e'] at h2; cases h2
    obtain ⟨n1,n2,n3⟩:=n3 _ _ rfl
    have:=(hok.own _ _ _ h1).2.1
    omega
   ·rw[if_neg e'] at h2
    exact hok.inj _ _ _ _ _ h1 h2
 ·cases he
  exact ⟨_,by rw[hadd,if_pos rfl],hd.dep (g:=⟨J',w4⟩) (JV.le_refl _) (fun _ h=>by cases h) n4⟩
 ·rw[hadd,if_neg (fun e=>ht _ rfl e.symm)]
variable {n0:Nat} {w0:World} {J0:JV} {fn:Func}
theorem d9.resN {t u:Nat} {res:Nat->b8} {k:b8} {ct ct':s9} {dep:List Nat} [hlk:p8 M u ct' dep] [H5 dep] (hr:fn.results=#[.tmp t]) (hl:look S t=some (true,k)) (hv:∀g bk o,ct' g bk o->ct g bk o) (hc:∀(g:Gh) (v:Value) (bk:Bk),g.M u=some bk->k g v->∀t,res t ⟨g.J,fun q=>if q=t then some bk else none⟩ v) (hcd:z7 ct []) :
  d9 ⟨w0,J0,[],n0,none,false,[]⟩ S M (bodyPost P fn (LX w0 J0 res ct)):=by
 intro a g w hs
 obtain ⟨bk,h1,h2⟩:=hs.conts _ hlk.mem
 simp only at h1 h2
 refine ⟨hs.defers.1,_,results_tmp hr _ _ _,_,g.J,bk,rfl,⟨hs.ok.bel.os,hs.ok.bel.tape,hs.ok.bel.output,hs.ok.bel.size,fun k hk=>hs.ok.bel.block k hk (by simp),hs.ok.bel.drawn⟩,hs.ok.jle,hs.ok.jold,hs.ok.im,?_,hcd.dep (g:=g) (JV.le_refl _) (fun _ h=>by cases h) (hv _ _ _ h2),fun q=>hc g _ bk h1 ((hs.slots t _ _ hl).1 rfl) q⟩
 rintro b cap rfl
 obtain ⟨o1,o2,o3⟩:=hs.ok.own _ _ _ h1
 refine ⟨?_,o2,o3⟩
 rcases o1 with o1 | o1
 ·exact o1
 ·cases o1
theorem FK {α:Type} {z:Bool} {ty:TypeId} {e:i7 α} {xs ys:List α} {l l':Nat} (hx:xs=ys) (hl:l=l') (g:Gh) (bk:Bk) (o:Option Obj) (h:m9 z ty e xs l g bk o):m9 false ty e ys l' g bk o:=by
 subst hx hl
 refine ⟨h.1,?_⟩
 have h2:=h.2
 cases bk with
 | nil=>exact h2
 | blk b cap=>exact ⟨fun h=>(by cases h),h2.2⟩
theorem FY {u l l':Nat} (e:l=l') (g:Gh) (v:Value) (bk:Bk) (hm:g.M u=some bk) (h:q8 u l g v) (t:Nat):q8 t l' ⟨g.J,fun q=>if q=t then some bk else none⟩ v:=by
 subst e
 rcases h with ⟨h1,h2⟩ | ⟨b,cap,h1,h2⟩
 ·rw[hm] at h1; cases h1
  exact .inl ⟨by simp,h2⟩
 ·rw[hm] at h1; cases h1
  exact .inr ⟨b,cap,by simp,h2⟩
theorem R5.mk {f:FuncId} {fn:Func} {code:Code} {args:List b8} {res:Nat->b8} {ct:s9} {n:Nat} (hf:P.funcs[f]?=some fn) (hb:fn.body=some code) (hn:fn.ntmps=n) (hl:Nat.ble args.length n=true) [hj:V5 args]
  (h:∀w J,Tr P ⟨w,J,[],n,none,false,[]⟩ (params 0 args) [] code (bodyPost P fn (LX w J res ct))):R5 P f args res ct:=by
 intro w J him vs hvs
 have hlen:=I2 hvs
 have hle:args.length<=n:=Nat.le_of_ble_eq_true hl
 refine calls_of_wp hf hb<|wpIn_wide.1 (h w J _ ⟨J,w4⟩ w ⟨⟨⟨rfl,rfl,rfl,Nat.le_refl _,fun _ _ _=>rfl,Nat.le_refl _⟩,JV.le_refl _,fun _ _ _=>rfl,him,fun _ _ _ h=>(by cases h),fun _ _ _ _ _ h=>(by cases h)⟩,?_,fun _ h=>(by cases h),fun _ h=>absurd rfl h,List.nodup_nil,?_,fun _ h=>(by cases h),⟨rfl,fun _ h=>(by cases h)⟩,?_⟩)
 ·intro t b k hk
  obtain ⟨_,rfl,v,hv,hkv⟩:=GC hvs hk
  refine ⟨fun _=>?_,fun hf=>(by cases hf)⟩
  have ht:t<vs.length:=(List.getElem?_eq_some_iff.1 (by simpa using hv)).1
  have:(vs.toArray++Array.replicate (fn.ntmps-vs.toArray.size) undef).getD t undef=v:=by
   rw[Array.getD_eq_getD_getElem?,Array.getElem?_append_left (by simpa using ht)]
   simp only[List.getElem?_toArray]
   rw[show vs[t]?=some v by simpa using hv]
   rfl
  rw[this]; exact hkv
 ·intro e he
  obtain ⟨h1,h2⟩:=GB hj.all he
  exact ⟨h1,fun t ht=>by rw[h2] at ht; cases ht⟩
 ·simp only[Array.size_append,List.size_toArray,Array.size_replicate]; omega
end
end Go.Fl

/- More laws: strings, booleans, contracts out of the kit's own. -/
namespace Go.Fl
open Go Go.RowKit
theorem gS {P:Program} {t:TypeId} (w:World) (h:P.underlying t=some .bool) (a b:Bool):(Op.equalIn Op.maxDepth t (.bool a) (.bool b)).run P w=.ok (a==b) w:=by
 have:∀d,(Op.equalIn (d+1) t (.bool a) (.bool b)).run P w=.ok (a==b) w:=fun d=>by
  unfold Op.equalIn
  simp[run_underlying h]
 exact this 9999
class RN (P:Program) (t:TypeId):Prop where
 h:P.underlying t=some .bool
section
variable {P:Program} {c:l8} {S:g9} {M:f0} {p:Bool} {d:Option Tmp} {ty:TypeId} {pos:String} {af:Array Edge} {gd:Option (Nat×Bool)}
variable {x y:Operand} {b b':Bool}
theorem uQ {t t':TypeId} [ht:RN P t] {m n:Bool} (hx:j1 S x=some (b,kB m)) (hb:p=true->b=true) (hy:j1 S y=some (b',kB n)) (hb':p=true->b'=true) :
  l3 P c S M ⟨d,.binOp .eql t x y t',ty,pos,af,gd⟩ p (kB (decide (m=n))) none :=
 X4 (fun w=>by have hq:=fun w a b=>gS (P:=P) w ht.h a b; cases m<;>cases n<;>simp[binOp,Op.equal,hq,go_sem]) hx hb hy hb'
theorem PK {t t':TypeId} [ht:RN P t] {m n:Bool} (hx:j1 S x=some (b,kB m)) (hb:p=true->b=true) (hy:j1 S y=some (b',kB n)) (hb':p=true->b'=true) :
  l3 P c S M ⟨d,.binOp .neq t x y t',ty,pos,af,gd⟩ p (kB (decide (m≠n))) none :=
 X4 (fun w=>by have hq:=fun w a b=>gS (P:=P) w ht.h a b; cases m<;>cases n<;>simp[binOp,Op.equal,hq,go_sem]) hx hb hy hb'
end
end Go.Fl

/- A region that draws its order and stores: the store may come while operations are still to come that do not look at what is stored. -/
namespace Go.Fl
open Go Go.RowKit
structure DV (u:Nat) (ct':s9) (g:Gh) (w w':World):Prop where
 drawn:dz w.drawn<=dz w'.drawn
 ex:∃b cap ob,g.M u=some (.blk b cap)/\w'.os=w.os/\w'.tape=w.tape/\w'.output=w.output/\w'.heap.size=w.heap.size/\(∀k,k≠b->w'.heap[k]?=w.heap[k]?)/\w'.heap[b]?=some ob/\ct' g (.blk b cap) (some ob)/\w.heap[b]?≠some (Obj.deferred (some []))
theorem DV.ok {u:Nat} {ct':s9} {c:l8} {g:Gh} {w w':World} (h:DV u ct' g w w') (ok:Ok c g w):Ok c g w':=by
 obtain ⟨b,cap,ob,hm,h1,h2,h3,h4,hother,_,_⟩:=h.ex
 obtain ⟨hob,hlt,hJ⟩:=ok.own u b cap hm
 refine ⟨⟨h1.trans ok.bel.os,h2.trans ok.bel.tape,h3.trans ok.bel.output,by rw[h4]; exact ok.bel.size,fun k hk hnb=>?_,Nat.le_trans ok.bel.drawn h.drawn⟩,ok.jle,ok.jold,fun b' o v hv=>?_,fun t b' cap' ht=>?_,ok.inj⟩
 ·rw[hother k (fun e=>by subst e; rcases hob with h1 | h1; omega; exact hnb h1)]
  exact ok.bel.block k hk hnb
 ·have:=ok.im b' o v hv
  rw[World.cell?_of_block (w:=w) (hother b' (fun e=>by subst e; rw[hJ o] at hv; cases hv))]
  exact this
 ·obtain ⟨h1,h2,h3⟩:=ok.own t b' cap' ht
  exact ⟨h1,by rw[h4]; exact h2,h3⟩
theorem DV.marks {u:Nat} {ct':s9} {g:Gh} {w w':World} (h:DV u ct' g w w') {m:Bool} {B:Nat} {om:List Nat} {ds:List Deferred} (hm:N6 m B om ds w):N6 m B om ds w':=by
 obtain ⟨b,cap,ob,_,_,_,_,_,hother,_,_,hnm⟩:=h.ex
 exact hm.on fun D hD=>hother D (fun e=>by subst e; exact hnm hD)
theorem DV.other {u:Nat} {ct':s9} {c:l8} {g:Gh} {w w':World} (h:DV u ct' g w w') (ok:Ok c g w) {t:Nat} (hne:t≠u) {bk:Bk} (hb:g.M t=some bk):World.objAt w' bk=World.objAt w bk:=by
 obtain ⟨b,cap,ob,hm,_,_,_,_,hother,_,_⟩:=h.ex
 cases bk with
 | nil=>rfl
 | blk b' cap'=>exact hother b' (fun e'=>by subst e'; exact hne (ok.inj _ _ _ _ _ hb hm))
def JO (P:Program) (c:l8) (S:g9) (M:f0) (o:Oper) (u:Nat) (ct':s9):Prop :=
 ∀(a:Act) (g:Gh) (w:World),Ok c g w->D9 M g w->FC S o a g->o.wp P a w (fun a' w'=>a'=a/\DV u ct' g w w') (fun _ _ _=>False)
theorem A7.tag {M M':f0} {u:Nat} {ct':s9} {dep':List Nat} (h:A7 M u ct' dep' M'):u∈Fl.tags M:=by
 obtain ⟨pre,post,ct,dep,h1,_⟩:=h.eq
 subst h1
 simp[Fl.tags]
theorem A7.new {M M':f0} {u:Nat} {ct':s9} {dep':List Nat} (h:A7 M u ct' dep' M'):⟨u,dep',ct'⟩∈M':=by
 obtain ⟨pre,post,ct,dep,_,h2⟩:=h.eq
 subst h2
 simp
section
variable {P:Program} {c:l8} {Q:Exit->Act->World->Prop} {l:List Oper} {m:Nat} {S:g9} {M Mx:f0} {MI:Nat->f0} {rs:List A3} {a0:Act} {g0:Gh} {w1:World}
structure AK (l:List Oper) (c:l8) (M Mx:f0) (rs:List A3) (a0:Act) (g0:Gh) (listed:Array Bool) (a:Act) (g:Gh) (w:World):Prop where
 sz:listed.size=l.length
 ok:Ok c g w
 le:g0.le g
 cM:D9 Mx g w
 clo:DP l listed
 low:∀i,Ld listed i->i<=rs.length
 defers:N6 c.mrk c.w0.heap.size c.om a.defers w
 size:a.tmps.size=c.n
 base:∀t,(∀i r,Ld listed i->rs[i]?=some r->r.d≠t)->a.tmps.getD t undef=a0.tmps.getD t undef
 cur:∀i r,rs[i]?=some r->Ld listed i->(∀i' r',i<i'->Ld listed i'->rs[i']?=some r'->r'.d≠r.d)->P8 g (a.tmps.getD r.d undef) r.p r.k
 made:∀i r e,Ld listed i->rs[i]?=some r->r.new=some e->∃b,g.M e.t=some b/\e.c g b (World.objAt w b)
 dom:∀t,g.M t≠none->g0.M t≠none\/∃(i:Nat) (r:A3) (e:CE),Ld listed i/\rs[i]?=some r/\r.new=some e/\e.t=t
theorem AK.look (hst:∀i r o,rs[i]?=some r->l[i]?=some o->Q3 P c l.toArray (MI i) (sl S (rs.take i)) (cl M (rs.take i)) o r) (hml:rs.length<=l.length) (hd:GS l m)
  (hs:l4 c S M a0 g0 w1) {listed:Array Bool} {a:Act} {g:Gh} {w:World} (h:AK l c M Mx rs a0 g0 listed a g w) {i:Nat} {o:Oper} (ho:l[i]?=some o) (hnl:¬Ld listed i) (hr:∀e∈o.after.toList,Region.binds .any e=true->Ld listed e.on) :
  ∀t,t∈o.looksAt l.toArray->∀b k,look (sl S (rs.take i)) t=some (b,k)->P8 g (a.tmps.getD t undef) b k:=by
 have hdst:∀(j:Nat) (r':A3) (o':Oper),rs[j]?=some r'->l[j]?=some o'->o'.dst=some r'.d:=fun j r' o' h1 h2=>(hst j r' o' h1 h2).dst
 have hop:∀j,j<rs.length->∃o',l[j]?=some o':=fun j hj=>⟨_,List.getElem?_eq_getElem zo⟩
 intro t ht b k hl
 have hlate:∀(i':Nat) (r':A3),i<i'->Ld listed i'->rs[i']?=some r'->r'.d≠t:=fun i' r' hii hli hr' hdt=>by
  obtain ⟨o',ho'⟩:=hop i' (List.getElem?_eq_some_iff.1 hr').1
  rcases hd.pair i i' o o' hii ho ho' with hp | ⟨_,hp⟩
  ·exact hnl (h.clo i' i hli hp)
  ·exact hp t (by rw[hdst i' r' o' hr' ho',hdt]) ht
 rcases QJ _ hl with ⟨h1,h2⟩ | ⟨j,r',h1,h2,h3,h4,h5⟩
 ·have hb:=h.base t (fun i' r' hli hr' hdt=>by
   rcases Nat.lt_trichotomy i' i with hlt | rfl | hlt
   ·exact h2 r' (List.mem_iff_getElem?.2 ⟨i',by rw[List.getElem?_take,if_pos hlt]; exact hr'⟩) hdt
   ·exact hnl hli
   ·exact hlate i' r' hlt hli hr' hdt)
  rw[hb]
  obtain ⟨e,he,_,_,rfl⟩:=CY h1
  exact (hs.slots t b _ h1).on h.le (hs.sdep e he).1 (fun u hu=>by obtain ⟨x,hx⟩:=hs.conts.tag ((hs.sdep e he).2 u hu); rw[hx]; simp)
 ·rw[List.getElem?_take] at h1
  split at h1
  case isFalse=>cases h1
  rename_i hji
  subst h2 h3 h4
  obtain ⟨oj,hoj⟩:=hop j (List.getElem?_eq_some_iff.1 h1).1
  have hjl:Ld listed j:=by
   rcases hd.pair j i oj o hji hoj ho with hp | ⟨hp,_⟩
   ·exact h.clo.ready ho hr hp
   ·exact absurd ht (hp _ (hdst j r' oj h1 hoj)).1
  refine h.cur j r' h1 hjl (fun i' r'' hlt hli hr'' hdt=>?_)
  rcases Nat.lt_trichotomy i' i with hlt' | rfl | hlt'
  ·exact h5 i' r'' hlt (by rw[List.getElem?_take,if_pos hlt']; exact hr'') hdt
  ·exact hnl hli
  ·exact hlate i' r'' hlt' hli hr'' hdt
theorem AK.step (hst:∀i r o,rs[i]?=some r->l[i]?=some o->Q3 P c l.toArray (MI i) (sl S (rs.take i)) (cl M (rs.take i)) o r) (hMt:∀i t,t∈tags (MI i)↔t∈tags M) (hxt:∀t,t∈tags M->t∈tags Mx) (hxd:GQ Mx Mx) (hml:rs.length<=l.length) (hd:GS l m) (hnews:JL M rs)
  (hs:l4 c S M a0 g0 w1) {listed:Array Bool} {a:Act} {g:Gh} {w:World} (h:AK l c M Mx rs a0 g0 listed a g w) {i:Nat} (hi:i∈Region.ready .any l.toArray listed) (him:i<rs.length) (hMi:D9 (MI i) g w) {K:Act->World->Prop}
  (hK:∀a' g' w',AK l c M Mx rs a0 g0 (listed.setIfInBounds i true) a' g' w'->K a' w'):wpOp P l.toArray Q i K a w:=by
 obtain ⟨hnl,o,ho,hr⟩:=(ER h.sz).1 hi
 have hil:=(List.getElem?_eq_some_iff.1 ho).1
 have hilst:i<listed.size:=by rw[h.sz]; exact hil
 have hri:=List.getElem?_eq_getElem (l:=rs) (i:=i) zo
 generalize rs[i]=r at hri
 have st:=hst i r o hri ho
 have hcM:D9 Mx g w:=h.cM
 have hdst:∀(j:Nat) (r':A3) (o':Oper),rs[j]?=some r'->l[j]?=some o'->o'.dst=some r'.d:=fun j r' o' h1 h2=>(hst j r' o' h1 h2).dst
 have hop:∀j,j<rs.length->∃o',l[j]?=some o':=fun j hj=>⟨_,List.getElem?_eq_getElem zo⟩
 have hlook:=h.look hst hml hd hs ho hnl hr
 have hops:FC (sl S (rs.take i)) o a g:=by
  intro x hx b k hxk hb
  cases x with
  | tmp t=>exact (hlook t (List.mem_append.2 (.inl (List.mem_filterMap.2 ⟨.tmp t,by simpa using hx,rfl⟩))) b k hxk).1 hb
  | const v=>cases hxk; rfl
  | global v=>cases hxk; rfl
  | func v=>cases hxk; rfl
 have hfresh:∀e,r.new=some e->g.M e.t=none:=fun e he=>by
  cases hg:g.M e.t with
  | none=>rfl
  | some b =>
   rcases h.dom e.t (by rw[hg]; simp) with h1 | ⟨j,r',e',hj,hr',he',ht⟩
   ·exact absurd (hs.dom _ h1) (hnews.fresh i r e hri he)
   ·have:=hnews.uniq j i r' r e' e hr' hri he' he ht
    subst this
    exact absurd hj hnl
 have hlt:=st.lt
 have next:∀{v:Value} {g':Gh} {w':World},P8 g' v r.p r.k->g.le g'->Ok c g' w'->Below w.heap.size w w'->(∀e,r.new=some e->∃b,g'.M e.t=some b/\e.c g' b (World.objAt w' b))->(∀t,(∀e,r.new=some e->e.t≠t)->g'.M t=g.M t) ->
   AK l c M Mx rs a0 g0 (listed.setIfInBounds i true) (a.put o.dst v) g' w':=by
  intro v g' w' hk hle hok hbel hmade hold
  rw[st.dst]
  have hsz:r.d<a.tmps.size:=by rw[h.size]; exact hlt
  refine ⟨by simpa using h.sz,hok,Gh.le_trans h.le hle,?_,h.clo.set hilst ho hr,fun j hj=>?_,h.defers.below hbel,by simp[Act.put,h.size],fun t ht=>?_,fun j r' hr' hj hlat=>?_,fun j r' e hj hr' he=>?_,fun t ht=>?_⟩
  ·exact h.cM.on h.cM hxd h.ok hle hbel
  ·rw[Ld.set hilst] at hj
   rcases hj with rfl | hj
   ·omega
   ·exact h.low j hj
  ·have hne:r.d≠t:=ht i r ((Ld.set hilst).2 (.inl rfl)) hri
   rw[KI hne]
   exact h.base t (fun j r' hj hr'=>ht j r' ((Ld.set hilst).2 (.inr hj)) hr')
  ·rw[Ld.set hilst] at hj
   by_cases hdd:r.d=r'.d
   ·rcases hj with rfl | hj
    ·rw[hri] at hr'; cases hr'
     rw[UE hsz]; exact hk
    ·-- an elder writer of the same slot: it is not the last one
     rcases Nat.lt_trichotomy j i with hlt' | rfl | hlt'
     ·exact absurd hdd (hlat i r hlt' ((Ld.set hilst).2 (.inl rfl)) hri)
     ·exact absurd hj hnl
     ·obtain ⟨oj,hoj⟩:=hop j (List.getElem?_eq_some_iff.1 hr').1
      rcases hd.pair i j o oj hlt' ho hoj with hp | ⟨hp,_⟩
      ·exact absurd (h.clo j i hj hp) hnl
      ·exact absurd (by rw[hdst j r' oj hr' hoj,hdd]) (hp _ st.dst).2
   ·rcases hj with rfl | hj
    ·rw[hri] at hr'; cases hr'; exact absurd rfl hdd
    ·rw[KI hdd]
     refine (h.cur j r' hr' hj (fun i' r'' hlt' hli hr''=>hlat i' r'' hlt' ((Ld.set hilst).2 (.inr hli)) hr'')).on' hle (hst j r' _ hr' (List.getElem?_eq_getElem (by have:=(List.getElem?_eq_some_iff.1 hr').1; omega))).kd (fun t ht hkv=>?_)
     rcases (hst j r' _ hr' (List.getElem?_eq_getElem (by have:=(List.getElem?_eq_some_iff.1 hr').1; omega))).dep t ht with hdep | ⟨_,hhas⟩
     rotate_left
     ·exact hhas.has hkv
     cases hn:r'.new with
     | none=>rw[hn] at hdep; obtain ⟨x,hx⟩:=hcM.tag (hxt _ ((hMt _ _).1 hdep)); rw[hx]; simp
     | some e =>
      rw[hn] at hdep
      rcases List.mem_cons.1 hdep with rfl | hdep
      ·obtain ⟨x,hx,_⟩:=h.made j r' e hj hr' hn; rw[hx]; simp
      ·obtain ⟨x,hx⟩:=hcM.tag (hxt _ ((hMt _ _).1 hdep)); rw[hx]; simp
  ·rw[Ld.set hilst] at hj
   rcases hj with rfl | hj
   ·rw[hri] at hr'; cases hr'; exact hmade e he
   ·obtain ⟨b,h1,h2⟩:=h.made j r' e hj hr' he
    refine ⟨b,hle.2 _ _ h1,?_⟩
    rw[OZ hbel (fun x cap hx=>by subst hx; exact (h.ok.own _ _ _ h1).2.1)]
    have hnew:=(hst j r' _ hr' (List.getElem?_eq_getElem (by have:=(List.getElem?_eq_some_iff.1 hr').1; omega))).new e he
    exact hnew.1.dep hle.1 (fun t ht=>by
     rcases List.mem_cons.1 (hnew.2.1 t ht) with rfl | ht'
     ·rw[h1]; exact hle.2 _ _ h1
     ·obtain ⟨x,hx⟩:=hcM.tag (hxt _ ((hMt _ _).1 ht')); rw[hx]; exact hle.2 _ _ hx) h2
  ·by_cases hx:∃e,r.new=some e/\e.t=t
   ·obtain ⟨e,he,rfl⟩:=hx
    exact .inr ⟨i,r,e,(Ld.set hilst).2 (.inl rfl),hri,he,rfl⟩
   ·rw[hold t (fun e he ht'=>hx ⟨e,he,ht'⟩)] at ht
    rcases h.dom t ht with h1 | ⟨j,r',e,hj,hr',he,ht'⟩
    ·exact .inl h1
    ·exact .inr ⟨j,r',e,(Ld.set hilst).2 (.inr hj),hr',he,ht'⟩
 have didn:∀{v:Value} {g':Gh} {w':World},r.p=true->F8 c r.k r.new g g' w w' v->AK l c M Mx rs a0 g0 (listed.setIfInBounds i true) (a.put o.dst v) g' w':=fun hp hd =>
  next ⟨fun _=>hd.k,fun hf=>(by rw[hp] at hf; cases hf)⟩ hd.le hd.ok hd.bel hd.made hd.old
 unfold wpOp
 rw[List.getElem?_toArray,ho]
 simp only
 rcases st.gd with ⟨hg,hp⟩ | ⟨hn,j,want,e,s,b0,hg,hj,hl,hp⟩
 ·rw[if_pos (by simp[Region.wanted,hg])]
  refine .inl (Oper.wp_on (st.ok hp a g w h.ok hMi hops hfresh) ?_)
  rintro a' w' ⟨v,g',rfl,hdid⟩
  exact hK _ _ _ (didn hp hdid)
 ·have hj':(l[j]?.bind fun x=>x.dst)=some s:=by simpa using hj
  have hsl:P8 g (a.tmps.getD s undef) b0 (kB e):=hlook s (List.mem_append.2 (.inr (by rw[hg]; simp[hj']))) _ _ hl
  have hwant:Region.wanted o (yielded l.toArray a.tmps)=r.p:=(XQ hg hj hsl).trans hp
  rw[hwant]
  cases hpp:r.p with
  | false =>
   simp only[Bool.false_eq_true,if_false]
   refine hK _ _ _ (next ⟨fun hf=>(by rw[hpp] at hf; cases hf),fun _=>rfl⟩ (Gh.le_refl _) h.ok (Below.refl _ _) (fun e he=>(by rw[hn] at he; cases he)) (fun _ _=>rfl))
  | true =>
   simp only[if_true]
   refine .inl (Oper.wp_on (st.ok hpp a g w h.ok hMi hops hfresh) ?_)
   rintro a' w' ⟨v,g',rfl,hdid⟩
   exact hK _ _ _ (didn hpp hdid)

def o7 (P:Program) (c:l8) (l:List Oper) (Q:Exit->Act->World->Prop) (u:Nat) (M MA:f0) (q:Nat):List Oper->Nat->g9->f0->Prop
 | [],_,_,_=>False
 | o::rest,0,S,Mc=>∃ct' dep' Mc',o.dst=none/\o.guard=none/\JO P c S M o u ct'/\A7 Mc u ct' dep' Mc'/\z7 ct' dep'/\(∀t∈dep',t∈tags M)/\d5 P c l.toArray S Mc' rest Q
 | o::rest,k+1,S,Mc=>∃r M0,(M0=MA\/(M0=M/\Q5 l q (q-(k+1))=true))/\Q3 P c l.toArray M0 S Mc o r/\o7 P c l Q u M MA q rest k (r.se::S) (P4 r.new Mc)
theorem o7.recs {u q:Nat} {M0 MA:f0}:∀{k:Nat} {rest:List Oper} {S:g9} {M:f0},k<=q->o7 P c l Q u M0 MA q rest k S M ->
  ∃(rs:List A3) (MI:Nat->f0),rs.length=k/\k<rest.length/\(∀i r o,rs[i]?=some r->rest[i]?=some o->Q3 P c l.toArray (MI i) (sl S (rs.take i)) (cl M (rs.take i)) o r) /\
   (∀i,i<k->MI i=MA\/(MI i=M0/\Q5 l q (q-k+i)=true))/\(∀i,k<=i->MI i=MA) /\
   ∃o ct' dep' Mc',rest[k]?=some o/\o.dst=none/\o.guard=none/\JO P c (sl S rs) M0 o u ct'/\A7 (cl M rs) u ct' dep' Mc'/\z7 ct' dep'/\(∀t∈dep',t∈tags M0)/\d5 P c l.toArray (sl S rs) Mc' (rest.drop (k+1)) Q
 | k,[],S,M,_,h=>by cases k<;>exact h.elim
 | 0,o::rest,S,M,_,h=>by
  obtain ⟨ct',dep',Mc',h1,h2,h3,h4,h5,h6,h7⟩:=h
  exact ⟨[],fun _=>MA,rfl,by simp,fun i r o h=>by simp at h,fun i hi=>by omega,fun _ _=>rfl,o,ct',dep',Mc',rfl,h1,h2,by simpa [sl] using h3,by simpa [cl] using h4,h5,h6,by simpa [sl] using h7⟩
 | k+1,o::rest,S,M,hk,h=>by
  obtain ⟨r,M1,hM1,h1,h2⟩:=h
  obtain ⟨rs,MI,k1,k2,k3,k4,k5,o',ct',dep',Mc',e1,e2,e3,e4,e5,e6,e7,e8⟩:=o7.recs zo h2
  refine ⟨r::rs,fun i=>match i with | 0=>M1 | i+1=>MI i,by simp[k1],by simp; omega,fun i r' o' hr ho=>?_,fun i hi=>?_,fun i hi=>?_,o',ct',dep',Mc',by simpa using e1,e2,e3,by simpa [sl] using e4,by simpa [cl] using e5,e6,e7,by simpa [sl] using e8⟩
  ·cases i with
   | zero=>simp at hr ho; subst hr ho; simpa [sl,cl] using h1
   | succ i=>simpa [sl,cl] using k3 i r' o' (by simpa using hr) (by simpa using ho)
  ·cases i with
   | zero=>simpa using hM1
   | succ i =>
    have:=k4 i zo
    rw[show q-k+i=q-(k+1)+(i+1) by omega] at this
    exact this
  ·cases i with
   | zero=>omega
   | succ i=>exact k5 i zo
theorem AK.sat (hst:∀i r o,rs[i]?=some r->l[i]?=some o->Q3 P c l.toArray (MI i) (sl S (rs.take i)) (cl M (rs.take i)) o r) (hMt:∀i t,t∈tags (MI i)↔t∈tags M) (hml:rs.length<=l.length) (hs:l4 c S M a0 g0 w1) {u:Nat} {ct':s9} {dep':List Nat} {Mc':f0}
  (hup:A7 (cl M rs) u ct' dep' Mc') (hcd:z7 ct' dep') (hdm:∀t∈dep',t∈tags M) (hx1:⟨u,dep',ct'⟩∈Mx) (hx2:∀e∈M,e.t≠u->e∈Mx) {listed:Array Bool} {a:Act} {g:Gh} {w:World} (h:AK l c M Mx rs a0 g0 listed a g w) (hall:∀i,i<rs.length->Ld listed i) :
  l4 c (sl S rs) Mc' a g w:=by
 have hst':∀(i:Nat) (r:A3),rs[i]?=some r->∃o,Q3 P c l.toArray (MI i) (sl S (rs.take i)) (cl M (rs.take i)) o r:=fun i r hr =>
  ⟨_,hst i r _ hr (List.getElem?_eq_getElem (by have:=(List.getElem?_eq_some_iff.1 hr).1; omega))⟩
 have hld:∀(i:Nat) (r:A3),rs[i]?=some r->Ld listed i:=fun i r hr=>hall i (List.getElem?_eq_some_iff.1 hr).1
 have htags:∀t∈tags M,t∈tags (cl M rs):=fun t ht=>by
  obtain ⟨e,he,rfl⟩:=List.mem_map.1 ht
  exact List.mem_map.2 ⟨e,(S3 rs).2 (.inl he),rfl⟩
 have htagn:∀(i:Nat) (r:A3) (e:CE),rs[i]?=some r->r.new=some e->e.t∈tags (cl M rs):=fun i r e hr he=>List.mem_map.2 ⟨e,(S3 rs).2 (.inr ⟨i,r,hr,he⟩),rfl⟩
 have hnodup:(tags (cl M rs)).Nodup:=by
  have key:∀n,n<=rs.length->(tags (cl M (rs.take n))).Nodup:=by
   intro n
   induction n with
   | zero=>intro _; exact hs.nodup
   | succ n ih =>
    intro hn
    have hr:=List.getElem?_eq_getElem (l:=rs) (i:=n) zo
    rw[List.take_succ_eq_append_getElem zo]
    simp only[cl,List.foldl_append,List.foldl_cons,List.foldl_nil]
    have ih':=ih zo
    cases hnew:rs[n].new with
    | none=>simpa [P4,cl] using ih'
    | some e =>
     simp only[P4,tags,List.map_cons]
     obtain ⟨o,st⟩:=hst' n _ hr
     exact List.nodup_cons.2 ⟨(st.new e hnew).2.2,ih'⟩
  have:=key rs.length (Nat.le_refl _)
  rwa [List.take_length] at this
 have ht':Fl.tags Mc'=tags (cl M rs):=hup.tags
 refine ⟨h.ok,?_,?_,?_,?_,?_,?_,h.defers,h.size⟩
 ·intro t b k hl
  rcases QJ _ hl with ⟨h1,h2⟩ | ⟨i,r,h1,h2,h3,h4,h5⟩
  ·rw[h.base t (fun i r _ hr=>h2 r (List.mem_of_getElem? hr))]
   obtain ⟨e,he,_,_,rfl⟩:=CY h1
   exact (hs.slots t b _ h1).on h.le (hs.sdep e he).1 (fun u hu=>by obtain ⟨x,hx⟩:=hs.conts.tag ((hs.sdep e he).2 u hu); rw[hx]; simp)
  ·subst h2 h3 h4
   exact h.cur i r h1 (hld i r h1) (fun i' r' hlt _ hr'=>h5 i' r' hlt hr')
 ·intro e he
  rcases hup.mem hnodup e he with rfl | ⟨he,hne⟩
  ·exact h.cM _ hx1
  ·rcases (S3 rs).1 he with he | ⟨i,r,hr,hn⟩
   ·exact h.cM e (hx2 e he hne)
   ·exact h.made i r e (hld i r hr) hr hn
 ·intro t ht
  show t∈Fl.tags Mc'
  rw[ht']
  rcases h.dom t ht with h1 | ⟨i,r,e,_,hr,he,rfl⟩
  ·exact htags t (hs.dom t h1)
  ·exact htagn i r e hr he
 ·show (Fl.tags Mc').Nodup
  rw[ht']; exact hnodup
 ·intro e he
  have:∀(rs':List A3),e∈sl S rs'->e∈S\/∃r∈rs',e=r.se:=by
   intro rs'
   induction rs' using QL with
   | h0=>exact fun h=>.inl h
   | h1 rs' r ih =>
    intro h
    simp only[sl,List.foldl_append,List.foldl_cons,List.foldl_nil] at h
    rcases List.mem_cons.1 h with rfl | h
    ·exact .inr ⟨r,by simp,rfl⟩
    ·exact (ih h).imp id fun ⟨x,hx,he⟩=>⟨x,List.mem_append.2 (.inl hx),he⟩
  show o4 e.k e.dep/\∀t∈e.dep,t∈Fl.tags Mc'
  rw[ht']
  rcases this rs he with he | ⟨r,hr,rfl⟩
  ·exact ⟨(hs.sdep e he).1,fun t ht=>htags t ((hs.sdep e he).2 t ht)⟩
  ·obtain ⟨i,hi⟩:=List.mem_iff_getElem?.1 hr
   obtain ⟨o,st⟩:=hst' i r hi
   refine ⟨st.kd,fun t ht=>?_⟩
   rcases st.dep t ht with hd | ⟨hd,_⟩
   rotate_left
   ·exact iS i hd
   cases hn:r.new with
   | none=>rw[hn] at hd; exact htags t ((hMt _ _).1 hd)
   | some x =>
    rw[hn] at hd
    rcases List.mem_cons.1 hd with rfl | hd
    ·exact htagn i r x hi hn
    ·exact htags t ((hMt _ _).1 hd)
 ·intro e he
  show z7 e.c e.dep/\∀t∈e.dep,t∈Fl.tags Mc'
  rw[ht']
  rcases hup.mem hnodup e he with rfl | ⟨he,hne⟩
  ·exact ⟨hcd,fun t ht=>htags t (hdm t ht)⟩
  ·rcases (S3 rs).1 he with he | ⟨i,r,hr,hn⟩
   ·exact ⟨(hs.cdep e he).1,fun t ht=>htags t ((hs.cdep e he).2 t ht)⟩
   ·obtain ⟨o,st⟩:=hst' i r hr
    refine ⟨(st.new e hn).1,fun t ht=>?_⟩
    rcases List.mem_cons.1 ((st.new e hn).2.1 t ht) with rfl | ht'
    ·exact htagn i r e hr hn
    ·exact htags t ((hMt _ _).1 ht')
theorem Tr.drawS {id:Nat} (q u:Nat) {MA:f0} [hA:A7 M u lG [] MA] (hm:P.follows .mixedOrders=true) (chk:NM l (q+1)=true) (h:o7 P c l Q u M MA q l q S M) (hr:JN c.rd l Q:=by first | exact .inl rfl | exact .inr ⟨rfl,fun ⟨_,_,h⟩=>(show False from h)⟩):Tr P c S M (.region id l.toArray true) Q:=by
 intro a g w hs0
 have hs:=hs0.drew
 obtain ⟨rs,MI,hlen,hml,hst,hMI,hMI',os,ct',dep',Mc',hos,hod,hog,hstore,hup,hcd,hdm,htail⟩:=o7.recs (Nat.le_refl _) h
 have hd:=GS.of chk
 have hAt:Fl.tags MA=tags M:=hA.tags
 have hMt:∀i t,t∈tags (MI i)↔t∈tags M:=fun i t=>by
  by_cases hi:i<q
  ·rcases hMI i hi with e | ⟨e,_⟩<;>rw[e]; rw[hAt]
  ·rw[hMI' i zo,hAt]
 let Mx:f0:=⟨u,dep',ct'⟩::M.filter (fun e=>!(e.t==u))
 have hx1:⟨u,dep',ct'⟩∈Mx:=List.mem_cons_self
 have hx2:∀e∈M,e.t≠u->e∈Mx:=fun e he hne=>List.mem_cons_of_mem _ (List.mem_filter.2 ⟨he,by simpa using hne⟩)
 have hxt:∀t,t∈tags M->t∈tags Mx:=fun t ht=>by
  obtain ⟨e,he,rfl⟩:=List.mem_map.1 ht
  by_cases hu:e.t=u
  ·exact List.mem_map.2 ⟨_,hx1,hu.symm⟩
  ·exact List.mem_map.2 ⟨e,hx2 e he hu,rfl⟩
 have hxd:GQ Mx Mx:=fun e he=>by
  rcases List.mem_cons.1 he with rfl | he
  ·exact ⟨hcd,fun t ht=>hxt t (hdm t ht)⟩
  ·have:=(List.mem_filter.1 he).1
   exact ⟨(hs.cdep e this).1,fun t ht=>hxt t ((hs.cdep e this).2 t ht)⟩
 have hMA:∀g w,D9 M g w->D9 MA g w:=fun g w hc e he=>by
  rcases hA.mem hs.nodup e he with rfl | ⟨he,_⟩
  ·obtain ⟨b,hb⟩:=hc.tag hA.tag; exact ⟨b,hb,trivial⟩
  ·exact hc e he
 have hxA:∀g w,D9 Mx g w->D9 MA g w:=fun g w hc e he=>by
  rcases hA.mem hs.nodup e he with rfl | ⟨he,hne⟩
  ·obtain ⟨b,hb,_⟩:=hc _ hx1; exact ⟨b,hb,trivial⟩
  ·exact hc e (hx2 e he hne)
 have hnews:JL M rs:=by
  have hin:∀(i:Nat) (r:A3),rs[i]?=some r->∃o,Q3 P c l.toArray (MI i) (sl S (rs.take i)) (cl M (rs.take i)) o r:=fun i r hr =>
   ⟨_,hst i r _ hr (List.getElem?_eq_getElem (by have:=(List.getElem?_eq_some_iff.1 hr).1; omega))⟩
  have hlt:∀(i j:Nat) (r r':A3) (e e':CE),i<j->rs[i]?=some r->rs[j]?=some r'->r.new=some e->r'.new=some e'->e.t≠e'.t:=fun i j r r' e e' hij hi hj he he' ht=>by
   obtain ⟨o,st⟩:=hin j r' hj
   refine (st.new e' he').2.2 (List.mem_map.2 ⟨e,(S3 _).2 (.inr ⟨i,r,?_,he⟩),ht⟩)
   rw[List.getElem?_take,if_pos hij]; exact hi
  refine ⟨fun i r e hr he ht=>?_,fun i j r r' e e' hi hj he he' ht=>?_⟩
  ·obtain ⟨o,st⟩:=hin i r hr
   obtain ⟨x,hx,hxt⟩:=List.mem_map.1 ht
   exact (st.new e he).2.2 (List.mem_map.2 ⟨x,(S3 _).2 (.inl hx),hxt⟩)
  ·rcases Nat.lt_trichotomy i j with hij | rfl | hij
   ·exact absurd ht (hlt i j r r' e e' hij hi hj he he')
   ·rfl
   ·exact absurd ht.symm (hlt j i r' r e' e hij hj hi he' he)
 have hsz0:(Array.replicate l.length false).size=l.length:=by simp
 have hqM:rs[q]?=none:=List.getElem?_eq_none zo
 have main2:∀(f:Nat) (listed:Array Bool) (a':Act) (g':Gh) (w':World),Q1 listed<=f->Ld listed q->AK l c M Mx rs a g listed a' g' w'->wpAny P .any l.toArray Q f listed a' w':=by
  intro f
  induction f with
  | zero =>
   intro listed a' g' w' hf hq hI
   have hall:∀i,i<l.length->Ld listed i:=fun i hi=>XO (Nat.le_zero.1 hf) (by rw[hI.sz]; exact hi)
   have hlq:l.length=q+1:=by
    rcases Nat.lt_or_ge (q+1) l.length with h' | h'
    ·have:=hI.low _ (hall (q+1) h'); omega
    ·omega
   refine QZ (Nat.zero_le _) hd 0 l.length listed a' w' hI.sz (fun i=>⟨fun h=>by have:=h.lt; rw[hI.sz] at this; exact this,hall i⟩) zo (Nat.le_refl _) zo ?_
   have:=htail a' g' w' (hI.sat hst hMt zo hs hup hcd hdm hx1 hx2 (fun i hi=>hall i zo))
   rw[hlq]
   exact this
  | succ f ih =>
   intro listed a' g' w' hf hq hI
   by_cases hall:∀i,i<q+1->Ld listed i
   ·have hsat:=hI.sat hst hMt zo hs hup hcd hdm hx1 hx2 (fun i hi=>hall i zo)
    exact QZ (Nat.zero_le _) hd (f+1) (q+1) listed a' w' hI.sz (fun i=>⟨fun h=>by have:=hI.low i h; omega,hall i⟩) (Nat.le_refl _) zo (by
     have:Q1 listed=l.length-(q+1):=by
      have hsplit:∀k,k<=listed.size->(listed.toList.take k).countP (fun b=>!b)=k-min k (q+1):=by
       intro k
       induction k with
       | zero=>simp
       | succ k ihk =>
        intro hk
        rw[List.take_succ_eq_append_getElem (by simp; omega),List.countP_append,ihk zo]
        by_cases hkm:k<q+1
        ·have h1:=hall k hkm
         unfold Ld at h1
         rw[Array.getElem?_eq_getElem zo] at h1
         simp only[Option.some.injEq] at h1
         simp[h1]; omega
        ·have h1:listed[k]=false:=by
          have h2:¬Ld listed k:=fun h=>by have:=hI.low k h; omega
          unfold Ld at h2
          rw[Array.getElem?_eq_getElem zo] at h2
          simpa using h2
         simp[h1]; omega
      have:=hsplit listed.size (Nat.le_refl _)
      rw[List.take_of_length_le (by simp)] at this
      unfold Q1
      rw[this,hI.sz]; omega
     omega) (htail a' g' w' hsat)
   ·obtain ⟨q',hq'⟩:=Classical.not_forall.1 hall
    have hqm:q'<q+1:=Classical.byContradiction fun h=>hq' (fun h'=>absurd h' h)
    have hql:¬Ld listed q':=fun h=>hq' (fun _=>h)
    refine ⟨fun hr=>absurd (PU hd hI.sz hr q' zo) hql,fun i hi=>?_⟩
    obtain ⟨hnl,o,ho,hr⟩:=(ER hI.sz).1 hi
    have hil:=(List.getElem?_eq_some_iff.1 ho).1
    have him:i<q+1:=Classical.byContradiction fun hge=>hql (hI.clo.ready ho hr (hd.tail q' i zo hil zo (Nat.zero_le _)))
    have hiq:i<q:=by
     rcases Nat.lt_or_ge i q with h' | h'
     ·exact h'
     ·exact absurd (show Ld listed i by rw[show i=q by omega]; exact hq) hnl
    have hMi:D9 (MI i) g' w':=by
     rcases hMI i hiq with e | ⟨_,ha⟩
     ·rw[e]; exact hxA _ _ hI.cM
     ·rw[show q-q+i=i by omega] at ha
      exact absurd (hI.clo q i hq ha) hnl
    refine hI.step hst hMt hxt hxd zo hd hnews hs hi zo hMi (fun a'' g'' w'' hI'=>ih _ a'' g'' w'' ?_ ((Ld.set (by rw[hI.sz]; exact hil)).2 (.inr hq)) hI')
    have:=QV (listed:=listed) (i:=i) (by rw[hI.sz]; exact hil) hnl
    omega
 have main:∀(f:Nat) (listed:Array Bool) (a':Act) (g':Gh) (w':World),Q1 listed<=f->¬Ld listed q->AK l c M M rs a g listed a' g' w'->wpAny P .any l.toArray Q f listed a' w':=by
  intro f
  induction f with
  | zero =>
   intro listed a' g' w' hf hq hI
   exact absurd (XO (Nat.le_zero.1 hf) (by rw[hI.sz]; omega)) hq
  | succ f ih =>
   intro listed a' g' w' hf hq hI
   refine ⟨fun hr=>absurd (PU hd hI.sz hr q zo) hq,fun i hi=>?_⟩
   obtain ⟨hnl,o,ho,hr⟩:=(ER hI.sz).1 hi
   have hil:=(List.getElem?_eq_some_iff.1 ho).1
   have hils:i<listed.size:=by rw[hI.sz]; exact hil
   have him:i<q+1:=Classical.byContradiction fun hge=>hq (hI.clo.ready ho hr (hd.tail q i zo hil zo (Nat.zero_le _)))
   have hun:=QV (listed:=listed) (i:=i) hils hnl
   by_cases hiq:i<q
   ·have hMi:D9 (MI i) g' w':=by
     rcases hMI i hiq with e | ⟨e,_⟩
     ·rw[e]; exact hMA _ _ hI.cM
     ·rw[e]; exact hI.cM
    exact hI.step hst hMt (fun _ h=>h) hs.cdep zo hd hnews hs hi zo hMi (fun a'' g'' w'' hI'=>ih _ a'' g'' w'' zo (fun h'=>by
     rcases (Ld.set hils).1 h' with e | h'
     ·omega
     ·exact hq h') hI')
   ·obtain rfl:i=q:=by omega
    obtain rfl:o=os:=Option.some.inj (ho.symm.trans hos)
    have hlook:=hI.look hst zo hd hs ho hnl hr
    rw[show rs.take i=rs from List.take_of_length_le zo] at hlook
    have hops:FC (sl S rs) o a' g':=by
     intro x hx b k hxk hb
     cases x with
     | tmp t=>exact (hlook t (List.mem_append.2 (.inl (List.mem_filterMap.2 ⟨.tmp t,by simpa using hx,rfl⟩))) b k hxk).1 hb
     | const v=>cases hxk; rfl
     | global v=>cases hxk; rfl
     | func v=>cases hxk; rfl
    unfold wpOp
    rw[List.getElem?_toArray,ho]
    simp only
    rw[if_pos (by simp[Region.wanted,hog])]
    refine .inl (Oper.wp_on (hstore a' g' w' hI.ok hI.cM hops) ?_)
    rintro a'' w'' ⟨rfl,hdid⟩
    refine main2 f _ a'' g' w'' zo ((Ld.set hils).2 (.inl rfl)) ?_
    have hsub:∀j r,Ld (listed.setIfInBounds i true) j->rs[j]?=some r->Ld listed j:=fun j r hj hr=>by
     rcases (Ld.set hils).1 hj with rfl | hj
     ·rw[hqM] at hr; cases hr
     ·exact hj
    refine ⟨by simpa using hI.sz,hdid.ok hI.ok,hI.le,?_,hI.clo.set hils ho hr,fun j hj=>?_,hdid.marks hI.defers,hI.size,fun t ht=>hI.base t (fun j r hj hr=>ht j r ((Ld.set hils).2 (.inr hj)) hr),fun j r hr hj hlat=>hI.cur j r hr (hsub j r hj hr) (fun i' r' hlt hli hr'=>hlat i' r' hlt ((Ld.set hils).2 (.inr hli)) hr'),fun j r e hj hr he=>?_,fun t ht=>?_⟩
    ·intro e he
     rcases List.mem_cons.1 he with rfl | he
     ·obtain ⟨b,cap,ob,hm',_,_,_,_,_,hob,hct,_⟩:=hdid.ex
      exact ⟨_,hm',by simp only[World.objAt,hob]; exact hct⟩
     ·have hm':=List.mem_filter.1 he
      obtain ⟨bk,h1,h2⟩:=hI.cM e hm'.1
      refine ⟨bk,h1,?_⟩
      rw[hdid.other hI.ok (by simpa using hm'.2) h1]
      exact h2
    ·rcases (Ld.set hils).1 hj with rfl | hj
     ·omega
     ·exact hI.low j hj
    ·obtain ⟨bk,h1,h2⟩:=hI.made j r e (hsub j r hj hr) hr he
     refine ⟨bk,h1,?_⟩
     rw[hdid.other hI.ok (fun hu=>hnews.fresh j r e hr he (by rw[hu]; exact hA.tag)) h1]
     exact h2
    ·rcases hI.dom t ht with h1 | ⟨j,r,e,hj,hr,he,ht'⟩
     ·exact .inl h1
     ·exact .inr ⟨j,r,e,(Ld.set hils).2 (.inr hj),hr,he,ht'⟩
 refine LQ hr hm (main _ _ a g w.drew ?_ (fun hi=>?_) ⟨by simp,hs.ok,Gh.le_refl _,hs.conts,fun i j hi=>?_,fun i hi=>?_,hs.defers,hs.size,fun _ _=>rfl,fun i r hr hi=>?_,fun i r e hi=>?_,fun t ht=>.inl ht⟩)
 ·unfold Q1
  refine Nat.le_trans (List.countP_le_length) ?_
  simp
 all_goals
  unfold Ld at hi
  rw[Array.getElem?_eq_some_iff] at hi
  obtain ⟨_,hi⟩:=hi
  simp at hi
variable {M0 MA Mc:f0} {rest:List Oper} {d:Nat} {oop:Op} {ty:TypeId} {pos:String} {af:Array Edge} {q u k':Nat} {x y:Operand}
theorem o7.op {k:b8} {dep:List Nat} (h:l3 P c S MA ⟨some d,oop,ty,pos,af,none⟩ true k none) [hk:o4 k dep] (hs:s5 dep (tags MA)=true) (hn:Nat.blt d c.n=true)
  (K:o7 P c l Q u M MA q rest k' (⟨d,true,dep,k⟩::S) Mc):o7 P c l Q u M MA q (⟨some d,oop,ty,pos,af,none⟩::rest) (k'+1) S Mc :=
 ⟨⟨d,true,dep,k,none⟩,MA,.inl rfl,⟨rfl,h,hk,fun t ht=>.inl (A1 hs t ht),fun _ h=>(by cases h),by simpa [Nat.blt_eq] using hn,.inl ⟨rfl,rfl⟩⟩,K⟩
theorem o7.opA {k:b8} {dep:List Nat} (h:l3 P c S M ⟨some d,oop,ty,pos,af,none⟩ true k none) (ha:Q5 l q (q-(k'+1))=true) [hk:o4 k dep] (hs:s5 dep (tags M)=true) (hn:Nat.blt d c.n=true)
  (K:o7 P c l Q u M MA q rest k' (⟨d,true,dep,k⟩::S) Mc):o7 P c l Q u M MA q (⟨some d,oop,ty,pos,af,none⟩::rest) (k'+1) S Mc :=
 ⟨⟨d,true,dep,k,none⟩,M,.inr ⟨rfl,ha⟩,⟨rfl,h,hk,fun t ht=>.inl (A1 hs t ht),fun _ h=>(by cases h),by simpa [Nat.blt_eq] using hn,.inl ⟨rfl,rfl⟩⟩,K⟩
theorem o7.new {k:b8} {dep:List Nat} {t:Nat} {ct:s9} {cdep:List Nat} (h:l3 P c S MA ⟨some d,oop,ty,pos,af,none⟩ true k (some ⟨t,cdep,ct⟩)) [hk:o4 k dep] [hc:z7 ct cdep]
  (hs:s5 dep (tags (⟨t,cdep,ct⟩::MA))=true) (hcs:s5 cdep (tags (⟨t,cdep,ct⟩::MA))=true) (hf:s5 [t] (tags Mc)=false) (hn:Nat.blt d c.n=true)
  (K:o7 P c l Q u M MA q rest k' (⟨d,true,dep,k⟩::S) (⟨t,cdep,ct⟩::Mc)):o7 P c l Q u M MA q (⟨some d,oop,ty,pos,af,none⟩::rest) (k'+1) S Mc :=
 ⟨⟨d,true,dep,k,some ⟨t,cdep,ct⟩⟩,MA,.inl rfl,⟨rfl,h,hk,fun t ht=>.inl (A1 hs t ht),fun e he=>(by
  cases he
  refine ⟨hc,A1 hcs,fun ht=>?_⟩
  have:s5 [t] (tags Mc)=true:=by
   simp only[s5,Bool.and_true]
   exact List.any_eq_true.2 ⟨t,ht,Nat.beq_refl t⟩
  rw[hf] at this; cases this),by simpa [Nat.blt_eq] using hn,.inl ⟨rfl,rfl⟩⟩,K⟩
theorem o7.z {ct':s9} {dep':List Nat} {Mc':f0} {o:Oper} (h:JO P c S M o u ct') (hd:o.dst=none) (hg:o.guard=none) [hup:A7 Mc u ct' dep' Mc'] [hc:z7 ct' dep'] (hs:s5 dep' (tags M)=true) (K:d5 P c l.toArray S Mc' rest Q):o7 P c l Q u M MA q (o::rest) 0 S Mc :=
 ⟨ct',dep',Mc',hd,hg,h,hup,hc,A1 hs,K⟩
theorem EU {t:TypeId} {n by':Nat} {zz:Value} [hz:q7 P t n by' zz] {u o:Nat} {ks kx ks':List b8} {dep:List Nat} {k:b8} {af:Array Edge} (hx:j1 S x=some (true,w6 u o)) (hy:j1 S y=some (true,k)) [hk:F3 k kx] [hl:p8 M u (j3 ks) dep] [hset:R7 ks o kx ks'] (hn:kx.length=n) :
  JO P c S M ⟨none,.store t x y,ty,pos,af,none⟩ u (j3 ks'):=by
 intro a g w hok hc ho
 obtain ⟨b,cap,hm,he⟩:=ho x (by simp[Op.operands]) _ _ hx rfl
 have hv:=ho y (by simp[Op.operands]) _ _ hy rfl
 obtain ⟨cs,tt,h3,h4⟩:=BT (ks:=ks) hc hm
 obtain ⟨h5,h6⟩:=hk.imp hv
 have hlen:=I2 h5
 have hcl:=I2 h4
 have hsl:=hset.len
 simp only[Array.length_toList] at hlen hcl
 have hr:=IS (P:=P) (t:=t) (o:=o) h3 (hlen.trans hn) zo (List.all_eq_true.1 h6)
 unfold Oper.wp
 simp only[execOp,he,Sem.run_bind,hr,Result.andThen_ok,Sem.run_pure,Oper.upon,Act.put]
 have hnew:=hset.holds h4 h5
 rw[Array.length_toList,hlen,hn] at hnew
 exact ⟨trivial,⟨Nat.le_refl _,b,cap,_,hm,rfl,rfl,rfl,by simp,fun k hk=>setRow_other w b k _ hk,setRow_heap w b cs _ tt (0,0) h3,⟨_,_,rfl,by simpa using hnew⟩,fun e=>by rw[h3] at e; cases e⟩⟩
theorem yF {t:TypeId} {n by':Nat} {zz:Value} [hz:q7 P t n by' zz] {α:Type} {zb:Bool} {et:TypeId} {e:i7 α} {xs:List α} {v:α} {u sz i len len':Nat} {dep:List Nat} {k:b8} {af:Array Edge} (hx:j1 S x=some (true,BZ u sz i len)) (hy:j1 S y=some (true,k)) [hl:p8 M u (m9 zb et e xs len') dep] [hk:FF k e v]
  (hs:sz=e.n) (hn:e.n=n) (hle:len=len'):JO P c S M ⟨none,.store t x y,ty,pos,af,none⟩ u (m9 zb et e (xs.set i v) len'):=by
 intro a g w hok hc ho
 subst hle hs
 obtain ⟨hlt,b,cap,hm,he⟩:=ho x (by simp[Op.operands]) _ _ hx rfl
 have hv:=ho y (by simp[Op.operands]) _ _ hy rfl
 obtain ⟨h0,hz0,cs,h3,h4,h5,h6,h7⟩:=CQ (xs:=xs) hc hm
 obtain ⟨h8,h9⟩:=hk.imp hv
 have hlen:=e.len h8
 have hin:i*e.n+e.n<=cs.size:=by rw[h4,<- Nat.succ_mul]; exact Nat.mul_le_mul_right _ zo
 simp only[Array.length_toList] at hlen
 have hr:=IS (P:=P) (t:=t) (o:=i*e.n) h3 (hlen.trans hn) zo h9
 unfold Oper.wp
 simp only[execOp,he,Sem.run_bind,hr,Result.andThen_ok,Sem.run_pure,Oper.upon,Act.put]
 refine ⟨trivial,⟨Nat.le_refl _,b,cap,_,hm,rfl,rfl,rfl,by simp,fun k hk=>setRow_other w b k _ hk,setRow_heap w b cs _ et (0,0) h3,?_,fun e=>by rw[h3] at e; cases e⟩⟩
 refine ⟨by simpa using h0,hz0,_,rfl,?_,h5,h6,fun j x hx=>?_⟩
 ·simp[hlen]; omega
 ·have hget:∀q,(cs.toList.take (i*e.n)++(a.eval y).cells.toList++cs.toList.drop (i*e.n+n)).toArray[q]?=if q<i*e.n then cs[q]? else if q<i*e.n+e.n then (a.eval y).cells.toList[q-i*e.n]? else cs[q]?:=by
   intro q
   simp only[List.getElem?_toArray,List.append_assoc,List.getElem?_append,List.length_take,Array.length_toList,show min (i*e.n) cs.size=i*e.n by omega,List.getElem?_take,List.getElem?_drop,hlen]
   by_cases q1:q<i*e.n
   ·simp[q1]
   ·simp only[q1,if_false]
    by_cases q2:q<i*e.n+e.n
    ·simp only[q2,if_true,show q-i*e.n<e.n by omega]
    ·simp only[q2,if_false,show ¬q-i*e.n<e.n by omega]
     rw[show i*e.n+n+(q-i*e.n-e.n)=q by omega]
     simp
  by_cases hj:i=j
  ·subst hj
   rw[List.getElem?_set_self zo] at hx
   simp only[Option.some.injEq] at hx
   subst hx
   refine ⟨_,h8,fun q r hq=>?_⟩
   have hql:=(List.getElem?_eq_some_iff.1 hq).1
   simp only[Array.length_toList,hlen] at hql
   rw[hget,if_neg zo,if_pos zo,show i*e.n+q-i*e.n=q by omega]
   exact hq
  ·rw[List.getElem?_set_ne hj] at hx
   obtain ⟨ds,k1,k2⟩:=h7 j x hx
   refine ⟨ds,k1,fun q r hq=>?_⟩
   have hql:=(List.getElem?_eq_some_iff.1 hq).1
   rw[e.len k1] at hql
   rw[hget]
   rcases Nat.lt_or_gt_of_ne hj with hij | hij
   ·have:(i+1)*e.n<=j*e.n:=Nat.mul_le_mul_right _ hij
    rw[Nat.succ_mul] at this
    rw[if_neg zo,if_neg zo]
    exact k2 q r hq
   ·have:(j+1)*e.n<=i*e.n:=Nat.mul_le_mul_right _ hij
    rw[Nat.succ_mul] at this
    rw[if_pos zo]
    exact k2 q r hq
end
end Go.Fl

/- More laws: cells of which nothing is known; arguments that are known to be more than a contract asks. -/
namespace Go.Fl
open Go Go.RowKit
theorem ML {P:Nat->Prop} {k:Nat} (h:∀i,i<k->P i) (hk:P k):∀i,i<k+1->P i:=fun i hi=>by
 rcases Nat.lt_succ_iff_lt_or_eq.1 hi with h1 | h1
 ·exact h i h1
 ·subst h1; exact hk
theorem N4.e {M M' N:f0} {t:Nat} {ct ct':s9} {dep dep':List Nat} [hl:p8 M t ct dep] (he:ct=ct') [hk:z7 ct' dep'] (hs:s5 dep' (tags M')=true) (r:N4 M N M'):N4 M (⟨t,dep',ct'⟩::N) M':=r.conv (ct:=ct) (fun _ _ _ h=>he▸h) hs
end Go.Fl

/- More laws: rows that nobody writes any more from their making on. -/
namespace Go.Fl
open Go Go.RowKit
theorem F8.allocJ {c:l8} {k:b8} {g:Gh} {w:World} (h:Ok c g w) {cs:Array Value} {ty:TypeId} {v:Value}
  (hk:k ⟨fun b o=>if b=w.heap.size then cs[o]? else g.J b o,g.M⟩ v) :
  F8 c k none g ⟨fun b o=>if b=w.heap.size then cs[o]? else g.J b o,g.M⟩ w (w.alloc (.cells cs ty)) v:=by
 have hbel:Below w.heap.size w (w.alloc (.cells cs ty)):=(Below.refl _ _).alloc (Nat.le_refl _) _
 have hobj:(w.alloc (.cells cs ty)).heap[w.heap.size]?=some (.cells cs ty (0,0)):=heap_alloc_new w _
 have hle:g.J.le (fun b o=>if b=w.heap.size then cs[o]? else g.J b o):=fun b o u hu=>by
  by_cases e:b=w.heap.size
  ·subst e; rw[LV h (Nat.le_refl _)] at hu; cases hu
  ·simp only[if_neg e]; exact hu
 refine ⟨hk,⟨hle,fun _ _ h=>h⟩,⟨h.bel.then hbel,JV.le_trans h.jle hle,fun b o hb=>?_,fun b o u hu=>?_,fun u b cap' hu=>?_,h.inj⟩,hbel,fun e he=>(by cases he),fun u hu=>rfl⟩
 ·have:=h.bel.size
  simp only[if_neg (show b≠w.heap.size by omega)]
  exact h.jold b o hb
 ·simp only at hu
  by_cases e:b=w.heap.size
  ·subst e
   rw[if_pos rfl] at hu
   exact J6 hobj hu
  ·rw[if_neg e] at hu
   have:=h.im b o u hu
   have hlt:=World.block_lt_of_cell? _ _ this
   rw[World.cell?_alloc_lt _ _ _ hlt]; exact this
 ·obtain ⟨a1,a2,a3⟩:=h.own u b cap' hu
  exact ⟨a1,by simp; omega,fun o=>by simp only[if_neg (show b≠w.heap.size by omega)]; exact a3 o⟩
section
variable {P:Program} {c:l8} {S:g9} {M:f0} {p:Bool} {d:Option Tmp} {ty:TypeId} {pos:String} {af:Array Edge} {gd:Option (Nat×Bool)}
variable {x y:Operand} {b b':Bool}
theorem CC {t et:TypeId} [ht:C5 P t et] {size bytes:Nat} {zz:Value} [hsz:q7 P et size bytes zz] {α:Type} (e:i7 α) {xs:List α} {len:Nat} {parts:List (Nat×Operand)} (h:p=true->BQ S e 0 parts xs) (hl:xs.length=len)
  (hs:size=e.n) (hsm:Nat.ble (len*size) 16777216=true) (hpos:Nat.blt 0 (len*size)=true) :
  l3 P c S M ⟨d,.buildSlice t len parts.toArray,ty,pos,af,gd⟩ p (b7 (eL e) xs) none:=by
 intro hp a g w hok hc ho hf
 obtain ⟨i,hi,rfl,rfl,hzz⟩:=hsz.h
 have hsm':=Nat.le_of_ble_eq_true hsm
 have hpos':0<len*i.size:=by simpa [Nat.blt_eq] using hpos
 obtain ⟨cs,h1,h2,_,h4⟩:=(h hp).fill (g:=g) (ρ:=a.eval) (fun y hy b k hk hb=>ho y.2 (by simp only[Op.operands]; simp; exact ⟨y.1,hy⟩) b k hk hb) (cells:=(Array.range (len*i.size)).map (zz.cells[·%zz.cells.size]!)) (by simp[hl,hs])
 have hmap:(parts.toArray.map fun (y:Nat×Operand)=>(y.1,a.eval y.2)).toList=parts.map fun y=>(y.1,a.eval y.2):=by simp
 rw[<- hs] at h1
 have hr:=run_buildSlice (P:=P) w t et len (parts.toArray.map fun (y:Nat×Operand)=>(y.1,a.eval y.2)) cs i zz ht.h hi hzz zo zo (by rw[hmap]; exact h1)
 unfold Oper.wp
 simp only[execOp,Sem.run_bind]
 rw[show (parts.toArray.map fun x:Nat×Operand=>match x with | (i,x)=>(i,a.eval x))=parts.toArray.map fun (y:Nat×Operand)=>(y.1,a.eval y.2) from rfl,hr]
 simp only[Result.andThen_ok,Sem.run_pure,Oper.upon]
 have hlen:len<=len*i.size:=Nat.le_mul_of_pos_right _ (Nat.pos_of_ne_zero (fun h0=>by rw[h0] at hpos'; simp at hpos'))
 refine ⟨_,_,rfl,F8.allocJ hok ?_⟩
 refine ⟨[.slice (some ⟨w.heap.size,0,none⟩) len len],⟨_,len,by rw[hl],⟨by rw[hl]; simp only[t6]; omega,by rw[hl]; exact Nat.le_refl _⟩,.inr ⟨_,_,rfl,fun k x hx=>?_⟩⟩,rfl⟩
 obtain ⟨ds,k1,k2⟩:=h4 k x hx
 refine ⟨ds,e.mono (J:=g.J) (fun b o u hu=>?_) k1,fun j v hj=>?_⟩
 ·by_cases e':b=w.heap.size
  ·subst e'; rw[LV hok (Nat.le_refl _)] at hu; cases hu
  ·simp only[if_neg e']; exact hu
 ·simp only[if_pos]
  have:=k2 j v hj
  simpa using this
end
theorem rG {b e w:Bool} (h:(b&&(e==w))=true):b=true:=(Bool.and_eq_true_iff.1 h).1
theorem UD {b e:Bool} (hb:b=true) (h:e=true):(b&&(e==true))=true:=by subst hb h; rfl
theorem UC {b e:Bool} (hb:b=true) (h:e=false):(b&&(e==false))=true:=by subst hb h; rfl
theorem Tr.meet2 {P:Program} {c:l8} {S:g9} {M:f0} {Q:Exit->Act->World->Prop} {x y:Code} {σ:Type} (U:g9) (V:f0) (_:C4 S M U M) (_:N4 M V M) (I:σ->g9) (J:σ->f0) (R:σ->Prop)
  (hx:Tr P c S M x (Exit.then (JH c (fun s=>I s++U) (fun s=>J s++V) R) Q)) (hy:∀s,R s->Tr P c (I s++U) (J s++V) y Q):Tr P c S M (.seq x y) Q :=
 Tr.cut (fun s=>I s++U) (fun s=>J s++V) R hx hy
end Go.Fl
