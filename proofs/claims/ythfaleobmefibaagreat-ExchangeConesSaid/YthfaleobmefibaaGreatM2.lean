/- Laws on walking typed knowledge through code, and contracts. -/
import Derived.Test.YthfaleobmefibaaGreatM1
import Derived.Laws.CopyRow
import Derived.Laws.StructEq
import Derived.OrdersHeld
import Derived.WideLaws
import Derived.IntWalk
import Derived.Lib.SplitLaws
import Derived.Lib.Join
import Derived.Lib.AtoiAll
import Derived.Lib.ItoaNum
import Derived.Laws.BytesArg
import Derived.Shelf.Spec.SlicesInsert
import Derived.Shelf.Spec.SlicesInsertGrow

/- The last step of a law's row. -/
namespace Go.Fl
open Go Go.RowKit Go.ChangeShapes Go.WideShapes Go.ChangeAt
def ZI (P:Program):Bool:=(List.range P.types.size).all fun t=>match P.underlying t with | some (.slice e)=>Nat.blt 0 (P.cellsOf e) | _=>true
theorem ai1 {P:Program} (h:ZI P=true) {t e:TypeId} (ht:t<P.types.size) (hu:P.underlying t=some (.slice e)):0<P.cellsOf e:=by
 have:=List.all_eq_true.1 h t (List.mem_range.2 ht)
 rw[hu] at this
 simpa [Nat.blt_eq] using this
section
variable {H:Type} {enc:TypeId×Value->H} {P:Program}
theorem mO (hl:laidOutB P=true) (hm:mapsRowed P=true) (hz:ZI P=true) {W W':World} {sp:Nat->Bool}:∀{ts:List TypeId} {vs:List Value} {ds:List (DataW H)} {ps:List MemPlace},(∀t∈ts,t<P.types.size)->DataW.TrodAll enc P W 0 (fun _=>true) true ts vs ds ps ->
  (∀p∈ps,W.sameAt W' p)->(∀p∈ps,sp p.block=true)->DataW.TrodAll enc P W' 0 sp true ts vs ds ps
 | [],[],[],ps,_,h,_,_=>h
 | t::ts,v::vs,d::ds,ps,ht,h,hs,hp=>by
  obtain ⟨p,q,⟨n,hn⟩,h2,rfl⟩:=h
  refine ⟨p,q,⟨n,?_⟩,mO hl hm hz (fun u hu=>ht u (List.mem_cons_of_mem _ hu)) h2 (fun x hx=>hs x (List.mem_append.2 (.inr hx))) (fun x hx=>hp x (List.mem_append.2 (.inr hx))),rfl⟩
  exact DataW.trod_stays (kids_rows hl hm) (fun ht hu=>ai1 hz ht hu) (fun h=>by cases h) (ht t List.mem_cons_self) hn (fun x hx=>hs x (List.mem_append.2 (.inl hx))) (fun x hx=>hp x (List.mem_append.2 (.inl hx)))
 | [],_::_,_,_,_,h,_,_=>h.elim
 | [],[],_::_,_,_,h,_,_=>h.elim
 | _::_,[],_,_,_,h,_,_=>h.elim
 | _::_,_::_,[],_,_,h,_,_=>h.elim
theorem wJ {f:Func} {s:ChangeSpec} {W W':World} {args:Array Value} {ds gs:List (DataW H)} {before:List MemPlace} {tb:TypeId} (hl:laidOutB P=true) (hm:mapsRowed P=true) (hz:ZI P=true) (hW:DataW.Whole enc P f.params.toList s.vars false W args.toList ds gs before)
  (hts:(f.params.toList.all fun t=>Nat.blt t P.types.size)=true) (hv:s.vars=[]) (hfn:gs=[]->s.fn H (ds++gs)={ results:=[.lit (.bool true)],args:=ds }) (hr:f.resultTypes=#[tb]) (hb:P.underlying tb=some .bool) (hbel:Below W.heap.size W W') :
  s.post enc P f false true false false W args (.bool true) W':=by
 have hW':=hW
 obtain ⟨p,q,hA,hV,rfl,_,_⟩:=hW
 rw[hv] at hV
 obtain ⟨rfl,rfl⟩:=trodVars_none hV
 simp only[List.append_nil] at hW'
 have hfn':=hfn rfl
 have hlt:∀x∈p,x.block<W.heap.size:=fun x hx=>hW'.lt x hx
 refine ⟨ds,[],p,[],p,[],hW',?_,?_,?_,hbel.frame _,fun h=>by cases h⟩
 ·rw[hfn',hr]
  exact trodAll_mk1 (shut_bool hb _)
 ·rw[hfn']
  refine mO hl hm hz (fun t ht=>?_) hA (fun x hx=>?_) (fun x hx=>by simpa using hlt x hx)
  ·have:=List.all_eq_true.1 hts t ht
   simpa [Nat.blt_eq] using this
  ·cases x with
   | cell b o=>exact hbel.cell (p:=⟨b,o,none⟩) (hlt _ hx)
   | map b=>exact hbel.block b (hlt _ hx)
 ·rw[hfn',hv]; exact rfl
theorem nF {t:TypeId} {ts:List TypeId} {d:DataW H} {ds:List (DataW H)} (h:(DataW.weightsEach P (t::ts) (d::ds)).all (·<=reachBytes)=true):(∀m∈d.weights P t,m<=reachBytes)/\(DataW.weightsEach P ts ds).all (·<=reachBytes)=true:=by
 simp only[DataW.weightsEach,List.all_append,Bool.and_eq_true] at h
 exact ⟨fun m hm=>by simpa using List.all_eq_true.1 h.1 m hm,h.2⟩
end
theorem Ct.law {P:Program} {f:FuncId} {args:List d7} (h:Ct P f args (kB true)) {W:World} {vs:Array Value} (hv:n9 ⟨FS W,y9⟩ args vs.toList) {Q:Ending->World->Prop} (hq:∀W',Below W.heap.size W W'->Q (.returned (.bool true)) W'):Calls P f vs W Q:=by
 have:=h W (FS W) (xH W) vs.toList hv
 refine this.mono fun e W' ⟨r,J',he,hb,_,_,_,hr⟩=>?_
 subst he
 rw[show r=.bool true from hr]
 exact hq W' hb
end Go.Fl

/- Function values as arguments: what is known of what they answer. Shorter words for the walks. -/
namespace Go.Fl
open Go Go.RowKit
theorem rr {p:Prop}:p->true=true:=fun _=>rfl
section
variable {P:Program} {c:n6} {S:i4} {M:i1} {p:Bool} {d:Option Tmp} {ty:TypeId} {pos:String} {af:Array Edge} {gd:Option (Nat×Bool)} {x:Operand} {b:Bool}
end
end Go.Fl

/- Slices of the call's own that begin behind the head of their row: queues. -/
namespace Go.Fl
open Go Go.RowKit
def C7 (t n off len:Nat):d7:=fun g v=>∃b cap o,g.M t=some (.blk b cap)/\off+len<=cap/\(off<cap->o=off*n)/\v=.slice (some ⟨b,o,none⟩) len (cap-off)
instance (t n o l:Nat):o5 (C7 t n o l) [t]:=⟨fun _ hd ⟨b,cap,a,h1,h2⟩=>⟨b,cap,a,(hd t (by simp)).trans h1,h2⟩⟩
section
variable {P:Program} {c:n6} {S:i4} {M:i1} {p:Bool} {d:Option Tmp} {ty:TypeId} {pos:String} {af:Array Edge} {gd:Option (Nat×Bool)} {x y:Operand} {b b':Bool}
theorem Z6 {t:TypeId} {e':TypeId} [ht:D1 P t e'] {u n off len:Nat} (hx:j2 S x=some (b,C7 u n off len)) (hb:p=true->b=true):l4 P c S M ⟨d,.call { callee:=.builtin .len,args:=#[x],argTypes:=#[t] },ty,pos,af,gd⟩ p (kI len) none :=
 l4.pure fun hp a g w _ _ ho=>by
  obtain ⟨_,_,_,_,_,_,h2⟩:=ho x (by simp[Op.operands,Call.operands]) b _ hx (hb hp)
  exact ⟨_,by simp[execOp,resolve,invoke,builtin,Builtin.len_,h2,run_underlying ht.h,goInt],rfl⟩
variable {ops:Array Oper} {rest:List Oper} {Q:Exit->Act->World->Prop} {dd:Nat}
theorem d5.appQ {t et:TypeId} [ht:D1 P t et] {size bytes:Nat} {zz:Value} [hsz:p6 P et size bytes zz] {α:Type} {e:i8 α} {xs ys:List α} {u off len len' m:Nat} {dep:List Nat} {k:d7} {M':List α->Nat->i1}
  (hx:j2 S x=some (true,C7 u size off len)) [hl:q7 M u (l5 false et e xs len') dep] (hle:off+len=len') (hy:j2 S y=some (true,k)) [hsrc:OG M k e ys] (hm:ys.length=m) (hup:∀L n,D5 M u (l5 false et e L n) [] (M' L n))
  (hs:size=e.n) (hzz:zz.cells.size=size) (hpos:0<size) (hnd:K5 u M=true) (hn:Nat.blt dd c.n=true) (h63:len'+m<=9223372036854775807) (hb:(len'+m)*bytes<=140737488355328)
  (K:∀(L:List α) (o:Nat),(o=off/\L=xs++ys)\/(o=0/\L=xs.drop off++ys)->d5 P c ops (⟨dd,true,[u],C7 u size o (len+m)⟩::H3 u S) (M' L (o+(len+m))) rest Q) :
  d5 P c ops S M (⟨some dd,.call { callee:=.builtin .append,args:=#[x,y],argTypes:=#[t,t] },ty,pos,af,none⟩::rest) Q:=by
 intro a g w hsat
 subst hle hm
 obtain ⟨i,hi,rfl,rfl,hz⟩:=hsz.h
 have hdn:dd<c.n:=by simpa [Nat.blt_eq] using hn
 obtain ⟨b,cap,ad0,hm,hoc,had,ex⟩:=C8 hsat.slots hx rfl
 have hk2:=hsrc.imp hsat.ok hsat.conts (C8 hsat.slots hy rfl)
 obtain ⟨news,ad,c2,e2,n1,n2,n3,n4⟩:=lK (P:=P) hk2
 rw[<- hs] at n1 n4
 obtain ⟨h0,_,cs,h3,h4,h5,h6,h7⟩:=DS (xs:=xs) hsat.conts hm
 refine wpList_plain rfl fun K' hK'=>?_
 unfold Oper.wp
 simp only[execOp,resolve,invoke,builtin,Sem.run_bind,Sem.run_pure,Result.andThen_ok,List.map_toArray,List.map_cons,List.map_nil]
 have finish:∀{bk':Bk} {w':World} {v':Value} (L:List α) (o:Nat),(o=off/\L=xs++ys)\/(o=0/\L=xs.drop off++ys)->ET (.blk b cap) w w'->(∀b2 cap2,bk'=.blk b2 cap2->(∃cap0,Bk.blk b cap=.blk b2 cap0)\/(w.heap.size<=b2/\b2<w'.heap.size)) ->
   l5 false et e L (o+(len+ys.length)) ⟨g.J,fun t=>if t=u then some bk' else g.M t⟩ bk' (World.objAt w' bk')->C7 u i.size o (len+ys.length) ⟨g.J,fun t=>if t=u then some bk' else g.M t⟩ v' ->
   (Builtin.append_ #[t,t] ty #[a.eval x,a.eval y]).run P w=.ok v' w' ->
   Oper.upon P ⟨some dd,.call { callee:=.builtin .append,args:=#[x,y],argTypes:=#[t,t] },ty,pos,af,none⟩ a K' Q (((Builtin.append_ #[t,t] ty #[a.eval x,a.eval y]).run P w).andThen fun v w=>.ok (.value v) w):=by
  intro bk' w' v' L o hLo hbut hbk hct hkk hr
  rw[hr]
  simp only[Result.andThen_ok,Oper.upon]
  exact hK' _ _ (K L o hLo _ _ _ (hsat.rebind hm (hsat.nomark hl hm) hbut (hup L _) hnd inferInstance hbk hct hdn hkk))
 have hcl:(off+len)*e.n<=cs.size:=by rw[h4]; exact Nat.mul_le_mul_right _ h5
 by_cases hroom:off+len+ys.length<=cap
 ·by_cases hzero:off<cap
  ·have hst:=run_storeCells_at P b ((off+len)*e.n) et news 0 cs w h3 (by rw[n1,hs,Nat.add_zero,<- Nat.add_mul,h4]; exact Nat.mul_le_mul_right _ hroom) n2
   simp only[Nat.add_zero] at hst
   have holdl:(cs.toList.take ((off+len)*e.n)).length=(off+len)*e.n:=by simp; omega
   have hold:∀i x,xs[i]?=some x->∃ds,e.rd g.J ds x/\∀j v,ds[j]?=some v->(cs.toList.take ((off+len)*e.n))[i*e.n+j]?=some v:=fun i x hx=>by
    obtain ⟨ds,q1,q2⟩:=h7 i x hx
    refine ⟨ds,q1,fun j v hj=>?_⟩
    have hil:=(List.getElem?_eq_some_iff.1 hx).1
    have hjl:=(List.getElem?_eq_some_iff.1 hj).1
    rw[e.len q1] at hjl
    have:(i+1)*e.n<=(off+len)*e.n:=Nat.mul_le_mul_right _ zo
    rw[Nat.succ_mul] at this
    rw[List.getElem?_take,if_pos zo]
    simpa using q2 j v hj
   refine finish (bk':=.blk b cap) (w':=w.setRow b (cs.toList.take ((off+len)*e.n)++news++cs.toList.drop ((off+len)*e.n+news.length)).toArray) (v':=.slice (some ⟨b,ad0,none⟩) (len+ys.length) (cap-off)) (xs++ys) off (.inl ⟨rfl,rfl⟩) ⟨rfl,rfl,rfl,by simp,fun k _ hk=>setRow_other w b k _ (fun e'=>hk cap (by rw[e'])),Nat.le_refl _⟩ (fun b' cap' hb=>by cases hb; exact .inl ⟨_,rfl⟩) ?_ ⟨_,_,_,if_pos rfl,by omega,had,rfl⟩ ?_
   ·refine ⟨by simp[h0]; omega,(fun hz0=>by cases hz0),_,setRow_heap w b cs _ et (0,0) h3,?_,by omega,h6,fun i' x' hx'=>?_⟩
    ·simp[n1,hs]; rw[Nat.min_eq_left hcl]; have:(off+len)*e.n+ys.length*e.n<=cs.size:=by rw[<- Nat.add_mul,h4]; exact Nat.mul_le_mul_right _ hroom
     omega
    ·obtain ⟨ds,q1,q2⟩:=OS (cs:=cs.toList.take ((off+len)*e.n)++news++cs.toList.drop ((off+len)*e.n+news.length)) (by rw[holdl,h0]) (fun j v hj=>by rw[List.getElem?_append_left (List.getElem?_eq_some_iff.1 hj).1]; exact hj) hold n3 i' x' hx'
     exact ⟨ds,q1,fun j v hj=>by have:=q2 j v hj; simpa using this⟩
   ·rw[ex,e2,SW ht.h hi (e2▸n4 w rfl) zo]
    simp only[Addr.add_lit,hs]
    rw[had hzero,hs,<- Nat.add_mul,hst]
    rfl
  ·have hy0:ys=[]:=List.eq_nil_of_length_eq_zero zo
   subst hy0
   have hnews:news=[]:=List.eq_nil_of_length_eq_zero (by simpa using n1)
   subst hnews
   refine finish (bk':=.blk b cap) (w':=w) (v':=.slice (some ⟨b,ad0,none⟩) len (cap-off)) (xs++[]) off (.inl ⟨rfl,rfl⟩) ⟨rfl,rfl,rfl,Nat.le_refl _,fun _ _ _=>rfl,Nat.le_refl _⟩ (fun b' cap' hb=>by cases hb; exact .inl ⟨_,rfl⟩) ?_ ⟨_,_,_,if_pos rfl,by simpa using hoc,had,rfl⟩ ?_
   ·rw[List.append_nil]
    exact ⟨by simpa using h0,(fun hz0=>by cases hz0),cs,h3,h4,h5,h6,h7⟩
   ·rw[ex,e2,SW ht.h hi (e2▸n4 w rfl) (by simp; omega)]
    rfl
 ·have hcells:∀j v,((cs.toList.take ((off+len)*e.n)).drop (off*e.n))[j]?=some v->w.cell? ⟨b,off*e.n+j,none⟩=some v:=fun j v hj=>by
   rw[List.getElem?_drop,List.getElem?_take] at hj
   split at hj
   ·exact M7 h3 (by simpa using hj)
   ·cases hj
  have hol:((cs.toList.take ((off+len)*e.n)).drop (off*e.n)).length=len*e.n:=by
   rw[List.length_drop,List.length_take,Array.length_toList,Nat.min_eq_left hcl,Nat.add_mul]; omega
  have holds:∀i x,(xs.drop off)[i]?=some x->∃ds,e.rd g.J ds x/\∀j v,ds[j]?=some v->((cs.toList.take ((off+len)*e.n)).drop (off*e.n))[i*e.n+j]?=some v:=fun i x hx=>by
   rw[List.getElem?_drop] at hx
   obtain ⟨ds,q1,q2⟩:=h7 _ x hx
   refine ⟨ds,q1,fun j v hj=>?_⟩
   have hil:=(List.getElem?_eq_some_iff.1 hx).1
   have hjl:=(List.getElem?_eq_some_iff.1 hj).1
   rw[e.len q1] at hjl
   have:(off+i+1)*e.n<=(off+len)*e.n:=Nat.mul_le_mul_right _ zo
   rw[Nat.succ_mul,Nat.add_mul] at this
   have q3:=q2 j v hj
   rw[Nat.add_mul] at q3
   rw[List.getElem?_drop,List.getElem?_take,if_pos zo,show off*e.n+(i*e.n+j)=off*e.n+i*e.n+j by omega]
   simpa using q3
  have hfo:(Builtin.firstCells i.size len (.slice (some ⟨b,ad0,none⟩) len (cap-off))).run P w.drew=.ok ((cs.toList.take ((off+len)*e.n)).drop (off*e.n)).toArray w.drew:=by
   refine YZ (by rw[hol,hs]) fun j v hj=>?_
   rw[World.cell?_drew]
   by_cases hz0:off<cap
   ·rw[had hz0,hs]; exact hcells j v hj
   ·have hl0:len=0:=by omega
    have:=(List.getElem?_eq_some_iff.1 hj).1
    rw[hol,hl0] at this; omega
  have hr:=kU (ty:=ty) ht.h hi hz hfo (e2▸n4 w.drew rfl) (cap:=cap-off) zo zo (growslice_fits zo (Nat.le_trans (Nat.mul_le_mul_right _ zo) hb))
  have hge:=grownCap_ge w (len+ys.length) (cap-off) et
  have hcm:=grownCap_le_maxLen w (len+ys.length) (cap-off) et (by simp only[maxLen]; omega)
  have hobj:=heap_alloc_new w.drew (.cells (((cs.toList.take ((off+len)*e.n)).drop (off*e.n)).toArray++news.toArray++Builtin.zeroCells zz.cells (grownCap w (len+ys.length) (cap-off) et-(len+ys.length))) et)
  refine finish (bk':=.blk w.heap.size (grownCap w (len+ys.length) (cap-off) et)) (w':=w.drew.alloc (.cells (((cs.toList.take ((off+len)*e.n)).drop (off*e.n)).toArray++news.toArray++Builtin.zeroCells zz.cells (grownCap w (len+ys.length) (cap-off) et-(len+ys.length))) et)) (xs.drop off++ys) 0 (.inr ⟨rfl,rfl⟩) ⟨rfl,rfl,rfl,by simp,fun q hq _=>Below.heap_alloc w.drew _ q hq,DZ _⟩ (fun b cap hb=>by cases hb; exact .inr ⟨Nat.le_refl _,by simp⟩) ?_ ⟨_,_,0,if_pos rfl,by omega,fun _=>by omega,by rw[Nat.sub_zero]⟩ (by rw[ex,e2]; exact hr)
  refine ⟨by simp[h0],(fun hz0=>by cases hz0),_,hobj,?_,by omega,hcm,fun i' x' hx'=>?_⟩
  ·simp only[Array.size_append,List.size_toArray,size_zeroCells,hol,n1,hzz,hs,<- Nat.add_mul]
   congr 1; omega
  ·obtain ⟨ds,q1,q2⟩:=OS (cs:=(cs.toList.take ((off+len)*e.n)).drop (off*e.n)++news++(Builtin.zeroCells zz.cells (grownCap w (len+ys.length) (cap-off) et-(len+ys.length))).toList) (by rw[hol,List.length_drop,h0]; congr 1; omega) (fun j v hj=>by rw[List.getElem?_append_left (List.getElem?_eq_some_iff.1 hj).1]; exact hj) holds n3 i' x' hx'
   refine ⟨ds,q1,fun j v hj=>?_⟩
   have:=q2 j v hj
   rw[<- Array.getElem?_toList]
   simpa [List.append_assoc] using this
end
theorem E4.q {S:i4} {M M':i1} {S':i4} {s t n o o' l l':Nat} (hl:look S s=some (true,C7 t n o l)) (ho:o=o') (hn:l=l') (hs:t8 [t] (tags M')=true) (r:E4 S M S' M'):E4 S M (⟨s,true,[t],C7 t n o' l'⟩::S') M' :=
 r.conv hl rfl (fun _ _ h=>by subst ho; subst hn; exact h) hs
end Go.Fl

/- Calls that change one block of the caller's own: the block is handed on (a pointer to it, or a slice of it, is the first argument) and holds something else behind the call. No program in sight. -/
namespace Go.Fl
open Go Go.RowKit

def g1 (J:JV) (b cap:Nat):Gh:=⟨J,fun t=>if t=0 then some (.blk b cap) else none⟩
def EV (P:Program) (f:FuncId) (k0:d7) (ks:List d7) (ct ct':t9) (res:d7):Prop :=
 ∀w J b cap,Im J w->(∀o,J b o=none)->b<w.heap.size->ct (g1 J b cap) (.blk b cap) w.heap[b]?->∀v vs,k0 (g1 J b cap) v->n9 ⟨J,y9⟩ ks vs ->
  Calls P f (v::vs).toArray w fun e w'=>∃r J',e=.returned r/\ET (.blk b cap) w w'/\J.le J'/\(∀b' o,b'<w.heap.size->J' b' o=J b' o)/\Im J' w'/\res ⟨J',y9⟩ r/\ct' (g1 J' b cap) (.blk b cap) w'.heap[b]?
theorem l8.mut {c:n6} {S:i4} {M M':i1} {a:Act} {g:Gh} {w w':World} (h:l8 c S M a g w) {u b cap:Nat} (hm:g.M u=some (.blk b cap)) (hnm:w.heap[b]?≠some (Obj.deferred (some []))) (hbut:ET (.blk b cap) w w') {J':JV} (hJ:g.J.le J') (hJo:∀b' o,b'<w.heap.size->J' b' o=g.J b' o) (him:Im J' w')
  {ct':t9} (hup:D5 M u ct' [] M') (hd:B4 ct' []) (hct:ct' ⟨J',g.M⟩ (.blk b cap) w'.heap[b]?) {d:Nat} (hn:d<c.n) {k:d7} {v:Value} (hk:k ⟨J',g.M⟩ v) [hkd:o5 k []] :
  l8 c (⟨d,true,[],k⟩::S) M' (a.put (some d) v) ⟨J',g.M⟩ w':=by
 have htag:=hup.tags
 obtain ⟨hob,hlt,hJn⟩:=h.ok.own u b cap hm
 have hle:g.le ⟨J',g.M⟩:=⟨hJ,fun _ _ e=>e⟩
 refine ⟨⟨⟨hbut.os.trans h.ok.bel.os,hbut.tape.trans h.ok.bel.tape,hbut.output.trans h.ok.bel.output,Nat.le_trans h.ok.bel.size hbut.size,fun q hq hnb=>?_,Nat.le_trans h.ok.bel.drawn hbut.drawn⟩,JV.le_trans h.ok.jle hJ,fun b' o hb=>?_,him,fun t b' cap' ht=>?_,h.ok.inj⟩,?_,?_,?_,?_,?_,?_,h.defers.on fun D hD=>hbut.block D (Array.getElem?_eq_some_iff.1 hD).1 (fun cap' e=>by cases e; exact hnm hD),by simp[Act.put,h.size]⟩
 ·rw[hbut.block q (Nat.lt_of_lt_of_le hq h.ok.bel.size) (fun cap' e=>by cases e; rcases hob with h1 | h1; omega; exact hnb h1)]
  exact h.ok.bel.block q hq hnb
 ·show J' b' o=c.J0 b' o
  rw[hJo b' o (Nat.lt_of_lt_of_le hb h.ok.bel.size)]; exact h.ok.jold b' o hb
 ·obtain ⟨h1,h2,h3⟩:=h.ok.own t b' cap' ht
  exact ⟨h1,Nat.lt_of_lt_of_le h2 hbut.size,fun o=>by show J' b' o=none; rw[hJo b' o h2]; exact h3 o⟩
 ·exact (h.slots.on h.sdep h.conts hle).put (by rw[h.size]; exact hn) ⟨fun _=>hk,fun hf=>by cases hf⟩
 ·intro e he
  rcases hup.mem h.nodup e he with rfl | ⟨he,hne⟩
  ·exact ⟨_,hm,hct⟩
  ·obtain ⟨bk,h1,h2⟩:=h.conts e he
   refine ⟨bk,h1,?_⟩
   have:World.objAt w' bk=World.objAt w bk:=by
    cases bk with
    | nil=>rfl
    | blk b' cap'=>exact hbut.block b' (h.ok.own _ _ _ h1).2.1 (fun cap'' e'=>by cases e'; exact hne (h.ok.inj _ _ _ _ _ h1 hm))
   rw[this]
   exact (h.cdep e he).1.dep hJ (fun _ _=>rfl) h2
 ·intro t ht
  have:=h.dom t ht
  show t∈tags M'
  rw[htag]; exact this
 ·show (tags M').Nodup
  rw[htag]; exact h.nodup
 ·intro e he
  rcases List.mem_cons.1 he with rfl | he
  ·exact ⟨hkd,fun _ h=>by cases h⟩
  ·exact ⟨(h.sdep e he).1,fun t ht=>by show t∈tags M'; rw[htag]; exact (h.sdep e he).2 t ht⟩
 ·intro e he
  rcases hup.mem h.nodup e he with rfl | ⟨he,_⟩
  ·exact ⟨hd,fun _ h=>by cases h⟩
  ·exact ⟨(h.cdep e he).1,fun t ht=>by show t∈tags M'; rw[htag]; exact (h.cdep e he).2 t ht⟩
class aE (k:d7) (u:outParam Nat) (k0:outParam d7):Prop where
 imp:∀{g:Gh} {v:Value} {b cap:Nat} {J:JV},g.M u=some (.blk b cap)->k g v->k0 (g1 J b cap) v
 blk:∀{g:Gh} {v:Value},k g v->∃bk,g.M u=some bk
instance {u o:Nat}:aE (y5 u o) u (y5 0 o):=⟨fun hm ⟨b,cap,h1,h2⟩=>⟨b,cap,by rw[hm] at h1; simpa [g1] using h1,h2⟩,fun ⟨_,_,h1,_⟩=>⟨_,h1⟩⟩
section
variable {P:Program} {c:n6} {ops:Array Oper} {S:i4} {M:i1} {rest:List Oper} {Q:Exit->Act->World->Prop}
variable {d:Nat} {ty:TypeId} {pos:String} {af:Array Edge}
end

end Go.Fl

/- A region that draws its order and changes a thing of the call's own by an operation that hands back a value ('copy'). -/
namespace Go.Fl
open Go Go.RowKit
section
variable {P:Program} {c:n6} {Q:Exit->Act->World->Prop} {l:List Oper} {m:Nat} {S:i4} {M Mx:i1} {MI:Nat->i1} {rs:List B6} {a0:Act} {g0:Gh} {w1:World}
variable {M0 MA Mc:i1} {rest:List Oper} {d:Nat} {oop:Op} {ty:TypeId} {pos:String} {af:Array Edge} {q u k':Nat} {x y:Operand}
end
end Go.Fl

/- Slices of one's own row and 'copy' into it (elements: integers). No program in sight. -/
namespace Go.Fl
open Go Go.RowKit
section
variable {P:Program} {c:n6} {S:i4} {M:i1} {p:Bool} {d:Option Tmp} {ty:TypeId} {pos:String} {af:Array Edge} {gd:Option (Nat×Bool)} {x y:Operand} {b b':Bool}
theorem zE {u len:Nat} {g:Gh} {v:Value} (h:o9 u len g v) (h0:0<len):∃b cap,g.M u=some (.blk b cap)/\v=.slice (some ⟨b,0,none⟩) len cap:=by
 rcases h with ⟨_,h1,_⟩ | h
 ·omega
 ·exact h
end
section
variable {P:Program} {c:n6} {S:i4} {M:i1} {ty:TypeId} {pos:String} {af:Array Edge} {x y:Operand} {d:Nat}
variable {ops:Array Oper} {rest:List Oper} {Q:Exit->Act->World->Prop}
end
end Go.Fl

/- Slices that are nil just if they are empty. No program in sight. -/
namespace Go.Fl
open Go Go.RowKit
section
variable {P:Program} {c:n6} {S:i4} {M:i1} {p:Bool} {d:Option Tmp} {ty:TypeId} {pos:String} {af:Array Edge} {gd:Option (Nat×Bool)} {x y:Operand} {b b':Bool} {Q:Exit->Act->World->Prop}
end
section
variable {P:Program} {c:n6} {Q:Exit->Act->World->Prop} {S:i4} {M M0:i1} {ops:Array Oper} {rest:List Oper} {d:Nat} {oop:Op} {ty:TypeId} {pos:String} {af:Array Edge} {m:Nat}
end
end Go.Fl

/- max, min. No program in sight. -/
namespace Go.Fl
open Go Go.RowKit
section
variable {P:Program} {c:n6} {S:i4} {M:i1} {p:Bool} {d:Option Tmp} {ty:TypeId} {pos:String} {af:Array Edge} {gd:Option (Nat×Bool)} {x y:Operand} {b b':Bool}
theorem iZ {ts:Array TypeId} {m n:Int} (hx:j2 S x=some (b,kI m)) (hb:p=true->b=true) (hy:j2 S y=some (b',kI n)) (hb':p=true->b'=true):l4 P c S M ⟨d,.call { callee:=.builtin .max,args:=#[x,y],argTypes:=ts },ty,pos,af,gd⟩ p (kI (if n>m then n else m)) none :=
 l4.pure fun hp a g w _ _ ho=>by
  have h1:a.eval x=_:=ho x (by simp[Op.operands,Call.operands]) b _ hx (hb hp)
  have h2:a.eval y=_:=ho y (by simp[Op.operands,Call.operands]) b' _ hy (hb' hp)
  exact ⟨_,by simp[execOp,resolve,invoke,builtin,h1,h2,run_max_int2],rfl⟩
theorem jA {ts:Array TypeId} {m n:Int} (hx:j2 S x=some (b,kI m)) (hb:p=true->b=true) (hy:j2 S y=some (b',kI n)) (hb':p=true->b'=true):l4 P c S M ⟨d,.call { callee:=.builtin .min,args:=#[x,y],argTypes:=ts },ty,pos,af,gd⟩ p (kI (if n<m then n else m)) none :=
 l4.pure fun hp a g w _ _ ho=>by
  have h1:a.eval x=_:=ho x (by simp[Op.operands,Call.operands]) b _ hx (hb hp)
  have h2:a.eval y=_:=ho y (by simp[Op.operands,Call.operands]) b' _ hy (hb' hp)
  exact ⟨_,by simp[execOp,resolve,invoke,builtin,h1,h2,Builtin.min_,Builtin.min2],rfl⟩
end
end Go.Fl

/- Elements of an array of the call's own. No program in sight. -/
namespace Go.Fl
open Go Go.RowKit
section
variable {P:Program} {c:n6} {S:i4} {M:i1} {p:Bool} {d:Option Tmp} {ty:TypeId} {pos:String} {af:Array Edge} {gd:Option (Nat×Bool)} {x y:Operand} {b b':Bool}
theorem DI {t et:TypeId} {n:Nat} [ht:AO P t n et] {sz by':Nat} {zz:Value} [hz:p6 P et sz by' zz] {u o:Nat} {ik:IntKind} {i:Int} (hx:j2 S x=some (b,y5 u o)) (hb:p=true->b=true) (hy:j2 S y=some (b',z9 ik i)) (hb':p=true->b'=true) (h:p=true->0<=i/\i<n) :
  l4 P c S M ⟨d,.indexAddr t x y,ty,pos,af,gd⟩ p (y5 u (o+i.toNat*sz)) none :=
 l4.pure fun hp a g w _ _ ho=>by
  obtain ⟨bl,cap,h1,h2⟩:=ho x (by simp[Op.operands]) b _ hx (hb hp)
  have h3:a.eval y=_:=ho y (by simp[Op.operands]) b' _ hy (hb' hp)
  have hlt:=h hp
  obtain ⟨ti,hi,rfl,_,_⟩:=hz.h
  refine ⟨.pointer (some ⟨bl,o+i.toNat*ti.size,none⟩),?_,bl,cap,h1,rfl⟩
  simp[execOp,h2,h3,Instr.indexAt,run_underlying ht.h,asIntOf,hlt,sizeOf,typeInfo,hi,Instr.sureAddr,Addr.add_lit]
end
end Go.Fl

/- Rows that a struct of the call's own holds: they begin as nil, and are appended to; maps of integers. No program in sight. -/
namespace Go.Fl
open Go Go.RowKit

instance {ks kx out:List d7} [h:V1 ks 0 kx out]:V1 ks (0+0) kx out:=h
inductive Wk:List d7->List d7->Prop
 | nil:Wk [] []
 | k {k:d7} {ks ls:List d7} (r:Wk ks ls):Wk (k::ks) (k::ls)
 | any {k:d7} {ks ls:List d7} (r:Wk ks ls):Wk (k::ks) (X6::ls)
theorem Wk.imp {ks ls:List d7} (h:Wk ks ls) {g:Gh}:∀{vs:List Value},n9 g ks vs->n9 g ls vs:=by
 induction h with
 | nil=>intro vs h; exact h
 | k _ ih=>intro vs h; cases vs with
  | nil=>exact h.elim
  | cons v vs=>exact ⟨h.1,ih h.2⟩
 | any _ ih=>intro vs h; cases vs with
  | nil=>exact h.elim
  | cons v vs=>exact ⟨trivial,ih h.2⟩
theorem l8.conC {c:n6} {S:i4} {M M':i1} {a:Act} {g:Gh} {w:World} (h:l8 c S M a g w) {v:Nat} {ct ct':t9} {dep dep':List Nat} [hl:q7 M v ct dep] (hc:∀g b o,ct g b o->ct' g b o) (hd:B4 ct' dep') (hup:D5 M v ct' dep' M') (hs:∀t∈dep',t∈tags M):l8 c S M' a g w:=by
 have htag:=hup.tags
 refine ⟨h.ok,h.slots,fun e he=>?_,fun t ht=>?_,?_,fun e he=>?_,fun e he=>?_,h.defers,h.size⟩
 ·rcases hup.mem h.nodup e he with rfl | ⟨he,_⟩
  ·obtain ⟨b,h1,h2⟩:=h.conts _ hl.mem
   exact ⟨b,h1,hc _ _ _ h2⟩
  ·exact h.conts e he
 ·have:=h.dom t ht
  show t∈tags M'
  rw[htag]; exact this
 ·show (tags M').Nodup
  rw[htag]; exact h.nodup
 ·exact ⟨(h.sdep e he).1,fun t ht=>by show t∈tags M'; rw[htag]; exact (h.sdep e he).2 t ht⟩
 ·rcases hup.mem h.nodup e he with rfl | ⟨he,_⟩
  ·exact ⟨hd,fun t ht=>by show t∈tags M'; rw[htag]; exact hs t ht⟩
  ·exact ⟨(h.cdep e he).1,fun t ht=>by show t∈tags M'; rw[htag]; exact (h.cdep e he).2 t ht⟩
theorem l8.growC {c:n6} {S:i4} {M M1:i1} {a:Act} {g:Gh} {w:World} (h:l8 c S M a g w) (v o u:Nat) {ks ks':List d7} {dep dep':List Nat} [hl:q7 M v (j5 ks) dep] (ho:ks[o]?=some (j4 (.slice none 0 0))) (he:ks'=ks.set o (o9 u 0)) (hd:B4 (j5 ks') dep') (hup:D5 M v (j5 ks') dep' M1)
  (hf:t8 [u] (tags M)=false) {α:Type} (et:TypeId) (e:i8 α) (hs:t8 dep' (u::tags M)=true) (hdk:∀k∈ks,∃d,o5 k d/\∀t∈d,t∈tags M):∃g',l8 c S (⟨u,[],l5 true et e [] 0⟩::M1) a g' w:=by
 have hfresh:u∉tags M:=by
  intro ht
  have:t8 [u] (tags M)=true:=by
   simp only[t8,Bool.and_true]
   exact List.any_eq_true.2 ⟨u,ht,Nat.beq_refl u⟩
  rw[hf] at this; cases this
 have hnone:g.M u=none:=by
  cases hm:g.M u with
  | none=>rfl
  | some b=>exact absurd (h.dom u (by rw[hm]; simp)) hfresh
 have hle:g.le (g.add u .nil):=⟨JV.le_refl _,fun t b hb=>by
  simp only[Gh.add]
  by_cases ht:t=u
  ·subst ht; rw[hnone] at hb; cases hb
  ·rw[if_neg ht]; exact hb⟩
 have hblk:∀t b cap,(g.add u .nil).M t=some (.blk b cap)->g.M t=some (.blk b cap):=fun t b cap ht=>by
  simp only[Gh.add] at ht
  by_cases e:t=u
  ·rw[if_pos e] at ht; cases ht
  ·rw[if_neg e] at ht; exact ht
 have htag:=hup.tags
 refine ⟨g.add u .nil,⟨⟨h.ok.bel,h.ok.jle,h.ok.jold,h.ok.im,fun t b cap ht=>h.ok.own t b cap (hblk _ _ _ ht),fun t t' b c1 c2 h1 h2=>h.ok.inj t t' b c1 c2 (hblk _ _ _ h1) (hblk _ _ _ h2)⟩,h.slots.on h.sdep h.conts hle,fun x hx=>?_,fun t ht=>?_,?_,fun x hx=>?_,fun x hx=>?_,h.defers,h.size⟩⟩
 ·rcases List.mem_cons.1 hx with rfl | hx
  ·exact ⟨_,Gh.add_same _ _ _,rfl,rfl⟩
  ·rcases hup.mem h.nodup x hx with rfl | ⟨hx,_⟩
   ·obtain ⟨b,h1,cs,ty,h2,h3⟩:=h.conts _ hl.mem
    refine ⟨b,hle.2 _ _ h1,cs,ty,h2,?_⟩
    have hmono:n9 (g.add u .nil) ks cs.toList:=by
     have:∀{ls:List d7} {vs:List Value},(∀k∈ls,∃d,o5 k d/\∀t∈d,t∈tags M)->n9 g ls vs->n9 (g.add u .nil) ls vs:=by
      intro ls
      induction ls with
      | nil=>intro vs _ h; cases vs<;>exact h
      | cons k ls ih =>
       intro vs hk hh
       cases vs with
       | nil=>exact hh.elim
       | cons x vs =>
        obtain ⟨d,q1,q2⟩:=hk k List.mem_cons_self
        exact ⟨gO h.conts hle q1 q2 hh.1,ih (fun z hz=>hk z (List.mem_cons_of_mem _ hz)) hh.2⟩
     exact this hdk h3
    obtain ⟨x,hx1,hx2⟩:=IT h3 ho
    have hx2:x=.slice none 0 0:=hx2
    have:=aT hmono o (k:=o9 u 0) (v:=x) (.inl ⟨Gh.add_same _ _ _,rfl,hx2⟩)
    rw[he]
    have hcs:cs.toList.set o x=cs.toList:=by
     refine List.ext_getElem? fun j=>?_
     by_cases e:o=j
     ·subst e
      rw[List.getElem?_set_self (List.getElem?_eq_some_iff.1 hx1).1,hx1]
     ·rw[List.getElem?_set_ne e]
    rwa [hcs] at this
   ·obtain ⟨b,h1,h2⟩:=h.conts x hx
    exact ⟨b,hle.2 _ _ h1,(h.cdep x hx).1.dep hle.1 (fun t ht=>by obtain ⟨b,hb⟩:=h.conts.tag ((h.cdep x hx).2 t ht); rw[hb]; exact hle.2 t b hb) h2⟩
 ·by_cases e':t=u
  ·subst e'; exact List.mem_cons_self
  ·have:g.M t≠none:=by simpa [Gh.add,e'] using ht
   have:=h.dom t this
   exact List.mem_cons_of_mem _ (by show t∈tags M1; rw[htag]; exact this)
 ·refine List.nodup_cons.2 ⟨?_,?_⟩
  ·show u∉tags M1
   rw[htag]; exact hfresh
  ·show (tags M1).Nodup
   rw[htag]; exact h.nodup
 ·exact ⟨(h.sdep x hx).1,fun t ht=>List.mem_cons_of_mem _ (by show t∈tags M1; rw[htag]; exact (h.sdep x hx).2 t ht)⟩
 ·rcases List.mem_cons.1 hx with rfl | hx
  ·exact ⟨inferInstance,fun _ h=>by cases h⟩
  ·rcases hup.mem h.nodup x hx with rfl | ⟨hx,_⟩
   ·refine ⟨hd,fun t ht=>?_⟩
    have:=C3 hs t ht
    rcases List.mem_cons.1 this with rfl | this
    ·exact List.mem_cons_self
    ·exact List.mem_cons_of_mem _ (by show t∈tags M1; rw[htag]; exact this)
   ·exact ⟨(h.cdep x hx).1,fun t ht=>List.mem_cons_of_mem _ (by show t∈tags M1; rw[htag]; exact (h.cdep x hx).2 t ht)⟩
class LH (ks:List d7) (L:List Nat):Prop where
 all:∀k∈ks,∃d,o5 k d/\∀t∈d,t∈L
instance {L:List Nat}:LH [] L:=⟨fun _ h=>by cases h⟩
theorem LH.cons {k:d7} {ks:List d7} {L d:List Nat} (h:o5 k d) (hd:t8 d L=true) (r:LH ks L):LH (k::ks) L:=⟨fun x hx=>by
 rcases List.mem_cons.1 hx with rfl | hx
 ·exact ⟨d,h,C3 hd⟩
 ·exact r.all x hx⟩
section
variable {P:Program} {c:n6} {ops:Array Oper} {S:i4} {M M':i1} {rest:List Oper} {Q:Exit->Act->World->Prop}
variable {p:Bool} {d:Option Tmp} {ty:TypeId} {pos:String} {af:Array Edge} {gd:Option (Nat×Bool)} {x y z:Operand} {b b':Bool} {code:Code}
theorem d5.wkC (v:Nat) {ks ls:List d7} {dep dep':List Nat} [hl:q7 M v (j5 ks) dep] (hw:Wk ks ls) [hd:B9 ls dep'] [hup:D5 M v (j5 ls) dep' M'] (hs:t8 dep' (tags M)=true) (K:d5 P c ops S M' rest Q):d5 P c ops S M rest Q :=
 fun a g w h=>K a g w (h.conC (ct:=j5 ks) (fun _ _ _ ⟨cs,ty,h1,h2⟩=>⟨cs,ty,h1,hw.imp h2⟩) inferInstance hup (C3 hs))
theorem Tr.growC (v o u:Nat) {ks:List d7} {dep dep':List Nat} [hl:q7 M v (j5 ks) dep] (ho:ks[o]?=some (j4 (.slice none 0 0))) {ks':List d7} (he:ks'=ks.set o (o9 u 0)) [hd:B9 ks' dep'] [hup:D5 M v (j5 ks') dep' M']
  (hf:t8 [u] (tags M)=false) {α:Type} (et:TypeId) (e:i8 α) (hs:t8 dep' (u::tags M)=true) (hk:LH ks (tags M)) (K:Tr P c S (⟨u,[],l5 true et e [] 0⟩::M') code Q):Tr P c S M code Q :=
 fun a _ w h=>let ⟨g',h'⟩:=h.growC v o u ho he inferInstance hup hf et e hs hk.all; K a g' w h'
end
end Go.Fl

/- Equal structs; how many keys a map has. No program in sight. -/
namespace Go.Fl
open Go Go.RowKit
section
variable {P:Program} {c:n6} {S:i4} {M:i1} {p:Bool} {d:Option Tmp} {ty:TypeId} {pos:String} {af:Array Edge} {gd:Option (Nat×Bool)} {x y:Operand} {b b':Bool}
end
end Go.Fl

/- A row of the call's own may be lent to a call that only reads; regions that draw their order, some of whose operations write: what yields the same in any world may come first, the rest is gone through as it may come up. No program in sight. -/
namespace Go.Fl
open Go Go.RowKit

class TV (k:d7):Prop where
 go:∀{g g':Gh} {v:Value},k g v->k g' v
theorem OO {J J':JV} (hJ:J.le J'):∀{ks:List d7} {vs:List Value},(∀k∈ks,o5 k [])->n9 ⟨J,y9⟩ ks vs->n9 ⟨J',y9⟩ ks vs
 | [],[],_,_=>trivial
 | [],_::_,_,h=>h.elim
 | _::_,[],_,h=>h.elim
 | k::ks,v::vs,hk,h=>⟨(hk k List.mem_cons_self).dep (g:=⟨J,y9⟩) hJ (fun _ h=>by cases h) h.1,OO hJ (fun x hx=>hk x (List.mem_cons_of_mem _ hx)) h.2⟩
section
variable {P:Program} {c:n6} {S:i4} {M:i1} {p:Bool} {d:Option Tmp} {ty:TypeId} {pos:String} {af:Array Edge} {gd:Option (Nat×Bool)}
variable {x y z:Operand} {b b' b'':Bool}
theorem yV {f:FuncId} [hf:f0 P f] {args:List Operand} {tys:Array TypeId} {ks:List d7} {res:d7} {u len:Nat} {α:Type} {zb:Bool} {et:TypeId} {e:i8 α} {xs:List α} {dep:List Nat} [hl:q7 M u (l5 zb et e xs len) dep]
  (hct:p=true->Ct P f (b8 (eL e) xs::ks) res) (hx:j2 S x=some (b,o9 u len)) (hb:p=true->b=true) (hlen:p=true->len<=p9) (ha:G4 S p args ks) [hj:AI ks] [hk:o5 res []] [hfr:TV res] :
  l4 P c S M ⟨d,.call { callee:=.value (.func f),args:=(x::args).toArray,argTypes:=tys },ty,pos,af,gd⟩ p res none:=by
 intro hp a g w hok hc ho _
 have hargs:=ha.eval (g:=g) (ρ:=a.eval) hp (fun y hy b k hk hb=>ho y (by simp[Op.operands,Call.operands,hy]) b k hk hb)
 have hxv:o9 u len g (a.eval x):=ho x (by simp[Op.operands,Call.operands]) b _ hx (hb hp)
 obtain ⟨bk,hm,h0,h1⟩:=hc _ hl.mem
 simp only at hm h0
 have key:∃J':JV,g.J.le J'/\Im J' w/\(b8 (eL e) xs) ⟨J',y9⟩ (a.eval x)/\∀J2:JV,J'.le J2->(∀b o,b<w.heap.size->J2 b o=J' b o)->∃J3:JV,g.J.le J3/\(∀b o,b<w.heap.size->J3 b o=g.J b o)/\∀w',Im J2 w'->Im J3 w':=by
  cases bk with
  | nil =>
   subst h1
   have hxs:xs=[]:=List.eq_nil_of_length_eq_zero h0
   subst hxs
   refine ⟨g.J,JV.le_refl _,hok.im,?_,fun J2 h2 h3=>⟨J2,h2,h3,fun _ h=>h⟩⟩
   rcases hxv with ⟨_,_,hv⟩ | ⟨b,cap,hb,_⟩
   ·exact ⟨_,Y1,hv⟩
   ·rw[hm] at hb; cases hb
  | blk bl cap =>
   obtain ⟨_,cs,h3,h4,h5,h6,h7⟩:=h1
   have hnone:=(hok.own u bl cap hm).2.2
   have hJ:g.J.le (g.J.with bl cs):=JV.le_with hnone
   refine ⟨g.J.with bl cs,hJ,fun b o v hv=>?_,?_,fun J2 h2 h3'=>⟨fun b o=>if b=bl then none else J2 b o,fun b o v hv=>?_,fun b o hlt=>?_,fun w' him b o v hv=>?_⟩⟩
   ·unfold JV.with at hv
    by_cases e:b=bl
    ·rw[if_pos e] at hv; subst e; exact M7 h3 hv
    ·rw[if_neg e] at hv; exact hok.im b o v hv
   ·rcases hxv with ⟨hb,_⟩ | ⟨b',cap',hb,hv⟩
    ·rw[hm] at hb; cases hb
    ·rw[hm] at hb; cases hb
     refine ⟨_,⟨some ⟨bl,0,none⟩,cap,rfl,⟨by rw[h0]; exact hlen hp,by rw[h0]; exact h5⟩,.inr ⟨bl,0,rfl,fun i x hx=>?_⟩⟩,by rw[h0]; exact hv⟩
     obtain ⟨ds,q1,q2⟩:=h7 i x hx
     refine ⟨ds,e.mono hJ q1,fun j v hj=>?_⟩
     show (g.J.with bl cs) bl (0+i*e.n+j)=some v
     unfold JV.with
     rw[if_pos rfl,Nat.zero_add]
     exact q2 j v hj
   ·have hne:b≠bl:=fun e=>by subst e; rw[hnone o] at hv; cases hv
    simp only[if_neg hne]
    exact h2 _ _ _ (hJ _ _ _ hv)
   ·by_cases e:b=bl
    ·subst e; simp only[if_true]; exact (hnone o).symm
    ·simp only[if_neg e]
     rw[h3' b o hlt]
     unfold JV.with
     rw[if_neg e]
   ·by_cases e:b=bl
    ·simp only[if_pos e] at hv; cases hv
    ·simp only[if_neg e] at hv; exact him b o v hv
 obtain ⟨J',hJ,him,hrd,hback⟩:=key
 have hr:=hct hp w J' him (a.eval x::args.map a.eval) ⟨hrd,OO hJ hj.all hargs⟩
 unfold Oper.wp
 simp only[execOp,resolve,Act.eval,Deferred.ofValue,Sem.run_bind,Sem.run_pure,Result.andThen_ok,invoke,List.map_toArray,List.map_cons,Array.append_empty,Array.empty_append]
 rw[hf.run]
 simp only[Oper.upon]
 refine hr.mono fun e' w' he=>?_
 obtain ⟨r,J2,rfl,hbel,hJ2,hold,him2,hres⟩:=he
 obtain ⟨J3,q1,q2,q3⟩:=hback J2 hJ2 hold
 exact ⟨r,_,rfl,H2.call hok hbel q1 q2 (q3 _ him2) (hfr.go (g':=⟨J3,y9⟩) hres)⟩
end

def Z8 (Q:Exit->Act->World->Prop):Exit->Act->World->Prop:=fun e a w=>e=.normal/\Q .normal a w
def Nx (K:Act->World->Prop):Exit->Act->World->Prop:=fun e a w=>e=.normal/\K a w
def b7 (P:Program) (c:n6) (ops:Array Oper) (Q:Exit->Act->World->Prop) (Sp:World->Prop) (n:Nat) (listed:Array Bool) (S:i4) (M:i1):Prop :=
 ∀a g w,l8 c S M a g w->Sp w->wpAnyH P .any ops (Z8 Q) Sp n listed a w
def DQ (P:Program) (c:n6) (S:i4) (M:i1) (Sp:World->Prop) (o:Oper) (k:d7):Prop :=
 ∀a g w,l8 c S M a g w->Sp w->∃v,(∀w',Sp w'->(execOp a.eval o).run P w'=.ok (.value v) w')/\k g v
theorem QW {Q:Exit->Act->World->Prop}:¬LetsOut (Z8 Q):=fun ⟨_,_,h⟩=>by cases h.1
theorem Oper.wp_onN {P:Program} {o:Oper} {a:Act} {w:World} {K K':Act->World->Prop} {Q:Exit->Act->World->Prop}
  (h:o.wp P a w K (Nx K')):o.wp P a w K Q:=by
 unfold Oper.wp at *
 generalize (execOp a.eval o).run P w=r at *
 cases r with
 | ok n w' =>
  cases n<;>simp only[Oper.upon] at h ⊢ <;>
   first
    | exact h
    | exact Calls.mono h (fun e w'' he=>by
      cases e with
      | returned v=>exact he
      | panicked ch=>exact absurd he.1 (by simp)
      | outgrown=>obtain ⟨_,_,hf⟩:=he; exact absurd hf.1 (by simp))
    | exact Rows.mono h (fun _ _ he=>he)
    | exact absurd h.1 (by simp)
 | halt x w' =>
  cases x<;>simp only[Oper.upon] at h ⊢<;>first | exact absurd h.1 (by simp) | exact h
section
variable {P:Program} {c:n6} {ops:Array Oper} {S:i4} {M:i1} {Q:Exit->Act->World->Prop} {Sp:World->Prop} {n:Nat} {listed:Array Bool}
variable {d:Nat} {oop:Op} {ty:TypeId} {pos:String} {af:Array Edge}
theorem b7.take (i:Nat) (listed':Array Bool) {k:d7} {dep:List Nat} (hs:Region.noSelect ops=true) (hf:Region.free .any ops listed i=true) (hr:(Region.ready .any ops listed).contains i=true) (hset:listed.setIfInBounds i true=listed')
  (hi:ops[i]?=some ⟨some d,oop,ty,pos,af,none⟩) (hy:DQ P c S M Sp ⟨some d,oop,ty,pos,af,none⟩ k) [hk:o5 k dep] (hsub:t8 dep (tags M)=true) (hn:Nat.blt d c.n=true)
  (K:b7 P c ops Q Sp n listed' (⟨d,true,dep,k⟩::S) M):b7 P c ops Q Sp (n+1) listed S M:=by
 intro a g w hsat hsp
 obtain ⟨v,h1,h2⟩:=hy a g w hsat hsp
 refine wpAnyH_take hi hs hf hr (fun _ _ _ h=>absurd h.1 (by simp)) (.inl ⟨rfl,h1⟩) hsp ?_
 rw[hset]
 exact K _ g _ (hsat.did (H2.same hsat.ok h2) (fun _ h=>by cases h) hk (C3 hsub) (by simpa [Nat.blt_eq] using hn)) hsp
theorem b7.all (rs:List Nat) (hr:Region.ready .any ops listed=rs) (hne:rs≠[])
  (h:∀i∈rs,∃o,ops[i]?=some o/\d5 P c ops S M [o] (Nx fun a w=>Sp w/\wpAnyH P .any ops (Z8 Q) Sp n (listed.setIfInBounds i true) a w)):b7 P c ops Q Sp (n+1) listed S M:=by
 intro a g w hsat _
 refine wpAnyH_all hr hne fun i hi=>?_
 obtain ⟨o,ho,ht⟩:=h i hi
 have h1:=ht a g w hsat
 unfold wpOp
 rw[ho]
 simp only[wpList] at h1
 simp only
 split
 ·rename_i hw
  rw[if_pos hw] at h1
  rcases h1 with h1 | ⟨_,_,_,h1⟩
  ·exact .inl (Oper.wp_mono (fun _ _ h=>h.2) (Oper.wp_onN h1))
  ·exact absurd h1.1 (by simp)
 ·rename_i hw
  rw[if_neg hw] at h1
  exact h1.2
theorem b7.one (i:Nat) (hr:Region.ready .any ops listed=[i]) {o:Oper} (ho:ops[i]?=some o)
  (h:d5 P c ops S M [o] (Nx fun a w=>Sp w/\wpAnyH P .any ops (Z8 Q) Sp n (listed.setIfInBounds i true) a w)):b7 P c ops Q Sp (n+1) listed S M :=
 b7.all [i] hr (by simp) (fun j hj=>by rw[List.mem_singleton] at hj; subst hj; exact ⟨o,ho,h⟩)
theorem b7.k {listed0:Array Bool} (listed':Array Bool) (hl:listed0=listed') (hSp:∀a g w,l8 c S M a g w->Sp w) (K:b7 P c ops Q Sp n listed' S M):d5 P c ops S M [] (Nx fun a w=>Sp w/\wpAnyH P .any ops (Z8 Q) Sp n listed0 a w) :=
 fun a g w hs=>wpList_nil ⟨rfl,hSp a g w hs,by rw[hl]; exact K a g w hs (hSp a g w hs)⟩
theorem b7.done (hr:Region.ready .any ops listed=[]) (h:d9 c S M Q):b7 P c ops Q Sp n listed S M:=fun a g w hs _=>wpAnyH_done hr ⟨rfl,h a g w hs⟩ n
theorem Tr.drawA {l:List Oper} {id:Nat} (hm:P.follows .mixedOrders=true) (listed':Array Bool) (hl:Array.replicate l.length false=listed') (h:b7 P c l.toArray Q (fun _=>True) l.length listed' S M) (hr:c.rd=none\/EH l=true:=by first | exact .inl rfl | exact .inr rfl):Tr P c S M (.region id l.toArray true) Q:=by
 intro a g w hs
 subst hl
 exact Code.wpIn_mono (Q:=Z8 Q) (fun e _ _ q=>by obtain ⟨he,h⟩:=q; subst he; exact h) (NV (hr.imp (fun h=>h) fun h=>⟨h,QW⟩) hm (wpAny_of_held _ _ _ _ (by simpa using h _ _ _ hs.drew trivial)))
def bC (ct:t9) (q:Bk×Option Obj):t9:=fun g bk o=>ct g bk o/\bk=q.1/\o=q.2
def N9 (f:Nat->Bk×Option Obj) (M:i1):i1:=M.map fun e=>⟨e.t,e.dep,bC e.c (f e.t)⟩
def YN (f:Nat->Bk×Option Obj) (M:i1):World->Prop:=fun w=>∀e∈M,World.objAt w (f e.t).1=(f e.t).2
end

section
variable {P:Program} {c:n6} {S:i4} {M:i1} {Sp:World->Prop} {d:Option Tmp} {ty:TypeId} {pos:String} {af:Array Edge} {gd:Option (Nat×Bool)} {x y:Operand}
theorem CO {k:d7} (hx:j2 S x=some (true,k)):DQ P c S M Sp ⟨d,.move x,ty,pos,af,gd⟩ k :=
 fun a g _ hs _=>⟨a.eval x,fun _ _=>by simp[execOp],C8 hs.slots hx rfl⟩
theorem al0 {op:BinOp} {t t':TypeId} {u v r:Value} (hr:∀w,(do eqGuard op t x y u v; binOp op t u v:Sem Value).run P w=.ok r w) (hx:j2 S x=some (true,j4 u)) (hy:j2 S y=some (true,j4 v)) :
  DQ P c S M Sp ⟨d,.binOp op t x y t',ty,pos,af,gd⟩ (j4 r):=fun a g _ hs _=>by
 have h1:a.eval x=u:=C8 hs.slots hx rfl
 have h2:a.eval y=v:=C8 hs.slots hy rfl
 refine ⟨r,fun w _=>?_,rfl⟩
 have:=hr w
 simp only[Sem.run_bind] at this
 simp only[execOp,h1,h2,Sem.run_bind,this,Result.andThen_ok,Sem.run_pure]
theorem nN {t t':TypeId} {m n:Int} (hx:j2 S x=some (true,kI m)) (hy:j2 S y=some (true,kI n)) (h:-9223372036854775808<=m+n/\m+n<=9223372036854775807):DQ P c S M Sp ⟨d,.binOp .add t x y t',ty,pos,af,gd⟩ (kI (m+n)) :=
 al0 (fun w=>by simp[go_sem,IntWalk.i64_in _ h]) hx hy
theorem GL {s:TypeId} {f off:Nat} [ht:s8 P s f off] {t o:Nat} (hx:j2 S x=some (true,y5 t o)):DQ P c S M Sp ⟨d,.fieldAddr s x f,ty,pos,af,gd⟩ (y5 t (o+off)):=fun a g _ hs _=>by
 obtain ⟨bl,cap,h1,h2⟩:=C8 hs.slots hx rfl
 exact ⟨.pointer (some ⟨bl,o+off,none⟩),fun _ _=>by simp[execOp,h2,ht.run,Addr.add_lit],bl,cap,h1,rfl⟩
theorem LD {t:TypeId} [ht:F4 P t] {u o:Nat} {ks:List d7} {dep:List Nat} {f:Nat->Bk×Option Obj} {M0:i1} [hl0:q7 M0 u (j5 ks) dep] [hl:q7 M u (bC (j5 ks) (f u)) dep] {k:d7} (hx:j2 S x=some (true,y5 u o)) (hk:ks[o]?=some k) :
  DQ P c S M (YN f M0) ⟨d,.load t x,ty,pos,af,gd⟩ k:=fun a g w hs hsp=>by
 obtain ⟨bl,cap,h1,h2⟩:=C8 hs.slots hx rfl
 obtain ⟨bk,q1,⟨cs,tt,q2,q3⟩,q4,q5⟩:=hs.conts _ hl.mem
 simp only at q1 q4 q5
 rw[h1] at q1; cases q1
 obtain ⟨v,hv,hkv⟩:=IT q3 hk
 refine ⟨v,fun w' hw'=>?_,hkv⟩
 have hob:w'.heap[bl]?=some (.cells cs tt (0,0)):=by
  have:=hw' _ hl0.mem
  simp only at this
  rw[<- q4,<- q5,q2] at this
  exact this
 simp only[execOp,h2,Sem.run_bind,NK (P:=P) (t:=t) (M7 hob (by simpa using hv)),Result.andThen_ok,Sem.run_pure]
end
end Go.Fl

/- Functions that change a block which the caller lends by a pointer: their walk. No program in sight. -/
namespace Go.Fl
open Go Go.RowKit

def EB (t o bl:Nat):d7:=fun g v=>(∃cap,g.M t=some (.blk bl cap))/\v=.pointer (some ⟨bl,o,none⟩)
instance (t o bl:Nat):o5 (EB t o bl) [t]:=⟨fun _ hd ⟨⟨cap,h1⟩,h2⟩=>⟨⟨cap,(hd t (by simp)).trans h1⟩,h2⟩⟩
theorem EB.own {t o bl:Nat} {g:Gh} {v:Value} (h:EB t o bl g v):y5 t o g v:=let ⟨⟨cap,h1⟩,h2⟩:=h; ⟨bl,cap,h1,h2⟩
section
variable {P:Program} {c:n6} {S:i4} {M:i1} {p:Bool} {d:Option Tmp} {ty:TypeId} {pos:String} {af:Array Edge} {gd:Option (Nat×Bool)} {x:Operand} {b:Bool} {Sp:World->Prop}
theorem N7 {t o bl:Nat} (hx:j2 S x=some (b,EB t o bl)) (hb:p=true->b=true):l4 P c S M ⟨d,.nilCheck x,ty,pos,af,gd⟩ p (y5 t o) none :=
 l4.pure fun hp a g w _ _ ho=>by
  have hk:=ho x (by simp[Op.operands]) b _ hx (hb hp)
  exact ⟨a.eval x,by simp[execOp,hk.2],hk.own⟩
end
def BL (w:World) (J:JV) (b cap:Nat) (res:d7) (ct':t9):Ending->World->Prop:=fun e w'=>∃r J',e=.returned r/\ET (.blk b cap) w w'/\J.le J'/\(∀b' o,b'<w.heap.size->J' b' o=J b' o)/\Im J' w'/\res ⟨J',y9⟩ r/\ct' (g1 J' b cap) (.blk b cap) w'.heap[b]?
theorem LR {g g':Gh} (hJ:g.J.le g'.J):∀{ks:List d7} {vs:List Value},(∀k∈ks,o5 k [])->n9 g ks vs->n9 g' ks vs
 | [],[],_,_=>trivial
 | [],_::_,_,h=>h.elim
 | _::_,[],_,h=>h.elim
 | k::ks,v::vs,hk,h=>⟨(hk k List.mem_cons_self).dep hJ (fun _ h=>by cases h) h.1,LR hJ (fun x hx=>hk x (List.mem_cons_of_mem _ hx)) h.2⟩
theorem EV.mk {P:Program} {f:FuncId} {fn:Func} {code:Code} {args:List d7} {res:d7} {ct ct':t9} {n:Nat} (hf:P.funcs[f]?=some fn) (hb:fn.body=some code) (hn:fn.ntmps=n) (hl:Nat.ble (args.length+1) n=true) [hj:AI args] [hcd:B4 ct []]
  (h:∀w J b cap,Tr P ⟨w,J,[b],n,none,false,[]⟩ (⟨0,true,[0],EB 0 0 b⟩::params 1 args) [⟨0,[],ct⟩] code (bodyPost P fn (BL w J b cap res ct'))):EV P f (y5 0 0) args ct ct' res:=by
 intro w J b cap him hJ hlt hct v vs hv hvs
 have hlen:=L6 hvs
 have hle:args.length+1<=n:=Nat.le_of_ble_eq_true hl
 have hM:∀t bk,(g1 J b cap).M t=some bk->t=0/\bk=.blk b cap:=fun t bk ht=>by
  simp only[g1] at ht
  split at ht
  ·rename_i e; cases ht; exact ⟨e,rfl⟩
  ·cases ht
 refine calls_of_wp hf hb<|wpIn_wide.1 (h w J b cap _ (g1 J b cap) w ⟨⟨⟨rfl,rfl,rfl,Nat.le_refl _,fun _ _ _=>rfl,Nat.le_refl _⟩,JV.le_refl _,fun _ _ _=>rfl,him,fun t b' cap' ht=>?_,fun t t' b1 c1 c2 h1 h2=>?_⟩,?_,?_,?_,by simp,?_,?_,⟨rfl,fun _ h=>(by cases h)⟩,?_⟩)
 ·obtain ⟨_,e⟩:=hM _ _ ht
  cases e
  exact ⟨.inr (by simp),hlt,hJ⟩
 ·rw[(hM _ _ h1).1,(hM _ _ h2).1]
 ·intro t bb k hk
  simp only[look] at hk
  cases hb0:Nat.beq 0 t with
  | true =>
   rw[hb0] at hk
   simp only[cond_true,Option.some.injEq,Prod.mk.injEq] at hk
   obtain ⟨rfl,rfl⟩:=hk
   have:=Nat.eq_of_beq_eq_true hb0
   subst this
   refine ⟨fun _=>?_,fun hf=>(by cases hf)⟩
   obtain ⟨b',cap',h1,h2⟩:=hv
   obtain ⟨_,e⟩:=hM _ _ h1
   cases e
   have:((v::vs).toArray++Array.replicate (fn.ntmps-(v::vs).toArray.size) undef).getD 0 undef=v:=by
    rw[Array.getD_eq_getD_getElem?,Array.getElem?_append_left (by simp)]
    simp
   rw[this]
   exact ⟨⟨cap,by simp[g1]⟩,h2⟩
  | false =>
   rw[hb0] at hk
   obtain ⟨h1,rfl,u,hu,hku⟩:=KK (g:=g1 J b cap) (LR (g:=⟨J,y9⟩) (g':=g1 J b cap) (JV.le_refl _) hj.all hvs) hk
   refine ⟨fun _=>?_,fun hf=>(by cases hf)⟩
   have hu':(v::vs)[t]?=some u:=by
    rw[show t=(t-1)+1 by omega]; simpa using hu
   have ht:t<(v::vs).length:=(List.getElem?_eq_some_iff.1 hu').1
   have:((v::vs).toArray++Array.replicate (fn.ntmps-(v::vs).toArray.size) undef).getD t undef=u:=by
    rw[Array.getD_eq_getD_getElem?,Array.getElem?_append_left (by simpa using ht)]
    simp only[List.getElem?_toArray]
    rw[hu']; rfl
   rw[this]; exact hku
 ·intro e he
  simp only[List.mem_singleton] at he
  subst he
  exact ⟨_,by simp[g1],hct⟩
 ·intro t ht
  cases hm:(g1 J b cap).M t with
  | none=>exact absurd hm ht
  | some bk=>simp[(hM _ _ hm).1]
 ·intro e he
  rcases List.mem_cons.1 he with rfl | he
  ·exact ⟨inferInstance,fun t ht=>by simpa using ht⟩
  ·obtain ⟨h1,h2⟩:=KJ hj.all he
   exact ⟨h1,fun t ht=>by rw[h2] at ht; cases ht⟩
 ·intro e he
  simp only[List.mem_singleton] at he
  subst he
  exact ⟨hcd,fun t ht=>by cases ht⟩
 ·simp only[Array.size_append,List.size_toArray,Array.size_replicate,List.length_cons]; omega
section
variable {P:Program} {n:Nat} {w0:World} {J0:JV} {S:i4} {M:i1} {fn:Func} {b cap t:Nat} {ct ct':t9} {dep:List Nat}
theorem xO {e:Exit} (he:e=.normal\/e=.ret) (hr:fn.results=#[]) (hl:look S t=some (true,EB 0 0 b)) [hm:q7 M 0 ct dep] (hc:∀g bk o,ct g bk o->ct' (g1 g.J b cap) (.blk b cap) o) (a:Act) (g:Gh) (w:World) (hs:l8 ⟨w0,J0,[b],n,none,false,[]⟩ S M a g w) :
  bodyPost P fn (BL w0 J0 b cap (j4 (.tuple #[])) ct') e a w:=by
 obtain ⟨⟨cap',h1⟩,_⟩:=(hs.slots t _ _ hl).1 rfl
 obtain ⟨bk,h2,h3⟩:=hs.conts _ hm.mem
 simp only at h2 h3
 rw[h1] at h2; cases h2
 have key:a.defers=[]/\∃v,(results fn a.tmps).run P w=.ok v w/\BL w0 J0 b cap (j4 (.tuple #[])) ct' (.returned v) w :=
  ⟨hs.defers.1,.tuple #[],by simp[results,hr],_,g.J,rfl,⟨hs.ok.bel.os,hs.ok.bel.tape,hs.ok.bel.output,hs.ok.bel.size,fun k hk hne=>hs.ok.bel.block k hk (by simp only[List.mem_singleton]; rintro rfl; exact hne cap rfl),hs.ok.bel.drawn⟩,hs.ok.jle,hs.ok.jold,hs.ok.im,rfl,hc _ _ _ h3⟩
 rcases he with rfl | rfl<;>exact key
theorem d9.mutB (hr:fn.results=#[]) (hl:look S t=some (true,EB 0 0 b)) [hm:q7 M 0 ct dep] (hc:∀g bk o,ct g bk o->ct' (g1 g.J b cap) (.blk b cap) o):d9 ⟨w0,J0,[b],n,none,false,[]⟩ S M (bodyPost P fn (BL w0 J0 b cap (j4 (.tuple #[])) ct')) :=
 fun a g w hs=>xO (.inl rfl) hr hl hc a g w hs
end
end Go.Fl

/- Elements of an array of the call's own at a place that is not written out; parts of the elements of a row of the call's own. No program in sight. -/
namespace Go.Fl
open Go Go.RowKit
section
variable {P:Program} {c:n6} {S:i4} {M:i1} {p:Bool} {d:Option Tmp} {ty:TypeId} {pos:String} {af:Array Edge} {gd:Option (Nat×Bool)} {x y:Operand} {b b':Bool}
end
section
variable {P:Program} {c:n6} {ops:Array Oper} {S:i4} {M:i1} {rest:List Oper} {Q:Exit->Act->World->Prop} {x y:Operand}
variable {ty:TypeId} {pos:String} {af:Array Edge}
end
section
variable {P:Program} {c:n6} {ops:Array Oper} {S:i4} {M:i1} {rest:List Oper} {Q:Exit->Act->World->Prop}
variable {d:Nat} {ty:TypeId} {pos:String} {af:Array Edge}
theorem d5.mutP {f:FuncId} [hf:f0 P f] {x:Operand} {args:List Operand} {tys:Array TypeId} {ks:List d7} {res:d7} {u:Nat} {ct ct0 ct':t9} {dep:List Nat} {M':i1} (hct:EV P f (y5 0 0) ks ct ct' res) (hx:j2 S x=some (true,y5 u 0)) (ha:G4 S true args ks)
  [hl:q7 M u ct0 dep] [hnk:LK ct0] (hc:∀g b cap o,ct0 g (.blk b cap) o->ct (g1 g.J b cap) (.blk b cap) o) (hc':∀{J b cap o} {g:Gh},ct' (g1 J b cap) (.blk b cap) o->ct' ⟨J,g.M⟩ (.blk b cap) o) [hcd:B4 ct' []] [hup:D5 M u ct' [] M'] [hkd:o5 res []] (hn:Nat.blt d c.n=true)
  (K:d5 P c ops (⟨d,true,[],res⟩::S) M' rest Q):d5 P c ops S M (⟨some d,.call { callee:=.value (.func f),args:=(x::args).toArray,argTypes:=tys },ty,pos,af,none⟩::rest) Q:=by
 intro a g w hsat
 have hdn:d<c.n:=by simpa [Nat.blt_eq] using hn
 have hk:=C8 hsat.slots hx rfl
 obtain ⟨b,cap,hm,hv⟩:=hk
 obtain ⟨bk2,hm2,hobj⟩:=hsat.conts _ hl.mem
 simp only at hm2 hobj
 rw[hm] at hm2; cases hm2
 obtain ⟨_,hlt,hJn⟩:=hsat.ok.own u b cap hm
 have hargs:=ha.eval (g:=g) (ρ:=a.eval) rfl (fun y _ b k hk hb=>C8 hsat.slots hk hb)
 have hr:=hct w g.J b cap hsat.ok.im hJn hlt (hc _ _ _ _ hobj) _ _ ((inferInstance:aE (y5 u 0) u (y5 0 0)).imp hm ⟨b,cap,hm,hv⟩) hargs
 refine wpList_plain rfl fun K' hK'=>?_
 unfold Oper.wp
 simp only[execOp,resolve,Act.eval,Deferred.ofValue,Sem.run_bind,Sem.run_pure,Result.andThen_ok,invoke,List.map_toArray,List.map_cons,Array.append_empty,Array.empty_append]
 rw[hf.run]
 simp only[Oper.upon]
 refine hr.mono fun e w' he=>?_
 obtain ⟨r,J',rfl,h1,h2,h3,h4,h5,h6⟩:=he
 exact hK' _ _ (K _ _ _ (hsat.mut hm (hsat.nomark hl hm _ _ rfl) h1 h2 h3 h4 hup hcd (hc' h6) hdn (hkd.dep (g:=⟨J',y9⟩) (JV.le_refl _) (fun _ h=>by cases h) h5)))
end
end Go.Fl

/- Structs of integers that are equal. No program in sight. -/
namespace Go.Fl
open Go Go.RowKit
section
variable {P:Program} {c:n6} {S:i4} {M:i1} {p:Bool} {d:Option Tmp} {ty:TypeId} {pos:String} {af:Array Edge} {gd:Option (Nat×Bool)} {x y:Operand} {b b':Bool}
end
end Go.Fl

/- Parts of rows that are immutable; functions that return a part of their argument; calls that take one of the caller's own rows for good. No program in sight. -/
namespace Go.Fl
open Go Go.RowKit
theorem GC.take {α:Type} {e:i8 α} {J:JV} {b o n:Nat} {xs:List α} (h:GC e J b o xs):GC e J b o (xs.take n):=fun i x hx=>by
 rw[List.getElem?_take] at hx
 split at hx
 ·exact h i x hx
 ·cases hx
section
variable {P:Program} {c:n6} {S:i4} {M:i1} {p:Bool} {d:Option Tmp} {ty:TypeId} {pos:String} {af:Array Edge} {gd:Option (Nat×Bool)} {x y z:Operand} {b b' b'':Bool}
theorem FY {t et:TypeId} [ht:D1 P t et] {sz by':Nat} {zz:Value} [hz:p6 P et sz by' zz] {α:Type} {e:i8 α} {xs:List α} {ik:IntKind} {i0:Int} (hx:j2 S x=some (b,b8 (eL e) xs)) (hb:p=true->b=true) (hy:j2 S y=some (b',z9 ik i0)) (hb':p=true->b'=true) (h:p=true->0<=i0/\i0<=xs.length) :
  l4 P c S M ⟨d,.slice t x none (some y) none,ty,pos,af,gd⟩ p (b8 (eL e) (xs.take i0.toNat)) none :=
 l4.pure fun hp a g w _ _ ho=>by
  have hi:a.eval y=_:=ho y (by simp[Op.operands]) b' _ hy (hb' hp)
  have hlt0:=h hp
  obtain ⟨i,rfl⟩:∃i:Nat,i0=i:=⟨i0.toNat,by omega⟩
  rw[Int.toNat_natCast]
  have hlt:i<=xs.length:=by omega
  obtain ⟨cs,⟨ad,cap,rfl,⟨hl1,hl2⟩,hr⟩,h2⟩:=ho x (by simp[Op.operands]) b _ hx (hb hp)
  simp only[eL,Bool.false_eq_true,if_false,List.headD_cons] at h2
  obtain ⟨j,hj,rfl,rfl,_⟩:=hz.h
  have hun:P.underlying t=some (.slice (P.elem t)):=by rw[ht.h]; simp[Program.elem,ht.h]
  have hel:P.elem t=et:=by simp[Program.elem,ht.h]
  have hsz:(sizeOf et).run P w=.ok j.size w:=by simp[sizeOf,typeInfo,hj]
  refine ⟨sliced ad 0 i cap j.size,?_,?_⟩
  ·simp only[execOp,h2,hi,Option.map]
   rw[Sem.run_bind,run_sliceAt_slice w t _ _ _ _ hun,run_slice_h w t _ xs.length cap hun ik i zo zo,hel]
   simp only[Result.andThen_ok,Sem.run_pure,hsz,Int.toNat_natCast]
  ·have hmin:(xs.take i).length=i:=by rw[List.length_take]; omega
   rcases hr with rfl | ⟨bl,o,rfl,hrow⟩
   ·obtain rfl:i=0:=by simpa using hlt
    exact ⟨[sliced ad 0 0 cap j.size],⟨if cap=0 then ad else ad.map (·.add (0*j.size)),cap-0,rfl,⟨by simp,by simp⟩,.inl (by simp)⟩,rfl⟩
   ·refine ⟨[sliced (some ⟨bl,o,none⟩) 0 i cap j.size],⟨if cap=0 then some ⟨bl,o,none⟩ else (some ⟨bl,o,none⟩:Option Addr).map (·.add (0*j.size)),cap-0,?_,⟨by rw[hmin]; omega,by rw[hmin,Nat.sub_zero]; omega⟩,.inr ⟨bl,o,?_,hrow.take⟩⟩,rfl⟩
    ·simp only[sliced,hmin,Nat.sub_zero]
    ·split<;>simp[Addr.add]
end
end Go.Fl

/- Functions that return a part of their argument; calls that change a lent row and return a part of it; queues that become immutable. No program in sight. -/
namespace Go.Fl
open Go Go.RowKit
instance {t n o l:Nat}:Y7 (C7 t n o l):=⟨fun ⟨_,_,_,_,_,_,h⟩=>by subst h; rfl⟩
def K4 {α:Type} (e:i8 α) (ad:Option Addr) (cap:Nat) (xs:List α):d7:=fun g v=>v=.slice ad xs.length cap/\b8 (eL e) xs g v
instance {α:Type} (e:i8 α) (ad:Option Addr) (cap:Nat) (xs:List α):o5 (K4 e ad cap xs) []:=⟨fun hJ hd h=>⟨h.1,(inferInstance:o5 (b8 (eL e) xs) []).dep hJ hd h.2⟩⟩
theorem K4.cast {α:Type} {e:i8 α} {ad:Option Addr} {cap:Nat} {xs ys:List α} (h:xs=ys) {g:Gh} {v:Value} (k:K4 e ad cap xs g v):K4 e ad cap ys g v:=h▸k
section
variable {P:Program} {c:n6} {S:i4} {M:i1} {p:Bool} {d:Option Tmp} {ty:TypeId} {pos:String} {af:Array Edge} {gd:Option (Nat×Bool)} {x y z:Operand} {b b' b'':Bool}
theorem YF {t:TypeId} {e':TypeId} [ht:D1 P t e'] {α:Type} {e:i8 α} {ad:Option Addr} {cap:Nat} {xs:List α} (hx:j2 S x=some (b,K4 e ad cap xs)) (hb:p=true->b=true):l4 P c S M ⟨d,.call { callee:=.builtin .len,args:=#[x],argTypes:=#[t] },ty,pos,af,gd⟩ p (kI xs.length) none :=
 l4.pure fun hp a g w _ _ ho=>by
  have h2:a.eval x=_:=(ho x (by simp[Op.operands,Call.operands]) b _ hx (hb hp)).1
  exact ⟨_,by simp[execOp,resolve,invoke,builtin,Builtin.len_,h2,run_underlying ht.h,goInt],rfl⟩
theorem yT {t et:TypeId} [ht:D1 P t et] {sz by':Nat} {zz:Value} [hz:p6 P et sz by' zz] {α:Type} [Inhabited α] {e:i8 α} {ad:Option Addr} {cap:Nat} {xs:List α} {ik:IntKind} {i:Int} (hx:j2 S x=some (b,K4 e ad cap xs)) (hb:p=true->b=true) (hy:j2 S y=some (b',z9 ik i)) (hb':p=true->b'=true)
  (hs:sz=e.n) (h:p=true->0<=i/\i<xs.length):l4 P c S M ⟨d,.indexAddr t x y,ty,pos,af,gd⟩ p (r7 e (b6 xs i.toNat)) none :=
 l4.pure fun hp a g w _ _ ho=>by
  obtain ⟨cs,⟨ad,cap,rfl,_,hr⟩,h2⟩:=(ho x (by simp[Op.operands]) b _ hx (hb hp)).2
  have hi:a.eval y=_:=ho y (by simp[Op.operands]) b' _ hy (hb' hp)
  simp only[eL,Bool.false_eq_true,if_false,List.headD_cons] at h2
  have hlt:=h hp
  rcases hr with rfl | ⟨bl,o,rfl,hrow⟩
  ·simp at hlt; omega
  obtain ⟨ds,k1,k2⟩:=hrow i.toNat (b6 xs i.toNat) (H1 zo)
  exact ⟨.pointer (some ⟨bl,o+i.toNat*sz,none⟩),by simp only[execOp,h2,hi,Sem.run_bind,JN (P:=P) hlt,Result.andThen_ok,Sem.run_pure],bl,o+i.toNat*sz,ds,rfl,k1,by rw[hs]; exact k2⟩
theorem zA {t et:TypeId} [ht:D1 P t et] {sz by':Nat} {zz:Value} [hz:p6 P et sz by' zz] {α:Type} {e:i8 α} {ad:Option Addr} {cap:Nat} {xs:List α} {ik:IntKind} {i:Int} (hx:j2 S x=some (b,K4 e ad cap xs)) (hb:p=true->b=true) (hy:j2 S y=some (b',z9 ik i)) (hb':p=true->b'=true) (h:p=true->0<=i/\i<=xs.length) :
  l4 P c S M ⟨d,.slice t x none (some y) none,ty,pos,af,gd⟩ p (K4 e ad cap (xs.take i.toNat)) none :=
 l4.pure fun hp a g w _ _ ho=>by
  have hi:a.eval y=_:=ho y (by simp[Op.operands]) b' _ hy (hb' hp)
  have hlt:=h hp
  obtain ⟨hv,cs,⟨ad',cap',rfl,⟨hl1,hl2⟩,hr⟩,h2⟩:=ho x (by simp[Op.operands]) b _ hx (hb hp)
  simp only[eL,Bool.false_eq_true,if_false,List.headD_cons] at h2
  rw[h2] at hv
  cases hv
  obtain ⟨j,hj,rfl,rfl,_⟩:=hz.h
  have hun:P.underlying t=some (.slice (P.elem t)):=by rw[ht.h]; simp[Program.elem,ht.h]
  have hel:P.elem t=et:=by simp[Program.elem,ht.h]
  have hsz:(sizeOf et).run P w=.ok j.size w:=by simp[sizeOf,typeInfo,hj]
  have hmin:(xs.take i.toNat).length=i.toNat:=by rw[List.length_take]; omega
  have hadd:∀q:Option Addr,q.map (·.add (0*j.size))=q:=fun q=>by cases q<;>simp[Addr.add]
  have hsl:sliced ad 0 i.toNat cap j.size=.slice ad i.toNat cap:=by
   unfold sliced
   rw[hadd,Nat.sub_zero,Nat.sub_zero]
   split<;>rfl
  refine ⟨.slice ad i.toNat cap,?_,by rw[hmin],?_⟩
  ·simp only[execOp,h2,hi,Option.map]
   rw[Sem.run_bind,run_sliceAt_slice w t _ _ _ _ hun,run_slice_h w t _ xs.length cap hun ik i hlt.1 zo,hel]
   simp only[Result.andThen_ok,Sem.run_pure,hsz,hsl]
  ·refine ⟨[.slice ad i.toNat cap],⟨_,_,by rw[hmin],⟨by rw[hmin]; omega,by rw[hmin]; omega⟩,?_⟩,rfl⟩
   rcases hr with rfl | ⟨bl,o,rfl,hrow⟩
   ·exact .inl (by simp)
   ·exact .inr ⟨bl,o,rfl,hrow.take⟩
theorem Ct.ofSlv {f:FuncId} {α:Type} {e:i8 α} {xs ys:List α} (h:∀ad cap,Ct P f [K4 e ad cap xs] (K4 e ad cap ys)):Ct P f [b8 (eL e) xs] (b8 (eL e) ys):=by
 intro w J him vs hvs
 match vs,hvs with
 | [v],⟨hv,_⟩ =>
  obtain ⟨cs,⟨ad,cap,rfl,h1,h2⟩,h3⟩:=hv
  refine (h ad cap w J him [v] ⟨⟨h3,_,⟨ad,cap,rfl,h1,h2⟩,h3⟩,trivial⟩).mono fun e' w' he=>?_
  obtain ⟨r,J',q1,q2,q3,q4,q5,q6⟩:=he
  exact ⟨r,J',q1,q2,q3,q4,q5,q6.2⟩
theorem YG {f:FuncId} [hf:f0 P f] {tys:Array TypeId} {u len n:Nat} {α:Type} {zb:Bool} {et:TypeId} {e:i8 α} {xs ys:List α} {dep:List Nat} [hl:q7 M u (l5 zb et e xs len) dep]
  (hct:∀ad cap,Ct P f [K4 e ad cap xs] (K4 e ad cap ys)) (hx:j2 S x=some (b,o9 u len)) (hb:p=true->b=true) (hlen:p=true->0<len/\len<=p9/\ys.length<=len) :
  l4 P c S M ⟨d,.call { callee:=.value (.func f),args:=#[x],argTypes:=tys },ty,pos,af,gd⟩ p (C7 u n 0 ys.length) none:=by
 intro hp a g w hok hc ho _
 obtain ⟨hl0,hl1,hl2⟩:=hlen hp
 have hxv:o9 u len g (a.eval x):=ho x (by simp[Op.operands,Call.operands]) b _ hx (hb hp)
 obtain ⟨bk,hm,h0,h1⟩:=hc _ hl.mem
 simp only at hm h0
 cases bk with
 | nil=>omega
 | blk bl cap =>
  obtain ⟨_,cs,h3,h4,h5,h6,h7⟩:=h1
  have hnone:=(hok.own u bl cap hm).2.2
  have hJ:g.J.le (g.J.with bl cs):=JV.le_with hnone
  have him:Im (g.J.with bl cs) w:=fun b o v hv=>by
   unfold JV.with at hv
   by_cases e:b=bl
   ·rw[if_pos e] at hv; subst e; exact M7 h3 hv
   ·rw[if_neg e] at hv; exact hok.im b o v hv
  have hev:a.eval x=.slice (some ⟨bl,0,none⟩) len cap:=by
   rcases hxv with ⟨hb,_⟩ | ⟨b',cap',hb,hv⟩
   ·rw[hm] at hb; cases hb
   ·rw[hm] at hb; cases hb; exact hv
  have hrd:K4 e (some ⟨bl,0,none⟩) cap xs ⟨g.J.with bl cs,y9⟩ (a.eval x):=by
   refine ⟨by rw[hev,h0],_,⟨some ⟨bl,0,none⟩,cap,rfl,⟨by rw[h0]; exact hl1,by rw[h0]; exact h5⟩,.inr ⟨bl,0,rfl,fun i x hx=>?_⟩⟩,by rw[h0]; exact hev⟩
   obtain ⟨ds,q1,q2⟩:=h7 i x hx
   refine ⟨ds,e.mono hJ q1,fun j v hj=>?_⟩
   show (g.J.with bl cs) bl (0+i*e.n+j)=some v
   unfold JV.with
   rw[if_pos rfl,Nat.zero_add]
   exact q2 j v hj
  have hr:=hct _ _ w _ him [a.eval x] ⟨hrd,trivial⟩
  unfold Oper.wp
  simp only[execOp,resolve,Act.eval,Deferred.ofValue,Sem.run_bind,Sem.run_pure,Result.andThen_ok,invoke,List.map_toArray,List.map_cons,List.map_nil,Array.append_empty,Array.empty_append]
  rw[hf.run]
  simp only[Oper.upon]
  refine hr.mono fun e' w' he=>?_
  obtain ⟨r,J2,rfl,hbel,hJ2,hold,him2,hres⟩:=he
  refine ⟨r,⟨fun b o=>if b=bl then none else J2 b o,g.M⟩,rfl,?_⟩
  have hle:g.J.le (fun b o=>if b=bl then none else J2 b o):=fun b o v hv=>by
   have hne:b≠bl:=fun e=>by subst e; rw[hnone o] at hv; cases hv
   show (if b=bl then none else J2 b o)=some v
   rw[if_neg hne]
   exact hJ2 _ _ _ (hJ _ _ _ hv)
  have hq:∀b o,b<w.heap.size->(if b=bl then none else J2 b o)=g.J b o:=fun b o hlt=>by
   by_cases e:b=bl
   ·subst e; rw[if_pos rfl]; exact (hnone o).symm
   ·rw[if_neg e,hold b o hlt]
    unfold JV.with
    rw[if_neg e]
  refine ⟨⟨bl,cap,0,hm,by omega,fun _=>by omega,by rw[Nat.sub_zero]; exact hres.1⟩,⟨hle,fun _ _ h=>h⟩,⟨hok.bel.then hbel,JV.le_trans hok.jle hle,fun b o hb=>?_,fun b o v hv=>?_,fun t b cap ht=>?_,hok.inj⟩,hbel,fun _ h=>(by cases h),fun _ _=>rfl⟩
  ·show (if b=bl then none else J2 b o)=c.J0 b o
   rw[hq b o (Nat.lt_of_lt_of_le hb hok.bel.size)]; exact hok.jold b o hb
  ·have hv':(if b=bl then none else J2 b o)=some v:=hv
   by_cases e:b=bl
   ·rw[if_pos e] at hv'; cases hv'
   ·rw[if_neg e] at hv'; exact him2 b o v hv'
  ·obtain ⟨q1,q2,q3⟩:=hok.own t b cap ht
   exact ⟨q1,Nat.lt_of_lt_of_le q2 hbel.size,fun o=>by show (if b=bl then none else J2 b o)=none; rw[hq b o q2]; exact q3 o⟩
end
def LS (S:i4) (u n off len:Nat):List Nat->Prop
 | []=>True
 | s::r=>look S s=some (true,C7 u n off len)/\LS S u n off len r
theorem UE {S:i4} {u n off len:Nat}:∀{ss:List Nat},LS S u n off len ss->∀s∈ss,look S s=some (true,C7 u n off len)
 | s::r,h,t,ht=>by
  rcases List.mem_cons.1 ht with rfl | ht
  ·exact h.1
  ·exact UE h.2 t ht
theorem l8.frzQ {n:Nat} {rd:Option Nat} {mrk:Bool} {om:List Nat} {w0:World} {J0:JV} {S:i4} {M M':i1} {a:Act} {g:Gh} {w:World} (h:l8 ⟨w0,J0,[],n,rd,mrk,om⟩ S M a g w) {u sz m len:Nat} {α:Type} {zb:Bool} {et:TypeId} {e:i8 α} {xs:List α} {dep:List Nat} {ss:List Nat} [hl:q7 M u (l5 zb et e xs len) dep]
  (hss:LS S u sz 0 m ss) (hm0:m<=len/\len<=p9) [hdel:M6 M u M'] (hnd:K5 u M=true):∃g',l8 ⟨w0,J0,[],n,rd,mrk,om⟩ (i4.setAll ss (b8 (eL e) (xs.take m)) (H3 u S)) M' a g' w:=by
 obtain ⟨bk,hm,h0,h1⟩:=h.conts _ hl.mem
 simp only at hm h0
 have hml:(xs.take m).length=m:=by rw[List.length_take]; omega
 cases bk with
 | nil =>
  subst h1
  have hxs:xs=[]:=List.eq_nil_of_length_eq_zero h0
  subst hxs
  refine ⟨_,h.freeze (cs:=#[]) (ty:=0) hm (fun _ _ h=>by cases h) hdel hnd inferInstance (fun s hs=>?_)⟩
  obtain ⟨b,cap,o,hb,_⟩:=(h.slots s _ _ (UE hss s hs)).1 rfl
  rw[hm] at hb; cases hb
 | blk b cap =>
  obtain ⟨_,cs,h3,h4,h5,h6,h7⟩:=h1
  refine ⟨_,h.freeze (cs:=cs) (ty:=et) hm (fun b' cap' hb=>by cases hb; exact h3) hdel hnd inferInstance (fun s hs=>?_)⟩
  have hJ:g.J.le (g.J.with b cs):=JV.le_with (h.ok.own u b cap hm).2.2
  obtain ⟨b',cap',o,hb,q1,q2,hv⟩:=(h.slots s _ _ (UE hss s hs)).1 rfl
  rw[hm] at hb; cases hb
  rw[Nat.sub_zero] at hv
  refine ⟨[.slice (some ⟨b,o,none⟩) m cap],⟨some ⟨b,o,none⟩,cap,by rw[hml],⟨by rw[hml]; omega,by rw[hml]; omega⟩,?_⟩,hv⟩
  by_cases hz:m=0
  ·subst hz; exact .inl (by simp)
  ·obtain rfl:o=0:=by have:=q2 zo; omega
   refine .inr ⟨b,0,rfl,(GC.take (n:=m) fun i x hx=>?_)⟩
   obtain ⟨ds,k1,k2⟩:=h7 i x hx
   refine ⟨ds,e.mono hJ k1,fun j v hj=>?_⟩
   show (g.J.with b cs) b (0+i*e.n+j)=some v
   unfold JV.with
   rw[if_pos rfl,Nat.zero_add]
   exact k2 j v hj
section
variable {P:Program} {n:Nat} {rd:Option Nat} {mrk:Bool} {om:List Nat} {w0:World} {J0:JV} {S:i4} {M M':i1} {Q:Exit->Act->World->Prop} {ops:Array Oper} {rest:List Oper}
theorem Tr.frzQ {code:Code} (u:Nat) (ss:List Nat) {sz m len:Nat} {α:Type} {zb:Bool} {et:TypeId} {e:i8 α} {xs:List α} {dep:List Nat} [hl:q7 M u (l5 zb et e xs len) dep] (hss:LS S u sz 0 m ss) (hlen:m<=len/\len<=p9) [hdel:M6 M u M'] (hnd:K5 u M=true)
  (K:Tr P ⟨w0,J0,[],n,rd,mrk,om⟩ (i4.setAll ss (b8 (eL e) (xs.take m)) (H3 u S)) M' code Q):Tr P ⟨w0,J0,[],n,rd,mrk,om⟩ S M code Q:=fun a _ w hs=>let ⟨g',hs'⟩:=hs.frzQ (ss:=ss) (u:=u) hss hlen hnd; K a g' w hs'
theorem d5.frzQ (u:Nat) (ss:List Nat) {sz m len:Nat} {α:Type} {zb:Bool} {et:TypeId} {e:i8 α} {xs:List α} {dep:List Nat} [hl:q7 M u (l5 zb et e xs len) dep] (hss:LS S u sz 0 m ss) (hlen:m<=len/\len<=p9) [hdel:M6 M u M'] (hnd:K5 u M=true)
  (K:d5 P ⟨w0,J0,[],n,rd,mrk,om⟩ ops (i4.setAll ss (b8 (eL e) (xs.take m)) (H3 u S)) M' rest Q):d5 P ⟨w0,J0,[],n,rd,mrk,om⟩ ops S M rest Q:=fun a _ w hs=>let ⟨g',hs'⟩:=hs.frzQ (ss:=ss) (u:=u) hss hlen hnd; K a g' w hs'
end
def JS (t len bl cap:Nat):d7:=fun g v=>g.M t=some (.blk bl cap)/\v=.slice (some ⟨bl,0,none⟩) len cap
instance (t len bl cap:Nat):o5 (JS t len bl cap) [t]:=⟨fun _ hd ⟨h1,h2⟩=>⟨(hd t (by simp)).trans h1,h2⟩⟩
theorem JS.osl {t len bl cap:Nat} {g:Gh} {v:Value} (h:JS t len bl cap g v):o9 t len g v:=.inr ⟨bl,cap,h.1,h.2⟩
def IP (w:World) (J:JV) (b cap:Nat) (res:d7) (ct':t9):Ending->World->Prop:=fun e w'=>∃r J',e=.returned r/\ET (.blk b cap) w w'/\J.le J'/\(∀b' o,b'<w.heap.size->J' b' o=J b' o)/\Im J' w'/\res (g1 J' b cap) r/\ct' (g1 J' b cap) (.blk b cap) w'.heap[b]?
def LF (P:Program) (f:FuncId) (len:Nat) (ks:List d7) (ct ct':t9) (res:d7):Prop :=
 ∀w J b cap,Im J w->(∀o,J b o=none)->b<w.heap.size->ct (g1 J b cap) (.blk b cap) w.heap[b]?->∀v vs,v=.slice (some ⟨b,0,none⟩) len cap->n9 ⟨J,y9⟩ ks vs->Calls P f (v::vs).toArray w (IP w J b cap res ct')
section
variable {P:Program} {c:n6} {S:i4} {M:i1} {p:Bool} {d:Option Tmp} {ty:TypeId} {pos:String} {af:Array Edge} {gd:Option (Nat×Bool)} {x:Operand} {b:Bool}
theorem KI {t len bl cap:Nat} (hx:j2 S x=some (b,JS t len bl cap)) (hb:p=true->b=true):l4 P c S M ⟨d,.move x,ty,pos,af,gd⟩ p (o9 t len) none :=
 l4.pure fun hp a g w _ _ ho=>by
  have hk:=ho x (by simp[Op.operands]) b _ hx (hb hp)
  exact ⟨a.eval x,by simp[execOp],hk.osl⟩
end
theorem LF.mk {P:Program} {f:FuncId} {fn:Func} {code:Code} {args:List d7} {res:d7} {ct ct':t9} {n len:Nat} (hf:P.funcs[f]?=some fn) (hb:fn.body=some code) (hn:fn.ntmps=n) (hl:Nat.ble (args.length+1) n=true) [hj:AI args] [hcd:B4 ct []]
  (h:∀w J b cap,Tr P ⟨w,J,[b],n,none,false,[]⟩ (⟨0,true,[0],JS 0 len b cap⟩::params 1 args) [⟨0,[],ct⟩] code (bodyPost P fn (IP w J b cap res ct'))):LF P f len args ct ct' res:=by
 intro w J b cap him hJ hlt hct v vs hv hvs
 have hlen:=L6 hvs
 have hle:args.length+1<=n:=Nat.le_of_ble_eq_true hl
 have hM:∀t bk,(g1 J b cap).M t=some bk->t=0/\bk=.blk b cap:=fun t bk ht=>by
  simp only[g1] at ht
  split at ht
  ·rename_i e; cases ht; exact ⟨e,rfl⟩
  ·cases ht
 refine calls_of_wp hf hb<|wpIn_wide.1 (h w J b cap _ (g1 J b cap) w ⟨⟨⟨rfl,rfl,rfl,Nat.le_refl _,fun _ _ _=>rfl,Nat.le_refl _⟩,JV.le_refl _,fun _ _ _=>rfl,him,fun t b' cap' ht=>?_,fun t t' b1 c1 c2 h1 h2=>?_⟩,?_,?_,?_,by simp,?_,?_,⟨rfl,fun _ h=>(by cases h)⟩,?_⟩)
 ·obtain ⟨_,e⟩:=hM _ _ ht
  cases e
  exact ⟨.inr (by simp),hlt,hJ⟩
 ·rw[(hM _ _ h1).1,(hM _ _ h2).1]
 ·intro t bb k hk
  simp only[look] at hk
  cases hb0:Nat.beq 0 t with
  | true =>
   rw[hb0] at hk
   simp only[cond_true,Option.some.injEq,Prod.mk.injEq] at hk
   obtain ⟨rfl,rfl⟩:=hk
   have:=Nat.eq_of_beq_eq_true hb0
   subst this
   refine ⟨fun _=>?_,fun hf=>(by cases hf)⟩
   have:((v::vs).toArray++Array.replicate (fn.ntmps-(v::vs).toArray.size) undef).getD 0 undef=v:=by
    rw[Array.getD_eq_getD_getElem?,Array.getElem?_append_left (by simp)]
    simp
   rw[this]
   exact ⟨by simp[g1],hv⟩
  | false =>
   rw[hb0] at hk
   obtain ⟨h1,rfl,u,hu,hku⟩:=KK (g:=g1 J b cap) (LR (g:=⟨J,y9⟩) (g':=g1 J b cap) (JV.le_refl _) hj.all hvs) hk
   refine ⟨fun _=>?_,fun hf=>(by cases hf)⟩
   have hu':(v::vs)[t]?=some u:=by
    rw[show t=(t-1)+1 by omega]; simpa using hu
   have ht:t<(v::vs).length:=(List.getElem?_eq_some_iff.1 hu').1
   have:((v::vs).toArray++Array.replicate (fn.ntmps-(v::vs).toArray.size) undef).getD t undef=u:=by
    rw[Array.getD_eq_getD_getElem?,Array.getElem?_append_left (by simpa using ht)]
    simp only[List.getElem?_toArray]
    rw[hu']; rfl
   rw[this]; exact hku
 ·intro e he
  simp only[List.mem_singleton] at he
  subst he
  exact ⟨_,by simp[g1],hct⟩
 ·intro t ht
  cases hm:(g1 J b cap).M t with
  | none=>exact absurd hm ht
  | some bk=>simp[(hM _ _ hm).1]
 ·intro e he
  rcases List.mem_cons.1 he with rfl | he
  ·exact ⟨inferInstance,fun t ht=>by simpa using ht⟩
  ·obtain ⟨h1,h2⟩:=KJ hj.all he
   exact ⟨h1,fun t ht=>by rw[h2] at ht; cases ht⟩
 ·intro e he
  simp only[List.mem_singleton] at he
  subst he
  exact ⟨hcd,fun t ht=>by cases ht⟩
 ·simp only[Array.size_append,List.size_toArray,Array.size_replicate,List.length_cons]; omega
section
variable {P:Program} {n:Nat} {rd:Option Nat} {mrk:Bool} {om:List Nat} {w0:World} {J0:JV} {S:i4} {M:i1} {fn:Func} {b cap s t len:Nat} {ct ct':t9} {dep:List Nat} {k res:d7}
theorem g6.mutR (hr:fn.results=#[.tmp t]) (hs0:look S s=some (true,JS 0 len b cap)) (hl:look S t=some (true,k)) [hm:q7 M 0 ct dep] (hc:∀(g:Gh) (o:Option Obj),ct g (.blk b cap) o->ct' (g1 g.J b cap) (.blk b cap) o) (hk:∀(g:Gh) (v:Value),g.M 0=some (.blk b cap)->k g v->res (g1 g.J b cap) v) :
  g6 ⟨w0,J0,[b],n,none,false,[]⟩ S M (bodyPost P fn (IP w0 J0 b cap res ct')):=by
 intro a g w hs
 obtain ⟨h1,_⟩:=(hs.slots s _ _ hs0).1 rfl
 obtain ⟨bk,h2,h3⟩:=hs.conts _ hm.mem
 simp only at h2 h3
 rw[h1] at h2; cases h2
 exact ⟨hs.defers.1,_,results_tmp hr _ _ _,_,g.J,rfl,⟨hs.ok.bel.os,hs.ok.bel.tape,hs.ok.bel.output,hs.ok.bel.size,fun k hk hne=>hs.ok.bel.block k hk (by simp only[List.mem_singleton]; rintro rfl; exact hne cap rfl),hs.ok.bel.drawn⟩,hs.ok.jle,hs.ok.jold,hs.ok.im,hk g _ h1 ((hs.slots t _ _ hl).1 rfl),hc _ _ h3⟩
end
theorem jF {m n off:Nat} {b cap:Nat} {g:Gh} {v:Value} (hm:g.M 0=some (.blk b cap)) (h:C7 0 n off m g v):C7 0 n off m (g1 g.J b cap) v:=by
 obtain ⟨b',cap',o,h1,h2,h3,h4⟩:=h
 rw[hm] at h1; cases h1
 exact ⟨b,cap,o,by simp[g1],h2,h3,h4⟩
section
variable {P:Program} {c:n6} {ops:Array Oper} {S:i4} {M:i1} {rest:List Oper} {Q:Exit->Act->World->Prop}
variable {d:Nat} {ty:TypeId} {pos:String} {af:Array Edge}
theorem d5.mutR {f:FuncId} [hf:f0 P f] {x:Operand} {args:List Operand} {tys:Array TypeId} {ks:List d7} {u len n m:Nat} {ct ct0 ct':t9} {dep:List Nat} {M':i1} (hct:LF P f len ks ct ct' (C7 0 n 0 m)) (hx:j2 S x=some (true,o9 u len)) (hlen:0<len) (ha:G4 S true args ks)
  [hl:q7 M u ct0 dep] [hnk:LK ct0] (hnd:K5 u M=true) (hc:∀g b cap o,ct0 g (.blk b cap) o->ct (g1 g.J b cap) (.blk b cap) o) (hc':∀{J b cap o} {g:Gh},ct' (g1 J b cap) (.blk b cap) o->ct' ⟨J,g.M⟩ (.blk b cap) o) [hcd:B4 ct' []] [hup:D5 M u ct' [] M'] (hn:Nat.blt d c.n=true)
  (K:d5 P c ops (⟨d,true,[u],C7 u n 0 m⟩::H3 u S) M' rest Q):d5 P c ops S M (⟨some d,.call { callee:=.value (.func f),args:=(x::args).toArray,argTypes:=tys },ty,pos,af,none⟩::rest) Q:=by
 intro a g w hsat
 have hdn:d<c.n:=by simpa [Nat.blt_eq] using hn
 have hk:=C8 hsat.slots hx rfl
 rcases hk with ⟨_,h0,_⟩ | ⟨b,cap,hm,hv⟩
 ·omega
 obtain ⟨bk2,hm2,hobj⟩:=hsat.conts _ hl.mem
 simp only at hm2 hobj
 rw[hm] at hm2; cases hm2
 obtain ⟨hob,hlt,hJn⟩:=hsat.ok.own u b cap hm
 have hargs:=ha.eval (g:=g) (ρ:=a.eval) rfl (fun y _ b k hk hb=>C8 hsat.slots hk hb)
 have hr:=hct w g.J b cap hsat.ok.im hJn hlt (hc _ _ _ _ hobj) _ _ hv hargs
 refine wpList_plain rfl fun K' hK'=>?_
 unfold Oper.wp
 simp only[execOp,resolve,Act.eval,Deferred.ofValue,Sem.run_bind,Sem.run_pure,Result.andThen_ok,invoke,List.map_toArray,List.map_cons,Array.append_empty,Array.empty_append]
 rw[hf.run]
 simp only[Oper.upon]
 refine hr.mono fun e w' he=>?_
 obtain ⟨r,J',rfl,h1,h2,h3,h4,h5,h6⟩:=he
 have hko:C7 u n 0 m ⟨J',g.M⟩ r:=by
  obtain ⟨b',cap',o,q1,q2,q3,q4⟩:=h5
  simp only[g1,if_true,Option.some.injEq,Bk.blk.injEq] at q1
  obtain ⟨rfl,rfl⟩:=q1
  exact ⟨b,cap,o,hm,q2,q3,q4⟩
 have hs:=hsat.mut hm (hsat.nomark hl hm _ _ rfl) h1 h2 h3 h4 hup hcd (hc' h6) hdn (k:=X6) trivial (v:=r)
 have htag:=hup.tags
 refine hK' _ _ (K _ _ _ ⟨hs.ok,fun t bb k' hl'=>?_,hs.conts,hs.dom,hs.nodup,fun e he=>?_,hs.cdep,hs.defers,hs.size⟩)
 ·simp only[look] at hl'
  cases hb0:Nat.beq d t with
  | true =>
   rw[hb0] at hl'
   simp only[cond_true,Option.some.injEq,Prod.mk.injEq] at hl'
   obtain ⟨rfl,rfl⟩:=hl'
   have:=Nat.eq_of_beq_eq_true hb0
   subst this
   refine ⟨fun _=>?_,fun hf=>(by cases hf)⟩
   have hsz:d<a.tmps.size:=by have:=hsat.size; omega
   simpa [Act.put,Array.getD_eq_getD_getElem?,hsz] using hko
  | false =>
   rw[hb0] at hl'
   obtain ⟨k0,q1,q2⟩:=MU hl'
   have hh:=hs.slots t bb k0 (by simp only[look,hb0]; exact q1)
   refine ⟨fun hb=>?_,hh.2⟩
   rcases q2 with rfl | ⟨rfl,_⟩
   ·trivial
   ·exact hh.1 hb
 ·rcases List.mem_cons.1 he with rfl | he
  ·exact ⟨inferInstance,fun t ht=>by
    have:t=u:=by simpa using ht
    subst this
    show t∈tags M'
    rw[htag]; exact List.mem_map.2 ⟨_,hl.mem,rfl⟩⟩
  ·rcases QQ he with ⟨q1,_⟩ | ⟨q1,q2⟩
   ·exact hs.sdep e (List.mem_cons_of_mem _ q1)
   ·rw[q1,q2]; exact ⟨inferInstance,fun _ h=>by cases h⟩
end
section
variable {P:Program} {n0:Nat} {w0:World} {J0:JV} {S:i4} {M:i1} {fn:Func}
theorem g6.resNC {a u o n q by':Nat} {ty:TypeId} {zz:Value} {kc kc':List d7} {dep dep2:List Nat} {res:Nat->d7} {ct ct':t9} [hlk:q7 M q (j5 kc) dep2] [ht:D0 P ty] [hz:p6 P ty n by' zz] [hs:P9 kc o n kc'] [hlu:q7 M u ct' dep] [J8 dep] (hr:fn.results=#[.cell a ty]) (hx:look S a=some (true,y5 q o))
  (hv:∀g bk o,ct' g bk o->ct g bk o) (hc:∀(g:Gh) (v:Value) (bk:Bk),g.M u=some bk->H9 kc' g v->∀t,res t ⟨g.J,fun q=>if q=t then some bk else none⟩ v) (hcd:B4 ct []) :
  g6 ⟨w0,J0,[],n0,none,false,[]⟩ S M (bodyPost P fn (OD w0 J0 res ct)):=by
 intro act g w hst
 obtain ⟨ad,v,h1,h2,h3⟩:=LV (ty:=ty) (P:=P) hx hst
 obtain ⟨bk,h4,h5⟩:=hst.conts _ hlu.mem
 simp only at h4 h5
 refine ⟨hst.defers.1,_,kR hr h1 h2,_,g.J,bk,rfl,⟨hst.ok.bel.os,hst.ok.bel.tape,hst.ok.bel.output,hst.ok.bel.size,fun k hk=>hst.ok.bel.block k hk (by simp),hst.ok.bel.drawn⟩,hst.ok.jle,hst.ok.jold,hst.ok.im,?_,hcd.dep (g:=g) (JV.le_refl _) (fun _ h=>by cases h) (hv _ _ _ h5),fun t=>hc g _ bk h4 h3 t⟩
 rintro b cap rfl
 obtain ⟨o1,o2,o3⟩:=hst.ok.own _ _ _ h4
 refine ⟨?_,o2,o3⟩
 rcases o1 with o1 | o1
 ·exact o1
 ·cases o1
end
end Go.Fl

/- Closures: values that hold pointers to things of the call's own; their calls are gone through in place, with the caller's own things. No program in sight. -/
namespace Go.Fl
open Go Go.RowKit
def AU (f:FuncId) (ks:List d7):d7:=fun g v=>∃vs:List Value,v=.func (.func f) #[] vs.toArray/\n9 g ks vs
instance {f:FuncId} {ks:List d7} {ds:List Nat} [h:B9 ks ds]:o5 (AU f ks) ds:=⟨fun hl hd ⟨vs,h1,h2⟩=>⟨vs,h1,h.dep hl hd h2⟩⟩
inductive ES (S:i4) (p:Bool):List Operand->List d7->Prop
 | nil:ES S p [] []
 | cons {x:Operand} {xs:List Operand} {k:d7} {ks:List d7} {b:Bool} (hx:j2 S x=some (b,k)) (hb:p=true->b=true) (r:ES S p xs ks):ES S p (x::xs) (k::ks)
theorem ES.eval {S:i4} {p:Bool} {g:Gh} {ρ:Operand->Value} (hp:p=true):∀{xs:List Operand} {ks:List d7},ES S p xs ks->(∀x∈xs,∀b k,j2 S x=some (b,k)->b=true->k g (ρ x))->n9 g ks (xs.map ρ)
 | [],[],_,_=>trivial
 | x::_,_::_,.cons hx hb r,h=>⟨h x List.mem_cons_self _ _ hx (hb hp),ES.eval hp r fun y hy=>h y (List.mem_cons_of_mem _ hy)⟩
section
variable {P:Program} {c:n6} {S:i4} {M:i1} {p:Bool} {d:Option Tmp} {ty:TypeId} {pos:String} {af:Array Edge} {gd:Option (Nat×Bool)} {x:Operand} {b:Bool}
theorem EK {f:FuncId} {caps:List Operand} {ks:List d7} (ha:ES S p caps ks):l4 P c S M ⟨d,.makeFunc (.func f) #[] caps.toArray,ty,pos,af,gd⟩ p (AU f ks) none :=
 l4.pure fun hp a g w _ _ ho=>by
  have hk:=ha.eval (g:=g) (ρ:=a.eval) hp (fun y hy b k hk hb=>ho y (by simp[Op.operands,hy]) b k hk hb)
  exact ⟨_,by simp[execOp,Instr.makeFunc],_,rfl,hk⟩
end
def BW (t:Nat) (bk:Bk):d7:=fun g _=>g.M t=some bk
instance (t:Nat) (bk:Bk):o5 (BW t bk) [t]:=⟨fun _ hd h=>(hd t (by simp)).trans h⟩
def L3 (n:Nat) (bks:Nat->Bk):List Nat->i4
 | []=>[]
 | t::ts=>⟨n+t,true,[t],BW t (bks t)⟩::L3 n bks ts
def EP:Nat->List (List Nat)->List d7->i4
 | i,d::ds,k::ks=>⟨i,true,d,k⟩::EP (i+1) ds ks
 | _,_,_=>[]
inductive IG:List d7->List (List Nat)->Prop
 | nil:IG [] []
 | cons {k:d7} {ks:List d7} {d:List Nat} {ds:List (List Nat)} (h:o5 k d) (r:IG ks ds):IG (k::ks) (d::ds)
class GN (ks:List d7) (ds:outParam (List (List Nat))):Prop where
 h:IG ks ds
instance:GN [] []:=⟨.nil⟩
instance {k:d7} {ks:List d7} {d:List Nat} {ds:List (List Nat)} [h:o5 k d] [r:GN ks ds]:GN (k::ks) (d::ds):=⟨.cons h r.h⟩
theorem YL {g:Gh}:∀{ks:List d7} {ds:List (List Nat)} {vs:List Value} {i t:Nat} {b:Bool} {k:d7},n9 g ks vs->look (EP i ds ks) t=some (b,k)->i<=t/\t<i+ks.length/\b=true/\∃v,vs[t-i]?=some v/\k g v
 | [],ds,_,_,_,_,_,_,h=>by cases ds<;>cases h
 | _::_,[],_,_,_,_,_,_,h=>by cases h
 | k0::ks,d::ds,v::vs,i,t,b,k,hh,h=>by
  simp only[EP,look] at h
  cases hb:Nat.beq i t with
  | true =>
   rw[hb] at h
   simp only[cond_true,Option.some.injEq,Prod.mk.injEq] at h
   obtain ⟨rfl,rfl⟩:=h
   have:=Nat.eq_of_beq_eq_true hb
   subst this
   exact ⟨Nat.le_refl _,by simp,rfl,v,by simp,hh.1⟩
  | false =>
   rw[hb] at h
   obtain ⟨h1,h2,h3,u,h4,h5⟩:=YL hh.2 h
   refine ⟨by omega,by simp only[List.length_cons]; omega,h3,u,?_,h5⟩
   rw[show t-i=(t-(i+1))+1 by omega]; simpa using h4
theorem YM:∀{ks:List d7} {ds:List (List Nat)} {i:Nat} {e:SE},IG ks ds->e∈EP i ds ks->o5 e.k e.dep/\e.dep∈ds
 | [],ds,_,_,_,h=>by cases ds<;>cases h
 | _::_,[],_,_,h,_=>by cases h
 | k::ks,d::ds,i,e,.cons hk r,h=>by
  rcases List.mem_cons.1 h with rfl | h
  ·exact ⟨hk,List.mem_cons_self⟩
  ·obtain ⟨h1,h2⟩:=YM r h
   exact ⟨h1,List.mem_cons_of_mem _ h2⟩
theorem XB {S1 S2:i4} {t:Nat} {b:Bool} {k:d7}:look (S1++S2) t=some (b,k)->look S1 t=some (b,k)\/look S2 t=some (b,k):=by
 induction S1 with
 | nil=>exact .inr
 | cons e S1 ih =>
  intro h
  simp only[List.cons_append,look] at h ⊢
  cases hb:Nat.beq e.s t with
  | true=>rw[hb] at h; exact .inl h
  | false=>rw[hb] at h; exact ih h
theorem TG {n:Nat} {bks:Nat->Bk}:∀{ts:List Nat} {t:Nat} {b:Bool} {k:d7},look (L3 n bks ts) t=some (b,k)->b=true/\n<=t/\(t-n)∈ts/\k=BW (t-n) (bks (t-n))
 | [],_,_,_,h=>by cases h
 | u::ts,t,b,k,h=>by
  simp only[L3,look] at h
  cases hb:Nat.beq (n+u) t with
  | true =>
   rw[hb] at h
   simp only[cond_true,Option.some.injEq,Prod.mk.injEq] at h
   have:=Nat.eq_of_beq_eq_true hb
   subst this
   rw[Nat.add_sub_cancel_left]
   exact ⟨h.1.symm,by omega,List.mem_cons_self,h.2.symm⟩
  | false =>
   rw[hb] at h
   obtain ⟨h1,h2,h3,h4⟩:=TG h
   exact ⟨h1,h2,List.mem_cons_of_mem _ h3,h4⟩
theorem TH {n:Nat} {bks:Nat->Bk}:∀{ts:List Nat} {e:SE},e∈L3 n bks ts->∃t∈ts,e.dep=[t]/\e.k=BW t (bks t)
 | [],_,h=>by cases h
 | u::ts,e,h=>by
  rcases List.mem_cons.1 h with rfl | h
  ·exact ⟨u,List.mem_cons_self,rfl,rfl⟩
  ·obtain ⟨t,h1,h2⟩:=TH h
   exact ⟨t,List.mem_cons_of_mem _ h1,h2⟩
def aG (c:n6) (keep:List Nat) (bks:Nat->Bk) (M:i1) (res:d7):Ending->World->Prop:=fun e w'=>∃r g',e=.returned r/\Ok c g' w'/\F7 M g' w'/\(∀t,g'.M t≠none->t∈tags M)/\(tags M).Nodup/\IF M M/\(∀t∈keep,g'.M t=some (bks t))/\res g' r/\∀D∈c.om,w'.heap[D]?=some (Obj.deferred (some []))
def MX (ds:List Deferred):List Nat:=ds.flatMap fun d=>match d.target with | .collected D=>[D] | _=>[]
theorem xE {ds:List Deferred} {D:Nat} (h:({ target:=.collected D,args:=#[] }:Deferred)∈ds):D∈MX ds:=List.mem_flatMap.2 ⟨_,h,by simp⟩
theorem xG {m:Bool} {B:Nat} {om:List Nat} {ds:List Deferred} {w:World} (h:P7 m B om ds w):∀D∈om++MX ds,w.heap[D]?=some (Obj.deferred (some [])):=by
 intro D hD
 rcases List.mem_append.1 hD with hD | hD
 ·exact h.2 D hD
 obtain ⟨d,hd,he⟩:=List.mem_flatMap.1 hD
 have h:=h.1
 cases m with
 | false=>simp only at h; subst h; cases hd
 | true =>
  obtain ⟨D',h1,_,h3⟩:=h.2 d hd
  subst h1
  simp only[List.mem_singleton] at he
  subst he; exact h3
theorem xF {m:Bool} {B:Nat} {om:List Nat} {ds:List Deferred} {w w':World} (h:P7 m B om ds w) (h':∀D∈om++MX ds,w'.heap[D]?=some (Obj.deferred (some []))):P7 m B om ds w':=by
 refine ⟨?_,fun D hD=>h' D (List.mem_append_left _ hD)⟩
 have h:=h.1
 cases m with
 | false=>exact h
 | true =>
  refine ⟨h.1,fun d hd=>?_⟩
  obtain ⟨D,h1,h2,_⟩:=h.2 d hd
  subst h1
  exact ⟨D,rfl,h2,h' D (List.mem_append_right _ (xE hd))⟩
def JU (keep:List Nat):i4->i4
 | []=>[]
 | e::S=>(cond (t8 e.dep keep) e ⟨e.s,e.b,[],X6⟩)::JU keep S
theorem WX {keep:List Nat}:∀{S:i4} {t:Nat} {b:Bool} {k:d7},look (JU keep S) t=some (b,k)->∃k0,look S t=some (b,k0)/\(k=X6\/(k=k0/\∃e∈S,e.k=k/\∀q∈e.dep,q∈keep))
 | [],_,_,_,h=>by cases h
 | e::S,t,b,k,h=>by
  simp only[JU] at h
  cases hs:t8 e.dep keep with
  | true =>
   rw[hs] at h
   simp only[cond_true,look] at h ⊢
   cases hb:Nat.beq e.s t with
   | true =>
    rw[hb] at h
    simp only[cond_true,Option.some.injEq,Prod.mk.injEq] at h ⊢
    exact ⟨e.k,⟨h.1,rfl⟩,.inr ⟨h.2.symm,e,List.mem_cons_self,h.2,C3 hs⟩⟩
   | false =>
    rw[hb] at h
    obtain ⟨k0,h1,h2⟩:=WX h
    exact ⟨k0,h1,h2.imp id fun ⟨q1,e',q2,q3⟩=>⟨q1,e',List.mem_cons_of_mem _ q2,q3⟩⟩
  | false =>
   rw[hs] at h
   simp only[cond_false,look] at h ⊢
   cases hb:Nat.beq e.s t with
   | true =>
    rw[hb] at h
    simp only[cond_true,Option.some.injEq,Prod.mk.injEq] at h ⊢
    exact ⟨e.k,⟨h.1,rfl⟩,.inl h.2.symm⟩
   | false =>
    rw[hb] at h
    obtain ⟨k0,h1,h2⟩:=WX h
    exact ⟨k0,h1,h2.imp id fun ⟨q1,e',q2,q3⟩=>⟨q1,e',List.mem_cons_of_mem _ q2,q3⟩⟩
theorem gN {keep:List Nat}:∀{S:i4} {e:SE},e∈JU keep S->(e∈S/\∀q∈e.dep,q∈keep)\/(e.dep=[]/\e.k=X6)
 | [],_,h=>by cases h
 | x::S,e,h=>by
  simp only[JU] at h
  rcases List.mem_cons.1 h with h | h
  ·cases hs:t8 x.dep keep with
   | true=>rw[hs] at h; subst h; exact .inl ⟨List.mem_cons_self,C3 hs⟩
   | false=>rw[hs] at h; subst h; exact .inr ⟨rfl,rfl⟩
  ·exact (gN h).imp (fun ⟨h1,h2⟩=>⟨List.mem_cons_of_mem _ h1,h2⟩) id
section
variable {P:Program} {ops:Array Oper} {S:i4} {M M':i1} {rest:List Oper} {Q:Exit->Act->World->Prop}
variable {d:Nat} {ty:TypeId} {pos:String} {af:Array Edge} {w0:World} {J0:JV} {bor om:List Nat} {n:Nat} {rd:Option Nat} {mrk:Bool}
end
inductive EY (S:i4) (n:Nat) (bks:Nat->Bk):List Nat->Prop
 | nil:EY S n bks []
 | cons {t:Nat} {ts:List Nat} (h:look S (n+t)=some (true,BW t (bks t))) (r:EY S n bks ts):EY S n bks (t::ts)
theorem EY.holds {S:i4} {n:Nat} {bks:Nat->Bk} {a:Act} {g:Gh} (hs:V2 S a g):∀{ts:List Nat},EY S n bks ts->∀t∈ts,g.M t=some (bks t)
 | _::_,.cons h r,t,ht=>by
  rcases List.mem_cons.1 ht with rfl | ht
  ·exact (hs _ _ _ h).1 rfl
  ·exact r.holds hs t ht
section
variable {P:Program} {w0:World} {J0:JV} {bor om:List Nat} {n0:Nat} {S:i4} {M:i1} {fn:Func} {keep:List Nat} {bks:Nat->Bk} {n t:Nat} {k res:d7}
theorem fX {c:n6} {a:Act} {g:Gh} {w:World} (hs:l8 c S M a g w) (hk:EY S n bks keep) {r:Value} (hr:res g r):aG c keep bks M res (.returned r) w :=
 ⟨r,g,rfl,hs.ok,hs.conts,hs.dom,hs.nodup,hs.cdep,hk.holds hs.slots,hr,hs.defers.2⟩
end
end Go.Fl

/- Parts of a row with their address: in states and results. No program in sight. -/
namespace Go.Fl
open Go Go.RowKit
theorem K4.down {α:Type} {e:i8 α} {ad:Option Addr} {cap:Nat} {xs:List α} {g:Gh} {v:Value} (k:K4 e ad cap xs g v):K4 e ad cap xs ⟨g.J,y9⟩ v :=
 (inferInstance:o5 (K4 e ad cap xs) []).dep (g:=g) (g':=⟨g.J,y9⟩) (JV.le_refl _) (fun _ h=>by cases h) k
theorem F1.v {S:i4} {t:Nat} {ts:List Nat} {ks:List d7} {α:Type} {e:i8 α} {ad:Option Addr} {cap:Nat} {xs ys:List α} (hl:look S t=some (true,K4 e ad cap xs)) (he:xs=ys) (r:F1 S ts ks):F1 S (t::ts) (K4 e ad cap ys::ks) :=
 .cons hl (fun _ _ h=>(h.cast he).down) r
theorem E4.v {S S':i4} {M M':i1} {s:Nat} {α:Type} {e:i8 α} {ad:Option Addr} {cap:Nat} {xs ys:List α} (hl:look S s=some (true,K4 e ad cap xs)) (he:xs=ys) (r:E4 S M S' M'):E4 S M (⟨s,true,[],K4 e ad cap ys⟩::S') M' :=
 E4.conv hl rfl (fun _ _ h=>h.cast he) rfl r
section
variable {P:Program} {c:n6} {S:i4} {M:i1} {p:Bool} {d:Option Tmp} {ty:TypeId} {pos:String} {af:Array Edge} {gd:Option (Nat×Bool)} {x y:Operand} {b b':Bool}
theorem yX {t et:TypeId} [ht:D1 P t et] {size bytes:Nat} {zz:Value} [hsz:p6 P et size bytes zz] {α:Type} (e:i8 α) {n:Int} (u:Nat) (hx:j2 S x=some (b,kI 0)) (hb:p=true->b=true) (hy:j2 S y=some (b',kI n)) (hb':p=true->b'=true)
  (hs:size=e.n) (h:p=true->0<=n/\bytes*n<=281474976710656/\n<=281474976710656) :
  l4 P c S M ⟨d,.makeSlice t x y,ty,pos,af,gd⟩ p (o9 u 0) (some ⟨u,[],l5 false et e [] 0⟩):=by
 intro hp a g w hok hc ho hf
 have hf':=hf _ rfl
 obtain ⟨i,hi,rfl,rfl,hzz⟩:=hsz.h
 obtain ⟨h0,h1,h2⟩:=h hp
 have e1:a.eval x=_:=ho x (by simp[Op.operands]) b _ hx (hb hp)
 have e2:a.eval y=_:=ho y (by simp[Op.operands]) b' _ hy (hb' hp)
 have hr:=run_make (P:=P) w t et i zz ht.h hi hzz .i64 .i64 0 n (Int.le_refl _) h0 h1 zo
 unfold Oper.wp
 simp only[execOp,e1,e2,Sem.run_bind,hr,Result.andThen_ok,Sem.run_pure,Oper.upon]
 exact ⟨_,_,rfl,H2.alloc (cap:=n.toNat) hok hf' (.inl rfl) (.inr ⟨_,_,Gh.add_same _ _ _,rfl⟩) ⟨rfl,fun h=>(by cases h),_,rfl,by rw[size_madeCells,hs],Nat.zero_le _,by simp only[maxLen]; omega,fun i x hx=>by simp at hx⟩⟩
end
section
variable {P:Program} {c:n6} {S:i4} {M1 M2 M:i1} {Q:Exit->Act->World->Prop} {a:Act} {g:Gh} {w:World}
theorem NP {f:Nat->Bk×Option Obj}:tags (N9 f M1++M2)=tags (M1++M2):=by simp[tags,N9]
theorem l8.pinA (h:l8 c S (M1++M2) a g w):∃f,l8 c S (N9 f M1++M2) a g w:=by
 refine ⟨fun t=>((g.M t).getD .nil,World.objAt w ((g.M t).getD .nil)),h.ok,h.slots,fun e he=>?_,fun t ht=>?_,?_,fun e he=>?_,fun e he=>?_,h.defers,h.size⟩
 ·rcases List.mem_append.1 he with he | he
  ·obtain ⟨e0,he0,rfl⟩:=List.mem_map.1 he
   obtain ⟨bk,h1,h2⟩:=h.conts e0 (List.mem_append_left _ he0)
   refine ⟨bk,h1,h2,?_,?_⟩
   ·show bk=(g.M e0.t).getD .nil
    rw[h1]; rfl
   ·show _=World.objAt w ((g.M e0.t).getD .nil)
    rw[h1]; rfl
  ·exact h.conts e (List.mem_append_right _ he)
 ·show t∈tags (N9 _ M1++M2)
  rw[NP]; exact h.dom t ht
 ·show (tags (N9 _ M1++M2)).Nodup
  rw[NP]; exact h.nodup
 ·refine ⟨(h.sdep e he).1,fun t ht=>?_⟩
  show t∈tags (N9 _ M1++M2)
  rw[NP]; exact (h.sdep e he).2 t ht
 ·rcases List.mem_append.1 he with he | he
  ·obtain ⟨e0,he0,rfl⟩:=List.mem_map.1 he
   refine ⟨⟨fun hl hd ⟨h1,h2⟩=>⟨(h.cdep e0 (List.mem_append_left _ he0)).1.dep hl hd h1,h2⟩⟩,fun t ht=>?_⟩
   show t∈tags (N9 _ M1++M2)
   rw[NP]; exact (h.cdep e0 (List.mem_append_left _ he0)).2 t ht
  ·refine ⟨(h.cdep e (List.mem_append_right _ he)).1,fun t ht=>?_⟩
   show t∈tags (N9 _ M1++M2)
   rw[NP]; exact (h.cdep e (List.mem_append_right _ he)).2 t ht
theorem EQ {f:Nat->Bk×Option Obj} {N:i1} (h:∀e∈N9 f M1,e∈N):∀a g w,l8 c S N a g w->YN f M1 w:=by
 intro a g w hs e he
 obtain ⟨bk,_,_,h2,h3⟩:=hs.conts _ (h _ (List.mem_map.2 ⟨e,he,rfl⟩))
 rw[<- h2]; exact h3
theorem Tr.drawQ {l:List Oper} {id:Nat} (M1 M2:i1) (hM:M=M1++M2) (hm:P.follows .mixedOrders=true) (listed':Array Bool) (hl:Array.replicate l.length false=listed') (h:∀f,b7 P c l.toArray Q (YN f M1) l.length listed' S (N9 f M1++M2)) (hr:c.rd=none\/EH l=true:=by first | exact .inl rfl | exact .inr rfl):Tr P c S M (.region id l.toArray true) Q:=by
 intro a g w hs
 subst hl
 subst hM
 obtain ⟨f,hf⟩:=hs.drew.pinA
 exact Code.wpIn_mono (Q:=Z8 Q) (fun e _ _ q=>by obtain ⟨he,h⟩:=q; subst he; exact h) (NV (hr.imp (fun h=>h) fun h=>⟨h,QW⟩) hm (wpAny_of_held _ _ _ _ (by simpa using h f _ _ _ hf (EQ (fun _ h=>List.mem_append_left _ h) _ _ _ hf))))
end
end Go.Fl

/- Structs that come back with a row of one's own, of which a part is wanted. No program in sight. -/
namespace Go.Fl
open Go Go.RowKit
theorem wI {t n len:Nat} (h0:0<len) {g:Gh} {v:Value} (h:C7 t n 0 len g v):o9 t len g v:=by
 obtain ⟨b,cap,o,h1,h2,h3,h4⟩:=h
 have:=h3 zo
 rw[Nat.zero_mul] at this
 subst this
 exact .inr ⟨b,cap,h1,h4⟩
theorem oO {α:Type} {et:TypeId} {e:i8 α} {xs ys:List α} {len m:Nat} (hm:m<=len) (he:xs.take m=ys) {g:Gh} {bk:Bk} {o:Option Obj} (h:l5 false et e xs len g bk o):l5 false et e ys m g bk o:=by
 subst he
 obtain ⟨h0,h1⟩:=h
 refine ⟨by rw[List.length_take]; omega,?_⟩
 cases bk with
 | nil=>have:len=0:=h1; show m=0; omega
 | blk b cap =>
  obtain ⟨_,cs,h3,h4,h5,h6,h7⟩:=h1
  refine ⟨fun h=>(by cases h),cs,h3,h4,by omega,h6,fun i x hx=>h7 i x ?_⟩
  rw[List.getElem?_take] at hx
  split at hx
  ·exact hx
  ·cases hx
theorem oF {x y:Bool} {u n m m':Nat} (hx:x=y) (hm:m=m') (g:Gh) (v:Value) (bk:Bk) (hb:g.M u=some bk) (h:H9 [kB x,C7 u n 0 m] g v) (t:Nat):H9 [kB y,C7 t n 0 m'] ⟨g.J,fun q=>if q=t then some bk else none⟩ v:=by
 subst hx hm
 obtain ⟨cs,h1,h2⟩:=h
 match cs,h2 with
 | [c1,c2],⟨k1,k2,_⟩ =>
  refine ⟨_,h1,k1,?_,trivial⟩
  obtain ⟨b,cap,o,q1,q2⟩:=k2
  rw[hb] at q1
  exact ⟨b,cap,o,by rw[<- q1]; simp,q2⟩
instance {x:Bool} {u n m:Nat}:o5 (H9 [kB x,C7 u n 0 m]) [u]:=(inferInstance:o5 (H9 [kB x,C7 u n 0 m]) _)
theorem G4.se {S:i4} {p b:Bool} {x:Operand} {xs:List Operand} {kl:List d7} {α:Type} {e:i8 α} {v v':α} {ks:List d7} (hx:j2 S x=some (b,H9 kl)) (hb:p=true->b=true) [hr:t6 kl e v []] (ha:e.agg=true) (he:v=v') (r:G4 S p xs ks):G4 S p (x::xs) (b8 e v'::ks):=by
 subst he; exact G4.s hx hb ha r
section
variable {P:Program} {c:n6} {S:i4} {M:i1} {p:Bool} {d:Option Tmp} {ty:TypeId} {pos:String} {af:Array Edge} {gd:Option (Nat×Bool)} {x:Operand} {b:Bool}
theorem kW {s f:Nat} {fs:Array Field} {fl:Field} (hu:P.underlying s=some (.struct fs)) (hf:fs[f]?=some fl) {ft off:Nat} (hft:fl.type=ft) (ho:fl.offset=off) [hl:F4 P ft] {cs:List Value} {v:Value} (hv:cs[off]?=some v) (w:World) :
  (Instr.field s (.agg cs.toArray) f).run P w=.ok v w:=by
 subst hft ho
 have hv':cs.toArray[fl.offset]?=some v:=by simpa using hv
 simp[Instr.field,run_underlying hu,hf,asAgg,part,hl.run,hv]
theorem yQ {s f:Nat} {fs:Array Field} {fl:Field} (hu:P.underlying s=some (.struct fs)) (hf:fs[f]?=some fl) {ft off:Nat} (hft:fl.type=ft) (ho:fl.offset=off) [hl:F4 P ft] {ks:List d7} {k:d7} (hx:j2 S x=some (b,H9 ks)) (hb:p=true->b=true) (hk:ks[off]?=some k) :
  l4 P c S M ⟨d,.field s x f,ty,pos,af,gd⟩ p k none :=
 l4.pure fun hp a g w _ _ ho'=>by
  obtain ⟨cs,h1,h2⟩:=ho' x (by simp[Op.operands]) b _ hx (hb hp)
  obtain ⟨v,hv,hkv⟩:=IT h2 hk
  exact ⟨v,by simp only[execOp,h1,Sem.run_bind,kW hu hf hft ho hv,Result.andThen_ok,Sem.run_pure],hkv⟩
theorem yR {s f:Nat} {fs:Array Field} {fl:Field} (hu:P.underlying s=some (.struct fs)) (hf:fs[f]?=some fl) {ft off:Nat} (hft:fl.type=ft) (ho:fl.offset=off) [hl:F4 P ft] {α β:Type} {e:i8 α} {e':i8 β} {v:α} {v':β} {k:d7} [h1:v6 e v f e' v' off] [h2:P8 e' v' k]
  (hx:j2 S x=some (b,b8 e v)) (hb:p=true->b=true) (ha:e.agg=true) (ha':e'.agg=false):l4 P c S M ⟨d,.field s x f,ty,pos,af,gd⟩ p k none :=
 l4.pure fun hp a g w _ _ ho'=>by
  obtain ⟨cs,q1,q2⟩:=ho' x (by simp[Op.operands]) b _ hx (hb hp)
  rw[ha] at q2
  obtain ⟨ds,q3,q4⟩:=h1.imp q1
  have hlen:=e'.len q3
  rw[(e'.one ha').1] at hlen
  match ds,hlen with
  | [u],_ =>
   have hc:=q4 0 u rfl
   rw[Nat.add_zero] at hc
   exact ⟨u,by simp only[execOp,q2,if_true,Sem.run_bind,kW hu hf hft ho hc,Result.andThen_ok,Sem.run_pure],h2.imp ⟨_,q3,by rw[ha']; rfl⟩⟩
end
end Go.Fl

/- Two structs that come back out of cells; a struct with a nil row. No program in sight. -/
namespace Go.Fl
open Go Go.RowKit
section
variable {P:Program} {n0:Nat} {w0:World} {J0:JV} {S:i4} {M:i1} {fn:Func}
theorem ac9 {fn:Func} {a b ty ty2:Nat} (h:fn.results=#[.cell a ty,.cell b ty2]) {tmps:Array Value} {w:World} {ad ad2:Addr} {v v2:Value} (ha:tmps.getD a undef=.pointer (some ad)) (hr:(loadVar ty ad).run P w=.ok v w) (hb:tmps.getD b undef=.pointer (some ad2)) (hr2:(loadVar ty2 ad2).run P w=.ok v2 w) :
  (results fn tmps).run P w=.ok (.tuple #[v,v2]) w:=by
 rw[Array.getD_eq_getD_getElem?] at ha hb
 have hs:(asAddr (tmps[a]?.getD undef)).run P w=.ok ad w:=by rw[ha]; rfl
 have hs2:(asAddr (tmps[b]?.getD undef)).run P w=.ok ad2 w:=by rw[hb]; rfl
 simp[results,h,hs,hr,hs2,hr2]
theorem g6.resC2 {a b u v o o2 n n2 by' by2:Nat} {ty ty2:TypeId} {zz zz2:Value} {kc kc' kc2 kc2':List d7} {dep dep2:List Nat} [hlk:q7 M u (j5 kc) dep] [ht:D0 P ty] [hz:p6 P ty n by' zz] [hs:P9 kc o n kc'] [hlk2:q7 M v (j5 kc2) dep2] [ht2:D0 P ty2] [hz2:p6 P ty2 n2 by2 zz2] [hs2:P9 kc2 o2 n2 kc2'] {k k2:d7}
  (hr:fn.results=#[.cell a ty,.cell b ty2]) (hx:look S a=some (true,y5 u o)) (hy:look S b=some (true,y5 v o2)) (hc:∀(g:Gh) (v:Value),H9 kc' g v->k ⟨g.J,y9⟩ v) (hc2:∀(g:Gh) (v:Value),H9 kc2' g v->k2 ⟨g.J,y9⟩ v):g6 ⟨w0,J0,[],n0,none,false,[]⟩ S M (bodyPost P fn (DP w0 J0 (z6 [k,k2]))):=by
 intro act g w hst
 obtain ⟨ad,v,h1,h2,h3⟩:=LV (ty:=ty) (P:=P) hx hst
 obtain ⟨ad2,v2,h4,h5,h6⟩:=LV (ty:=ty2) (P:=P) hy hst
 exact ⟨hst.defers.1,_,ac9 hr h1 h2 h4 h5,_,g.J,rfl,⟨hst.ok.bel.os,hst.ok.bel.tape,hst.ok.bel.output,hst.ok.bel.size,fun k hk=>hst.ok.bel.block k hk (by simp),hst.ok.bel.drawn⟩,hst.ok.jle,hst.ok.jold,hst.ok.im,_,rfl,hc _ _ h3,hc2 _ _ h6,trivial⟩
end
theorem LU {x y:Bool} {α:Type} {e:i8 α} {xs ys:List α} (hx:x=y) (he:xs=ys) {g:Gh} {bk:Bk} {o:Option Obj} (h:j5 [kB x,b8 (eL e) xs] g bk o):j5 [kB y,b8 (eL e) ys] g bk o:=by subst hx he; exact h
theorem oP {x y:Bool} {α:Type} {e:i8 α} {cp:Nat} {ys:List α} (hx:x=y) (he:[]=ys) {g:Gh} {bk:Bk} {o:Option Obj} (h:j5 [kB x,j4 (.slice none 0 cp)] g bk o):j5 [kB y,b8 (eL e) ys] g bk o:=by
 subst hx he
 obtain ⟨cs,ty,h1,h2⟩:=h
 refine ⟨cs,ty,h1,?_⟩
 match hcs:cs.toList,h2 with
 | [c1,c2],⟨k1,k2,_⟩=>exact ⟨k1,⟨_,Y1 (c:=cp),k2⟩,trivial⟩
section
variable {P:Program} {c:n6} {S:i4} {M:i1} {Sp:World->Prop} {d:Option Tmp} {ty:TypeId} {pos:String} {af:Array Edge} {gd:Option (Nat×Bool)} {x:Operand}
end
theorem E4.n {S S':i4} {M M':i1} {s cp:Nat} {α:Type} {e:i8 α} {y:List α} (hl:look S s=some (true,j4 (.slice none 0 cp))) (he:[]=y) (r:E4 S M S' M'):E4 S M (⟨s,true,[],b8 (eL e) y⟩::S') M' :=
 E4.conv hl rfl (fun _ _ h=>by subst he; exact ⟨_,Y1 (c:=cp),h⟩) rfl r
end Go.Fl

/- Closures whose captured values are immutable: their calls are calls by contract. No program in sight. -/
namespace Go.Fl
open Go Go.RowKit
def FQ {α:Type} (P:Program) (φ:α->Prop) (ks:α->List d7) (res:α->d7):d7:=fun g v=>∃(f:FuncId) (caps:Array Value),v=.func (.func f) #[] caps/\f0 P f/\∀a,φ a->∀w J,g.J.le J->Im J w->∀vs,n9 ⟨J,y9⟩ (ks a) vs->Calls P f (vs.toArray++caps) w (DP w J (res a))
instance {α:Type} {P:Program} {φ:α->Prop} {ks:α->List d7} {res:α->d7}:o5 (FQ P φ ks res) []:=⟨fun hl _ ⟨f,caps,h1,h2,h3⟩=>⟨f,caps,h1,h2,fun a ha w J hJ=>h3 a ha w J (JV.le_trans hl hJ)⟩⟩
theorem UC {g:Gh}:∀{ks ks':List d7} {vs vs':List Value},n9 g ks vs->n9 g ks' vs'->n9 g (ks++ks') (vs++vs')
 | [],_,[],_,_,h=>h
 | [],_,_::_,_,h,_=>h.elim
 | _::_,_,[],_,h,_=>h.elim
 | _::_,_,_::_,_,h,h'=>⟨h.1,UC h.2 h'⟩
theorem JR {α:Type} {P:Program} {f:FuncId} [hf:f0 P f] {φ:α->Prop} {ks:α->List d7} {res:α->d7} {cks:List d7} [hj:AI cks] (h:∀a,φ a->Ct P f (ks a++cks) (res a)) (g:Gh) (v:Value) (hv:AU f cks g v):FQ P φ ks res g v:=by
 obtain ⟨cvs,rfl,hc⟩:=hv
 refine ⟨f,cvs.toArray,rfl,hf,fun a ha w J hJ him vs hvs=>?_⟩
 have h1:n9 ⟨J,y9⟩ cks cvs:=OO (J:=g.J) hJ hj.all (LR (g:=g) (g':=⟨g.J,y9⟩) (JV.le_refl _) hj.all hc)
 have:=h a ha w J him (vs++cvs) (UC hvs h1)
 rwa [List.append_toArray]
section
variable {P:Program} {c:n6} {S:i4} {M:i1} {p:Bool} {d:Option Tmp} {ty:TypeId} {pos:String} {af:Array Edge} {gd:Option (Nat×Bool)} {x:Operand} {b:Bool}
theorem RS {α:Type} (a:α) {φ:α->Prop} {ks:α->List d7} {res:α->d7} {args:List Operand} {tys:Array TypeId} (hx:j2 S x=some (b,FQ P φ ks res)) (hb:p=true->b=true) (ha:p=true->φ a) (hargs:G4 S p args (ks a)) [hk:o5 (res a) []] :
  l4 P c S M ⟨d,.call { callee:=.value x,args:=args.toArray,argTypes:=tys },ty,pos,af,gd⟩ p (res a) none:=by
 intro hp q g w hok hc ho _
 obtain ⟨f,caps,hfv,hf,hct⟩:=ho x (by simp[Op.operands,Call.operands]) b _ hx (hb hp)
 have hvs:=hargs.eval (g:=g) (ρ:=q.eval) hp (fun y hy b k hk hb=>ho y (by simp[Op.operands,Call.operands,hy]) b k hk hb)
 have hr:=hct a (ha hp) w g.J (JV.le_refl _) hok.im _ hvs
 unfold Oper.wp
 simp only[execOp,resolve,hfv,Deferred.ofValue,Sem.run_bind,Sem.run_pure,Result.andThen_ok,invoke,List.map_toArray,Array.empty_append]
 rw[hf.run]
 simp only[Oper.upon]
 refine hr.mono fun e w' he=>?_
 obtain ⟨r,J',rfl,hbel,hJ,hold,him,hres⟩:=he
 exact ⟨r,_,rfl,H2.call hok hbel hJ hold him hres⟩
end
end Go.Fl

/- The end of a call that is gone through in place, with what the caller wants to know. No program in sight. -/
namespace Go.Fl
open Go Go.RowKit
section
variable {P:Program} {c:n6} {w0:World} {J0:JV} {bor om:List Nat} {n0:Nat} {S:i4} {M M':i1} {fn:Func} {keep:List Nat} {bks:Nat->Bk} {n:Nat}
variable {p:Bool} {d:Option Tmp} {ty:TypeId} {pos:String} {af:Array Edge} {gd:Option (Nat×Bool)} {x:Operand} {b:Bool}
theorem iY {f:FuncId} [hf:f0 P f] {ks cks:List d7} {res:d7} {args:List Operand} {tys:Array TypeId} (hx:j2 S x=some (b,AU f cks)) (hb:p=true->b=true) [hj:AI cks] (hct:p=true->Ct P f (ks++cks) res) (hargs:G4 S p args ks) [hk:o5 res []] :
  l4 P c S M ⟨d,.call { callee:=.value x,args:=args.toArray,argTypes:=tys },ty,pos,af,gd⟩ p res none:=by
 intro hp q g w hok hc ho _
 obtain ⟨cvs,hfv,hcs⟩:=ho x (by simp[Op.operands,Call.operands]) b _ hx (hb hp)
 have hvs:=hargs.eval (g:=g) (ρ:=q.eval) hp (fun y hy b k hk hb=>ho y (by simp[Op.operands,Call.operands,hy]) b k hk hb)
 have h1:n9 ⟨g.J,y9⟩ cks cvs:=LR (g:=g) (g':=⟨g.J,y9⟩) (JV.le_refl _) hj.all hcs
 have hr:=hct hp w g.J hok.im _ (UC hvs h1)
 unfold Oper.wp
 simp only[execOp,resolve,hfv,Deferred.ofValue,Sem.run_bind,Sem.run_pure,Result.andThen_ok,invoke,List.map_toArray,List.append_toArray]
 rw[hf.run]
 simp only[Oper.upon]
 refine hr.mono fun e w' he=>?_
 obtain ⟨r,J',rfl,hbel,hJ,hold,him,hres⟩:=he
 exact ⟨r,_,rfl,H2.call hok hbel hJ hold him hres⟩
end
end Go.Fl

/- Loops over what slices.Backward hands back: the body is a round with the frame's temporaries; what the rounds write are things of the call's own, which stay where they are. No program in sight. -/
namespace Go.Fl
open Go Go.RowKit
class TU (ct:t9):Prop where
  is:∀{g:Gh} {b cap:Nat} {o:Option Obj},ct g (.blk b cap) o->∃cs ty fr,o=some (Obj.cells cs ty fr)
instance {ks:List d7}:TU (j5 ks):=⟨fun ⟨cs,ty,h,_⟩=>⟨cs,ty,_,h⟩⟩
class AJ (M:i1):Prop where
  is:∀e∈M,TU e.c
instance:AJ []:=⟨fun _ h=>by cases h⟩
instance {t:Nat} {d:List Nat} {ct:t9} {M:i1} [h:TU ct] [hs:AJ M]:AJ (⟨t,d,ct⟩::M):=⟨fun e he=>by
  rcases List.mem_cons.1 he with rfl | he
  · exact h
  · exact hs.is e he⟩
def CG (g:Gh) (M:i1):List Nat:=(tags M).filterMap fun t=>match g.M t with | some (.blk b _)=>some b | _=>none
theorem SL {g:Gh} {M:i1} {b:Nat}:b∈CG g M↔∃t∈tags M,∃cap,g.M t=some (.blk b cap):=by
  unfold CG
  rw[List.mem_filterMap]
  constructor
  · rintro ⟨t,ht,h⟩
    refine ⟨t,ht,?_⟩
    cases hg:g.M t with
    | none=>rw[hg] at h; cases h
    | some bk =>
      cases bk with
      | nil=>rw[hg] at h; cases h
      | blk b' cap=>rw[hg] at h; simp only[Option.some.injEq] at h; subst h; exact ⟨cap,rfl⟩
  · rintro ⟨t,ht,cap,h⟩
    exact ⟨t,ht,by rw[h]⟩
section
variable {c:n6} {S S':i4} {M M':i1} {a a':Act} {g g':Gh} {W W':World}
theorem oR {W:World} {b off:Nat} {o:Obj} (hl:W.heap[b]?=some o) (ho:o.isCells=false):W.cell? ⟨b,off,none⟩=none:=by
  cases o<;>first | (simp[World.cell?,hl]; done) | (simp[Obj.isCells] at ho)
theorem l8.notOwn (h:l8 c S M a g W) (hM:AJ M) {k:Nat} {o:Obj} (hk:W.heap[k]?=some o) (ho:o.isCells=false):k∉CG g M:=by
  intro hm
  obtain ⟨t,ht,cap,hg⟩:=SL.1 hm
  obtain ⟨e,he,rfl⟩:=List.mem_map.1 ht
  obtain ⟨bk,h1,h2⟩:=h.conts e he
  rw[hg] at h1; cases h1
  obtain ⟨cs,ty,fr,h3⟩:=(hM.is e he).is h2
  have h3:W.heap[k]?=some (Obj.cells cs ty fr):=h3
  rw[hk] at h3; cases h3; cases ho
theorem l8.rebase (h:l8 c S M a g W) (rd:Option Nat) (mrk:Bool) (om:List Nat) (hm:P7 mrk W.heap.size om a.defers W):l8 ⟨W,g.J,CG g M,c.n,rd,mrk,om⟩ S M a g W :=
  ⟨⟨⟨rfl,rfl,rfl,Nat.le_refl _,fun _ _ _=>rfl,Nat.le_refl _⟩,JV.le_refl _,fun _ _ _=>rfl,h.ok.im,fun t b cap ht=>⟨.inr (SL.2 ⟨t,h.dom t (by rw[ht]; simp),cap,ht⟩),(h.ok.own t b cap ht).2⟩,h.ok.inj⟩,
    h.slots,h.conts,h.dom,h.nodup,h.sdep,h.cdep,hm,h.size⟩
theorem l8.unbase {c0:n6} {rd:Option Nat} {mrk:Bool} {om:List Nat} (h0:l8 c0 S M a g W) (h:l8 ⟨W,g.J,CG g M,c0.n,rd,mrk,om⟩ S' M' a' g' W') (hw:c.w0=c0.w0) (hJ:c.J0=c0.J0) (hb:c.bor=c0.bor) (hn:c.n=c0.n)
    (hm:P7 c.mrk c.w0.heap.size c.om a'.defers W'):l8 c S' M' a' g' W':=by
  have hown:∀b,b∈CG g M->c0.w0.heap.size<=b\/b∈c0.bor:=fun b hb=>by
    obtain ⟨t,_,cap,hg⟩:=SL.1 hb
    exact (h0.ok.own t b cap hg).1
  have b0:=h0.ok.bel
  have b1:=h.ok.bel
  refine ⟨⟨⟨b1.os.trans (hw▸b0.os),b1.tape.trans (hw▸b0.tape),b1.output.trans (hw▸b0.output),Nat.le_trans (hw▸b0.size) b1.size,fun k hk hnb=>?_,Nat.le_trans (hw▸b0.drawn) b1.drawn⟩,JV.le_trans (hJ▸h0.ok.jle) h.ok.jle,fun b o hlt=>?_,h.ok.im,fun t b cap ht=>?_,h.ok.inj⟩,h.slots,h.conts,h.dom,h.nodup,h.sdep,h.cdep,hm,hn▸h.size⟩
  · rw[hw] at hk
    rw[hb] at hnb
    have h1:=b1.block k (Nat.lt_of_lt_of_le hk b0.size) (fun hk'=>by
      rcases hown k hk' with h2 | h2
      · omega
      · exact hnb h2)
    rw[h1,hw]
    exact b0.block k hk hnb
  · rw[hw] at hlt
    rw[h.ok.jold b o (Nat.lt_of_lt_of_le hlt b0.size),hJ]
    exact h0.ok.jold b o hlt
  · obtain ⟨h1,h2,h3⟩:=h.ok.own t b cap ht
    refine ⟨?_,h2,h3⟩
    rw[hw,hb]
    rcases h1 with h1 | h1
    · exact .inl (Nat.le_trans b0.size h1)
    · exact hown b h1
theorem l8.turn (h:l8 c S M a g W) (hM:AJ M) {l:Nat} {o o':Obj} (hl:W.heap[l]?=some o) (ho:o.isCells=false) (hB:c.w0.heap.size<=l) (hmk:P7 c.mrk c.w0.heap.size c.om a.defers (W.putObj l o')):l8 c S M a g (W.putObj l o'):=by
  have hno:=h.notOwn hM hl ho
  have hoth:∀k,k≠l->(W.putObj l o').heap[k]?=W.heap[k]?:=fun k hk=>World.putObj_heap_other hk
  refine ⟨⟨⟨h.ok.bel.os,h.ok.bel.tape,h.ok.bel.output,by simpa using h.ok.bel.size,fun k hk hnb=>?_,h.ok.bel.drawn⟩,h.ok.jle,h.ok.jold,fun b off v hv=>?_,fun t b cap ht=>?_,h.ok.inj⟩,h.slots,fun e he=>?_,h.dom,h.nodup,h.sdep,h.cdep,hmk,h.size⟩
  · rw[hoth k zo]; exact h.ok.bel.block k hk hnb
  · have h1:=h.ok.im b off v hv
    rw[World.cell?_of_block (w:=W) (hoth b (fun e=>by
      subst e
      rw[oR hl ho] at h1; cases h1))]
    exact h1
  · obtain ⟨h1,h2,h3⟩:=h.ok.own t b cap ht
    exact ⟨h1,by simpa using h2,h3⟩
  · obtain ⟨bk,h1,h2⟩:=h.conts e he
    refine ⟨bk,h1,?_⟩
    have:World.objAt (W.putObj l o') bk=World.objAt W bk:=by
      cases bk with
      | nil=>rfl
      | blk b cap=>exact hoth b (fun e'=>by subst e'; exact hno (SL.2 ⟨e.t,List.mem_map.2 ⟨e,he,rfl⟩,cap,h1⟩))
    rw[this]; exact h2
end
def NY (P:Program) (f:FuncId) {α:Type} [Inhabited α] (e:i8 α):Prop :=
  ∀(J:JV) (W:World) (xs:List α) (ptr:Value),Im J W->r7 (eL e) xs ⟨J,y9⟩ ptr->∃val:Nat->Value,(∀i,i<xs.length->e.val J (val i) (b6 xs i)) /\
    ∀(l:Nat) (Iv Ix:Nat->World->Prop),(∀k W1,k<xs.length->Im J W1->Iv k W1->YieldAt Fence.wide 2 P l #[.int .i64 ((xs.length-1-k:Nat):Int),val (xs.length-1-k)] W1 fun e W' =>
        (e=.returned (.bool true)/\Iv (k+1) W'/\Im J W')\/(e=.returned (.bool false)/\Ix (k+1) W'))->Iv 0 W ->
      Calls P f #[.func (.yield l) #[] #[],ptr] W fun e W'=>(∃v,e=.returned v)/\(Iv xs.length W'\/∃k,k<xs.length/\Ix (k+1) W')
def aD (P:Program) (n l:Nat) (body:Code) (Q:n6->Exit->Act->World->Prop) (c:n6) (a:Act) (W:World):Prop :=
  ∃S M g,l8 c S M a g W/\AJ M/\∀(w2:World) (J2:JV) (b2:List Nat),Tr P ⟨w2,J2,b2,n,some l,false,[]⟩ S M body (Q ⟨w2,J2,b2,n,some l,false,[]⟩)
def aH (n:Nat) (bks:Nat->Bk) (keep:List Nat) (N:i1) (R:Prop) (NX:i1) (RX:Prop) (c:n6):Exit->Act->World->Prop
  | .normal,a,W=>R/\∃g,l8 c (L3 n bks keep) N a g W
  | .ret,a,W=>RX/\∃g,l8 c (L3 n bks keep) NX a g W
  | _,_,_=>False
section
variable {P:Program} {c:n6} {S:i4} {M N NX:i1} {n l:Nat} {body:Code} {Q:n6->Exit->Act->World->Prop} {bks:Nat->Bk} {keep:List Nat} {R RX:Prop}
theorem d9.asg [hM:AJ M] (h:∀(w2:World) (J2:JV) (b2:List Nat),Tr P ⟨w2,J2,b2,n,some l,false,[]⟩ S M body (Q ⟨w2,J2,b2,n,some l,false,[]⟩)):d9 c S M (Exit.then (aD P n l body Q c) (fun _ _ _=>False)) :=
  fun _ g _ hs=>⟨S,M,g,hs,hM,h⟩
theorem d9.rnd (hR:R) (h:d6 c S M (L3 n bks keep) N):d9 c S M (aH n bks keep N R NX RX c):=fun a g w hs=>⟨hR,h a g w hs⟩
theorem ai4 {n:Nat} {bks:Nat->Bk} {keep:List Nat} {a:Act} {g:Gh} (h:V2 (L3 n bks keep) a g):∀t∈keep,g.M t=some (bks t):=by
  intro t ht
  have hl:∀(ts:List Nat),t∈ts->look (L3 n bks ts) (n+t)=some (true,BW t (bks t)):=by
    intro ts
    induction ts with
    | nil=>intro h; cases h
    | cons u ts ih =>
      intro h
      simp only[L3,look]
      cases hb:Nat.beq (n+u) (n+t) with
      | true =>
        have:=Nat.eq_of_beq_eq_true hb
        have:u=t:=by omega
        subst this; rfl
      | false =>
        rcases List.mem_cons.1 h with rfl | h
        · rw[Nat.beq_refl] at hb; cases hb
        · exact ih h
  exact (h _ _ _ (hl keep ht)).1 rfl
end
section
variable {P:Program} {w0:World} {J0:JV} {bor om:List Nat} {n:Nat} {S S0:i4} {M:i1} {Q:Exit->Act->World->Prop}
theorem Tr.back {f:FuncId} [hf:f0 P f] {α:Type} [Inhabited α] {e:i8 α} {xs:List α} {s p1 p2:Nat} {assign body:Code} (hback:NY P f e) (S0:i4) (keep:List Nat) (N NX:Nat->i1) (R RX:Nat->Prop)
    (he:d6 ⟨w0,J0,bor,n,none,true,om⟩ S M S0 (N 0)) (hx:look S0 s=some (true,AU f [r7 (eL e) xs])) (hkeep:S0.all (fun e=>t8 e.dep keep)=true) (hkt:∀k,t8 keep (tags (N k))=true) (hkx:∀k,t8 keep (tags (NX k))=true)
    (hN:∀k,AJ (N k)) (hNX:∀k,AJ (NX k)) (hp:(Nat.blt p1 n&&Nat.blt p2 n&&!Nat.beq p1 p2)=true) (h0:R 0) {kE:Nat->d7} [hE:∀i,P8 e (b6 xs i) (kE i)] [hEd:∀i,o5 (kE i) []]
    (round:∀k,k<xs.length->R k->∀(l:Nat) (w1:World) (J1:JV) (b1:List Nat) (bks:Nat->Bk),
      Tr P ⟨w1,J1,b1,n,some l,false,[]⟩ (⟨p2,true,[],kE (xs.length-1-k)⟩::⟨p1,true,[],kI ((xs.length-1-k:Nat):Int)⟩::(S0++L3 n bks keep)) (N k) assign
        (Exit.then (aD P n l body (aH n bks keep (N (k+1)) (R (k+1)) (NX (k+1)) (RX (k+1))) ⟨w1,J1,b1,n,some l,false,[]⟩) (fun _ _ _=>False)))
    (done:R xs.length->d9 ⟨w0,J0,bor,n,none,true,om⟩ S0 (N xs.length) Q) (ret:∀k,k<xs.length->RX (k+1)->g6 ⟨w0,J0,bor,n,none,true,om⟩ S0 (NX (k+1)) Q) :
    Tr P ⟨w0,J0,bor,n,none,true,om⟩ S M (.rangeFunc (.tmp s) #[p1,p2] assign body) Q:=by
  intro a g00 w hs00
  obtain ⟨g,hs0⟩:=he a g00 w hs00
  simp only[Bool.and_eq_true,Bool.not_eq_true'] at hp
  obtain ⟨⟨hp1,hp2⟩,hp12⟩:=hp
  have hp1:p1<n:=by simpa [Nat.blt_eq] using hp1
  have hp2:p2<n:=by simpa [Nat.blt_eq] using hp2
  have hp12:p1≠p2:=Nat.ne_of_beq_eq_false hp12
  obtain ⟨cvs,hfv,hcl⟩:=(hs0.slots s _ _ hx).1 rfl
  obtain ⟨ptr,rfl,hptr⟩:∃ptr,cvs=[ptr]/\r7 (eL e) xs g ptr:=by
    match cvs,hcl with
    | [ptr],h=>exact ⟨ptr,rfl,h.1⟩
  have hn:=hs0.size
  simp only at hn
  have hkm:∀t∈keep,∃bk,g.M t=some bk:=fun t ht=>hs0.tagM (C3 (hkt 0) t ht)
  refine wpIn_rangeFunc fun fn _=>?_
  obtain ⟨rec,hrec⟩:∃rec:LoopState->Option Code->Loop,rec=fun st pe=>{ state:=st,pending:=pe,fn,tmps:=a.tmps,params:=#[p1,p2],assign,body,defers:=w.heap.size }:=⟨_,rfl⟩
  obtain ⟨D,hD⟩:∃D,D=w.heap.size:=⟨_,rfl⟩
  obtain ⟨W1,hW1⟩:∃W1,(w.alloc (.deferred (some []))).alloc (.loop (rec .ready none))=W1:=⟨_,rfl⟩
  have hL1:W1.heap[D+1]?=some (.loop (rec .ready none)):=by
    rw[<- hW1,hD]; have:=World.alloc_heap_new (w.alloc (.deferred (some []))) (.loop (rec .ready none)); rwa [World.size_alloc] at this
  have hD1:W1.heap[D]?=some (Obj.deferred (some [])):=by
    rw[<- hW1,hD]; exact (Below.heap_alloc _ _ _ (by simp)).trans (World.alloc_heap_new w _)
  have hbel:Below w.heap.size w W1:=by rw[<- hW1]; exact ((Below.refl _ w).alloc (Nat.le_refl _) _).alloc (by simp) _
  have hB:w0.heap.size<=D:=by rw[hD]; exact hs0.ok.bel.size
  have hs1:l8 ⟨w0,J0,bor,n,none,true,om⟩ S0 (N 0) a g W1:=by
    have hob:∀bk,(∀b cap,bk=Bk.blk b cap->b<w.heap.size)->World.objAt W1 bk=World.objAt w bk:=fun bk hb=>RQ hbel hb
    refine ⟨⟨hs0.ok.bel.then hbel,hs0.ok.jle,hs0.ok.jold,fun b o v hv=>?_,fun t b cap ht=>?_,hs0.ok.inj⟩,hs0.slots,fun x hx=>?_,hs0.dom,hs0.nodup,hs0.sdep,hs0.cdep,hs0.defers.below hbel,hs0.size⟩
    · have h1:=hs0.ok.im b o v hv
      rw[World.cell?_of_block (w:=w) (hbel.block b (World.block_lt_of_cell? _ _ h1))]; exact h1
    · obtain ⟨q1,q2,q3⟩:=hs0.ok.own t b cap ht
      exact ⟨q1,Nat.lt_of_lt_of_le q2 hbel.size,q3⟩
    · obtain ⟨bk,q1,q2⟩:=hs0.conts x hx
      exact ⟨bk,q1,by rw[hob bk (fun b cap e=>by subst e; exact (hs0.ok.own _ _ _ q1).2.1)]; exact q2⟩
  have him1:Im g.J W1:=hs1.ok.im
  obtain ⟨val,hval,hcall⟩:=hback g.J W1 xs ptr him1 (by obtain ⟨b,o,ds,q⟩:=hptr; exact ⟨b,o,ds,q⟩)
  let St (Nk:i1) (W:World):Prop:=∃g':Gh,g.J.le g'.J/\(∀t∈keep,g'.M t=g.M t)/\l8 ⟨w0,J0,bor,n,none,true,om⟩ S0 Nk a g' W
  have hfin:Calls P f #[.func (.yield (D+1)) #[] #[],ptr] W1 fun e W'=>(∃v,e=.returned v) /\
      (((R xs.length/\St (N xs.length) W')/\W'.heap[D+1]?=some (.loop (rec .ready none))/\W'.heap[D]?=some (Obj.deferred (some []))) \/
       ∃k,k<xs.length/\(RX (k+1)/\St (NX (k+1)) W')/\W'.heap[D+1]?=some (.loop (rec .done (some .ret)))/\W'.heap[D]?=some (Obj.deferred (some []))):=by
    refine hcall (D+1) (fun k W=>(R k/\St (N k) W)/\W.heap[D+1]?=some (.loop (rec .ready none))/\W.heap[D]?=some (Obj.deferred (some [])))
      (fun k W=>(RX k/\St (NX k) W)/\W.heap[D+1]?=some (.loop (rec .done (some .ret)))/\W.heap[D]?=some (Obj.deferred (some []))) ?_ ⟨⟨h0,g,JV.le_refl _,fun _ _=>rfl,hs1⟩,hL1,hD1⟩
    rintro k W hk _ ⟨⟨hR,g',hJ',hM',hsW⟩,hLW,hDW⟩
    have hy:=run_yield (P:=P) (args:=#[.int .i64 ((xs.length-1-k:Nat):Int),val (xs.length-1-k)]) hLW (by rw[hrec]; rfl)
    rw[hrec] at hy
    refine ⟨fn,_,assign,body,hy,roundIn_of_wpIn trivial ?_⟩
    obtain ⟨a1,ha1⟩:∃a1:Act,a1={ tmps:=(a.tmps.setIfInBounds p1 (.int .i64 ((xs.length-1-k:Nat):Int))).setIfInBounds p2 (val (xs.length-1-k)),defers:=[] }:=⟨_,rfl⟩
    have hfold:({ tmps:=((#[p1,p2]:Array Tmp).zip #[.int .i64 ((xs.length-1-k:Nat):Int),val (xs.length-1-k)]).foldl (fun t (p,v)=>t.setIfInBounds p v) a.tmps,defers:=[] }:Act)=a1:=by
      rw[ha1]; simp
    have hbks:∀t∈keep,g'.M t=some ((g.M t).getD .nil):=fun t ht=>by
      obtain ⟨bk,q⟩:=hkm t ht
      rw[hM' t ht,q]; rfl
    have hsr:l8 ⟨w0,J0,bor,n,some (D+1),false,[]⟩ (⟨p2,true,[],kE (xs.length-1-k)⟩::⟨p1,true,[],kI ((xs.length-1-k:Nat):Int)⟩::(S0++L3 n (fun t=>(g.M t).getD .nil) keep)) (N k) a1 g' W:=by
      have hv:=hval (xs.length-1-k) zo
      have hoth:∀t,t≠p1->t≠p2->a1.tmps.getD t undef=a.tmps.getD t undef:=fun t h1 h2=>by
        rw[ha1]; simp[Array.getElem?_setIfInBounds_ne (Ne.symm h1),Array.getElem?_setIfInBounds_ne (Ne.symm h2)]
      refine ⟨⟨hsW.ok.bel,hsW.ok.jle,hsW.ok.jold,hsW.ok.im,hsW.ok.own,hsW.ok.inj⟩,fun t b k0 hl=>?_,hsW.conts,hsW.dom,hsW.nodup,fun x hx=>?_,hsW.cdep,⟨by rw[ha1],fun _ h=>by cases h⟩,by rw[ha1]; simpa using hn⟩
      · simp only[look] at hl
        cases hb2:Nat.beq p2 t with
        | true =>
          rw[hb2] at hl
          simp only[cond_true,Option.some.injEq,Prod.mk.injEq] at hl
          obtain ⟨rfl,rfl⟩:=hl
          rw[<- Nat.eq_of_beq_eq_true hb2]
          refine ⟨fun _=>?_,fun h=>by cases h⟩
          rw[show a1.tmps.getD p2 undef=val (xs.length-1-k) by rw[ha1]; simp[hn,hp2]]
          exact (hE _).imp (hv.mono hJ')
        | false =>
          rw[hb2] at hl
          simp only[cond_false] at hl
          cases hb1:Nat.beq p1 t with
          | true =>
            rw[hb1] at hl
            simp only[cond_true,Option.some.injEq,Prod.mk.injEq] at hl
            obtain ⟨rfl,rfl⟩:=hl
            rw[<- Nat.eq_of_beq_eq_true hb1]
            refine ⟨fun _=>?_,fun h=>by cases h⟩
            show a1.tmps.getD p1 undef=_
            rw[ha1]
            simp only[Array.getD_eq_getD_getElem?]
            rw[Array.getElem?_setIfInBounds_ne (Ne.symm hp12),Array.getElem?_setIfInBounds_self_of_lt zo]
            rfl
          | false =>
            rw[hb1] at hl
            simp only[cond_false] at hl
            rcases XB hl with hl | hl
            · rw[hoth t (fun e=>Nat.ne_of_beq_eq_false hb1 e.symm) (fun e=>Nat.ne_of_beq_eq_false hb2 e.symm)]
              exact hsW.slots t b k0 hl
            · obtain ⟨rfl,_,h3,rfl⟩:=TG hl
              exact ⟨fun _=>hbks _ h3,fun hf=>(by cases hf)⟩
      · rcases List.mem_cons.1 hx with rfl | hx
        · exact ⟨hEd _,fun _ h=>by cases h⟩
        rcases List.mem_cons.1 hx with rfl | hx
        · exact ⟨inferInstance,fun _ h=>by cases h⟩
        rcases List.mem_append.1 hx with hx | hx
        · exact hsW.sdep x hx
        · obtain ⟨t,h1,h2,h3⟩:=TH hx
          rw[h2,h3]
          exact ⟨inferInstance,fun q hq=>by simp at hq; subst hq; exact C3 (hkt k) _ h1⟩
    have hNk:=hN k
    have nW:∀{q:Nat} {o:Obj},W.heap[q]?=some o->o.isCells=false->q∉CG g' (N k):=fun h1 h2=>hsW.notOwn hNk h1 h2
    have hr1:=hsr.rebase (some (D+1)) false [] ⟨by rw[ha1],fun _ h=>by cases h⟩
    refine wpIn_mono (by
      have:=round k hk hR (D+1) W g'.J (CG g' (N k)) (fun t=>(g.M t).getD .nil) a1 g' W hr1
      rw[<- hfold] at this
      exact this) ?_
    rintro e2 a2 W2 hq
    cases e2 with
    | normal =>
      obtain ⟨S1,M1,g1,hs2,hM1,hbody⟩:=hq
      have keep2:∀{q:Nat} {o:Obj},W.heap[q]?=some o->o.isCells=false->W2.heap[q]?=some o:=fun h1 h2 =>
        (hs2.ok.bel.block _ (Array.getElem?_eq_some_iff.1 h1).1 (nW h1 h2)).trans h1
      have hL2:=keep2 hLW rfl
      have hD2:=keep2 hDW rfl
      have hs2':l8 ⟨w0,J0,bor,n,some (D+1),false,[]⟩ S1 M1 a2 g1 W2:=hsr.unbase hs2 rfl rfl rfl rfl ⟨hs2.defers.1,fun _ h=>by cases h⟩
      obtain ⟨busy,hbusy⟩:∃busy:Obj,busy=.loop { rec .ready none with state:=.busy }:=⟨_,rfl⟩
      refine ⟨W2.putObj (D+1) busy,by rw[hbusy]; exact run_beginRound hL2 (by rw[hrec]),?_⟩
      have hs3:=hs2'.turn (o':=busy) hM1 hL2 rfl (Nat.le_trans hB (Nat.le_succ _)) ⟨hs2.defers.1,fun _ h=>by cases h⟩
      have hL3:(W2.putObj (D+1) busy).heap[D+1]?=some busy:=World.putObj_heap_same (Array.getElem?_eq_some_iff.1 hL2).1
      have hoth3:∀q,q≠D+1->(W2.putObj (D+1) busy).heap[q]?=W2.heap[q]?:=fun q hq=>World.putObj_heap_other hq
      have hD3:(W2.putObj (D+1) busy).heap[D]?=some (Obj.deferred (some [])):=(hoth3 D zo).trans hD2
      generalize hW3:W2.putObj (D+1) busy=W3 at hs3 hL3 hoth3 hD3 ⊢
      have nW3:∀{q:Nat} {o:Obj},W3.heap[q]?=some o->o.isCells=false->q∉CG g1 M1:=fun h1 h2=>hs3.notOwn hM1 h1 h2
      have hr3:=hs3.rebase (some (D+1)) false [] ⟨hs2.defers.1,fun _ h=>by cases h⟩
      refine wpIn_mono (hbody W3 g1.J (CG g1 M1) a2 g1 W3 hr3) ?_
      have fin:∀(jump:Option Code) (N':i1) (a4:Act) (g4:Gh) (W4:World),AJ N'->t8 keep (tags N')=true->l8 ⟨W3,g1.J,CG g1 M1,n,some (D+1),false,[]⟩ (L3 n (fun t=>(g.M t).getD .nil) keep) N' a4 g4 W4 ->
          ∃W5,(Instr.endRound (D+1) jump).run P W4=.ok (.bool jump.isNone) W5/\St N' W5/\Im g.J W5/\W5.heap[D+1]?=some (.loop (rec (if jump.isNone then .ready else .done) jump))/\W5.heap[D]?=some (Obj.deferred (some [])):=by
        intro jump N' a4 g4 W4 hN' hkN hs4
        have keep4:∀{q:Nat} {o:Obj},W3.heap[q]?=some o->o.isCells=false->W4.heap[q]?=some o:=fun h1 h2 =>
          (hs4.ok.bel.block _ (Array.getElem?_eq_some_iff.1 h1).1 (nW3 h1 h2)).trans h1
        have hL4:=keep4 hL3 (by rw[hbusy]; rfl)
        have hD4:=keep4 hD3 rfl
        have hs4':l8 ⟨w0,J0,bor,n,some (D+1),false,[]⟩ (L3 n (fun t=>(g.M t).getD .nil) keep) N' a4 g4 W4:=hs3.unbase hs4 rfl rfl rfl rfl ⟨hs4.defers.1,fun _ h=>by cases h⟩
        have hJ4:g'.J.le g4.J:=JV.le_trans hs2.ok.jle hs4.ok.jle
        have hM4:∀t∈keep,g4.M t=g.M t:=fun t ht=>by
          obtain ⟨bk,q⟩:=hkm t ht
          rw[ai4 hs4.slots t ht,q]; rfl
        have hmk:∀(o':Obj),P7 true w0.heap.size om a.defers (W4.putObj (D+1) o'):=fun o'=>by
          refine hsW.defers.on fun q hq=>?_
          have hne:q≠D+1:=fun e=>by subst e; rw[hLW] at hq; cases hq
          rw[World.putObj_heap_other hne]
          have h3:W3.heap[q]?=some (Obj.deferred (some [])):=(hoth3 q hne).trans (keep2 hq rfl)
          exact (keep4 h3 rfl).trans hq.symm
        have hmk4:P7 true w0.heap.size om a.defers W4:=by
          refine hsW.defers.on fun q hq=>?_
          have hne:q≠D+1:=fun e=>by subst e; rw[hLW] at hq; cases hq
          have h3:W3.heap[q]?=some (Obj.deferred (some [])):=(hoth3 q hne).trans (keep2 hq rfl)
          exact (keep4 h3 rfl).trans hq.symm
        have hsO:l8 ⟨w0,J0,bor,n,none,true,om⟩ S0 N' a g4 W4:=by
          refine ⟨⟨hs4'.ok.bel,hs4'.ok.jle,hs4'.ok.jold,hs4'.ok.im,hs4'.ok.own,hs4'.ok.inj⟩,fun t b k0 hl=>?_,hs4'.conts,hs4'.dom,hs4'.nodup,fun x hx=>⟨(hsW.sdep x hx).1,fun t ht=>C3 hkN t (C3 (List.all_eq_true.1 hkeep x hx) t ht)⟩,hs4'.cdep,hmk4,hn⟩
          obtain ⟨x,hx,_,_,rfl⟩:=ED hl
          obtain ⟨q1,q2⟩:=hsW.slots t b _ hl
          exact ⟨fun hb=>(hsW.sdep x hx).1.dep (g:=g') hJ4 (fun u hu=>by rw[hM4 u (C3 (List.all_eq_true.1 hkeep x hx) u hu),hM' u (C3 (List.all_eq_true.1 hkeep x hx) u hu)]) (q1 hb),q2⟩
        rw[hbusy] at hL4
        have hsT:=hsO.turn (o':=.loop (rec (if jump.isNone then .ready else .done) jump)) hN' hL4 rfl (Nat.le_trans hB (Nat.le_succ _)) (hmk _)
        have hrun:=run_endRound (P:=P) jump hL4
        refine ⟨_,?_,⟨g4,JV.le_trans hJ' hJ4,hM4,hsT⟩,fun b o v hv=>hsT.ok.im b o v (JV.le_trans hJ' hJ4 b o v hv),World.putObj_heap_same (Array.getElem?_eq_some_iff.1 hL4).1,(World.putObj_heap_other zo).trans hD4⟩
        rw[hrun,hrec]
      rintro e4 a4 W4 hp
      cases e4 with
      | normal =>
        obtain ⟨hR',g4,hs4⟩:=hp
        obtain ⟨W5,q1,q2,q3,q4,q5⟩:=fin none _ a4 g4 W4 (hN _) (hkt _) hs4
        exact ⟨_,W5,q1,.inl ⟨rfl,⟨⟨hR',q2⟩,q4,q5⟩,q3⟩⟩
      | ret =>
        obtain ⟨hR',g4,hs4⟩:=hp
        obtain ⟨W5,q1,q2,_,q4,q5⟩:=fin (some .ret) _ a4 g4 W4 (hNX _) (hkx _) hs4
        exact ⟨_,W5,q1,.inr ⟨rfl,⟨hR',q2⟩,q4,q5⟩⟩
      | exit id=>exact hp.elim
      | goto t=>exact hp.elim
      | panic ch=>exact hp.elim
      | outgrown=>exact hp.elim
    | exit id=>exact hq.elim
    | goto t=>exact hq.elim
    | ret=>exact hq.elim
    | panic ch=>exact hq.elim
    | outgrown=>exact hq.elim
  have hout:∀(Nk:i1) (W:World) (o:Loop) (o':Obj),AJ Nk->St Nk W->W.heap[D+1]?=some (.loop o)->W.heap[D]?=some (Obj.deferred (some [])) ->
      ∃g',l8 ⟨w0,J0,bor,n,none,true,om⟩ S0 Nk { a with defers:=[{ target:=.collected D,args:=#[] }]++a.defers } g' (W.putObj (D+1) o'):=by
    rintro Nk W o o' hc ⟨g',_,_,hsW⟩ hl hd
    have hk:∀q,W.heap[q]?=some (Obj.deferred (some []))->(W.putObj (D+1) o').heap[q]?=W.heap[q]?:=fun q hq=>World.putObj_heap_other (fun e=>by subst e; rw[hl] at hq; cases hq)
    have hm:=hsW.defers.on hk
    have hs:=hsW.turn (o':=o') hc hl rfl (Nat.le_trans hB (Nat.le_succ _)) hm
    refine ⟨g',hs.ok,hs.slots,hs.conts,hs.dom,hs.nodup,hs.sdep,hs.cdep,⟨⟨List.nodup_cons.2 ⟨fun hmem=>?_,hm.1.1⟩,fun d hd'=>?_⟩,hm.2⟩,hs.size⟩
    · obtain ⟨D',q1,_,q3⟩:=hs0.defers.1.2 _ hmem
      simp only[Deferred.mk.injEq,Target.collected.injEq,and_true] at q1
      rw[<- q1,hD] at q3
      have:=(Array.getElem?_eq_some_iff.1 q3).1
      omega
    · rcases List.mem_cons.1 hd' with rfl | hd'
      · exact ⟨D,rfl,hB,(hk D hd).trans hd⟩
      · exact hm.1.2 d hd'
  refine ⟨D+1,[{ target:=.collected D,args:=#[] }],W1,{ target:=.fn (.func f) #[ptr],args:=#[.func (.yield (D+1)) #[] #[]] },W1,f,#[.func (.yield (D+1)) #[] #[],ptr],W1,?_,?_,fun _ _=>trivial,?_,fun _=>by omega,?_⟩
  · rw[<- hW1,hrec,hD]; exact run_enterLoop_outer _ _ _ _ _
  · have hev:a.eval (.tmp s)=.func (.func f) #[] #[ptr]:=hfv
    simp only[resolve,hev]
    simp[go_sem]
  · simp only[invoke]
    exact hf.run _ _
  · refine callsIn_wide.2 (hfin.mono ?_)
    rintro e W2 ⟨⟨v,rfl⟩,h⟩
    rcases h with ⟨⟨hR,hst⟩,hl,hd⟩ | ⟨k,hk,⟨hR,hst⟩,hl,hd⟩
    · obtain ⟨g',hs⟩:=hout _ W2 _ (.loop { rec .ready none with state:=.exhausted }) (hN _) hst hl hd
      exact ⟨none,_,by have:=run_endLoop (P:=P) hl (by rw[hrec]; simp); rw[hrec] at this ⊢; exact this,done hR _ g' _ hs⟩
    · obtain ⟨g',hs⟩:=hout _ W2 _ (.loop { rec .done (some .ret) with state:=.exhausted }) (hNX _) hst hl hd
      exact ⟨some .ret,_,by have:=run_endLoop (P:=P) hl (by rw[hrec]; simp); rw[hrec] at this ⊢; exact this,wpIn_ret (ret k hk hR _ g' _ hs)⟩
end
end Go.Fl

/- Functions that hold a loop over a function: their contracts. No program in sight. -/
namespace Go.Fl
open Go Go.RowKit
abbrev TT (P:Program) (fn:Func) (R:Ending->World->Prop):Exit->Act->World->Prop:=bodyPostM Fence.wide 2 P fn R
theorem CtM.mk {P:Program} {f:FuncId} {fn:Func} {code:Code} {args:List d7} {res:d7} {n:Nat} (hf:P.funcs[f]?=some fn) (hb:fn.body=some code) (hn:fn.ntmps=n) (hl:Nat.ble args.length n=true) [hj:AI args]
  (h:∀w J,Tr P ⟨w,J,[],n,none,true,[]⟩ (params 0 args) [] code (TT P fn (DP w J res))):Ct P f args res:=by
 intro w J him vs hvs
 have hlen:=L6 hvs
 have hle:args.length<=n:=Nat.le_of_ble_eq_true hl
 refine callsIn_wide.1 (callsIn_of_wp_marks (n:=2) hf hb trivial (h w J _ ⟨J,y9⟩ w ⟨⟨⟨rfl,rfl,rfl,Nat.le_refl _,fun _ _ _=>rfl,Nat.le_refl _⟩,JV.le_refl _,fun _ _ _=>rfl,him,fun _ _ _ h=>(by cases h),fun _ _ _ _ _ h=>(by cases h)⟩,?_,fun _ h=>(by cases h),fun _ h=>absurd rfl h,List.nodup_nil,?_,fun _ h=>(by cases h),⟨⟨List.nodup_nil,fun _ h=>(by cases h)⟩,fun _ h=>(by cases h)⟩,?_⟩))
 ·intro t b k hk
  obtain ⟨_,rfl,v,hv,hkv⟩:=KK hvs hk
  refine ⟨fun _=>?_,fun hf=>(by cases hf)⟩
  have ht:t<vs.length:=(List.getElem?_eq_some_iff.1 (by simpa using hv)).1
  have:(vs.toArray++Array.replicate (fn.ntmps-vs.toArray.size) undef).getD t undef=v:=by
   rw[Array.getD_eq_getD_getElem?,Array.getElem?_append_left (by simpa using ht)]
   simp only[List.getElem?_toArray]
   rw[show vs[t]?=some v by simpa using hv]
   rfl
  rw[this]; exact hkv
 ·intro e he
  obtain ⟨h1,h2⟩:=KJ hj.all he
  exact ⟨h1,fun t ht=>by rw[h2] at ht; cases ht⟩
 ·simp only[Array.size_append,List.size_toArray,Array.size_replicate]; omega
theorem g6.mk {P:Program} {w0:World} {J0:JV} {bor:List Nat} {n:Nat} {S:i4} {M:i1} {fn:Func} {R:Ending->World->Prop} [hM:AJ M] (h:g6 ⟨w0,J0,bor,n,none,false,[]⟩ S M (bodyPost P fn R)):g6 ⟨w0,J0,bor,n,none,true,[]⟩ S M (TT P fn R):=by
 have key:∀(ds:List Deferred) (a:Act) (g:Gh) (w:World),a.defers=ds->l8 ⟨w0,J0,bor,n,none,true,[]⟩ S M a g w->LeavesInM Fence.wide 2 P fn a.tmps R ds .returning w:=by
  intro ds
  induction ds with
  | nil =>
   intro a g w hd hs
   have h1:=h a g w ⟨⟨hs.ok.bel,hs.ok.jle,hs.ok.jold,hs.ok.im,hs.ok.own,hs.ok.inj⟩,hs.slots,hs.conts,hs.dom,hs.nodup,hs.sdep,hs.cdep,⟨hd,hs.defers.2⟩,hs.size⟩
   exact h1.2
  | cons d ds ih =>
   intro a g w hd hs
   have hdf:=hs.defers
   rw[hd] at hdf
   obtain ⟨D,h1,h2,h3⟩:=hdf.1.2 d List.mem_cons_self
   have hnd:=List.nodup_cons.1 hdf.1.1
   refine ⟨by simp,.inl ⟨D,w.putObj D (.deferred none),by rw[h1],run_takeDeferred h3,?_⟩⟩
   have hoth:∀q,q≠D->(w.putObj D (.deferred none)).heap[q]?=w.heap[q]?:=fun q hq=>World.putObj_heap_other hq
   have hs':l8 ⟨w0,J0,bor,n,none,false,[]⟩ S M { a with defers:=[] } g w:=⟨⟨hs.ok.bel,hs.ok.jle,hs.ok.jold,hs.ok.im,hs.ok.own,hs.ok.inj⟩,hs.slots,hs.conts,hs.dom,hs.nodup,hs.sdep,hs.cdep,⟨rfl,fun _ h=>by cases h⟩,hs.size⟩
   have ht:=hs'.turn (o':=.deferred none) hM h3 rfl h2 ⟨rfl,fun _ h=>by cases h⟩
   refine ih { a with defers:=ds } g _ rfl ⟨⟨ht.ok.bel,ht.ok.jle,ht.ok.jold,ht.ok.im,ht.ok.own,ht.ok.inj⟩,ht.slots,ht.conts,ht.dom,ht.nodup,ht.sdep,ht.cdep,⟨⟨hnd.2,fun d' hd'=>?_⟩,fun _ h=>by cases h⟩,ht.size⟩
   ·obtain ⟨D',q1,q2,q3⟩:=hdf.1.2 d' (List.mem_cons_of_mem _ hd')
    exact ⟨D',q1,q2,(hoth D' (fun e=>by subst e; exact hnd.1 (by rw[h1,<- q1]; exact hd'))).trans q3⟩
 exact fun a g w hs=>key a.defers a g w rfl hs
end Go.Fl

/- Arrays that are immutable, as lists of one length: elements at any place, slices. No program in sight. -/
namespace Go.Fl
open Go Go.RowKit
def BB {α:Type} (e:i8 α) (J:JV):List Value->List α->Prop
 | cs,[]=>cs=[]
 | cs,x::xs=>∃c1 c2,cs=c1++c2/\e.rd J c1 x/\BB e J c2 xs
theorem SS {α:Type} {e:i8 α} {J:JV}:∀{xs:List α} {cs:List Value},BB e J cs xs->cs.length=xs.length*e.n
 | [],_,h=>by have h:_=[]:=h; subst h; simp
 | _::xs,_,⟨c1,c2,h,h1,h2⟩=>by subst h; rw[List.length_append,e.len h1,SS h2,List.length_cons,Nat.succ_mul]; omega
theorem jZ {α:Type} {e:i8 α} {J J':JV} (hl:J.le J'):∀{xs:List α} {cs:List Value},BB e J cs xs->BB e J' cs xs
 | [],_,h=>h
 | _::_,_,⟨c1,c2,h,h1,h2⟩=>⟨c1,c2,h,e.mono hl h1,jZ hl h2⟩
theorem YT {α:Type} {e:i8 α} {J:JV}:∀{xs:List α} {cs:List Value},BB e J cs xs->∀v∈cs,v.oneCell'=true
 | [],_,h,v,hv=>by have h:_=[]:=h; subst h; cases hv
 | _::_,_,⟨c1,c2,h,h1,h2⟩,v,hv=>by
  subst h
  rcases List.mem_append.1 hv with hv | hv
  ·exact e.all1 h1 v hv
  ·exact YT h2 v hv
theorem NH {α:Type} {e:i8 α} {J:JV}:∀{xs:List α} {cs:List Value},BB e J cs xs->∀{i:Nat} {x:α},xs[i]?=some x->∃ds,e.rd J ds x/\∀j v,ds[j]?=some v->cs[i*e.n+j]?=some v
 | [],_,_,_,_,hx=>by simp at hx
 | y::xs,_,⟨c1,c2,h,h1,h2⟩,0,x,hx=>by
  subst h
  simp only[List.getElem?_cons_zero,Option.some.injEq] at hx
  subst hx
  exact ⟨c1,h1,fun j v hj=>by rw[Nat.zero_mul,Nat.zero_add,List.getElem?_append_left (List.getElem?_eq_some_iff.1 hj).1]; exact hj⟩
 | y::xs,_,⟨c1,c2,h,h1,h2⟩,i+1,x,hx=>by
  subst h
  obtain ⟨ds,q1,q2⟩:=NH h2 (i:=i) (by simpa using hx)
  refine ⟨ds,q1,fun j v hj=>?_⟩
  rw[Nat.succ_mul,List.getElem?_append_right (by rw[e.len h1]; omega),e.len h1,show i*e.n+e.n+j-e.n=i*e.n+j by omega]
  exact q2 j v hj
def Q4 {α:Type} (k:Nat) (e:i8 α):i8 (List α) where
 n:=k*e.n
 agg:=true
 rd J cs xs:=xs.length=k/\BB e J cs xs
 len h:=by rw[SS h.2,h.1]
 one h:=by cases h
 all1 h:=YT h.2
 mono hl h:=⟨h.1,jZ hl h.2⟩
section
variable {P:Program} {c:n6} {S:i4} {M:i1} {p:Bool} {d:Option Tmp} {ty:TypeId} {pos:String} {af:Array Edge} {gd:Option (Nat×Bool)} {x y:Operand} {b b':Bool}
theorem FW {t et:TypeId} {n:Nat} [ht:AO P t n et] {sz by':Nat} {zz:Value} [hz:p6 P et sz by' zz] {α:Type} [Inhabited α] {e:i8 α} {xs:List α} {ik:IntKind} {i:Int} (hx:j2 S x=some (b,r7 (Q4 n e) xs)) (hb:p=true->b=true) (hy:j2 S y=some (b',z9 ik i)) (hb':p=true->b'=true)
  (hs:sz=e.n) (h:p=true->0<=i/\i<n):l4 P c S M ⟨d,.indexAddr t x y,ty,pos,af,gd⟩ p (r7 e (b6 xs i.toNat)) none :=
 l4.pure fun hp a g w _ _ ho=>by
  obtain ⟨bl,o,ds,h1,⟨h2,h3⟩,h4⟩:=ho x (by simp[Op.operands]) b _ hx (hb hp)
  have hi:a.eval y=_:=ho y (by simp[Op.operands]) b' _ hy (hb' hp)
  have hlt:=h hp
  obtain ⟨ti,hti,rfl,_,_⟩:=hz.h
  obtain ⟨es,q1,q2⟩:=NH h3 (H1 (xs:=xs) (i:=i.toNat) zo)
  refine ⟨.pointer (some ⟨bl,o+i.toNat*ti.size,none⟩),?_,bl,o+i.toNat*ti.size,es,rfl,q1,fun j v hj=>?_⟩
  ·simp[execOp,h1,hi,Instr.indexAt,run_underlying ht.h,asIntOf,hlt,sizeOf,typeInfo,hti,Instr.sureAddr,Addr.add_lit]
  ·rw[hs,Nat.add_assoc]; exact h4 _ _ (q2 j v hj)
theorem lJ {t et:TypeId} {n:Nat} [ht:AO P t n et] {sz by':Nat} {zz:Value} [hz:p6 P et sz by' zz] {α:Type} {e:i8 α} {xs:List α} {g:Gh} {v:Value} {w:World} (hv:r7 (Q4 n e) xs g v) (hs:sz=e.n) (hlm:n<=p9) {lo hi:Option Value} {l h:Nat} (hlh:l<=h) (hn:h<=n)
  (hlo:(lo=none/\l=0)\/∃ik,lo=some (.int ik (l:Int))) (hhi:(hi=none/\h=n)\/∃ik,hi=some (.int ik (h:Int))):∃u,(Instr.sliceAt t v lo hi none).run P w=.ok u w/\b8 (eL e) ((xs.take h).drop l) g u:=by
 obtain ⟨bl,o,ds,rfl,⟨h2,h3⟩,h4⟩:=hv
 obtain ⟨ti,hti,rfl,_,_⟩:=hz.h
 have hlen:((xs.take h).drop l).length=h-l:=by rw[List.length_drop,List.length_take]; omega
 have hb:(Instr.sliceBounds false n n lo hi none).run P w=.ok (l,h,n) w:=by
  rcases hlo with ⟨rfl,rfl⟩ | ⟨ik,rfl⟩<;>rcases hhi with ⟨rfl,rfl⟩ | ⟨ik',rfl⟩
  ·simp[Instr.sliceBounds]
  ·simp[Instr.sliceBounds,Instr.sliceBound,asIntOf]; omega
  ·simp[Instr.sliceBounds,Instr.sliceBound,asIntOf]; omega
  ·simp[Instr.sliceBounds,Instr.sliceBound,asIntOf]
   rw[if_pos zo]
   simp
   omega
 refine ⟨.slice (some (if n=l then ⟨bl,o,none⟩ else (⟨bl,o,none⟩:Addr).add (l*ti.size))) (h-l) (n-l),?_,?_⟩
 ·unfold Instr.sliceAt
  simp only[Sem.run_bind,run_underlying ht.h,Result.andThen_ok,Instr.sureAddr,Sem.run_pure,hb]
  simp[sizeOf,typeInfo,hti]
 ·refine ⟨[.slice (some (if n=l then ⟨bl,o,none⟩ else (⟨bl,o,none⟩:Addr).add (l*ti.size))) (h-l) (n-l)],⟨_,_,by rw[hlen],⟨by rw[hlen]; omega,by rw[hlen]; omega⟩,?_⟩,rfl⟩
  by_cases hnl:n=l
  ·left
   exact List.eq_nil_of_length_eq_zero (by rw[hlen]; omega)
  ·right
   refine ⟨bl,o+l*ti.size,by rw[if_neg hnl]; simp[Addr.add_lit],fun i x hx=>?_⟩
   rw[List.getElem?_drop,List.getElem?_take] at hx
   split at hx
   ·obtain ⟨es,q1,q2⟩:=NH h3 hx
    refine ⟨es,q1,fun j v hj=>?_⟩
    have:=h4 _ _ (q2 j v hj)
    rwa [hs,show o+l*e.n+i*e.n+j=o+((l+i)*e.n+j) by rw[Nat.add_mul]; omega]
   ·cases hx
theorem jB {t et:TypeId} {n:Nat} [ht:AO P t n et] {sz by':Nat} {zz:Value} [hz:p6 P et sz by' zz] {α:Type} {e:i8 α} {xs:List α} {ik:IntKind} {i0:Int} (hx:j2 S x=some (b,r7 (Q4 n e) xs)) (hb:p=true->b=true) (hy:j2 S y=some (b',z9 ik i0)) (hb':p=true->b'=true)
  (hs:sz=e.n) (hlm:Nat.ble n p9=true) (h:p=true->0<=i0/\i0<=n):l4 P c S M ⟨d,.slice t x none (some y) none,ty,pos,af,gd⟩ p (b8 (eL e) (xs.take i0.toNat)) none :=
 l4.pure fun hp a g w _ _ ho=>by
  have hv:=ho x (by simp[Op.operands]) b _ hx (hb hp)
  have hi:a.eval y=_:=ho y (by simp[Op.operands]) b' _ hy (hb' hp)
  have hlt:=h hp
  obtain ⟨u,h1,h2⟩:=lJ (P:=P) (t:=t) (w:=w) hv hs (Nat.le_of_ble_eq_true hlm) (lo:=none) (hi:=some (.int ik i0)) (l:=0) (h:=i0.toNat) (Nat.zero_le _) zo (.inl ⟨rfl,rfl⟩) (.inr ⟨ik,by rw[show ((i0.toNat:Nat):Int)=i0 by omega]⟩)
  exact ⟨u,by simp only[execOp,hi,Option.map,Sem.run_bind,h1,Result.andThen_ok,Sem.run_pure],by simpa using h2⟩
theorem yZ {t et:TypeId} {n:Nat} [ht:AO P t n et] {sz by':Nat} {zz:Value} [hz:p6 P et sz by' zz] {α:Type} {e:i8 α} {xs:List α} {ik:IntKind} {i0:Int} (hx:j2 S x=some (b,r7 (Q4 n e) xs)) (hb:p=true->b=true) (hy:j2 S y=some (b',z9 ik i0)) (hb':p=true->b'=true)
  (hs:sz=e.n) (hlm:Nat.ble n p9=true) (h:p=true->0<=i0/\i0<=n):l4 P c S M ⟨d,.slice t x (some y) none none,ty,pos,af,gd⟩ p (b8 (eL e) ((xs.take n).drop i0.toNat)) none :=
 l4.pure fun hp a g w _ _ ho=>by
  have hv:=ho x (by simp[Op.operands]) b _ hx (hb hp)
  have hi:a.eval y=_:=ho y (by simp[Op.operands]) b' _ hy (hb' hp)
  have hlt:=h hp
  obtain ⟨u,h1,h2⟩:=lJ (P:=P) (t:=t) (w:=w) hv hs (Nat.le_of_ble_eq_true hlm) (lo:=some (.int ik i0)) (hi:=none) (l:=i0.toNat) (h:=n) zo (Nat.le_refl _) (.inr ⟨ik,by rw[show ((i0.toNat:Nat):Int)=i0 by omega]⟩) (.inl ⟨rfl,rfl⟩)
  exact ⟨u,by simp only[execOp,hi,Option.map,Sem.run_bind,h1,Result.andThen_ok,Sem.run_pure],h2⟩
end
end Go.Fl

/- Pointers against nil. No program in sight. -/
namespace Go.Fl
open Go Go.RowKit
section
variable {P:Program} {c:n6} {S:i4} {M:i1} {p:Bool} {d:Option Tmp} {ty:TypeId} {pos:String} {af:Array Edge} {gd:Option (Nat×Bool)} {x y:Operand} {b b':Bool}
class aJ (P:Program) (t:TypeId):Prop where
 h:∃e,P.underlying t=some (.pointer e)
theorem FU {t t':TypeId} [ht:aJ P t] {α:Type} {e:i8 α} {v:α} (hx:j2 S x=some (b,r7 e v)) (hb:p=true->b=true):l4 P c S M ⟨d,.binOp .eql t x (.const (.pointer none)) t',ty,pos,af,gd⟩ p (kB false) none :=
 l4.pure fun hp a g w _ _ ho=>by
  obtain ⟨bl,o,ds,h1,_⟩:=ho x (by simp[Op.operands]) b _ hx (hb hp)
  have he:a.eval (.const (.pointer none))=.pointer none:=rfl
  obtain ⟨ee,hh⟩:=ht.h
  refine ⟨.bool false,?_,rfl⟩
  simp only[execOp,h1,he]
  simp[go_sem,hh]
end
end Go.Fl

/- A struct of the call's own is lent by a pointer: to a call that returns what hangs on no memory, and to one that leaves it as it was. No program in sight. -/
namespace Go.Fl
open Go Go.RowKit
section
variable {P:Program} {c:n6} {S:i4} {M:i1} {p:Bool} {d:Option Tmp} {ty:TypeId} {pos:String} {af:Array Edge} {gd:Option (Nat×Bool)} {x:Operand} {b:Bool}
instance {ik:IntKind} {n:Int}:TV (z9 ik n):=⟨fun h=>h⟩
theorem yW {f:FuncId} [hf:f0 P f] {args:List Operand} {tys:Array TypeId} {ks:List d7} {res:d7} {u:Nat} {α:Type} {e:i8 α} {x0 x1:α} {kc:List d7} {dep dep2:List Nat} [hl:q7 M u (j5 kc) dep] [hr:t6 kc e x0 []] [hd:B9 kc dep2] [hdn:J8 dep2]
  (hct:p=true->Ct P f (r7 e x1::ks) res) (he:x0=x1) (hx:j2 S x=some (b,y5 u 0)) (hb:p=true->b=true) (ha:G4 S p args ks) [hj:AI ks] [hk:o5 res []] [hfr:TV res] :
  l4 P c S M ⟨d,.call { callee:=.value (.func f),args:=(x::args).toArray,argTypes:=tys },ty,pos,af,gd⟩ p res none:=by
 subst he
 intro hp a g w hok hc ho _
 have hargs:=ha.eval (g:=g) (ρ:=a.eval) hp (fun y hy b k hk hb=>ho y (by simp[Op.operands,Call.operands,hy]) b k hk hb)
 obtain ⟨bl,cap,hm,hxv⟩:=ho x (by simp[Op.operands,Call.operands]) b _ hx (hb hp)
 obtain ⟨bk,hm2,cs,tt,h3,h4⟩:=hc _ hl.mem
 simp only at hm2 h3
 rw[hm] at hm2; cases hm2
 have h3:w.heap[bl]?=some (.cells cs tt (0,0)):=h3
 have hnone:=(hok.own u bl cap hm).2.2
 have hJ:g.J.le (g.J.with bl cs):=JV.le_with hnone
 have him:Im (g.J.with bl cs) w:=fun b o v hv=>by
  unfold JV.with at hv
  by_cases e:b=bl
  ·rw[if_pos e] at hv; subst e; exact M7 h3 hv
  ·rw[if_neg e] at hv; exact hok.im b o v hv
 have hrd:r7 e x0 ⟨g.J.with bl cs,y9⟩ (a.eval x):=by
  have hk':=hd.dep (g:=g) (g':=⟨g.J.with bl cs,y9⟩) hJ (fun t ht=>by rw[hdn.eq] at ht; cases ht) h4
  refine ⟨bl,0,cs.toList,hxv,t6.whole (h:=hr) hk',fun j v hj=>?_⟩
  show (g.J.with bl cs) bl (0+j)=some v
  unfold JV.with
  rw[if_pos rfl,Nat.zero_add]
  simpa using hj
 have hr2:=hct hp w (g.J.with bl cs) him (a.eval x::args.map a.eval) ⟨hrd,OO hJ hj.all hargs⟩
 unfold Oper.wp
 simp only[execOp,resolve,Act.eval,Deferred.ofValue,Sem.run_bind,Sem.run_pure,Result.andThen_ok,invoke,List.map_toArray,List.map_cons,Array.append_empty,Array.empty_append]
 rw[hf.run]
 simp only[Oper.upon]
 refine hr2.mono fun e' w' he=>?_
 obtain ⟨r,J2,rfl,hbel,hJ2,hold,him2,hres⟩:=he
 have q1:g.J.le (fun b o=>if b=bl then none else J2 b o):=fun b o v hv=>by
  have hne:b≠bl:=fun e=>by subst e; rw[hnone o] at hv; cases hv
  simp only[if_neg hne]
  exact hJ2 _ _ _ (hJ _ _ _ hv)
 refine ⟨r,_,rfl,H2.call hok hbel q1 (fun b o hlt=>?_) (fun b o v hv=>?_) (hfr.go (g':=⟨_,y9⟩) hres)⟩
 ·by_cases e:b=bl
  ·subst e; simp only[if_true]; exact (hnone o).symm
  ·simp only[if_neg e]
   rw[hold b o hlt]
   unfold JV.with
   rw[if_neg e]
 ·by_cases e:b=bl
  ·simp only[if_pos e] at hv; cases hv
  ·simp only[if_neg e] at hv; exact him2 b o v hv
end
theorem AR {ks:List d7} {dep:List Nat} [hd:B9 ks dep] [hn:J8 dep] {g g':Gh} {bk:Bk} {o:Option Obj} (hJ:g.J=g'.J) (h:j5 ks g bk o):j5 ks g' bk o :=
 let ⟨cs,ty,h1,h2⟩:=h; ⟨cs,ty,h1,hd.dep (by rw[hJ]; exact JV.le_refl _) (fun t ht=>by rw[hn.eq] at ht; cases ht) h2⟩
section
variable {P:Program} {n:Nat} {rd:Option Nat} {mrk:Bool} {om:List Nat} {w0:World} {J0:JV} {S:i4} {M M':i1} {Q:Exit->Act->World->Prop} {fn:Func} {bb cap:Nat}
theorem Tr.frzBo {code:Code} (u:Nat) (ss:List Nat) {len:Nat} {α:Type} {zb:Bool} {et:TypeId} {e:i8 α} {xs:List α} {dep:List Nat} [hl:q7 M u (l5 zb et e xs len) dep] (h0:look S 0=some (true,EB 0 0 bb)) (hu:Nat.beq u 0=false) (hss:GW S u len ss) (hlen:len<=p9) [hdel:M6 M u M'] (hnd:K5 u M=true)
  (K:Tr P ⟨w0,J0,[bb],n,rd,mrk,om⟩ (i4.setAll ss (b8 (eL e) xs) (H3 u S)) M' code Q):Tr P ⟨w0,J0,[bb],n,rd,mrk,om⟩ S M code Q:=fun a g w hs =>
 let ⟨g',hs'⟩:=hs.frzAB (ss:=ss) (u:=u) (fun b cap hm hbb=>by
  obtain ⟨⟨cap',h1⟩,_⟩:=(hs.slots 0 _ _ h0).1 rfl
  simp only[List.mem_singleton] at hbb
  subst hbb
  have:=hs.ok.inj _ _ _ _ _ hm h1
  subst this
  simp at hu) hss hlen hnd
 K a g' w hs'
theorem ad1 {fn:Func} {t a ty:Nat} (h:fn.results=#[.tmp t,.cell a ty]) {tmps:Array Value} {w:World} {ad:Addr} {v:Value} (ha:tmps.getD a undef=.pointer (some ad)) (hr:(loadVar ty ad).run P w=.ok v w) :
  (results fn tmps).run P w=.ok (.tuple #[tmps.getD t undef,v]) w:=by
 rw[Array.getD_eq_getD_getElem?] at ha
 have hs:(asAddr (tmps[a]?.getD undef)).run P w=.ok ad w:=by rw[ha]; rfl
 simp[results,h,hs,hr,Array.getD_eq_getD_getElem?]
theorem g6.mutTC {t a u o n2 by':Nat} {ty:TypeId} {zz:Value} {kc kc' kb kb':List d7} {dep dep2 dep3:List Nat} {r1 r2:d7} [hm:q7 M 0 (j5 kb) dep] [hkd:B9 kb dep3] [hkn:J8 dep3] [hlk:q7 M u (j5 kc) dep2] [ht:D0 P ty] [hz:p6 P ty n2 by' zz] [hsk:P9 kc o n2 kc'] (hr:fn.results=#[.tmp t,.cell a ty]) (hs0:look S 0=some (true,EB 0 0 bb))
  (h1:F1 S [t] [r1]) (hx:look S a=some (true,y5 u o)) (hkb:kb=kb') (h2:∀(g:Gh) (v:Value),H9 kc' g v->r2 ⟨g.J,y9⟩ v) :
  g6 ⟨w0,J0,[bb],n,none,false,[]⟩ S M (bodyPost P fn (BL w0 J0 bb cap (z6 [r1,r2]) (j5 kb'))):=by
 subst hkb
 intro act g w hs
 obtain ⟨⟨cap',q1⟩,_⟩:=(hs.slots 0 _ _ hs0).1 rfl
 obtain ⟨bk,q2,q3⟩:=hs.conts _ hm.mem
 simp only at q2 q3
 rw[q1] at q2; cases q2
 obtain ⟨bl,cap2,p1,p2⟩:=(hs.slots a _ _ hx).1 rfl
 obtain ⟨cs,ty',p3,p4⟩:=DT (ks:=kc) hs.conts p1
 have p5:=GV o n2 p4
 rw[hsk.eq] at p5
 have hld:=kX (P:=P) (t:=ty) (w:=w) (b:=bl) (o:=o) (ds:=(cs.toList.drop o).take n2) ((L6 p5).trans hsk.len) (fun j v hj=>by
  refine M7 p3 ?_
  rw[List.getElem?_take] at hj
  split at hj
  ·rw[List.getElem?_drop] at hj; simpa using hj
  ·cases hj)
 exact ⟨hs.defers.1,_,ad1 hr p2 hld,_,g.J,rfl,⟨hs.ok.bel.os,hs.ok.bel.tape,hs.ok.bel.output,hs.ok.bel.size,fun k hk hne=>hs.ok.bel.block k hk (by simp only[List.mem_singleton]; rintro rfl; exact hne cap rfl),hs.ok.bel.drawn⟩,hs.ok.jle,hs.ok.jold,hs.ok.im,
  ⟨_,rfl,(h1.holds hs.slots).1,h2 _ _ ⟨_,rfl,p5⟩,trivial⟩,AR (g:=g) (g':=g1 g.J bb cap) (bk:=.blk bb cap') (o:=w.heap[bb]?) rfl q3⟩
end
section
variable {P:Program} {c:n6} {ops:Array Oper} {S:i4} {M:i1} {rest:List Oper} {Q:Exit->Act->World->Prop}
variable {d:Nat} {ty:TypeId} {pos:String} {af:Array Edge}
theorem d5.mutQ {f:FuncId} [hf:f0 P f] {x:Operand} {args:List Operand} {tys:Array TypeId} {ks:List d7} {res:d7} {u:Nat} {kb0 kb kb':List d7} {dep dep0 dep1:List Nat} {M':i1} (hct:EV P f (y5 0 0) ks (j5 kb) (j5 kb') res) (hx:j2 S x=some (true,y5 u 0)) (ha:G4 S true args ks)
  [hl:q7 M u (j5 kb0) dep] [hd0:B9 kb0 dep0] [hn0:J8 dep0] [hd1:B9 kb' dep1] [hn1:J8 dep1] (hkb:kb0=kb) [hup:D5 M u (j5 kb') [] M'] [hkd:o5 res []] (hn:Nat.blt d c.n=true)
  (K:d5 P c ops (⟨d,true,[],res⟩::S) M' rest Q):d5 P c ops S M (⟨some d,.call { callee:=.value (.func f),args:=(x::args).toArray,argTypes:=tys },ty,pos,af,none⟩::rest) Q:=by
 subst hkb
 have hcd:B4 (j5 kb') []:=⟨fun hJ _ h=>let ⟨cs,t,h1,h2⟩:=h; ⟨cs,t,h1,hd1.dep hJ (fun t ht=>by rw[hn1.eq] at ht; cases ht) h2⟩⟩
 exact d5.mutP hct hx ha (fun g b cap o h=>AR (g:=g) (g':=g1 g.J b cap) rfl h) (fun {J b cap o g} h=>AR (g:=g1 J b cap) (g':=⟨J,g.M⟩) rfl h) (hcd:=hcd) hn K
end
end Go.Fl

/- Parts of strings, errors against nil, contracts that lean on what package variables hold. -/
namespace Go.Fl
open Go Go.RowKit
section
variable {P:Program} {c:n6} {S:i4} {M:i1} {p:Bool} {d:Option Tmp} {ty:TypeId} {pos:String} {af:Array Edge} {gd:Option (Nat×Bool)} {x y z:Operand} {b b' b'':Bool}
end
section
variable {P:Program} {c:n6} {S:i4} {M:i1} {p:Bool} {d:Option Tmp} {ty:TypeId} {pos:String} {af:Array Edge} {gd:Option (Nat×Bool)} {x:Operand} {b:Bool}
end
end Go.Fl

/- What the code computes, in plain Lean: origamis, cycles. No program in sight. -/
namespace Go.Fl
theorem E6 {α:Type} [Inhabited α] {xs:List α} {i:Nat} (h:i<xs.length):b6 xs i∈xs:=List.mem_of_getElem? (H1 h)
theorem BZ {α:Type} [Inhabited α] {xs:List α} {i:Nat} {x:α} (h:xs[i]?=some x):b6 xs i=x:=by
 have hi:=(List.getElem?_eq_some_iff.1 h).1
 rw[H1 hi] at h; exact Option.some.inj h
theorem D6 {α:Type} [Inhabited α] {a b:List α} (h:a.length=b.length) (k:∀i,i<a.length->b6 a i=b6 b i):a=b:=by
 apply List.ext_getElem? ; intro i
 by_cases hi:i<a.length
 ·rw[H1 hi,H1 (h▸hi),k i hi]
 ·rw[List.getElem?_eq_none (Nat.le_of_not_lt hi),List.getElem?_eq_none (h▸Nat.le_of_not_lt hi)]
theorem W8 {α:Type} [Inhabited α] {xs:List α} {k:Nat} (h:k<xs.length):xs.take (k+1)=xs.take k++[b6 xs k]:=by
 rw[List.take_add_one,H1 h]; rfl
theorem HK {α β:Type} [Inhabited α] [Inhabited β] {f:α->β} {xs:List α} {i:Nat} (h:i<xs.length):b6 (xs.map f) i=f (b6 xs i) :=
 BZ (by rw[List.getElem?_map,H1 h]; rfl)
theorem iP {n i:Nat} (h:i<n):b6 (List.range n) i=i:=BZ (by rw[List.getElem?_range h])
theorem N6 {α:Type} [Inhabited α] {xs:List α} {i j:Nat} {x:α} (h:j<xs.length):b6 (xs.set i x) j=if i=j then x else b6 xs j:=by
 apply BZ
 rw[List.getElem?_set]
 by_cases e:i=j
 ·subst e; rw[if_pos rfl,if_pos rfl,if_pos h]
 ·rw[if_neg e,if_neg e,H1 h]
theorem RM {α:Type} [Inhabited α] {n i:Nat} {x:α} (h:i<n):b6 (List.replicate n x) i=x:=BZ (by simp[h])
def FO (p:List Int) (n:Nat):Prop:=∀i,i<p.length->0<=b6 p i/\b6 p i<n
instance (p:List Int) (n:Nat):Decidable (FO p n):=by unfold FO; exact Nat.decidableBallLT _ _
abbrev o6:=List Int×List Int
def eO:i8 o6:=eC (fun o:o6=>(o.1,o.2,())) (eP (eL eI) (eP (eL eI) eU))
instance {o:o6}:E9 (b8 eO o) [b8 (eL eI) o.1,b8 (eL eI) o.2]:=inferInstanceAs (E9 (b8 (eC (fun o:o6=>(o.1,o.2,())) (eP (eL eI) (eP (eL eI) eU))) o) _)
instance {o:o6}:v6 eO o 0 (eL eI) o.1 0:=inferInstanceAs (v6 (eC (fun o:o6=>(o.1,o.2,())) (eP (eL eI) (eP (eL eI) eU))) o 0 _ _ _)
instance {o:o6}:v6 eO o 1 (eL eI) o.2 1:=inferInstanceAs (v6 (eC (fun o:o6=>(o.1,o.2,())) (eP (eL eI) (eP (eL eI) eU))) o 1 _ _ _)
instance {o:o6}:P8 eO o (b8 eO o):=⟨fun h=>h⟩
instance {ks r:List d7} {a b:List Int} [h:t6 ks (eP (eL eI) (eP (eL eI) eU)) (a,b,()) r]:t6 ks eO (a,b) r:=⟨fun h'=>h.imp h'⟩
instance {o:o6} {r:List d7}:t6 (b8 (eL eI) o.1::b8 (eL eI) o.2::r) eO o r:=inferInstanceAs (t6 (b8 (eL eI) o.1::b8 (eL eI) o.2::r) eO (o.1,o.2) r)
def CK (n:Nat) (S:List Int):List Bool:=(List.range n).map (fun j:Nat=>decide ((j:Int)∈S))
theorem RN {n:Nat} {S:List Int} {j:Nat} (h:j<n):b6 (CK n S) j=decide ((j:Int)∈S):=by
 unfold CK; rw[HK (by simpa using h),iP h]
theorem iQ {n:Nat} {S:List Int} {x:Int} (h0:0<=x) (h:x<n):b6 (CK n S) x.toNat=decide (x∈S):=by
 rw[RN zo,Int.toNat_of_nonneg h0]
theorem ae2 {n:Nat}:List.replicate n false=CK n []:=by
 apply D6 (by simp[CK])
 intro i hi
 have hi':i<n:=by simpa using hi
 rw[RM hi',RN hi']; simp
theorem ae3 {n:Nat} {S:List Int} {x:Int} (h0:0<=x):(CK n S).set x.toNat true=CK n (S++[x]):=by
 apply D6 (by simp[CK])
 intro i hi
 have hi':i<n:=by simpa [CK] using hi
 rw[N6 (by simpa [CK] using hi'),RN hi',RN hi']
 by_cases e:x.toNat=i
 ·rw[if_pos e]
  have:(i:Int)=x:=by omega
  simp[this]
 ·rw[if_neg e]
  have:(i:Int)≠x:=by omega
  simp[this]
structure EX (n:Nat) (S:List Int):Prop where
 nodup:S.Nodup
 rng:∀x∈S,0<=x/\x<n
theorem EX.snoc {n:Nat} {S:List Int} {x:Int} (h:EX n S) (h0:0<=x) (h1:x<n) (hx:x∉S):EX n (S++[x]) :=
 ⟨List.nodup_append.2 ⟨h.nodup,by simp,fun a ha b hb=>by simp at hb; subst hb; exact fun e=>hx (e▸ha)⟩,fun y hy=>by
  rcases List.mem_append.1 hy with hy | hy
  ·exact h.rng y hy
  ·simp at hy; subst hy; exact ⟨h0,h1⟩⟩
theorem iN:∀{n:Nat} {l:List Nat},l.Nodup->(∀x∈l,x<n)->l.length<=n
 | 0,l,_,h=>by
  cases l with
  | nil=>simp
  | cons a l=>exact absurd (h a (by simp)) zo
 | n+1,l,hn,h=>by
  have:=iN (n:=n) (hn.erase n) (fun x hx=>by
   obtain ⟨h1,h2⟩:=(List.Nodup.mem_erase_iff hn).1 hx
   have:=h x h2; omega)
  rw[List.length_erase] at this
  split at this<;>omega
theorem EX.len {n:Nat} {S:List Int} (h:EX n S):S.length<=n:=by
 have h1:(S.map Int.toNat).Nodup:=by
  rw[List.nodup_iff_pairwise_ne,List.pairwise_map]
  exact (List.nodup_iff_pairwise_ne.1 h.nodup).imp_of_mem (fun {a b} ha hb hne e=>hne (by have:=h.rng a ha; have:=h.rng b hb; omega))
 have:=iN (n:=n) h1 (fun y hy=>by
  obtain ⟨x,hx,rfl⟩:=List.mem_map.1 hy
  have:=h.rng x hx
  omega)
 simpa using this
theorem EX.room {n:Nat} {S:List Int} {x:Int} (h:EX n S) (h0:0<=x) (h1:x<n) (hx:x∉S):S.length<n:=by
 have:=(h.snoc h0 h1 hx).len
 rw[List.length_append] at this
 exact this
end Go.Fl

/- Sums, tables, numbers up to multiples of 2 to the 64; what the functions of chapter 8 answer. Plain Lean, no program in sight. -/
namespace Go.Fl
open Go Go.RowKit

abbrev W (n:Int):Int:=IntKind.i64.wrap n
def r6 (f:Nat->Int):Nat->Int
 | 0=>0
 | k+1=>r6 f k+f k
theorem M5 (f:Nat->Int) (k:Nat):r6 f (k+1)=r6 f k+f k:=rfl
theorem R4 {f g:Nat->Int}:∀{k:Nat},(∀i,i<k->f i=g i)->r6 f k=r6 g k
 | 0,_=>rfl
 | k+1,h=>by rw[r6,r6,R4 (fun i hi=>h i zo),h k zo]
theorem TE {f g:Nat->Int}:∀{k:Nat},r6 (fun i=>f i+g i) k=r6 f k+r6 g k
 | 0=>rfl
 | k+1=>by rw[r6,r6,r6,TE]; omega
theorem lX {f g:Nat->Int}:∀{k:Nat},r6 (fun i=>f i-g i) k=r6 f k-r6 g k
 | 0=>rfl
 | k+1=>by rw[r6,r6,r6,lX]; omega
def j8 {α:Type} (n:Nat) (F:Nat->α):List α:=(List.range n).map F
theorem p8 {α:Type} {n:Nat} {F:Nat->α}:(j8 n F).length=n:=by simp[j8]
theorem r5 {α:Type} [Inhabited α] {n:Nat} {F:Nat->α} {i:Nat} (h:i<n):b6 (j8 n F) i=F i:=by
 unfold j8; rw[HK (by simpa using h),iP h]
theorem B5 {α:Type} {n:Nat} {F G:Nat->α} (h:∀i,i<n->F i=G i):j8 n F=j8 n G:=by
 unfold j8; exact List.map_congr_left fun i hi=>h i (List.mem_range.1 hi)
theorem GE {α:Type} {n i:Nat} {F:Nat->α} {x:α}:(j8 n F).set i x=j8 n (fun j=>if j=i then x else F j):=by
 have:Inhabited α:=⟨x⟩
 refine D6 (by simp[p8]) (fun j hj=>?_)
 have hj':j<n:=by simpa [p8] using hj
 rw[N6 (by rw[p8]; exact hj'),r5 hj',r5 hj']
 by_cases e:i=j
 ·rw[if_pos e,if_pos e.symm]
 ·rw[if_neg e,if_neg (fun h=>e h.symm)]
theorem U5 {α:Type} [Inhabited α] {xs:List α} {n:Nat} (h:xs.length=n):xs=j8 n (b6 xs):=by
 refine D6 (by rw[p8,h]) (fun i hi=>?_)
 rw[r5 zo]
theorem H0 {α:Type} {n:Nat} {F:Nat->α}:j8 (n+1) F=j8 n F++[F n]:=by simp[j8,List.range_succ]
def FN {α:Type} (q:α->Bool) (xs:List α):Int:=if xs.any q then (xs.findIdx q:Int) else -1
theorem fT {α:Type} [Inhabited α] {q:α->Bool} {xs:List α} {k:Nat} (hk:k<xs.length) (h:∀i,i<k->q (b6 xs i)=false) (hq:q (b6 xs k)=true):(k:Int)=FN q xs:=by
 have h1:xs.any q=true:=List.any_eq_true.2 ⟨_,E6 hk,hq⟩
 have h2:xs.findIdx q=k:=by
  rw[List.findIdx_eq hk]
  have e:∀i (hi:i<xs.length),xs[i]=b6 xs i:=fun i hi=>by have:=H1 hi; rw[List.getElem?_eq_getElem hi] at this; exact Option.some.inj this
  exact ⟨by rw[e]; exact hq,fun j hj=>by rw[e]; exact h j hj⟩
 rw[FN,if_pos h1,h2]
theorem oH {α:Type} [Inhabited α] {q:α->Bool} {xs:List α}:xs.any q=false↔∀i,i<xs.length->q (b6 xs i)=false:=by
 constructor
 ·intro h i hi
  rw[List.any_eq_false] at h
  have:=h _ (E6 hi)
  simpa using this
 ·intro h
  rw[List.any_eq_false]
  intro x hx
  obtain ⟨i,hi,rfl⟩:=List.getElem_of_mem hx
  have:=h i hi
  have e:=H1 hi
  rw[List.getElem?_eq_getElem hi] at e
  rw[Option.some.inj e]; simp[this]
theorem fU {α:Type} [Inhabited α] {q:α->Bool} {xs:List α} (h:∀i,i<xs.length->q (b6 xs i)=false):-1=FN q xs:=by
 rw[FN,if_neg (by rw[oH.2 h]; simp)]
theorem fV {α:Type} {q:α->Bool} {xs:List α}:decide (0<=FN q xs)=xs.any q:=by
 unfold FN
 cases h:xs.any q with
 | true=>simp
 | false=>rfl
def nz (x:Int):Bool:=decide (x≠0)
end Go.Fl

/- Words that act on origamis and chains. Plain Lean, no program in sight. -/
namespace Go.Fl
open Go Go.RowKit
theorem KB {p:List Int} (h:p.Nodup) {i j:Nat} (hi:i<p.length) (hj:j<p.length) (e:b6 p i=b6 p j):i=j:=by
 have h1:=H1 hi
 have h2:=H1 hj
 rw[List.getElem?_eq_getElem hi] at h1
 rw[List.getElem?_eq_getElem hj] at h2
 have e1:=Option.some.inj h1
 have e2:=Option.some.inj h2
 rw[List.nodup_iff_pairwise_ne,List.pairwise_iff_getElem] at h
 rcases Nat.lt_trichotomy i j with hlt | heq | hgt
 ·exact absurd (by rw[e1,e2,e]) (h i j hi hj hlt)
 ·exact heq
 ·exact absurd (by rw[e1,e2,e]) (h j i hj hi hgt)
theorem NF {p:List Int} {n:Nat} (hn:p.Nodup) (hr:FO p n) (hl:p.length=n) {x:Int} (h0:0<=x) (h1:x<n):∃i,i<n/\b6 p i=x:=by
 by_cases hx:x∈p
 ·obtain ⟨i,hi,rfl⟩:=List.getElem_of_mem hx
  have h2:=H1 hi
  rw[List.getElem?_eq_getElem hi] at h2
  exact ⟨i,by omega,(Option.some.inj h2).symm⟩
 ·exfalso
  have g:EX n p:=⟨hn,fun y hy=>by
   obtain ⟨i,hi,rfl⟩:=List.getElem_of_mem hy
   have h2:=H1 hi
   rw[List.getElem?_eq_getElem hi] at h2
   rw[Option.some.inj h2]; exact hr i hi⟩
  have:=g.room h0 h1 hx
  omega
end Go.Fl

/- The references of chapters 6 and 8: places in lists, corners. Plain Lean, no program in sight. -/
namespace Go.Fl
open Go Go.RowKit
theorem vW {l:List Int}:∀{k:Nat},k<l.length->(∀i,i<k->b6 l i≠b6 l k)->l.idxOf (b6 l k)=k:=by
 induction l with
 | nil=>intro k hk; simp at hk
 | cons a r ih =>
  intro k hk h
  cases k with
  | zero=>show List.idxOf a (a::r)=0; simp
  | succ k =>
   have h0:a≠b6 r k:=h 0 zo
   show List.idxOf (b6 r k) (a::r)=k+1
   rw[List.idxOf_cons,show (a==b6 r k)=false by simpa using h0,cond_false,ih (by simpa using hk) (fun i hi=>h (i+1) zo)]
theorem BY {l:List Int} {x:Int} (h:x∈l):∃i,i<l.length/\b6 l i=x:=by
 obtain ⟨i,hi,rfl⟩:=List.getElem_of_mem h
 have h2:=H1 hi
 rw[List.getElem?_eq_getElem hi] at h2
 exact ⟨i,hi,(Option.some.inj h2).symm⟩
end Go.Fl

/- Permutations of 0 to n - 1, their cycles. Plain Lean, no program in sight. -/
namespace Go.Fl
open Go Go.RowKit
def ap (p:List Int) (x:Int):Int:=b6 p x.toNat
def it (p:List Int):Nat->Int->Int
 | 0,x=>x
 | m+1,x=>ap p (it p m x)
structure Perm (p:List Int) (n:Nat):Prop where
 nd:p.Nodup
 rg:FO p n
 ln:p.length=n
def Sq (n:Nat) (x:Int):Prop:=0<=x/\x<n
section
variable {p:List Int} {n:Nat} (P:Perm p n)
include P
end
def jL (p:List Int) (x:Int):Nat->Nat->Nat
 | 0,m=>m
 | f+1,m=>if it p m x=x then m else jL p x f (m+1)
def zK (p:List Int) (x:Int):Nat:=jL p x p.length 1
def zD (p:List Int) (x:Int):List Int:=j8 (zK p x) (fun i=>it p i x)
section
variable {p:List Int} {n:Nat} (P:Perm p n) {x y z:Int} (h:Sq n x)
include P h
end
def low (p:List Int) (i:Nat):Bool:=(zD p i).all fun y=>decide ((i:Int)<=y)
section
variable {p:List Int} {n:Nat} (P:Perm p n)
include P
end
end Go.Fl

/- Texts of origamis, in plain Lean: numerals, words, lines, what is printed is read back. No program in sight. -/
namespace Go.Fl
abbrev Bt:=List UInt8
def num (n:Int):Bt:=if n<10 then [UInt8.ofNat (48+n.toNat)] else [UInt8.ofNat (48+n.toNat/10),UInt8.ofNat (48+n.toNat%10)]
theorem iV {n:Int}:1<=(num n).length/\(num n).length<=2:=by unfold num; split<;>simp
def IB (p:List Int):Bt:=p.flatMap fun x=>32::num x
theorem nD {p:List Int}:(IB p).length<=3*p.length:=by
 induction p with
 | nil=>simp[IB]
 | cons x p ih =>
  have:=iV (n:=x)
  simp only[IB,List.flatMap_cons,List.length_append,List.length_cons] at ih ⊢
  omega
theorem WL {p:List Int} {n:Nat} (h:FO p n) {x:Int} (hx:x∈p):0<=x/\x<n:=by
 obtain ⟨i,hi,rfl⟩:=List.mem_iff_getElem.1 hx
 have:=h i hi
 rwa [BZ (List.getElem?_eq_getElem hi)] at this
end Go.Fl

/- Contracts of the library's over strings, told in ours. -/
namespace Go.Fl
open Go Go.RowKit
end Go.Fl

/- Bytes and strings: exclusive or, a row of bytes as a string, one string behind another. -/
namespace Go.Fl
open Go Go.RowKit
section
variable {P:Program} {c:n6} {S:i4} {M:i1} {p:Bool} {d:Option Tmp} {ty:TypeId} {pos:String} {af:Array Edge} {gd:Option (Nat×Bool)} {x y:Operand} {b b':Bool}
end
end Go.Fl

/- A region that draws its order, whose first operation only copies a value: it may be taken first. No program in sight. -/
namespace Go.Fl
open Go Go.RowKit
section
variable {P:Program} {c:n6} {S:i4} {M:i1} {Q:Exit->Act->World->Prop}
theorem Tr.drawM {id m d:Nat} {x:Operand} {ty:TypeId} {pos:String} {af:Array Edge} {rest:List Oper} (hm:P.follows .mixedOrders=true) (chk:VW (⟨some d,.move x,ty,pos,af,none⟩::rest) m=true) (h1m:Nat.ble 1 m=true)
  (hsel:Region.noSelect (⟨some d,.move x,ty,pos,af,none⟩::rest).toArray=true) (hfr:Region.free .any (⟨some d,.move x,ty,pos,af,none⟩::rest).toArray (Array.replicate (⟨some d,.move x,ty,pos,af,none⟩::rest).toArray.size false) 0=true)
  (hrd:(Region.ready .any (⟨some d,.move x,ty,pos,af,none⟩::rest).toArray (Array.replicate (⟨some d,.move x,ty,pos,af,none⟩::rest).toArray.size false)).contains 0=true)
  (h:i9 P c (⟨some d,.move x,ty,pos,af,none⟩::rest).toArray (Z8 Q) M (⟨some d,.move x,ty,pos,af,none⟩::rest) m S M) (hr:c.rd=none\/EH (⟨some d,.move x,ty,pos,af,none⟩::rest)=true:=by first | exact .inl rfl | exact .inr rfl):Tr P c S M (.region id (⟨some d,.move x,ty,pos,af,none⟩::rest).toArray true) Q:=by
 intro a g w hs0
 have hs:=hs0.drew
 generalize hl:(⟨some d,.move x,ty,pos,af,none⟩::rest:List Oper)=l at *
 have hl0:l[0]?=some ⟨some d,.move x,ty,pos,af,none⟩:=by rw[<- hl]; rfl
 have hlp:0<l.length:=by rw[<- hl]; simp
 have hm1:1<=m:=Nat.le_of_ble_eq_true h1m
 obtain ⟨rs,hlen,hml,hst,htail⟩:=i9.recs h
 have hd:=EW.of1 chk
 have hI0:BJ l c M rs a g w.drew (Array.replicate l.toArray.size false) a g w.drew:=by
  refine ⟨by simp,hs.ok,Gh.le_refl _,Below.refl _ _,fun i j hi=>?_,fun i hi=>?_,rfl,hs.size,fun _ _=>rfl,fun i r hr hi=>?_,fun i r e hi=>?_,fun t ht=>.inl ht⟩
  all_goals
   unfold Ld at hi
   rw[Array.getElem?_eq_some_iff] at hi
   obtain ⟨_,hi⟩:=hi
   simp at hi
 have hmem:0∈Region.ready .any l.toArray (Array.replicate l.toArray.size false):=by simpa using hrd
 have hop:wpOp P l.toArray (Z8 Q) 0 (fun a' w'=>∃g',BJ l c M rs a g w.drew ((Array.replicate l.toArray.size false).setIfInBounds 0 true) a' g' w') a w.drew :=
  hI0.step hst hlen hml hd (eM hst zo) hs hmem zo (fun a' g' w' h=>⟨g',h⟩)
 have hI1:∃g',BJ l c M rs a g w.drew ((Array.replicate l.toArray.size false).setIfInBounds 0 true) (a.put (some d) (a.eval x)) g' w.drew:=by
  unfold wpOp at hop
  rw[List.getElem?_toArray,hl0] at hop
  simp only at hop
  have hw:Region.wanted ⟨some d,.move x,ty,pos,af,none⟩ (yielded l.toArray a.tmps)=true:=rfl
  rw[if_pos hw] at hop
  rcases hop with hop | ⟨_,hop⟩
  ·simpa [Oper.wp,execOp,Oper.upon] using hop
  ·exact absurd hop QW
 obtain ⟨g1,hI1⟩:=hI1
 refine Code.wpIn_mono (Q:=Z8 Q) (fun e _ _ q=>by obtain ⟨he,h⟩:=q; subst he; exact h) (NV (hr.imp (fun h=>h) fun h=>⟨h,QW⟩) hm ?_)
 have hsz:l.toArray.size=(l.toArray.size-1)+1:=by simp; omega
 rw[hsz,<- hsz] 
 have hu:T4 ((Array.replicate l.toArray.size false).setIfInBounds 0 true)<=l.toArray.size-1:=by
  have h1:=TM (listed:=Array.replicate l.toArray.size false) (i:=0) (by simpa using hlp) (fun h=>by unfold Ld at h; rw[Array.getElem?_eq_some_iff] at h; obtain ⟨_,h⟩:=h; simp at h)
  have h2:T4 (Array.replicate l.toArray.size false)<=l.toArray.size:=by
   unfold T4
   refine Nat.le_trans (List.countP_le_length) ?_
   simp
  omega
 have hrun:=eK (Q:=Z8 Q) hd hm1 hlen hml hst htail hs (l.toArray.size-1) _ _ g1 w.drew hu (fun i hi=>by
  obtain rfl:i=0:=by omega
  exact (Ld.set (by simpa using hlp)).2 (.inl rfl)) hI1
 have:=wpAny_take (P:=P) (Q:=Z8 Q) (ops:=l.toArray) (md:=.any) (i:=0) (oi:=⟨some d,.move x,ty,pos,af,none⟩) (v:=a.eval x) (fuel:=l.toArray.size-1) (listed:=Array.replicate l.toArray.size false) (a:=a) (w:=w.drew) (by rw[List.getElem?_toArray,hl0]) hsel hfr hrd (fun _ _ _ h=>absurd h.1 (by simp)) (.inl ⟨rfl,fun w=>by simp[execOp]⟩) hrun
 rw[<- hsz] at this
 exact this
theorem d5.finN {ops:Array Oper} (h:d9 c S M Q):d5 P c ops S M [] (Z8 Q):=fun a g w hs=>wpList_nil ⟨rfl,h a g w hs⟩
end
section
variable {P:Program} {w0:World} {J0:JV} {n0:Nat} {S:i4} {M:i1} {fn:Func}
end
instance {ks out:List d7} {n:Nat} [h:P9 ks 0 n out]:P9 ks (0+0) n out:=h
end Go.Fl

/- A block of the caller's own on loan, wherever the arguments speak of it: in a pointer, or in what a closure has captured. No program in sight. -/
namespace Go.Fl
open Go Go.RowKit
def CP (P:Program) (f:FuncId) (args:List d7) (ct ct':t9) (res:d7):Prop :=
 ∀w J b cap,Im J w->(∀o,J b o=none)->b<w.heap.size->ct (g1 J b cap) (.blk b cap) w.heap[b]?->∀vs,n9 (g1 J b cap) args vs->Calls P f vs.toArray w (BL w J b cap res ct')
theorem XA {w:World} {J:JV} {b cap n m:Nat} {mrk:Bool} {ct:t9} {args:List d7} {ds:List (List Nat)} {vs:List Value} (him:Im J w) (hJ:∀o,J b o=none) (hlt:b<w.heap.size) (hct:ct (g1 J b cap) (.blk b cap) w.heap[b]?) (hvs:n9 (g1 J b cap) args vs) (hds:IG args ds) (hd0:ds.all (fun d=>t8 d [0])=true) (hle:args.length<=n) [hcd:B4 ct []] :
  l8 ⟨w,J,[b],n,none,mrk,[]⟩ (EP 0 ds args++L3 m (fun _=>.blk b cap) [0]) [⟨0,[],ct⟩] { tmps:=vs.toArray++Array.replicate (n-vs.toArray.size) undef,defers:=[] } (g1 J b cap) w:=by
 have hlen:=L6 hvs
 have hM:∀t bk,(g1 J b cap).M t=some bk->t=0/\bk=.blk b cap:=fun t bk ht=>by
  simp only[g1] at ht
  split at ht
  ·rename_i e; cases ht; exact ⟨e,rfl⟩
  ·cases ht
 refine ⟨⟨⟨rfl,rfl,rfl,Nat.le_refl _,fun _ _ _=>rfl,Nat.le_refl _⟩,JV.le_refl _,fun _ _ _=>rfl,him,fun t b' cap' ht=>?_,fun t t' b1 c1 c2 h1 h2=>?_⟩,?_,?_,?_,by simp,?_,?_,⟨?_,fun _ h=>(by cases h)⟩,?_⟩
 ·obtain ⟨_,e⟩:=hM _ _ ht
  cases e
  exact ⟨.inr (by simp),hlt,hJ⟩
 ·rw[(hM _ _ h1).1,(hM _ _ h2).1]
 ·intro t bb k hk
  rcases XB hk with hk | hk
  ·obtain ⟨_,ht,rfl,u,hu,hku⟩:=YL hvs hk
   refine ⟨fun _=>?_,fun hf=>(by cases hf)⟩
   have ht':t<vs.length:=by omega
   have:((vs.toArray++Array.replicate (n-vs.toArray.size) undef).getD t undef)=u:=by
    rw[Array.getD_eq_getD_getElem?,Array.getElem?_append_left (by simpa using ht')]
    simp only[List.getElem?_toArray]
    rw[show vs[t]?=some u by simpa using hu]; rfl
   show k _ ((vs.toArray++Array.replicate (n-vs.toArray.size) undef).getD t undef)
   rw[this]; exact hku
  ·obtain ⟨rfl,_,h3,rfl⟩:=TG hk
   refine ⟨fun _=>?_,fun hf=>(by cases hf)⟩
   have h3:t-m=0:=by simpa using h3
   show (g1 J b cap).M (t-m)=some (.blk b cap)
   rw[h3]; simp[g1]
 ·intro e he
  simp only[List.mem_singleton] at he
  subst he
  exact ⟨_,by simp[g1],hct⟩
 ·intro t ht
  cases hm:(g1 J b cap).M t with
  | none=>exact absurd hm ht
  | some bk=>simp[(hM _ _ hm).1]
 ·intro e he
  rcases List.mem_append.1 he with he | he
  ·obtain ⟨h1,h2⟩:=YM hds he
   exact ⟨h1,fun t ht=>by simpa [Fl.tags] using C3 (List.all_eq_true.1 hd0 _ h2) t ht⟩
  ·obtain ⟨t,h1,h2,h3⟩:=TH he
   rw[h3,h2]
   exact ⟨inferInstance,fun u hu=>by simp at h1 hu; subst h1 hu; simp⟩
 ·intro e he
  simp only[List.mem_singleton] at he
  subst he
  exact ⟨hcd,fun t ht=>by cases ht⟩
 ·cases mrk
  ·rfl
  ·exact ⟨List.nodup_nil,fun _ h=>(by cases h)⟩
 ·simp only[Array.size_append,List.size_toArray,Array.size_replicate]; omega
theorem CP.mk {P:Program} {f:FuncId} {fn:Func} {code:Code} {args:List d7} {ds:List (List Nat)} {res:d7} {ct ct':t9} {n:Nat} (hf:P.funcs[f]?=some fn) (hb:fn.body=some code) (hn:fn.ntmps=n) (hl:Nat.ble args.length n=true) [hd:GN args ds] (hd0:ds.all (fun d=>t8 d [0])=true) [hcd:B4 ct []]
  (h:∀w J b cap,Tr P ⟨w,J,[b],n,none,false,[]⟩ (EP 0 ds args++L3 (n+500) (fun _=>.blk b cap) [0]) [⟨0,[],ct⟩] code (bodyPost P fn (BL w J b cap res ct'))):CP P f args ct ct' res:=by
 intro w J b cap him hJ hlt hct vs hvs
 refine calls_of_wp hf hb<|wpIn_wide.1 (h w J b cap _ (g1 J b cap) w ?_)
 rw[hn]
 exact XA him hJ hlt hct hvs hd.h hd0 (Nat.le_of_ble_eq_true hl)
theorem CP.mkM {P:Program} {f:FuncId} {fn:Func} {code:Code} {args:List d7} {ds:List (List Nat)} {res:d7} {ct ct':t9} {n:Nat} (hf:P.funcs[f]?=some fn) (hb:fn.body=some code) (hn:fn.ntmps=n) (hl:Nat.ble args.length n=true) [hd:GN args ds] (hd0:ds.all (fun d=>t8 d [0])=true) [hcd:B4 ct []]
  (h:∀w J b cap,Tr P ⟨w,J,[b],n,none,true,[]⟩ (EP 0 ds args++L3 (n+500) (fun _=>.blk b cap) [0]) [⟨0,[],ct⟩] code (TT P fn (BL w J b cap res ct'))):CP P f args ct ct' res:=by
 intro w J b cap him hJ hlt hct vs hvs
 refine callsIn_wide.1 (callsIn_of_wp_marks (n:=2) hf hb trivial (h w J b cap _ (g1 J b cap) w ?_))
 rw[hn]
 exact XA him hJ hlt hct hvs hd.h hd0 (Nat.le_of_ble_eq_true hl)
section
variable {P:Program} {n:Nat} {w0:World} {J0:JV} {S:i4} {M:i1} {fn:Func} {bb cap s:Nat} {kb kb':List d7} {dep dep3:List Nat}
theorem gV [hm:q7 M 0 (j5 kb) dep] [hkd:B9 kb dep3] [hkn:J8 dep3] (hkb:kb=kb') (hs0:look S s=some (true,BW 0 (.blk bb cap))) {a:Act} {g:Gh} {w:World} (hs:l8 ⟨w0,J0,[bb],n,none,false,[]⟩ S M a g w) {r:Value} {res:d7} (hr:res ⟨g.J,y9⟩ r) :
  BL w0 J0 bb cap res (j5 kb') (.returned r) w:=by
 subst hkb
 have q1:g.M 0=some (.blk bb cap):=(hs.slots s _ _ hs0).1 rfl
 obtain ⟨bk,q2,q3⟩:=hs.conts _ hm.mem
 simp only at q2 q3
 rw[q1] at q2; cases q2
 exact ⟨r,g.J,rfl,⟨hs.ok.bel.os,hs.ok.bel.tape,hs.ok.bel.output,hs.ok.bel.size,fun k hk hne=>hs.ok.bel.block k hk (by simp only[List.mem_singleton]; rintro rfl; exact hne cap rfl),hs.ok.bel.drawn⟩,hs.ok.jle,hs.ok.jold,hs.ok.im,hr,AR (g:=g) (g':=g1 g.J bb cap) (bk:=.blk bb cap) (o:=w.heap[bb]?) rfl q3⟩
theorem g6.loan1 {t:Nat} {k:d7} [hm:q7 M 0 (j5 kb) dep] [hkd:B9 kb dep3] [hkn:J8 dep3] (hr:fn.results=#[.tmp t]) (hs0:look S s=some (true,BW 0 (.blk bb cap))) (h:F1 S [t] [k]) (hkb:kb=kb') :
  g6 ⟨w0,J0,[bb],n,none,false,[]⟩ S M (bodyPost P fn (BL w0 J0 bb cap k (j5 kb'))):=fun _ _ _ hs =>
 ⟨hs.defers.1,_,results_tmp hr _ _ _,gV hkb hs0 hs (h.holds hs.slots).1⟩
theorem g6.loan0 [hm:q7 M 0 (j5 kb) dep] [hkd:B9 kb dep3] [hkn:J8 dep3] (hr:fn.results=#[]) (hs0:look S s=some (true,BW 0 (.blk bb cap))) (hkb:kb=kb') :
  g6 ⟨w0,J0,[bb],n,none,false,[]⟩ S M (bodyPost P fn (BL w0 J0 bb cap (j4 (.tuple #[])) (j5 kb'))):=fun _ _ _ hs =>
 ⟨hs.defers.1,_,results_none hr _ _ _,gV (res:=j4 (.tuple #[])) hkb hs0 hs rfl⟩
end
class II (u:Nat) (k:d7) (k0:outParam d7):Prop where
 imp:∀{g:Gh} {v:Value} {b cap:Nat},g.M u=some (.blk b cap)->k g v->k0 (g1 g.J b cap) v
instance {u o:Nat}:II u (y5 u o) (y5 0 o):=⟨fun hm ⟨b,cap,h1,h2⟩=>⟨b,cap,by rw[hm] at h1; simpa [g1] using h1,h2⟩⟩
instance (priority:=low) {u:Nat} {k:d7} [h:o5 k []]:II u k k:=⟨fun {g v b cap} _ hk=>h.dep (g:=g) (g':=g1 g.J b cap) (JV.le_refl _) (fun _ h=>by cases h) hk⟩
class LI (u:Nat) (ks:List d7) (ks0:outParam (List d7)):Prop where
 imp:∀{g:Gh} {vs:List Value} {b cap:Nat},g.M u=some (.blk b cap)->n9 g ks vs->n9 (g1 g.J b cap) ks0 vs
instance {u:Nat}:LI u [] []:=⟨fun {g vs b cap} _ h=>by
 cases vs with
 | nil=>trivial
 | cons=>exact h.elim⟩
instance {u:Nat} {k k0:d7} {ks ks0:List d7} [h:II u k k0] [hs:LI u ks ks0]:LI u (k::ks) (k0::ks0):=⟨fun {g vs b cap} hm h'=>by
 cases vs with
 | nil=>exact h'.elim
 | cons v vs=>exact ⟨h.imp hm h'.1,hs.imp hm h'.2⟩⟩
instance {u:Nat} {f:FuncId} {ks ks0:List d7} [h:LI u ks ks0]:II u (AU f ks) (AU f ks0):=⟨fun hm ⟨vs,h1,h2⟩=>⟨vs,h1,h.imp hm h2⟩⟩
section
variable {P:Program} {c:n6} {ops:Array Oper} {S:i4} {M:i1} {rest:List Oper} {Q:Exit->Act->World->Prop}
variable {d:Nat} {ty:TypeId} {pos:String} {af:Array Edge}
end
end Go.Fl

/- Calls that hand on a loan: arguments that are put together, or read as something else. No program in sight. -/
namespace Go.Fl
open Go Go.RowKit
inductive W9 (S:i4) (u:Nat):List Operand->List d7->Prop
 | nil:W9 S u [] []
 | cons {x:Operand} {xs:List Operand} {k k1:d7} {ks:List d7} (hx:j2 S x=some (true,k)) (hc:∀(g:Gh) (v:Value) (b cap:Nat),g.M u=some (.blk b cap)->k g v->k1 (g1 g.J b cap) v) (r:W9 S u xs ks):W9 S u (x::xs) (k1::ks)
section
variable {S:i4} {u:Nat} {x:Operand} {xs:List Operand} {ks:List d7}
theorem W9.a {k k1:d7} (hx:j2 S x=some (true,k)) [hl:II u k k1] (r:W9 S u xs ks):W9 S u (x::xs) (k1::ks):=.cons hx (fun _ _ _ _ hm hk=>hl.imp hm hk) r
theorem W9.se {kl:List d7} {α:Type} {e:i8 α} {v v':α} (hx:j2 S x=some (true,H9 kl)) [hr:t6 kl e v []] (ha:e.agg=true) (he:v=v') (r:W9 S u xs ks):W9 S u (x::xs) (b8 e v'::ks):=by
 subst he
 exact .cons hx (fun g _ _ _ _ ⟨cs,h1,h2⟩=>⟨cs,t6.whole (h:=hr) (g:=g) h2,by rw[ha]; exact h1⟩) r
theorem W9.eval {g:Gh} {ρ:Operand->Value} {b cap:Nat} (hm:g.M u=some (.blk b cap)) (h:W9 S u xs ks):(∀y∈xs,∀b k,j2 S y=some (b,k)->b=true->k g (ρ y))->n9 (g1 g.J b cap) ks (xs.map ρ):=by
 induction h with
 | nil=>intro _; trivial
 | cons hx hc _ ih=>intro hy; exact ⟨hc _ _ _ _ hm (hy _ List.mem_cons_self _ _ hx rfl),ih fun y h'=>hy y (List.mem_cons_of_mem _ h')⟩
end
section
variable {P:Program} {c:n6} {ops:Array Oper} {S:i4} {M:i1} {rest:List Oper} {Q:Exit->Act->World->Prop}
variable {d:Nat} {ty:TypeId} {pos:String} {af:Array Edge}
theorem d5.loanL {f:FuncId} [hf:f0 P f] {args:List Operand} {tys:Array TypeId} {ks1:List d7} {res:d7} {u:Nat} {kb0 kb kb':List d7} {dep dep0 dep1:List Nat} {M':i1} (hct:CP P f ks1 (j5 kb) (j5 kb') res) (ha:W9 S u args ks1)
  [hl:q7 M u (j5 kb0) dep] [hd0:B9 kb0 dep0] [hn0:J8 dep0] [hd1:B9 kb' dep1] [hn1:J8 dep1] (hkb:kb0=kb) [hup:D5 M u (j5 kb') [] M'] [hkd:o5 res []] (hn:Nat.blt d c.n=true)
  (K:d5 P c ops (⟨d,true,[],res⟩::S) M' rest Q):d5 P c ops S M (⟨some d,.call { callee:=.value (.func f),args:=args.toArray,argTypes:=tys },ty,pos,af,none⟩::rest) Q:=by
 subst hkb
 have hcd:B4 (j5 kb') []:=⟨fun hJ _ h=>let ⟨cs,t,h1,h2⟩:=h; ⟨cs,t,h1,hd1.dep hJ (fun t ht=>by rw[hn1.eq] at ht; cases ht) h2⟩⟩
 intro a g w hsat
 have hdn:d<c.n:=by simpa [Nat.blt_eq] using hn
 obtain ⟨bk2,hm2,hobj⟩:=hsat.conts _ hl.mem
 simp only at hm2 hobj
 cases bk2 with
 | nil=>obtain ⟨_,_,h,_⟩:=hobj; cases h
 | blk b cap =>
  obtain ⟨_,hlt,hJn⟩:=hsat.ok.own u b cap hm2
  have hargs:=ha.eval (g:=g) (ρ:=a.eval) hm2 (fun y _ b k hk hb=>C8 hsat.slots hk hb)
  have hr:=hct w g.J b cap hsat.ok.im hJn hlt (AR (g:=g) (g':=g1 g.J b cap) (bk:=.blk b cap) rfl hobj) _ hargs
  refine wpList_plain rfl fun K' hK'=>?_
  unfold Oper.wp
  simp only[execOp,resolve,Act.eval,Deferred.ofValue,Sem.run_bind,Sem.run_pure,Result.andThen_ok,invoke,List.map_toArray,Array.append_empty,Array.empty_append]
  rw[hf.run]
  simp only[Oper.upon]
  refine hr.mono fun e w' he=>?_
  obtain ⟨r,J',rfl,h1,h2,h3,h4,h5,h6⟩:=he
  exact hK' _ _ (K _ _ _ (hsat.mut hm2 (hsat.nomark hl hm2 _ _ rfl) h1 h2 h3 h4 hup hcd (AR (g:=g1 J' b cap) (g':=⟨J',g.M⟩) (bk:=.blk b cap) rfl h6) hdn (hkd.dep (g:=⟨J',y9⟩) (JV.le_refl _) (fun _ h=>by cases h) h5)))
theorem d5.loanLK {f:FuncId} [hf:f0 P f] {x:Operand} {cks cks1:List d7} {args:List Operand} {tys:Array TypeId} {ks1 ks2:List d7} {res:d7} {u:Nat} {kb0 kb kb':List d7} {dep dep0 dep1:List Nat} {M':i1} (hct:CP P f ks2 (j5 kb) (j5 kb') res) (hx:j2 S x=some (true,AU f cks)) (ha:W9 S u args ks1) [hln:LI u cks cks1] (hks:ks1++cks1=ks2)
  [hl:q7 M u (j5 kb0) dep] [hd0:B9 kb0 dep0] [hn0:J8 dep0] [hd1:B9 kb' dep1] [hn1:J8 dep1] (hkb:kb0=kb) [hup:D5 M u (j5 kb') [] M'] [hkd:o5 res []] (hn:Nat.blt d c.n=true)
  (K:d5 P c ops (⟨d,true,[],res⟩::S) M' rest Q):d5 P c ops S M (⟨some d,.call { callee:=.value x,args:=args.toArray,argTypes:=tys },ty,pos,af,none⟩::rest) Q:=by
 subst hkb hks
 have hcd:B4 (j5 kb') []:=⟨fun hJ _ h=>let ⟨cs,t,h1,h2⟩:=h; ⟨cs,t,h1,hd1.dep hJ (fun t ht=>by rw[hn1.eq] at ht; cases ht) h2⟩⟩
 intro a g w hsat
 have hdn:d<c.n:=by simpa [Nat.blt_eq] using hn
 obtain ⟨cvs,hfv,hcs⟩:=C8 hsat.slots hx rfl
 obtain ⟨bk2,hm2,hobj⟩:=hsat.conts _ hl.mem
 simp only at hm2 hobj
 cases bk2 with
 | nil=>obtain ⟨_,_,h,_⟩:=hobj; cases h
 | blk b cap =>
  obtain ⟨_,hlt,hJn⟩:=hsat.ok.own u b cap hm2
  have hargs:=ON (ha.eval (g:=g) (ρ:=a.eval) hm2 (fun y _ b k hk hb=>C8 hsat.slots hk hb)) (hln.imp hm2 hcs)
  have hr:=hct w g.J b cap hsat.ok.im hJn hlt (AR (g:=g) (g':=g1 g.J b cap) (bk:=.blk b cap) rfl hobj) _ hargs
  refine wpList_plain rfl fun K' hK'=>?_
  unfold Oper.wp
  simp only[execOp,resolve,hfv,Deferred.ofValue,Sem.run_bind,Sem.run_pure,Result.andThen_ok,invoke,List.map_toArray,List.append_toArray]
  rw[hf.run]
  simp only[Oper.upon]
  refine hr.mono fun e w' he=>?_
  obtain ⟨r,J',rfl,h1,h2,h3,h4,h5,h6⟩:=he
  exact hK' _ _ (K _ _ _ (hsat.mut hm2 (hsat.nomark hl hm2 _ _ rfl) h1 h2 h3 h4 hup hcd (AR (g:=g1 J' b cap) (g':=⟨J',g.M⟩) (bk:=.blk b cap) rfl h6) hdn (hkd.dep (g:=⟨J',y9⟩) (JV.le_refl _) (fun _ h=>by cases h) h5)))
end
theorem l8.frzBB {n:Nat} {bor:List Nat} {rd:Option Nat} {mrk:Bool} {om:List Nat} {w0:World} {J0:JV} {S:i4} {M M':i1} {a:Act} {g:Gh} {w:World} (h:l8 ⟨w0,J0,bor,n,rd,mrk,om⟩ S M a g w) {u:Nat} {α:Type} {e:i8 α} {x:α} {ks:List d7} {dep dep2:List Nat} {ss:List Nat} [hl:q7 M u (j5 ks) dep] [hr:t6 ks e x []] [hd:B9 ks dep2] [hdn:J8 dep2]
  (hbo:∀b cap,g.M u=some (.blk b cap)->b∉bor) (hss:IU S u ss) [hdel:M6 M u M'] (hnd:K5 u M=true):∃g',l8 ⟨w0,J0,bor,n,rd,mrk,om⟩ (i4.setAll ss (r7 e x) (H3 u S)) M' a g' w:=by
 obtain ⟨bk,hm,cs,ty,ho,hk⟩:=h.conts _ hl.mem
 simp only at hm
 cases bk with
 | nil=>cases ho
 | blk b cap =>
  refine ⟨_,h.freezeB (cs:=cs) (ty:=ty) hm (fun b2 cap2 e=>by cases e; exact hbo _ _ hm) (fun b' cap' hb=>by cases hb; exact ho) hdel hnd inferInstance (fun s hs=>?_)⟩
  have hJ:g.J.le (g.J.with b cs):=JV.le_with (h.ok.own u b cap hm).2.2
  obtain ⟨b',cap',hb,hv⟩:=(h.slots s _ _ (UF hss s hs)).1 rfl
  rw[hm] at hb; cases hb
  have hk':=hd.dep (g:=g) (g':=g.frz u (.blk b cap) cs) hJ (fun t ht=>by rw[hdn.eq] at ht; cases ht) hk
  refine ⟨b,0,cs.toList,hv,t6.whole (h:=hr) hk',fun j v hj=>?_⟩
  show (g.J.with b cs) b (0+j)=some v
  unfold JV.with
  rw[if_pos rfl,Nat.zero_add]
  simpa using hj
section
variable {P:Program} {n:Nat} {rd:Option Nat} {mrk:Bool} {om:List Nat} {w0:World} {J0:JV} {S:i4} {M M':i1} {Q:Exit->Act->World->Prop} {bb cap s:Nat}
theorem Tr.frzBL {code:Code} (u:Nat) (ss:List Nat) {α:Type} (e:i8 α) {x:α} {ks:List d7} {dep dep2:List Nat} [hl:q7 M u (j5 ks) dep] [hr:t6 ks e x []] [hd:B9 ks dep2] [hdn:J8 dep2] (h0:look S s=some (true,BW 0 (.blk bb cap))) (hu:Nat.beq u 0=false) (hss:IU S u ss) [hdel:M6 M u M'] (hnd:K5 u M=true)
  (K:Tr P ⟨w0,J0,[bb],n,rd,mrk,om⟩ (i4.setAll ss (r7 e x) (H3 u S)) M' code Q):Tr P ⟨w0,J0,[bb],n,rd,mrk,om⟩ S M code Q:=fun a g w hs =>
 let ⟨g',hs'⟩:=hs.frzBB (u:=u) (e:=e) (x:=x) (fun b cap hm hbb=>by
  have h1:g.M 0=some (.blk bb _):=(hs.slots s _ _ h0).1 rfl
  simp only[List.mem_singleton] at hbb
  subst hbb
  have:=hs.ok.inj _ _ _ _ _ hm h1
  subst this
  simp at hu) hss hnd
 K a g' w hs'
end
end Go.Fl

/- A row of the caller's own on loan, of which a part comes back. No program in sight. -/
namespace Go.Fl
open Go Go.RowKit
def LE (P:Program) (f:FuncId) (args:List d7) (ct ct':t9) (res:d7):Prop :=
 ∀w J b cap,Im J w->(∀o,J b o=none)->b<w.heap.size->ct (g1 J b cap) (.blk b cap) w.heap[b]?->∀vs,n9 (g1 J b cap) args vs->Calls P f vs.toArray w (IP w J b cap res ct')
theorem LE.mk {P:Program} {f:FuncId} {fn:Func} {code:Code} {args:List d7} {ds:List (List Nat)} {res:d7} {ct ct':t9} {n:Nat} (hf:P.funcs[f]?=some fn) (hb:fn.body=some code) (hn:fn.ntmps=n) (hl:Nat.ble args.length n=true) [hd:GN args ds] (hd0:ds.all (fun d=>t8 d [0])=true) [hcd:B4 ct []]
  (h:∀w J b cap,Tr P ⟨w,J,[b],n,none,false,[]⟩ (EP 0 ds args++L3 (n+500) (fun _=>.blk b cap) [0]) [⟨0,[],ct⟩] code (bodyPost P fn (IP w J b cap res ct'))):LE P f args ct ct' res:=by
 intro w J b cap him hJ hlt hct vs hvs
 refine calls_of_wp hf hb<|wpIn_wide.1 (h w J b cap _ (g1 J b cap) w ?_)
 rw[hn]
 exact XA him hJ hlt hct hvs hd.h hd0 (Nat.le_of_ble_eq_true hl)
section
variable {P:Program} {n:Nat} {w0:World} {J0:JV} {S:i4} {M:i1} {fn:Func} {bb cap s t:Nat} {ct ct':t9} {dep:List Nat} {k res:d7}
theorem g6.loanR (hr:fn.results=#[.tmp t]) (hs0:look S s=some (true,BW 0 (.blk bb cap))) (hl:look S t=some (true,k)) [hm:q7 M 0 ct dep] (hc:∀(g:Gh) (o:Option Obj),ct g (.blk bb cap) o->ct' (g1 g.J bb cap) (.blk bb cap) o) (hk:∀(g:Gh) (v:Value),g.M 0=some (.blk bb cap)->k g v->res (g1 g.J bb cap) v) :
  g6 ⟨w0,J0,[bb],n,none,false,[]⟩ S M (bodyPost P fn (IP w0 J0 bb cap res ct')):=by
 intro a g w hs
 have h1:g.M 0=some (.blk bb cap):=(hs.slots s _ _ hs0).1 rfl
 obtain ⟨bk,h2,h3⟩:=hs.conts _ hm.mem
 simp only at h2 h3
 rw[h1] at h2; cases h2
 exact ⟨hs.defers.1,_,results_tmp hr _ _ _,_,g.J,rfl,⟨hs.ok.bel.os,hs.ok.bel.tape,hs.ok.bel.output,hs.ok.bel.size,fun k hk hne=>hs.ok.bel.block k hk (by simp only[List.mem_singleton]; rintro rfl; exact hne cap rfl),hs.ok.bel.drawn⟩,hs.ok.jle,hs.ok.jold,hs.ok.im,hk g _ h1 ((hs.slots t _ _ hl).1 rfl),hc _ _ h3⟩
end
theorem zG {J:JV} {b cap n o m u:Nat} {g:Gh} {v:Value} (hm:g.M u=some (.blk b cap)) (h:C7 0 n o m (g1 J b cap) v):C7 u n o m ⟨J,g.M⟩ v:=by
 obtain ⟨b',cap',a,q1,q2,q3,q4⟩:=h
 simp only[g1,if_true,Option.some.injEq,Bk.blk.injEq] at q1
 obtain ⟨rfl,rfl⟩:=q1
 exact ⟨b,cap,a,hm,q2,q3,q4⟩
instance {u n o m:Nat}:II u (C7 u n o m) (C7 0 n o m):=⟨fun {g v b cap} hm h=>by
 obtain ⟨b',cap',a,q1,q2,q3,q4⟩:=h
 rw[hm] at q1; cases q1
 exact ⟨b,cap,a,by simp[g1],q2,q3,q4⟩⟩
theorem UL {zb:Bool} {et:TypeId} {α:Type} {e:i8 α} {xs:List α} {len b cap:Nat} {o:Option Obj} {g g':Gh} (hJ:g'.J=g.J) (h:l5 zb et e xs len g (.blk b cap) o):l5 zb et e xs len g' (.blk b cap) o:=by
 obtain ⟨h1,h2⟩:=h
 exact ⟨h1,by simpa only [hJ] using h2⟩
section
variable {P:Program} {c:n6} {ops:Array Oper} {S:i4} {M:i1} {rest:List Oper} {Q:Exit->Act->World->Prop}
variable {d:Nat} {ty:TypeId} {pos:String} {af:Array Edge}
theorem d5.loanR {f:FuncId} [hf:f0 P f] {args:List Operand} {tys:Array TypeId} {ks1:List d7} {u n m len:Nat} {zb:Bool} {et:TypeId} {α:Type} {e:i8 α} {xs xs' ys:List α} {dep:List Nat} {M':i1} (hct:LE P f ks1 (l5 zb et e xs len) (l5 zb et e ys len) (C7 0 n 0 m)) (ha:W9 S u args ks1) (hlen:0<len)
  [hl:q7 M u (l5 zb et e xs' len) dep] (hxs:xs'=xs) [hup:D5 M u (l5 zb et e ys len) [] M'] (hn:Nat.blt d c.n=true)
  (K:d5 P c ops (⟨d,true,[u],C7 u n 0 m⟩::S) M' rest Q):d5 P c ops S M (⟨some d,.call { callee:=.value (.func f),args:=args.toArray,argTypes:=tys },ty,pos,af,none⟩::rest) Q:=by
 subst hxs
 intro a g w hsat
 have hdn:d<c.n:=by simpa [Nat.blt_eq] using hn
 obtain ⟨bk2,hm2,hobj⟩:=hsat.conts _ hl.mem
 simp only at hm2 hobj
 obtain ⟨b,cap,rfl⟩:∃b cap,bk2=.blk b cap:=by
  cases bk2 with
  | nil=>exact absurd hobj.2 zo
  | blk b cap=>exact ⟨b,cap,rfl⟩
 obtain ⟨_,hlt,hJn⟩:=hsat.ok.own u b cap hm2
 have hargs:=ha.eval (g:=g) (ρ:=a.eval) hm2 (fun y _ b k hk hb=>C8 hsat.slots hk hb)
 have hr:=hct w g.J b cap hsat.ok.im hJn hlt (UL rfl hobj) _ hargs
 refine wpList_plain rfl fun K' hK'=>?_
 unfold Oper.wp
 simp only[execOp,resolve,Act.eval,Deferred.ofValue,Sem.run_bind,Sem.run_pure,Result.andThen_ok,invoke,List.map_toArray,Array.append_empty,Array.empty_append]
 rw[hf.run]
 simp only[Oper.upon]
 refine hr.mono fun e w' he=>?_
 obtain ⟨r,J',rfl,h1,h2,h3,h4,h5,h6⟩:=he
 have hko:C7 u n 0 m ⟨J',g.M⟩ r:=zG hm2 h5
 have hs:=hsat.mut hm2 (hsat.nomark hl hm2 _ _ rfl) h1 h2 h3 h4 hup inferInstance (UL rfl h6) hdn (k:=X6) trivial (v:=r)
 have htag:=hup.tags
 refine hK' _ _ (K _ _ _ ⟨hs.ok,fun t bb k' hl'=>?_,hs.conts,hs.dom,hs.nodup,fun e he=>?_,hs.cdep,hs.defers,hs.size⟩)
 ·simp only[look] at hl'
  cases hb0:Nat.beq d t with
  | true =>
   rw[hb0] at hl'
   simp only[cond_true,Option.some.injEq,Prod.mk.injEq] at hl'
   obtain ⟨rfl,rfl⟩:=hl'
   have:=Nat.eq_of_beq_eq_true hb0
   subst this
   refine ⟨fun _=>?_,fun hf=>(by cases hf)⟩
   have hsz:d<a.tmps.size:=by have:=hsat.size; omega
   simpa [Act.put,Array.getD_eq_getD_getElem?,hsz] using hko
  | false =>
   rw[hb0] at hl'
   exact hs.slots t bb k' (by simp only[look]; rw[hb0]; exact hl')
 ·rcases List.mem_cons.1 he with rfl | he
  ·exact ⟨inferInstance,fun t ht=>by
    simp only[List.mem_singleton] at ht
    rw[ht]
    exact hs.dom _ (by show g.M u≠none; rw[hm2]; simp)⟩
  ·exact hs.sdep e (List.mem_cons_of_mem _ he)
end
end Go.Fl

/- Parts of own rows: elements, shorter parts, closures called under a condition. No program in sight. -/
namespace Go.Fl
open Go Go.RowKit
section
variable {P:Program} {c:n6} {S:i4} {M:i1} {p:Bool} {d:Option Tmp} {ty:TypeId} {pos:String} {af:Array Edge} {gd:Option (Nat×Bool)} {x y:Operand} {b b':Bool}
theorem CA (L:Nat) {t et:TypeId} [ht:D1 P t et] {sz by':Nat} {zz:Value} [hz:p6 P et sz by' zz] {u off len:Nat} {ik:IntKind} {i:Int} (hx:j2 S x=some (b,C7 u sz off len)) (hb:p=true->b=true) (hy:j2 S y=some (b',z9 ik i)) (hb':p=true->b'=true)
  (h:p=true->(0<=i/\i<len)/\off+len<=L):l4 P c S M ⟨d,.indexAddr t x y,ty,pos,af,gd⟩ p (DF u sz (off+i.toNat) L) none :=
 l4.pure fun hp a g w _ _ ho=>by
  have hi:a.eval y=_:=ho y (by simp[Op.operands]) b' _ hy (hb' hp)
  obtain ⟨hlt,hL⟩:=h hp
  obtain ⟨bk,cap,o,h1,h3,h4,h2⟩:=ho x (by simp[Op.operands]) b _ hx (hb hp)
  have ho':=h4 zo
  exact ⟨.pointer (some ⟨bk,o+i.toNat*sz,none⟩),by simp only[execOp,h2,hi,Sem.run_bind,JN (P:=P) hlt,Result.andThen_ok,Sem.run_pure],by omega,bk,cap,h1,by rw[ho',Nat.add_mul]⟩
theorem jC {t et:TypeId} [ht:D1 P t et] {sz by':Nat} {zz:Value} [hz:p6 P et sz by' zz] {u len:Nat} {ik:IntKind} {i:Int} (hx:j2 S x=some (b,C7 u sz 0 len)) (hb:p=true->b=true) (hy:j2 S y=some (b',z9 ik i)) (hb':p=true->b'=true)
  (h:p=true->0<=i/\i<=len):l4 P c S M ⟨d,.slice t x none (some y) none,ty,pos,af,gd⟩ p (C7 u sz 0 i.toNat) none :=
 l4.pure fun hp a g w _ _ ho=>by
  have hi:a.eval y=_:=ho y (by simp[Op.operands]) b' _ hy (hb' hp)
  have hlt:=h hp
  obtain ⟨bk,cap,o,h1,h3,h4,h2⟩:=ho x (by simp[Op.operands]) b _ hx (hb hp)
  obtain ⟨j,hj,rfl,rfl,_⟩:=hz.h
  refine ⟨.slice (some ⟨bk,o,none⟩) i.toNat (cap-0),?_,bk,cap,o,h1,by omega,h4,rfl⟩
  have hun:P.underlying t=some (.slice (P.elem t)):=by rw[ht.h]; simp[Program.elem,ht.h]
  have hel:P.elem t=et:=by simp[Program.elem,ht.h]
  simp only[execOp,h2,hi,Option.map]
  rw[Sem.run_bind,run_sliceAt_slice w t _ _ _ _ hun,run_slice_h w t _ len (cap-0) hun ik i zo zo,hel]
  have hsz:(sizeOf et).run P w=.ok j.size w:=by simp[sizeOf,typeInfo,hj]
  simp only[Result.andThen_ok,Sem.run_pure,hsz,sliced,Option.map,Addr.add_lit]
  simp
end
section
variable {P:Program} {c:n6} {S:i4} {M:i1} {Q:Exit->Act->World->Prop}
theorem Tr.osq {code:Code} (s:Nat) (sz:Nat) {u len len':Nat} {dep:List Nat} {α:Type} {z:Bool} {et:TypeId} {e:i8 α} {xs:List α} (hs:look S s=some (true,o9 u len)) [hl:q7 M u (l5 z et e xs len') dep] (h0:0<len/\len=len') (K:Tr P c (⟨s,true,[u],C7 u sz 0 len⟩::S) M code Q):Tr P c S M code Q:=fun a g w h =>
 K a g w ⟨h.ok,fun t b k0 hl'=>by
  simp only[look] at hl'
  cases hb:Nat.beq s t with
  | true =>
   rw[hb] at hl'
   simp only[cond_true,Option.some.injEq,Prod.mk.injEq] at hl'
   obtain ⟨rfl,rfl⟩:=hl'
   rw[<- Nat.eq_of_beq_eq_true hb]
   refine ⟨fun _=>?_,fun hf=>by cases hf⟩
   obtain ⟨bk,cap,h1,h2⟩:=zE ((h.slots s _ _ hs).1 rfl) h0.1
   obtain ⟨bk2,hm2,hobj⟩:=h.conts _ hl.mem
   simp only at hm2 hobj
   rw[h1] at hm2; cases hm2
   obtain ⟨_,_,cs,_,_,hcap,_⟩:=hobj
   exact ⟨bk,cap,0,h1,by omega,fun _=>by omega,h2⟩
  | false =>
   rw[hb] at hl'
   exact h.slots t b k0 hl',h.conts,h.dom,h.nodup,fun e he=>by
  rcases List.mem_cons.1 he with rfl | he
  ·exact ⟨inferInstance,fun t ht=>by
    simp only[List.mem_singleton] at ht
    rw[ht]
    exact List.mem_map.2 ⟨_,hl.mem,rfl⟩⟩
  ·exact h.sdep e he,h.cdep,h.defers,h.size⟩
end
end Go.Fl

/- Rows of rows that change in place: a slice of headers, and up to eight rows with tags of their own. -/
namespace Go.Fl
open Go Go.RowKit
instance:Inhabited Value:=⟨.slice none 0 0⟩
def Q5:i8 Value where
 n:=1
 agg:=false
 rd _ cs x:=cs=[x]/\x.oneCell'=true
 len h:=by rw[h.1]; rfl
 one _:=⟨rfl,fun h=>by have:=h.1; cases this; exact h.2⟩
 all1 h v hv:=by rw[h.1] at hv; simp at hv; subst hv; exact h.2
 mono _ h:=h
theorem jW {J:JV} {v x:Value}:Q5.val J v x↔v=x/\x.oneCell'=true:=by
 constructor
 ·rintro ⟨cs,⟨rfl,h⟩,h2⟩; exact ⟨h2,h⟩
 ·rintro ⟨rfl,h⟩; exact ⟨[v],⟨rfl,h⟩,rfl⟩
instance {x:Value}:P8 Q5 x (b8 Q5 x):=⟨fun h=>h⟩
instance {cp:Nat}:GS Q5 (.slice none 0 cp) (.slice none 0 cp):=⟨fun _=>⟨rfl,rfl⟩⟩
def Z1 (bk:Bk) (n:Nat) (v:Value):Prop:=match bk with
 | .nil=>v=.slice none 0 0/\n=0
 | .blk b cap=>v=.slice (some ⟨b,0,none⟩) n cap
def FF (v:Value) (n:Nat) (ct:t9):t9:=fun g bk o=>Z1 bk n v/\ct g bk o
instance {v:Value} {n:Nat} {ct:t9} {dep:List Nat} [h:B4 ct dep]:B4 (FF v n ct) dep:=⟨fun hl hd ⟨h1,h2⟩=>⟨h1,h.dep hl hd h2⟩⟩
def s9 (ity:TypeId) (hs:List Value) (rows:List (List Int)) (j:Nat):t9:=fun g bk o=>(j<hs.length->FF (b6 hs j) (b6 rows j).length (l5 true ity eI (b6 rows j) (b6 rows j).length) g bk o)/\(hs.length<=j->bk=.nil)
instance {ity:TypeId} {hs:List Value} {rows:List (List Int)} {j:Nat}:B4 (s9 ity hs rows j) []:=⟨fun hl hd ⟨h1,h2⟩=>⟨fun hj=>(inferInstance:B4 (FF (b6 hs j) (b6 rows j).length (l5 true ity eI (b6 rows j) (b6 rows j).length)) []).dep hl hd (h1 hj),h2⟩⟩
abbrev fam (t:Nat) (ity:TypeId) (hs:List Value) (rows:List (List Int)):i1 :=
 [⟨t,[],s9 ity hs rows 0⟩,⟨t+1,[],s9 ity hs rows 1⟩,⟨t+2,[],s9 ity hs rows 2⟩,⟨t+3,[],s9 ity hs rows 3⟩,⟨t+4,[],s9 ity hs rows 4⟩,⟨t+5,[],s9 ity hs rows 5⟩,⟨t+6,[],s9 ity hs rows 6⟩,⟨t+7,[],s9 ity hs rows 7⟩]
abbrev H8 (t:Nat):List Nat:=[t,t+1,t+2,t+3,t+4,t+5,t+6,t+7]
theorem HI {t q:Nat}:q∈H8 t↔∃j,j<8/\q=t+j:=by
 simp only[H8,List.mem_cons,List.not_mem_nil,or_false]
 constructor
 ·intro h; exact ⟨q-t,by omega,by omega⟩
 ·rintro ⟨j,hj,rfl⟩; omega
theorem FT {t:Nat} {ity:TypeId} {hs:List Value} {rows:List (List Int)} {e:CE}:e∈fam t ity hs rows↔∃j,j<8/\e=⟨t+j,[],s9 ity hs rows j⟩:=by
 constructor
 ·intro h
  simp only[fam,List.mem_cons,List.not_mem_nil,or_false] at h
  rcases h with h | h | h | h | h | h | h | h
  ·exact ⟨0,by omega,h⟩
  ·exact ⟨1,by omega,h⟩
  ·exact ⟨2,by omega,h⟩
  ·exact ⟨3,by omega,h⟩
  ·exact ⟨4,by omega,h⟩
  ·exact ⟨5,by omega,h⟩
  ·exact ⟨6,by omega,h⟩
  ·exact ⟨7,by omega,h⟩
 ·rintro ⟨j,hj,rfl⟩
  match j,hj with
  | 0,_=>simp[fam]
  | 1,_=>simp[fam]
  | 2,_=>simp[fam]
  | 3,_=>simp[fam]
  | 4,_=>simp[fam]
  | 5,_=>simp[fam]
  | 6,_=>simp[fam]
  | 7,_=>simp[fam]
class V4 (N M:i1):Prop where
 mem:∀e∈N,e∈M
instance {M:i1}:V4 [] M:=⟨fun _ h=>by cases h⟩
instance {N M:i1} {t:Nat} {ct:t9} {dep:List Nat} [hl:q7 M t ct dep] [hs:V4 N M]:V4 (⟨t,dep,ct⟩::N) M:=⟨fun e he=>by
 rcases List.mem_cons.1 he with rfl | he
 ·exact hl.mem
 ·exact hs.mem e he⟩
def EA:i1->Nat->Option CE
 | [],_=>none
 | e::r,t=>bif Nat.beq e.t t then some e else EA r t
def O0 (N:i1) (M:i1):i1:=M.map fun e=>(EA N e.t).getD e
theorem QL:∀{N:i1} {t:Nat} {e:CE},EA N t=some e->e∈N/\e.t=t
 | x::N,t,e,h=>by
  simp only[EA] at h
  cases hb:Nat.beq x.t t with
  | true=>rw[hb] at h; simp only[cond_true,Option.some.injEq] at h; subst h; exact ⟨List.mem_cons_self,Nat.eq_of_beq_eq_true hb⟩
  | false=>rw[hb] at h; exact ⟨List.mem_cons_of_mem _ (QL h).1,(QL h).2⟩
theorem fQ:∀{N:i1} {t:Nat},EA N t=none->t∉tags N
 | [],_,_=>fun h=>by cases h
 | x::N,t,h=>by
  simp only[EA] at h
  cases hb:Nat.beq x.t t with
  | true=>rw[hb] at h; cases h
  | false =>
   rw[hb] at h
   intro hm
   rcases List.mem_cons.1 hm with hm | hm
   ·exact Nat.ne_of_beq_eq_false hb hm.symm
   ·exact fQ h hm
theorem KL {N M:i1} {e:CE} (h:e∈O0 N M):e∈N\/(e∈M/\e.t∉tags N):=by
 obtain ⟨x,hx,rfl⟩:=List.mem_map.1 h
 cases hg:EA N x.t with
 | none=>exact .inr ⟨hx,fQ hg⟩
 | some y=>exact .inl (QL hg).1
theorem AA {N M:i1}:tags (O0 N M)=tags M:=by
 unfold O0 tags
 rw[List.map_map]
 refine List.map_congr_left fun e _=>?_
 show ((EA N e.t).getD e).t=e.t
 cases hg:EA N e.t with
 | none=>rfl
 | some y=>exact (QL hg).2
def BS (T:List Nat):i1->i1
 | []=>[]
 | e::r=>bif T.any (Nat.beq e.t) then BS T r else e::BS T r
theorem AS {T:List Nat}:∀{M:i1} {e:CE},e∈BS T M↔e∈M/\e.t∉T
 | [],e=>by simp[BS]
 | x::M,e=>by
  simp only[BS]
  cases hb:T.any (Nat.beq x.t) with
  | true =>
   simp only[cond_true]
   have hx:x.t∈T:=by obtain ⟨y,hy,he⟩:=List.any_eq_true.1 hb; rw[Nat.eq_of_beq_eq_true he]; exact hy
   rw[AS]
   constructor
   ·rintro ⟨h1,h2⟩; exact ⟨List.mem_cons_of_mem _ h1,h2⟩
   ·rintro ⟨h1,h2⟩
    rcases List.mem_cons.1 h1 with rfl | h1
    ·exact absurd hx h2
    ·exact ⟨h1,h2⟩
  | false =>
   simp only[cond_false]
   have hx:x.t∉T:=fun h=>by rw[List.any_eq_true.2 ⟨x.t,h,Nat.beq_refl _⟩] at hb; cases hb
   rw[List.mem_cons,AS,List.mem_cons]
   constructor
   ·rintro (rfl | ⟨h1,h2⟩)
    ·exact ⟨.inl rfl,hx⟩
    ·exact ⟨.inr h1,h2⟩
   ·rintro ⟨rfl | h1,h2⟩
    ·exact .inl rfl
    ·exact .inr ⟨h1,h2⟩
theorem PP {T:List Nat}:∀{M:i1},(tags (BS T M)).Sublist (tags M)
 | []=>List.Sublist.refl _
 | x::M=>by
  simp only[BS]
  cases T.any (Nat.beq x.t) with
  | true=>exact List.Sublist.cons _ PP
  | false=>exact List.Sublist.cons_cons _ PP
def HF (T:List Nat) (S:i4):i4:=S.map fun e=>bif e.dep.any (fun d=>T.any (Nat.beq d)) then ⟨e.s,e.b,[],X6⟩ else e
theorem UH {l T:List Nat} (h:l.any (fun d=>T.any (Nat.beq d))=false):∀d∈l,d∉T:=fun d hd ht=>by
 have:l.any (fun d=>T.any (Nat.beq d))=true:=List.any_eq_true.2 ⟨d,hd,List.any_eq_true.2 ⟨d,ht,Nat.beq_refl d⟩⟩
 rw[h] at this; cases this
theorem QR {T:List Nat}:∀{S:i4} {t:Nat} {b:Bool} {k:d7},look (HF T S) t=some (b,k)->∃k0,look S t=some (b,k0)/\(k=X6\/(k=k0/\∃e∈S,e.k=k/\∀d∈e.dep,d∉T))
 | e::S,t,b,k,h=>by
  simp only[HF,List.map_cons,look] at h ⊢
  cases hd:e.dep.any (fun d=>T.any (Nat.beq d)) with
  | true =>
   rw[hd] at h
   simp only[cond_true] at h
   cases hb:Nat.beq e.s t with
   | true=>rw[hb] at h; simp only[cond_true,Option.some.injEq,Prod.mk.injEq] at h ⊢; exact ⟨e.k,⟨h.1,rfl⟩,.inl h.2.symm⟩
   | false =>
    rw[hb] at h
    obtain ⟨k0,h1,h2⟩:=QR (S:=S) h
    exact ⟨k0,h1,h2.imp id fun ⟨h3,x,hx,h4⟩=>⟨h3,x,List.mem_cons_of_mem _ hx,h4⟩⟩
  | false =>
   rw[hd] at h
   simp only[cond_false] at h
   cases hb:Nat.beq e.s t with
   | true =>
    rw[hb] at h
    simp only[cond_true,Option.some.injEq,Prod.mk.injEq] at h ⊢
    exact ⟨e.k,⟨h.1,rfl⟩,.inr ⟨h.2.symm,e,List.mem_cons_self,h.2,UH hd⟩⟩
   | false =>
    rw[hb] at h
    obtain ⟨k0,h1,h2⟩:=QR (S:=S) h
    exact ⟨k0,h1,h2.imp id fun ⟨h3,x,hx,h4⟩=>⟨h3,x,List.mem_cons_of_mem _ hx,h4⟩⟩
theorem fZ {T:List Nat} {S:i4} {e:SE} (h:e∈HF T S):(e∈S/\∀d∈e.dep,d∉T)\/(e.dep=[]/\e.k=X6):=by
 obtain ⟨x,hx,rfl⟩:=List.mem_map.1 h
 cases hd:x.dep.any (fun d=>T.any (Nat.beq d)) with
 | true=>exact .inr ⟨rfl,rfl⟩
 | false=>exact .inl ⟨hx,UH hd⟩
def NB (T:List Nat) (M:i1):Bool:=M.all fun e=>!(e.dep.any fun d=>T.any (Nat.beq d))
theorem iW {T:List Nat} {M:i1} (h:NB T M=true):∀e∈M,∀d∈e.dep,d∉T:=fun e he=>by
 have:=List.all_eq_true.1 h e he
 simp only[Bool.not_eq_true'] at this
 exact UH this
def JT (t i len:Nat):d7:=fun g v=>i<8/\o9 (t+i) len g v
instance {t i len:Nat}:o5 (JT t i len) (H8 t):=⟨fun hl hd ⟨h1,h2⟩=>⟨h1,(inferInstance:o5 (o9 (t+i) len) [t+i]).dep hl (fun q hq=>hd q (by simp only[List.mem_singleton] at hq; subst hq; exact HI.2 ⟨i,h1,rfl⟩)) h2⟩⟩
def JQ (t i sz j len:Nat):d7:=fun g v=>i<8/\DF (t+i) sz j len g v
instance {t i sz j len:Nat}:o5 (JQ t i sz j len) (H8 t):=⟨fun hl hd ⟨h1,h2⟩=>⟨h1,(inferInstance:o5 (DF (t+i) sz j len) [t+i]).dep hl (fun q hq=>hd q (by simp only[List.mem_singleton] at hq; subst hq; exact HI.2 ⟨i,h1,rfl⟩)) h2⟩⟩
end Go.Fl

/- Rows of rows that change in place: laws. -/
namespace Go.Fl
open Go Go.RowKit
def MD (l m:List Nat):Bool:=l.all fun q=>!(m.any (Nat.beq q))
theorem dZ {l m:List Nat} (h:MD l m=true):∀q∈l,q∉m:=fun q hq hm=>by
 have:=List.all_eq_true.1 h q hq
 rw[List.any_eq_true.2 ⟨q,hm,Nat.beq_refl q⟩] at this; cases this
section
variable {c:n6} {S:i4} {M:i1} {a:Act} {g:Gh} {w:World}
theorem l8.fam (h:l8 c S M a g w) (t:Nat) (ity:TypeId) {hs:List Value} {rows:List (List Int)} (hz:∀j,j<hs.length->b6 hs j=.slice none 0 0/\b6 rows j=[]) (hf:MD (H8 t) (tags M)=true) :
  ∃g',l8 c S (Fl.fam t ity hs rows++M) a g' w:=by
 have hdis:=dZ hf
 let g':Gh:=⟨g.J,fun q=>if q∈H8 t then some .nil else g.M q⟩
 have hold:∀q,q∈tags M->g'.M q=g.M q:=fun q hq=>if_neg fun hd=>hdis q hd hq
 have hblk:∀q b cap,g'.M q=some (.blk b cap)->g.M q=some (.blk b cap):=fun q b cap hq=>by
  simp only[g'] at hq
  by_cases e:q∈H8 t
  ·rw[if_pos e] at hq; cases hq
  ·rw[if_neg e] at hq; exact hq
 refine ⟨g',⟨h.ok.bel,h.ok.jle,h.ok.jold,h.ok.im,fun q b cap hq=>h.ok.own q b cap (hblk _ _ _ hq),fun q q' b c1 c2 h1 h2=>h.ok.inj q q' b c1 c2 (hblk _ _ _ h1) (hblk _ _ _ h2)⟩,?_,?_,?_,?_,?_,?_,h.defers,h.size⟩
 ·intro q b k hk
  obtain ⟨e,he,_,_,rfl⟩:=ED hk
  obtain ⟨h1,h2⟩:=h.slots q b _ hk
  exact ⟨fun hb=>(h.sdep e he).1.dep (g:=g) (g':=g') (JV.le_refl _) (fun q hq=>hold q ((h.sdep e he).2 q hq)) (h1 hb),h2⟩
 ·intro e he
  rcases List.mem_append.1 he with he | he
  ·obtain ⟨j,hj,rfl⟩:=FT.1 he
   refine ⟨.nil,if_pos (HI.2 ⟨j,hj,rfl⟩),fun hl=>?_,fun _=>rfl⟩
   obtain ⟨e1,e2⟩:=hz j hl
   rw[e1,e2]
   exact ⟨⟨rfl,rfl⟩,rfl,rfl⟩
  ·obtain ⟨b,h1,h2⟩:=h.conts e he
   exact ⟨b,(hold _ (List.mem_map.2 ⟨e,he,rfl⟩)).trans h1,(h.cdep e he).1.dep (g:=g) (g':=g') (JV.le_refl _) (fun q hq=>hold q ((h.cdep e he).2 q hq)) h2⟩
 ·intro q hq
  show q∈tags (Fl.fam t ity hs rows++M)
  simp only[tags,List.map_append]
  refine List.mem_append.2 ?_
  by_cases e:q∈H8 t
  ·exact .inl e
  ·simp only[g',if_neg e] at hq; exact .inr (h.dom q hq)
 ·show (tags (Fl.fam t ity hs rows++M)).Nodup
  simp only[tags,List.map_append]
  refine List.nodup_append.2 ⟨?_,h.nodup,fun x hx y hy e=>hdis x hx (e▸hy)⟩
  simp
 ·intro e he
  exact ⟨(h.sdep e he).1,fun q hq=>by
   have:=(h.sdep e he).2 q hq
   simp only[List.map_append]
   exact List.mem_append.2 (.inr this)⟩
 ·intro e he
  rcases List.mem_append.1 he with he | he
  ·obtain ⟨j,hj,rfl⟩:=FT.1 he
   exact ⟨inferInstance,fun _ h=>by cases h⟩
  ·exact ⟨(h.cdep e he).1,fun q hq=>by
    have:=(h.cdep e he).2 q hq
    simp only[List.map_append]
    exact List.mem_append.2 (.inr this)⟩
theorem l8.add (h:l8 c S M a g w) {s:Nat} {k:d7} {dep:List Nat} (hk:o5 k dep) (hd:∀q∈dep,q∈tags M) (hv:k g (a.tmps.getD s undef)):l8 c (⟨s,true,dep,k⟩::S) M a g w:=by
 refine ⟨h.ok,?_,h.conts,h.dom,h.nodup,?_,h.cdep,h.defers,h.size⟩
 ·intro q b k' hl
  simp only[look] at hl
  cases hb:Nat.beq s q with
  | true =>
   rw[hb] at hl
   simp only[cond_true,Option.some.injEq,Prod.mk.injEq] at hl
   obtain ⟨rfl,rfl⟩:=hl
   rw[<- Nat.eq_of_beq_eq_true hb]
   exact ⟨fun _=>hv,fun hf=>by cases hf⟩
  | false=>rw[hb] at hl; exact h.slots q b k' hl
 ·intro e he
  rcases List.mem_cons.1 he with rfl | he
  ·exact ⟨hk,hd⟩
  ·exact h.sdep e he
theorem l8.put (h:l8 c S M a g w) {N:i1} (hN:∀e∈N,∃b,g.M e.t=some b/\e.c g b (World.objAt w b)) (hd:∀e∈N,B4 e.c e.dep/\∀q∈e.dep,q∈tags M):l8 c S (O0 N M) a g w:=by
 refine ⟨h.ok,h.slots,fun e he=>?_,fun q hq=>?_,?_,fun e he=>?_,fun e he=>?_,h.defers,h.size⟩
 ·rcases KL he with he | ⟨he,_⟩
  ·exact hN e he
  ·exact h.conts e he
 ·show q∈tags (O0 N M); rw[AA]; exact h.dom q hq
 ·show (tags (O0 N M)).Nodup; rw[AA]; exact h.nodup
 ·exact ⟨(h.sdep e he).1,fun q hq=>by show q∈tags (O0 N M); rw[AA]; exact (h.sdep e he).2 q hq⟩
 ·rcases KL he with he | ⟨he,_⟩
  ·exact ⟨(hd e he).1,fun q hq=>by show q∈tags (O0 N M); rw[AA]; exact (hd e he).2 q hq⟩
  ·exact ⟨(h.cdep e he).1,fun q hq=>by show q∈tags (O0 N M); rw[AA]; exact (h.cdep e he).2 q hq⟩
theorem vT {r n:Nat} {v:Value} (h:o9 r n g v) {bk:Bk} (hb:g.M r=some bk):Z1 bk n v/\v.oneCell'=true:=by
 rcases h with ⟨h1,h2,h3⟩ | ⟨b,cap,h1,h2⟩
 ·rw[hb] at h1; cases h1; subst h3; exact ⟨⟨rfl,h2⟩,rfl⟩
 ·rw[hb] at h1; cases h1; subst h2; exact ⟨rfl,rfl⟩
theorem zF {r n:Nat} {v:Value} {bk:Bk} (hb:g.M r=some bk) (h:Z1 bk n v):o9 r n g v:=by
 cases bk with
 | nil=>exact .inl ⟨hb,h.2,h.1⟩
 | blk b cap=>exact .inr ⟨b,cap,hb,h⟩
theorem l8.raw (h:l8 c S M a g w) {s r n:Nat} {ct:t9} {dep:List Nat} (hl:look S s=some (true,o9 r n)) (hm:q7 M r ct dep):l8 c (⟨s,true,[],b8 Q5 (a.tmps.getD s undef)⟩::S) (O0 [⟨r,dep,FF (a.tmps.getD s undef) n ct⟩] M) a g w:=by
 obtain ⟨bk,h1,h2⟩:=h.conts _ hm.mem
 simp only at h1 h2
 obtain ⟨h3,h4⟩:=vT ((h.slots s _ _ hl).1 rfl) h1
 have hc:=h.cdep _ hm.mem
 have:=h.put (N:=[⟨r,dep,FF (a.tmps.getD s undef) n ct⟩]) (fun e he=>by rw[List.mem_singleton.1 he]; exact ⟨bk,h1,h3,h2⟩) (fun e he=>by
  rw[List.mem_singleton.1 he]
  have:=hc.1
  exact ⟨inferInstance,hc.2⟩)
 exact this.add inferInstance (fun _ h=>by cases h) (jW.2 ⟨rfl,h4⟩)
theorem JK {t:Nat} {ity:TypeId} {hs:List Value} {rows:List (List Int)} (hsub:V4 (Fl.fam t ity hs rows) M) (hc:F7 M g w) {j:Nat} (hj:j<8):∃bk,g.M (t+j)=some bk/\s9 ity hs rows j g bk (World.objAt w bk):=by
 obtain ⟨bk,h1,h2⟩:=hc _ (hsub.mem _ (FT.2 ⟨j,hj,rfl⟩))
 exact ⟨bk,h1,h2⟩
theorem vA {t:Nat} {ity:TypeId} {hs:List Value} {rows:List (List Int)} (hsub:V4 (Fl.fam t ity hs rows) M) (hc:F7 M g w) {j:Nat} (hj:j<8) (hn:hs.length<=j\/b6 rows j=[]):g.M (t+j)=some .nil:=by
 obtain ⟨bk,h1,h2,h3⟩:=JK hsub hc hj
 by_cases q:j<hs.length
 ·rcases hn with hn | hn
  ·omega
  ·obtain ⟨_,h4⟩:=h2 q
   cases bk with
   | nil=>exact h1
   | blk b cap=>exact absurd (by rw[hn]; rfl) (h4.2.1 rfl)
 ·rw[h1,h3 zo]
theorem aW {z z':Bool} {ty:TypeId} {α:Type} {e:i8 α} {xs:List α} {n:Nat} {g g':Gh} {bk:Bk} {o:Option Obj} (hJ:g'.J=g.J) (h:l5 z ty e xs n g bk o) (hz:z'=true->n≠0\/bk=.nil):l5 z' ty e xs n g' bk o:=by
 refine ⟨h.1,?_⟩
 cases bk with
 | nil=>exact h.2
 | blk b cap =>
  obtain ⟨h1,h2⟩:=h.2
  refine ⟨fun hh=>(hz hh).resolve_right (by simp),?_⟩
  rw[hJ]; exact h2
theorem l8.ren (h:l8 c S M a g w) {r t n k:Nat} {v:Value} {z:Bool} {ity:TypeId} {xs:List Int} {hs hs':List Value} {rows rows':List (List Int)} (hm:q7 M r (FF v n (l5 z ity eI xs n)) []) (hsub:V4 (Fl.fam t ity hs rows) M) (hk:k<8) (hn0:0<n)
  (hnil:hs.length<=k\/b6 rows k=[]) (h1:k<hs'.length) (h2:b6 hs' k=v) (h3:b6 rows' k=xs) (h4:∀j,j≠k->(j<hs'.length->j<hs.length/\b6 hs' j=b6 hs j/\b6 rows' j=b6 rows j)/\(hs'.length<=j->hs.length<=j))
  (hr:MD [r] (H8 t)=true) (hoff:NB (r::H8 t) M=true):∃g',l8 c (HF (r::H8 t) S) (BS [r] (O0 (Fl.fam t ity hs' rows') M)) a g' w:=by
 have hrt:r∉H8 t:=dZ hr r (by simp)
 obtain ⟨br,b1,b2,b3⟩:=h.conts _ hm.mem
 simp only at b1
 have hv:=vA hsub h.conts hk hnil
 have hkm:t+k∈H8 t:=HI.2 ⟨k,hk,rfl⟩
 have hrk:r≠t+k:=fun e=>hrt (e▸hkm)
 let g':Gh:=⟨g.J,fun q=>if q=r then none else if q=t+k then some br else g.M q⟩
 have gv:g'.M (t+k)=some br:=by simp only[g',if_neg (Ne.symm hrk),if_true]
 have gr:g'.M r=none:=by simp only[g',if_true]
 have go:∀q,q≠r->q≠t+k->g'.M q=g.M q:=fun q q1 q2=>by simp only[g',if_neg q1,if_neg q2]
 have hoffS:=iW hoff
 have src:∀q b cap,g'.M q=some (.blk b cap)->∃q0,g.M q0=some (.blk b cap)/\q0≠t+k/\((q=t+k/\q0=r)\/(q≠t+k/\q0=q/\q≠r)):=fun q b cap hq=>by
  by_cases e1:q=t+k
  ·subst e1; rw[gv] at hq; cases hq; exact ⟨r,b1,hrk,.inl ⟨rfl,rfl⟩⟩
  ·by_cases e2:q=r
   ·subst e2; rw[gr] at hq; cases hq
   ·rw[go q e2 e1] at hq; exact ⟨q,hq,e1,.inr ⟨e1,rfl,e2⟩⟩
 have hxl:xs.length=n:=b3.1
 refine ⟨g',⟨h.ok.bel,h.ok.jle,h.ok.jold,h.ok.im,fun q b cap hq=>by obtain ⟨q0,e,_⟩:=src q b cap hq; exact h.ok.own q0 b cap e,fun q q' b c1 c2 e1 e2=>?_⟩,?_,?_,?_,?_,?_,?_,h.defers,h.size⟩
 ·obtain ⟨q0,f1,f2,f3⟩:=src q b c1 e1
  obtain ⟨q1,f4,f5,f6⟩:=src q' b c2 e2
  have:=h.ok.inj _ _ _ _ _ f1 f4
  subst this
  rcases f3 with ⟨rfl,f3⟩ | ⟨f3,f7,f8⟩<;>rcases f6 with ⟨rfl,f6⟩ | ⟨f6,f9,f10⟩
  ·rfl
  ·exact absurd (f9.symm.trans f3) f10
  ·exact absurd (f7.symm.trans f6) f8
  ·exact f7.symm.trans f9
 ·intro q b k' hl
  obtain ⟨k0,f1,f2⟩:=QR hl
  obtain ⟨f3,f4⟩:=h.slots q b k0 f1
  refine ⟨fun hb=>?_,f4⟩
  rcases f2 with rfl | ⟨rfl,e,he,rfl,hnu⟩
  ·trivial
  ·exact (h.sdep e he).1.dep (g:=g) (g':=g') (JV.le_refl _) (fun q hq=>go q (fun e'=>hnu q hq (e'▸List.mem_cons_self)) (fun e'=>hnu q hq (e'▸List.mem_cons_of_mem _ hkm))) (f3 hb)
 ·intro e he
  obtain ⟨he,hne⟩:=AS.1 he
  simp only[List.mem_singleton] at hne
  rcases KL he with he | ⟨he,hnt⟩
  ·obtain ⟨j,hj,rfl⟩:=FT.1 he
   by_cases ej:j=k
   ·subst ej
    refine ⟨br,gv,fun _=>?_,fun hh=>by omega⟩
    rw[h2,h3,hxl]
    exact ⟨b2,aW (g:=g) rfl b3 (fun _=>.inl zo)⟩
   ·obtain ⟨bk,f1,f2,f3⟩:=JK hsub h.conts hj
    obtain ⟨g1,g2⟩:=h4 j ej
    refine ⟨bk,(go _ hne (by show t+j≠t+k; omega)).trans f1,fun hl=>?_,fun hl=>f3 (g2 hl)⟩
    obtain ⟨q1,q2,q3⟩:=g1 hl
    rw[q2,q3]
    obtain ⟨p1,p2⟩:=f2 q1
    exact ⟨p1,aW (g:=g) rfl p2 (fun hh=>by
     cases bk with
     | nil=>exact .inr rfl
     | blk b cap=>exact .inl (p2.2.1 rfl))⟩
  ·obtain ⟨bk,f1,f2⟩:=h.conts e he
   have hnt:e.t∉H8 t:=hnt
   refine ⟨bk,(go _ hne (fun e'=>hnt (e'▸hkm))).trans f1,?_⟩
   exact (h.cdep e he).1.dep (g:=g) (g':=g') (JV.le_refl _) (fun q hq=>go q (fun e'=>hoffS e he q hq (e'▸List.mem_cons_self)) (fun e'=>hoffS e he q hq (e'▸List.mem_cons_of_mem _ hkm))) f2
 ·intro q hq
  obtain ⟨e,he,rfl⟩:∃e∈O0 (Fl.fam t ity hs' rows') M,e.t=q:=by
   have:q∈tags M:=by
    by_cases e1:q=t+k
    ·rw[e1]; exact h.dom _ (by rw[hv]; simp)
    ·by_cases e2:q=r
     ·rw[e2,gr] at hq; exact absurd rfl hq
     ·rw[go q e2 e1] at hq; exact h.dom q hq
   rw[<- AA (N:=Fl.fam t ity hs' rows')] at this
   exact List.mem_map.1 this
  refine List.mem_map.2 ⟨e,AS.2 ⟨he,fun hh=>?_⟩,rfl⟩
  rw[List.mem_singleton.1 hh,gr] at hq; exact hq rfl
 ·exact List.Nodup.sublist PP (by rw[AA]; exact h.nodup)
 ·intro e he
  rcases fZ he with ⟨f1,f2⟩ | ⟨f1,f2⟩
  ·refine ⟨(h.sdep e f1).1,fun q hq=>?_⟩
   have:=(h.sdep e f1).2 q hq
   have:q∈tags M:=this
   rw[<- AA (N:=Fl.fam t ity hs' rows')] at this
   obtain ⟨x,hx,rfl⟩:=List.mem_map.1 this
   exact List.mem_map.2 ⟨x,AS.2 ⟨hx,fun hh=>f2 _ hq (by rw[List.mem_singleton.1 hh]; exact List.mem_cons_self)⟩,rfl⟩
  ·rw[f1,f2]; exact ⟨inferInstance,fun _ h=>by cases h⟩
 ·intro e he
  obtain ⟨he,hne⟩:=AS.1 he
  rcases KL he with he | ⟨he,hnt⟩
  ·obtain ⟨j,hj,rfl⟩:=FT.1 he
   exact ⟨inferInstance,fun _ h=>by cases h⟩
  ·refine ⟨(h.cdep e he).1,fun q hq=>?_⟩
   have:q∈tags M:=(h.cdep e he).2 q hq
   rw[<- AA (N:=Fl.fam t ity hs' rows')] at this
   obtain ⟨x,hx,rfl⟩:=List.mem_map.1 this
   exact List.mem_map.2 ⟨x,AS.2 ⟨hx,fun hh=>hoffS e he _ hq (by rw[List.mem_singleton.1 hh]; exact List.mem_cons_self)⟩,rfl⟩
theorem l8.asRow (h:l8 c S M a g w) {s t i:Nat} {ity:TypeId} {hs:List Value} {rows:List (List Int)} (hl:look S s=some (true,b8 Q5 (b6 hs i))) (hsub:V4 (Fl.fam t ity hs rows) M) (hi:i<hs.length) (h8:i<8):l8 c (⟨s,true,H8 t,JT t i (b6 rows i).length⟩::S) M a g w:=by
 obtain ⟨bk,f1,f2,_⟩:=JK hsub h.conts h8
 have hv:=jW.1 ((h.slots s _ _ hl).1 rfl)
 refine h.add inferInstance (fun q hq=>?_) ⟨h8,?_⟩
 ·obtain ⟨j,hj,rfl⟩:=HI.1 hq
  exact List.mem_map.2 ⟨_,hsub.mem _ (FT.2 ⟨j,hj,rfl⟩),rfl⟩
 ·rw[hv.1]; exact zF f1 (f2 hi).1
end
section
variable {P:Program} {c:n6} {ops:Array Oper} {S:i4} {M:i1} {rest:List Oper} {Q:Exit->Act->World->Prop} {x:Code}
theorem Tr.fam (t:Nat) (ity:TypeId) {hs:List Value} {rows:List (List Int)} (hz:∀j,j<hs.length->b6 hs j=.slice none 0 0/\b6 rows j=[]) (hf:MD (H8 t) (tags M)=true) (K:Tr P c S (Fl.fam t ity hs rows++M) x Q):Tr P c S M x Q:=fun a _ w hs=>let ⟨g',h'⟩:=hs.fam t ity hz hf; K a g' w h'
theorem d5.raw (s r:Nat) {n:Nat} {ct:t9} {dep:List Nat} (hl:look S s=some (true,o9 r n)) [hm:q7 M r ct dep] (K:∀v,d5 P c ops (⟨s,true,[],b8 Q5 v⟩::S) (O0 [⟨r,dep,FF v n ct⟩] M) rest Q):d5 P c ops S M rest Q:=fun a g w hs=>K _ a g w (hs.raw hl hm)
theorem d5.ren (r t k:Nat) (hs':List Value) (rows':List (List Int)) {n:Nat} {v:Value} {z:Bool} {ity:TypeId} {xs:List Int} {hs:List Value} {rows:List (List Int)} [hm:q7 M r (FF v n (l5 z ity eI xs n)) []] (_hfam:q7 M t (s9 ity hs rows 0) []) [hsub:V4 (Fl.fam t ity hs rows) M] (hk:k<8) (hn0:0<n)
  (hnil:hs.length<=k\/b6 rows k=[]) (h1:k<hs'.length) (h2:b6 hs' k=v) (h3:b6 rows' k=xs) (h4:∀j,j≠k->(j<hs'.length->j<hs.length/\b6 hs' j=b6 hs j/\b6 rows' j=b6 rows j)/\(hs'.length<=j->hs.length<=j))
  (hr:MD [r] (H8 t)=true) (hoff:NB (r::H8 t) M=true) (K:d5 P c ops (HF (r::H8 t) S) (BS [r] (O0 (Fl.fam t ity hs' rows') M)) rest Q):d5 P c ops S M rest Q:=fun a _ w hs=>let ⟨g',h'⟩:=hs.ren hm hsub hk hn0 hnil h1 h2 h3 h4 hr hoff; K a g' w h'
theorem d5.asRow (s t:Nat) {i:Nat} {ity:TypeId} {hs:List Value} {rows:List (List Int)} (hl:look S s=some (true,b8 Q5 (b6 hs i))) (_hfam:q7 M t (s9 ity hs rows 0) []) [hsub:V4 (Fl.fam t ity hs rows) M] (hi:i<hs.length) (h8:i<8) (K:d5 P c ops (⟨s,true,H8 t,JT t i (b6 rows i).length⟩::S) M rest Q):d5 P c ops S M rest Q:=fun a g w h=>K a g w (h.asRow hl hsub hi h8)
end
end Go.Fl

/- Rows of rows that change in place: elements, freezing. -/
namespace Go.Fl
open Go Go.RowKit
section
variable {P:Program} {c:n6} {S:i4} {M:i1} {p:Bool} {d:Option Tmp} {ty:TypeId} {pos:String} {af:Array Edge} {gd:Option (Nat×Bool)} {x y:Operand} {b b':Bool}
theorem RY {t et:TypeId} [ht:D1 P t et] {sz by':Nat} {zz:Value} [hz:p6 P et sz by' zz] {t0 k len:Nat} {ik:IntKind} {i:Int} (hx:j2 S x=some (b,JT t0 k len)) (hb:p=true->b=true) (hy:j2 S y=some (b',z9 ik i)) (hb':p=true->b'=true)
  (h:p=true->0<=i/\i<len):l4 P c S M ⟨d,.indexAddr t x y,ty,pos,af,gd⟩ p (JQ t0 k sz i.toNat len) none :=
 l4.pure fun hp a g w _ _ ho=>by
  have hi:a.eval y=_:=ho y (by simp[Op.operands]) b' _ hy (hb' hp)
  have hlt:=h hp
  obtain ⟨h8,hr⟩:=ho x (by simp[Op.operands]) b _ hx (hb hp)
  rcases hr with ⟨_,h0,_⟩ | ⟨bk,cap,h1,h2⟩
  ·omega
  ·exact ⟨.pointer (some ⟨bk,0+i.toNat*sz,none⟩),by simp only[execOp,h2,hi,Sem.run_bind,JN (P:=P) hlt,Result.andThen_ok,Sem.run_pure],h8,by omega,bk,cap,h1,by simp⟩
theorem YD {t et:TypeId} [ht:D1 P t et] {sz by':Nat} {zz:Value} [hz:p6 P et sz by' zz] {t0 k len:Nat} {ik:IntKind} {i:Nat} (hx:j2 S x=some (b,JT t0 k len)) (hb:p=true->b=true) (hy:j2 S y=some (b',z9 ik (i:Int))) (hb':p=true->b'=true)
  (h:p=true->i<len):l4 P c S M ⟨d,.indexAddr t x y,ty,pos,af,gd⟩ p (JQ t0 k sz i len) none :=
 RY (i:=(i:Int)) hx hb hy hb' (fun hp=>by have:=h hp; omega)
theorem WD {g:Gh} {w:World} {t:Nat} {ity:TypeId} {hs:List Value} {rows:List (List Int)} (hsub:V4 (Fl.fam t ity hs rows) M) (hc:F7 M g w) {j b cap:Nat} (hj:j<8) (hb:g.M (t+j)=some (.blk b cap)) :
  j<hs.length/\b6 hs j=.slice (some ⟨b,0,none⟩) (b6 rows j).length cap/\(b6 rows j).length≠0/\∃cs:Array Value,w.heap[b]?=some (.cells cs ity (0,0))/\cs.size=cap*1/\(b6 rows j).length<=cap/\cap<=maxLen/\∀i x,(b6 rows j)[i]?=some x->∃ds,eI.rd g.J ds x/\∀q v,ds[q]?=some v->cs[i*1+q]?=some v:=by
 obtain ⟨bk,h1,h2,h3⟩:=JK hsub hc hj
 rw[hb] at h1; cases h1
 have hl:j<hs.length:=Nat.lt_of_not_le fun q=>by cases h3 q
 obtain ⟨h4,h5,h6,cs,h7⟩:=h2 hl
 exact ⟨hl,h4,h6 rfl,cs,h7⟩
theorem SA {t:TypeId} [ht:F4 P t] {ity:TypeId} {hs:List Value} {rows:List (List Int)} {t0 k j len:Nat} (_hfam:q7 M t0 (s9 ity hs rows 0) []) [hsub:V4 (Fl.fam t0 ity hs rows) M] (hx:j2 S x=some (b,JQ t0 k 1 j len)) (hb:p=true->b=true)
  (hj:p=true->j<(b6 rows k).length):l4 P c S M ⟨d,.load t x,ty,pos,af,gd⟩ p (kI (b6 (b6 rows k) j)) none :=
 l4.pure fun hp a g w hok hc ho=>by
  obtain ⟨h8,hlt,bl,cap,h1,h2⟩:=ho x (by simp[Op.operands]) b _ hx (hb hp)
  obtain ⟨_,_,_,cs,h3,_,_,_,h5⟩:=WD hsub hc h8 h1
  obtain ⟨ds,k1,k2⟩:=h5 j _ (H1 (hj hp))
  have k1:ds=[.int .i64 (b6 (b6 rows k) j)]:=k1
  subst k1
  have hc:=k2 0 _ rfl
  have hcell:w.cell? ⟨bl,j*1,none⟩=some (.int .i64 (b6 (b6 rows k) j)):=M7 h3 (by simpa using hc)
  exact ⟨_,by simp only[execOp,h2,Sem.run_bind,NK (P:=P) (t:=t) hcell,Result.andThen_ok,Sem.run_pure],rfl⟩
end
section
variable {c:n6} {S:i4} {M:i1} {a:Act} {g:Gh} {w:World}
theorem l8.setR (h:l8 c S M a g w) {t k j:Nat} {ity:TypeId} {hs:List Value} {rows:List (List Int)} (hsub:V4 (Fl.fam t ity hs rows) M) (hk:k<8) {b cap:Nat} (hb:g.M (t+k)=some (.blk b cap)) (hj:j<(b6 rows k).length) (hrl:k<rows.length) {z:Int} {cs:Array Value} (hcs:w.heap[b]?=some (.cells cs ity (0,0))) :
  l8 c S (O0 (Fl.fam t ity hs (rows.set k ((b6 rows k).set j z))) M) a g (w.setRow b (cs.setIfInBounds j (.int .i64 z))):=by
 obtain ⟨f1,f2,f3,cs',f4,f5,f6,f7,f8⟩:=WD hsub h.conts hk hb
 rw[hcs] at f4
 simp only[Option.some.injEq,Obj.cells.injEq,and_true] at f4
 subst f4
 obtain ⟨q1,q2,q3⟩:=h.ok.own _ _ _ hb
 have hother:∀q,q≠b->(w.setRow b (cs.setIfInBounds j (.int .i64 z))).heap[q]?=w.heap[q]?:=fun q hq=>setRow_other w b q _ hq
 have hrow:∀i,i≠k->b6 (rows.set k ((b6 rows k).set j z)) i=b6 rows i:=fun i hi=>by
  simp[b6,List.getElem?_set_ne (Ne.symm hi)]
 have hself:b6 (rows.set k ((b6 rows k).set j z)) k=(b6 rows k).set j z:=by simp[b6,hrl]
 have keep:∀bk q,g.M q=some bk->q≠t+k->World.objAt (w.setRow b (cs.setIfInBounds j (.int .i64 z))) bk=World.objAt w bk:=fun bk q hq hne=>by
  cases bk with
  | nil=>rfl
  | blk b2 cap2=>exact hother b2 (fun e=>by subst e; exact hne (h.ok.inj _ _ _ _ _ hq hb))
 refine ⟨⟨⟨h.ok.bel.os,h.ok.bel.tape,h.ok.bel.output,by simpa using h.ok.bel.size,fun q hq hnb=>?_,h.ok.bel.drawn⟩,h.ok.jle,h.ok.jold,fun b2 o v hv=>?_,fun q b2 cap2 hq=>?_,h.ok.inj⟩,h.slots,?_,?_,?_,?_,?_,h.defers.on fun D hD=>hother D (fun e=>by subst e; rw[hcs] at hD; cases hD),h.size⟩
 ·rw[hother q (fun e=>by subst e; rcases q1 with q1 | q1; omega; exact hnb q1)]
  exact h.ok.bel.block q hq hnb
 ·have:=h.ok.im b2 o v hv
  rw[World.cell?_of_block (w:=w) (hother b2 (fun e=>by subst e; rw[q3 o] at hv; cases hv))]
  exact this
 ·obtain ⟨h1,h2,h3⟩:=h.ok.own q b2 cap2 hq
  exact ⟨h1,by simpa using h2,h3⟩
 ·intro e he
  rcases KL he with he | ⟨he,hnt⟩
  ·obtain ⟨i,hi,rfl⟩:=FT.1 he
   by_cases ei:i=k
   ·subst ei
    refine ⟨_,hb,fun _=>?_,fun hh=>by omega⟩
    rw[hself,List.length_set]
    refine ⟨f2,by rw[List.length_set],fun _=>f3,cs.setIfInBounds j (.int .i64 z),by simp only[World.objAt]; exact setRow_heap w b cs _ ity (0,0) hcs,by show (cs.setIfInBounds j (.int .i64 z)).size=cap*1; simp; omega,f6,f7,fun q v hq=>?_⟩
    by_cases e:j=q
    ·subst e
     rw[List.getElem?_set_self hj] at hq
     simp only[Option.some.injEq] at hq
     subst hq
     refine ⟨_,rfl,fun r u hu=>?_⟩
     match r with
     | 0 =>
      simp at hu; subst hu
      have:j<cs.size:=by omega
      show (cs.setIfInBounds j (.int .i64 z))[j*1+0]?=_
      simp[this]
     | r+1=>simp at hu
    ·rw[List.getElem?_set_ne e] at hq
     obtain ⟨ds,k1,k2⟩:=f8 q v hq
     refine ⟨ds,k1,fun r u hu=>?_⟩
     have k1:ds=[.int .i64 v]:=k1
     subst k1
     match r with
     | 0 =>
      have:=k2 0 u hu
      show (cs.setIfInBounds j (.int .i64 z))[q*1+0]?=_
      rw[Array.getElem?_setIfInBounds_ne zo]
      exact this
     | r+1=>simp at hu
   ·obtain ⟨bk,g1,g2,g3⟩:=JK hsub h.conts hi
    refine ⟨bk,g1,fun hl=>?_,g3⟩
    rw[hrow i ei,keep bk _ g1 (by show t+i≠t+k; omega)]
    exact g2 hl
  ·obtain ⟨bk,g1,g2⟩:=h.conts e he
   refine ⟨bk,g1,?_⟩
   rw[keep bk _ g1 (fun e'=>hnt (by rw[e']; exact HI.2 ⟨k,hk,rfl⟩))]
   exact g2
 ·intro q hq
  show q∈tags (O0 _ M); rw[AA]; exact h.dom q hq
 ·show (tags (O0 _ M)).Nodup; rw[AA]; exact h.nodup
 ·intro e he
  exact ⟨(h.sdep e he).1,fun q hq=>by show q∈tags (O0 _ M); rw[AA]; exact (h.sdep e he).2 q hq⟩
 ·intro e he
  rcases KL he with he | ⟨he,_⟩
  ·obtain ⟨i,hi,rfl⟩:=FT.1 he
   exact ⟨inferInstance,fun _ h=>by cases h⟩
  ·exact ⟨(h.cdep e he).1,fun q hq=>by show q∈tags (O0 _ M); rw[AA]; exact (h.cdep e he).2 q hq⟩
end
section
variable {P:Program} {c:n6} {ops:Array Oper} {S:i4} {M:i1} {rest:List Oper} {Q:Exit->Act->World->Prop}
variable {ty:TypeId} {pos:String} {af:Array Edge} {x y:Operand}
theorem d5.stR {t:TypeId} {by':Nat} {zz:Value} [hz:p6 P t 1 by' zz] {ity:TypeId} {hs:List Value} {rows:List (List Int)} {t0 k j len:Nat} {z:Int} (_hfam:q7 M t0 (s9 ity hs rows 0) []) [hsub:V4 (Fl.fam t0 ity hs rows) M] (hx:j2 S x=some (true,JQ t0 k 1 j len)) (hy:j2 S y=some (true,kI z))
  (hj:j<(b6 rows k).length) (K:d5 P c ops S (O0 (Fl.fam t0 ity hs (rows.set k ((b6 rows k).set j z))) M) rest Q):d5 P c ops S M (⟨none,.store t x y,ty,pos,af,none⟩::rest) Q:=by
 intro a g w hsat
 obtain ⟨h8,hlt,b,cap,hm,he⟩:=C8 hsat.slots hx rfl
 have hv:a.eval y=.int .i64 z:=C8 hsat.slots hy rfl
 obtain ⟨f1,f2,f3,cs,f4,f5,f6,f7,f8⟩:=WD hsub hsat.conts h8 hm
 have hrl:k<rows.length:=Nat.lt_of_not_le fun q=>by rw[show b6 rows k=[] by simp[b6,List.getElem?_eq_none q]; rfl] at hj; exact absurd hj (Nat.not_lt_zero _)
 have hin:j<cs.size:=by omega
 have hr:=KR (P:=P) (t:=t) (o:=j*1) (v:=.int .i64 z) f4 rfl zo (fun u hu=>by simp[Value.cells] at hu; subst hu; rfl)
 refine wpList_plain rfl fun K' hK'=>?_
 unfold Oper.wp
 simp only[execOp,he,hv,Sem.run_bind,hr,Result.andThen_ok,Sem.run_pure,Oper.upon,Act.put]
 have e:(cs.toList.take (j*1)++(Value.int .i64 z).cells.toList++cs.toList.drop (j*1+1)).toArray=cs.setIfInBounds j (.int .i64 z):=by
  apply Array.ext'
  rw[Nat.mul_one]
  simp only[Array.toList_setIfInBounds,Value.cells,List.append_assoc]
  rw[List.set_eq_take_append_cons_drop,if_pos (by simpa using hin)]
  simp
 rw[e]
 exact hK' _ _ (K a g _ (hsat.setR hsub h8 hm hj hrl f4))
end
section
variable {P:Program} {ops:Array Oper} {S:i4} {M:i1} {rest:List Oper} {Q:Exit->Act->World->Prop} {x:Code}
variable {w0:World} {J0:JV} {n:Nat} {rd:Option Nat} {mrk:Bool} {om:List Nat}
theorem l8.frzM {a:Act} {g:Gh} {w:World} (h:l8 ⟨w0,J0,[],n,rd,mrk,om⟩ S M a g w) {s t u len:Nat} {z:Bool} {oty ity:TypeId} {hs:List Value} {rows:List (List Int)} (hl:look S s=some (true,o9 u len)) (hu:q7 M u (l5 z oty Q5 hs len) []) (hsub:V4 (Fl.fam t ity hs rows) M) (h8:hs.length<=8)
  (hr:rows.length=hs.length) (hlen:∀i,(b6 rows i).length<=p9) (hoff:NB (u::H8 t) M=true):∃g',l8 ⟨w0,J0,[],n,rd,mrk,om⟩ (⟨s,true,[],b8 (eL (eL eI)) rows⟩::HF (u::H8 t) S) (BS (u::H8 t) M) a g' w:=by
 classical
 let T:=u::H8 t
 let am:Nat->Prop:=fun b=>∃q∈T,∃cap,g.M q=some (.blk b cap)
 let J':JV:=fun b o=>if am b then w.cell? ⟨b,o,none⟩ else g.J b o
 let g':Gh:=⟨J',fun q=>if q∈T then none else g.M q⟩
 have hoffS:=iW hoff
 have gn:∀q,q∉T->g'.M q=g.M q:=fun q hq=>if_neg hq
 have gs:∀q b cap,g'.M q=some (.blk b cap)->q∉T/\g.M q=some (.blk b cap):=fun q b cap hq=>by
  simp only[g'] at hq
  by_cases e:q∈T
  ·rw[if_pos e] at hq; cases hq
  ·rw[if_neg e] at hq; exact ⟨e,hq⟩
 have hJ:g.J.le J':=fun b o v hv=>by
  have:¬am b:=fun ⟨q,_,cap,e⟩=>by rw[(h.ok.own q b cap e).2.2 o] at hv; cases hv
  show (if am b then _ else _)=_
  rw[if_neg this]; exact hv
 have inJ:∀{q b cap cs ty},q∈T->g.M q=some (.blk b cap)->w.heap[b]?=some (.cells cs ty (0,0))->∀o v,cs[o]?=some v->J' b o=some v:=fun {q b cap cs ty} hq e hh o v hv=>by
  show (if am b then _ else _)=_
  rw[if_pos ⟨q,hq,cap,e⟩]
  exact M7 hh hv
 have row:∀i,i<hs.length->(eL eI).rd J' [b6 hs i] (b6 rows i):=fun i hi=>by
  obtain ⟨bk,f1,f2,f3⟩:=JK hsub h.conts (show i<8 by omega)
  obtain ⟨f4,f5⟩:=f2 hi
  cases bk with
  | nil =>
   have e1:b6 hs i=.slice none 0 0:=f4.1
   have e2:(b6 rows i).length=0:=f4.2
   exact ⟨none,0,by rw[e1,e2],⟨hlen i,by omega⟩,.inl (List.eq_nil_of_length_eq_zero e2)⟩
  | blk b cap =>
   have e1:b6 hs i=.slice (some ⟨b,0,none⟩) (b6 rows i).length cap:=f4
   obtain ⟨_,_,cs,g1,g2,g3,g4,g5⟩:=f5
   refine ⟨_,_,by rw[e1],⟨hlen i,g3⟩,.inr ⟨b,0,rfl,fun j y hy=>?_⟩⟩
   obtain ⟨ds,k1,k2⟩:=g5 j y hy
   refine ⟨ds,k1,fun q v hq=>?_⟩
   have:=k2 q v hq
   exact inJ (List.mem_cons_of_mem _ (HI.2 ⟨i,by omega,rfl⟩)) f1 g1 _ v (by rw[Nat.zero_add]; exact this)
 refine ⟨g',⟨h.ok.bel,JV.le_trans h.ok.jle hJ,fun b o hlt=>?_,fun b o v hv=>?_,fun q b cap hq=>?_,fun q q' b c1 c2 e1 e2=>h.ok.inj q q' b c1 c2 (gs _ _ _ e1).2 (gs _ _ _ e2).2⟩,?_,?_,?_,?_,?_,?_,h.defers,h.size⟩
 ·show (if am b then _ else _)=_
  rw[if_neg fun ⟨q,_,cap,e⟩=>by
   rcases (h.ok.own q b cap e).1 with e | e
   ·exact absurd hlt (Nat.not_lt.2 e)
   ·cases e]
  exact h.ok.jold b o hlt
 ·have hv:(if am b then w.cell? ⟨b,o,none⟩ else g.J b o)=some v:=hv
  by_cases e:am b
  ·rw[if_pos e] at hv; exact hv
  ·rw[if_neg e] at hv; exact h.ok.im b o v hv
 ·obtain ⟨hne,hq⟩:=gs _ _ _ hq
  obtain ⟨q1,q2,q3⟩:=h.ok.own q b cap hq
  refine ⟨q1,q2,fun o=>?_⟩
  show (if am b then _ else _)=_
  rw[if_neg fun ⟨q',hq',cap',e⟩=>hne (by rw[h.ok.inj _ _ _ _ _ hq e]; exact hq')]
  exact q3 o
 ·intro q b k' hlk
  simp only[look] at hlk
  cases hb:Nat.beq s q with
  | true =>
   rw[hb] at hlk
   simp only[cond_true,Option.some.injEq,Prod.mk.injEq] at hlk
   obtain ⟨rfl,rfl⟩:=hlk
   rw[<- Nat.eq_of_beq_eq_true hb]
   refine ⟨fun _=>?_,fun hf=>by cases hf⟩
   have hk:=(h.slots s _ _ hl).1 rfl
   obtain ⟨bu,u1,u2,u3⟩:=h.conts _ hu.mem
   simp only at u1 u2 u3
   rcases hk with ⟨k1,k2,k3⟩ | ⟨bb,cap,k1,k2⟩
   ·have e0:rows=[]:=List.eq_nil_of_length_eq_zero zo
    refine ⟨[.slice none 0 0],⟨none,0,by rw[e0]; rfl,⟨by rw[e0]; exact Nat.zero_le _,by rw[e0]; exact Nat.zero_le _⟩,.inl e0⟩,k3⟩
   ·rw[k1] at u1; cases u1
    obtain ⟨_,cs,c1,c2,c3,c4,c5⟩:=u3
    have el:rows.length=len:=by omega
    refine ⟨[.slice (some ⟨bb,0,none⟩) rows.length cap],⟨_,_,rfl,⟨by simp only[p9]; omega,by omega⟩,.inr ⟨bb,0,rfl,fun i y hy=>?_⟩⟩,by rw[el]; exact k2⟩
    have hil:i<rows.length:=(List.getElem?_eq_some_iff.1 hy).1
    have ey:y=b6 rows i:=by simp[b6,hy]
    subst ey
    refine ⟨[b6 hs i],row i zo,fun q v hq=>?_⟩
    match q with
    | 0 =>
     simp at hq; subst hq
     obtain ⟨ds,d1,d2⟩:=c5 i (b6 hs i) (H1 zo)
     have d1:ds=[b6 hs i]:=d1.1
     subst d1
     have:=d2 0 _ rfl
     exact inJ List.mem_cons_self k1 c1 _ _ (by rw[Nat.zero_add]; exact this)
    | q+1=>simp at hq
  | false =>
   rw[hb] at hlk
   obtain ⟨k0,f1,f2⟩:=QR hlk
   obtain ⟨f3,f4⟩:=h.slots q b k0 f1
   refine ⟨fun hb=>?_,f4⟩
   rcases f2 with rfl | ⟨rfl,e,he,rfl,hnu⟩
   ·trivial
   ·exact (h.sdep e he).1.dep (g:=g) (g':=g') hJ (fun q hq=>gn q (hnu q hq)) (f3 hb)
 ·intro e he
  obtain ⟨he,hne⟩:=AS.1 he
  obtain ⟨bk,f1,f2⟩:=h.conts e he
  exact ⟨bk,(gn _ hne).trans f1,(h.cdep e he).1.dep (g:=g) (g':=g') hJ (fun q hq=>gn q (hoffS e he q hq)) f2⟩
 ·intro q hq
  by_cases e:q∈T
  ·simp only[g',if_pos e] at hq; exact absurd rfl hq
  ·rw[gn q e] at hq
   obtain ⟨y,hy,rfl⟩:=List.mem_map.1 (h.dom q hq)
   exact List.mem_map.2 ⟨y,AS.2 ⟨hy,e⟩,rfl⟩
 ·exact List.Nodup.sublist PP h.nodup
 ·intro e he
  rcases List.mem_cons.1 he with rfl | he
  ·exact ⟨inferInstance,fun _ h=>by cases h⟩
  ·rcases fZ he with ⟨f1,f2⟩ | ⟨f1,f2⟩
   ·refine ⟨(h.sdep e f1).1,fun q hq=>?_⟩
    obtain ⟨y,hy,rfl⟩:=List.mem_map.1 ((h.sdep e f1).2 q hq)
    exact List.mem_map.2 ⟨y,AS.2 ⟨hy,f2 _ hq⟩,rfl⟩
   ·rw[f1,f2]; exact ⟨inferInstance,fun _ h=>by cases h⟩
 ·intro e he
  obtain ⟨he,_⟩:=AS.1 he
  refine ⟨(h.cdep e he).1,fun q hq=>?_⟩
  obtain ⟨y,hy,rfl⟩:=List.mem_map.1 ((h.cdep e he).2 q hq)
  exact List.mem_map.2 ⟨y,AS.2 ⟨hy,hoffS e he _ hq⟩,rfl⟩
theorem Tr.frzM (s u t:Nat) {len:Nat} {z:Bool} {oty ity:TypeId} {hs:List Value} {rows:List (List Int)} (hl:look S s=some (true,o9 u len)) [hu:q7 M u (l5 z oty Q5 hs len) []] (_hfam:q7 M t (s9 ity hs rows 0) []) [hsub:V4 (Fl.fam t ity hs rows) M] (h8:hs.length<=8)
  (hr:rows.length=hs.length) (hlen:∀i,(b6 rows i).length<=p9) (hoff:NB (u::H8 t) M=true) (K:Tr P ⟨w0,J0,[],n,rd,mrk,om⟩ (⟨s,true,[],b8 (eL (eL eI)) rows⟩::HF (u::H8 t) S) (BS (u::H8 t) M) x Q):Tr P ⟨w0,J0,[],n,rd,mrk,om⟩ S M x Q:=fun a _ w h=>let ⟨g',h'⟩:=h.frzM hl hu hsub h8 hr hlen hoff; K a g' w h'
end
end Go.Fl

/- Functions that are gone through in place, with endings of many kinds; drawn regions over rows of the family. -/
namespace Go.Fl
open Go Go.RowKit
section
variable {P:Program} {c:n6} {S:i4} {M:i1} {Sp:World->Prop} {d:Option Tmp} {ty:TypeId} {pos:String} {af:Array Edge} {gd:Option (Nat×Bool)} {x y:Operand}
theorem TS {t et:TypeId} [ht:D1 P t et] {sz by':Nat} {zz:Value} [hz:p6 P et sz by' zz] {t0 k len:Nat} {ik:IntKind} {i:Int} (hx:j2 S x=some (true,JT t0 k len)) (hy:j2 S y=some (true,z9 ik i)) (h:0<=i/\i<len) :
  DQ P c S M Sp ⟨d,.indexAddr t x y,ty,pos,af,gd⟩ (JQ t0 k sz i.toNat len):=fun a g _ hs _=>by
 have hi:a.eval y=_:=C8 hs.slots hy rfl
 obtain ⟨h8,hr⟩:=C8 hs.slots hx rfl
 rcases hr with ⟨_,h0,_⟩ | ⟨bk,cap,h1,h2⟩
 ·omega
 ·exact ⟨.pointer (some ⟨bk,0+i.toNat*sz,none⟩),fun _ _=>by simp only[execOp,h2,hi,Sem.run_bind,JN (P:=P) h,Result.andThen_ok,Sem.run_pure],h8,by omega,bk,cap,h1,by simp⟩
end
def OE {σ:Type} (c:n6) (keep:List Nat) (bks:Nat->Bk) (M:σ->i1) (res:σ->d7) (R:σ->Prop):Ending->World->Prop:=fun e w'=>∃s,R s/\aG c keep bks (M s) (res s) e w'
section
variable {P:Program} {ops:Array Oper} {S:i4} {M:i1} {rest:List Oper} {Q:Exit->Act->World->Prop}
variable {d:Nat} {ty:TypeId} {pos:String} {af:Array Edge} {w0:World} {J0:JV} {bor om:List Nat} {n:Nat} {rd:Option Nat} {mrk:Bool}
theorem d5.inlX {σ:Type} {f:FuncId} [hf:f0 P f] {fn:Func} {code:Code} {n':Nat} {args:List Operand} {tys:Array TypeId} {ks:List d7} {ds:List (List Nat)} {dep:List Nat} (keep:List Nat)
  (hfn:P.funcs[f]?=some fn) (hb:fn.body=some code) (hn':fn.ntmps=n') (hlen:Nat.ble ks.length n'=true)
  (ha:ES S true args ks) [hds:GN ks ds] (hdt:ds.all (fun d=>t8 d (tags M))=true) (hkt:t8 keep (tags M)=true)
  (M':σ->i1) (res:σ->d7) (R:σ->Prop) (hkt':∀s,t8 keep (tags (M' s))=true) (hkr:∀s,o5 (res s) dep) (Z1:∀s,t8 dep (tags (M' s))=true) (hn:Nat.blt d n=true)
  (h:∀(J:JV) (bks:Nat->Bk) (om':List Nat),Tr P ⟨w0,J,bor,n',none,false,om'⟩ (EP 0 ds ks++L3 n' bks keep) M code (bodyPost P fn (OE ⟨w0,J,bor,n',none,false,om'⟩ keep bks M' res R)))
  (K:∀s,R s->d5 P ⟨w0,J0,bor,n,rd,mrk,om⟩ ops (⟨d,true,dep,res s⟩::JU keep S) (M' s) rest Q):d5 P ⟨w0,J0,bor,n,rd,mrk,om⟩ ops S M (⟨some d,.call { callee:=.value (.func f),args:=args.toArray,argTypes:=tys },ty,pos,af,none⟩::rest) Q:=by
 intro a g w hsat
 have hdn:d<n:=by simpa [Nat.blt_eq] using hn
 have hall:=ha.eval (g:=g) (ρ:=a.eval) rfl (fun y _ b k hk hb=>C8 hsat.slots hk hb)
 have hall_len:=L6 hall
 have hle:ks.length<=n':=Nat.le_of_ble_eq_true hlen
 have hM:∀t∈tags M,∃bk,g.M t=some bk:=fun t ht=>by
  obtain ⟨e,he,rfl⟩:=List.mem_map.1 ht
  obtain ⟨bk,h1,_⟩:=hsat.conts e he
  exact ⟨bk,h1⟩
 have hkeep:∀t∈keep,g.M t=some ((g.M t).getD .nil):=fun t ht=>by
  obtain ⟨bk,h1⟩:=hM t (C3 hkt t ht)
  rw[h1]; rfl
 have hr:Calls P f (args.map a.eval).toArray w (OE ⟨w0,g.J,bor,n',none,false,om++MX a.defers⟩ keep (fun t=>(g.M t).getD .nil) M' res R):=by
  refine calls_of_wp hfn hb<|wpIn_wide.1 (h g.J (fun t=>(g.M t).getD .nil) (om++MX a.defers) _ g w ⟨⟨hsat.ok.bel,JV.le_refl _,fun _ _ _=>rfl,hsat.ok.im,hsat.ok.own,hsat.ok.inj⟩,?_,hsat.conts,hsat.dom,hsat.nodup,?_,hsat.cdep,⟨rfl,xG hsat.defers⟩,?_⟩)
  ·intro t b k hk
   rcases XB hk with hk | hk
   ·obtain ⟨_,h2,rfl,v,hv,hkv⟩:=YL hall hk
    refine ⟨fun _=>?_,fun hf=>(by cases hf)⟩
    have ht:t<(args.map a.eval).length:=(List.getElem?_eq_some_iff.1 (by simpa using hv)).1
    have:((args.map a.eval).toArray++Array.replicate (fn.ntmps-(args.map a.eval).toArray.size) undef).getD t undef=v:=by
     rw[Array.getD_eq_getD_getElem?,Array.getElem?_append_left (by simpa using ht),List.getElem?_toArray]
     rw[show (args.map a.eval)[t]?=some v by simpa using hv]
     rfl
    rw[this]; exact hkv
   ·obtain ⟨rfl,_,h3,rfl⟩:=TG hk
    exact ⟨fun _=>hkeep _ h3,fun hf=>(by cases hf)⟩
  ·intro e he
   rcases List.mem_append.1 he with he | he
   ·obtain ⟨h1,h2⟩:=YM hds.h he
    exact ⟨h1,fun t ht=>C3 (List.all_eq_true.1 hdt _ h2) t ht⟩
   ·obtain ⟨t,h1,h2,h3⟩:=TH he
    rw[h2,h3]
    exact ⟨inferInstance,fun q hq=>by simp at hq; subst hq; exact C3 hkt _ h1⟩
  ·simp only[Array.size_append,List.size_toArray,Array.size_replicate]; omega
 refine wpList_plain rfl fun K' hK'=>?_
 unfold Oper.wp
 simp only[execOp,resolve,Act.eval,Deferred.ofValue,Sem.run_bind,Sem.run_pure,Result.andThen_ok,invoke,List.map_toArray,Array.append_empty,Array.empty_append]
 rw[hf.run]
 simp only[Oper.upon]
 refine hr.mono fun e w' he=>?_
 obtain ⟨s,hR,r,g',rfl,h1,h2,h3,h4,h5,h6,h7,h8⟩:=he
 refine hK' _ _ (K s hR _ g' _ ⟨⟨h1.bel,JV.le_trans hsat.ok.jle h1.jle,fun b o hb=>(h1.jold b o hb).trans (hsat.ok.jold b o hb),h1.im,h1.own,h1.inj⟩,?_,h2,h3,h4,?_,h5,xF hsat.defers h8,by simp[Act.put,hsat.size]⟩)
 ·refine V2.put (fun t b k hk=>?_) (by rw[hsat.size]; exact hdn) ⟨fun _=>h7,fun hf=>by cases hf⟩
  obtain ⟨k0,q1,q2⟩:=WX hk
  obtain ⟨q3,q4⟩:=hsat.slots t b k0 q1
  refine ⟨fun hb=>?_,q4⟩
  rcases q2 with rfl | ⟨rfl,e,he,rfl,hq⟩
  ·trivial
  ·exact (hsat.sdep e he).1.dep (g:=g) h1.jle (fun t ht=>by rw[h6 t (hq t ht),hkeep t (hq t ht)]) (q3 hb)
 ·intro e he
  rcases List.mem_cons.1 he with rfl | he
  ·exact ⟨hkr s,C3 (Z1 s)⟩
  ·rcases gN he with ⟨q1,q2⟩ | ⟨q1,q2⟩
   ·exact ⟨(hsat.sdep e q1).1,fun t ht=>C3 (hkt' s) t (q2 t ht)⟩
   ·rw[q1,q2]; exact ⟨inferInstance,fun _ h=>by cases h⟩
end
section
variable {P:Program} {w0:World} {J0:JV} {bor om:List Nat} {n0:Nat} {S:i4} {M:i1} {fn:Func} {keep:List Nat} {bks:Nat->Bk} {n:Nat} {σ:Type} {M':σ->i1} {res:σ->d7} {R:σ->Prop}
theorem d9.inlX (s:σ) (hR:R s) (hr:fn.results=#[]) (he:d6 ⟨w0,J0,bor,n0,none,false,om⟩ S M (L3 n bks keep) (M' s)) (hk:EY (L3 n bks keep) n bks keep) (hres:res s=j4 (.tuple #[])):d9 ⟨w0,J0,bor,n0,none,false,om⟩ S M (bodyPost P fn (OE ⟨w0,J0,bor,n0,none,false,om⟩ keep bks M' res R)):=by
 intro a g w hs
 obtain ⟨g',hs'⟩:=he a g w hs
 exact ⟨hs'.defers.1,.tuple #[],by simp[results,hr],s,hR,fX hs' hk (by rw[hres]; rfl)⟩
theorem g6.inlX (s:σ) (hR:R s) {t:Nat} {k:d7} {dep:List Nat} (hr:fn.results=#[.tmp t]) (he:d6 ⟨w0,J0,bor,n0,none,false,om⟩ S M (⟨t,true,dep,k⟩::L3 n bks keep) (M' s)) (hk:EY (⟨t,true,dep,k⟩::L3 n bks keep) n bks keep) (hc:∀(g:Gh) (v:Value),k g v->res s g v):g6 ⟨w0,J0,bor,n0,none,false,om⟩ S M (bodyPost P fn (OE ⟨w0,J0,bor,n0,none,false,om⟩ keep bks M' res R)):=by
 intro a g w hs
 obtain ⟨g',hs'⟩:=he a g w hs
 exact ⟨hs'.defers.1,_,results_tmp hr _ _ _,s,hR,fX hs' hk (hc _ _ ((hs'.slots t true _ (by simp[look])).1 rfl))⟩
end
end Go.Fl

/- slices.Insert at []int, one value: a step of a walk. -/
namespace Go.Fl
open Go Go.RowKit
theorem KS {b:Nat}:∀(vs:List Value) (o:Nat) (w:World) {cs:Array Value} {ty:TypeId} {fz:Nat×Nat},w.heap[b]?=some (.cells cs ty fz) ->
  ∃cs',(w.setCells b o vs).heap[b]?=some (.cells cs' ty fz)/\cs'.size=cs.size/\∀k,k<cs.size->cs'[k]?=if o<=k/\k<o+vs.length then vs[k-o]? else cs[k]?
 | [],o,w,cs,ty,fz,h=>⟨cs,h,rfl,fun k _=>by rw[if_neg (by simp only[List.length_nil]; omega)]⟩
 | v::vs,o,w,cs,ty,fz,h=>by
  have h1:(w.setCell ⟨b,o,none⟩ v).heap[b]?=some (.cells (cs.setIfInBounds o v) ty fz):=by
   simp only[World.setCell,Array.getElem?_modify,if_true,h]
   rfl
  obtain ⟨cs',h2,h3,h4⟩:=KS vs (o+1) (w.setCell ⟨b,o,none⟩ v) h1
  refine ⟨cs',h2,by rw[h3]; simp,fun k hk=>?_⟩
  rw[h4 k (by simpa using hk)]
  simp only[List.length_cons]
  by_cases e:k=o
  ·subst e
   rw[if_neg zo,if_pos zo,Nat.sub_self]
   simp[hk]
  ·by_cases q:o+1<=k/\k<o+1+vs.length
   ·rw[if_pos q,if_pos zo,show k-o=k-(o+1)+1 by omega]; rfl
   ·rw[if_neg q,if_neg zo]
    rw[Array.getElem?_setIfInBounds_ne (Ne.symm e)]
theorem KT {b:Nat}:∀(vs:List Value) (o:Nat) (w:World),(w.setCells b o vs).os=w.os/\(w.setCells b o vs).tape=w.tape/\(w.setCells b o vs).output=w.output/\(w.setCells b o vs).heap.size=w.heap.size/\(w.setCells b o vs).drawn=w.drawn/\∀k,k≠b->(w.setCells b o vs).heap[k]?=w.heap[k]?
 | [],_,_=>⟨rfl,rfl,rfl,rfl,rfl,fun _ _=>rfl⟩
 | v::vs,o,w=>by
  obtain ⟨h1,h2,h3,h4,h5,h6⟩:=KT vs (o+1) (w.setCell ⟨b,o,none⟩ v)
  refine ⟨h1,h2,h3,h4.trans (by simp[World.setCell]),h5,fun k hk=>(h6 k hk).trans ?_⟩
  simp[World.setCell,Array.getElem?_modify,Ne.symm hk]
theorem UJ {z:Bool} {ty:TypeId} {xs:List Int} {n b cap:Nat} {g:Gh} {cs:Array Value} (hl:xs.length=n) (hz:z=true->n≠0) (hs:cs.size=cap) (h1:n<=cap) (h2:cap<=maxLen) (h:∀k,k<n->cs[k]?=some (.int .i64 (b6 xs k))):l5 z ty eI xs n g (.blk b cap) (some (.cells cs ty (0,0))):=by
 refine ⟨hl,hz,cs,rfl,by rw[hs]; exact (Nat.mul_one _).symm,h1,h2,fun k x hx=>⟨[.int .i64 x],rfl,fun j v hj=>?_⟩⟩
 have hk:=(List.getElem?_eq_some_iff.1 hx).1
 have e:x=b6 xs k:=by simp[b6,hx]
 match j with
 | 0 =>
  simp at hj; subst hj
  show cs[k*1+0]?=_
  rw[Nat.mul_one,Nat.add_zero,h k zo,e]
 | j+1=>simp at hj
theorem bE {xs:List Int} {n:Nat} {g:Gh} {cs:Array Value} (hl:xs.length=n) (h:∀i x,xs[i]?=some x->∃ds,eI.rd g.J ds x/\∀j v,ds[j]?=some v->cs[i*eI.n+j]?=some v):∀k,k<n->cs[k]?=some (.int .i64 (b6 xs k)):=fun k hk=>by
 obtain ⟨ds,k1,k2⟩:=h k _ (H1 zo)
 have k1:ds=[.int .i64 (b6 xs k)]:=k1
 subst k1
 have:=k2 0 _ rfl
 simpa [eI,FK] using this
def DD (xs:List Int) (i:Nat) (v:Int):List Int:=xs.take i++[v]++xs.drop i
theorem WM {xs:List Int} {i:Nat} {v:Int} (h:i<=xs.length):(DD xs i v).length=xs.length+1:=by simp[DD]; omega
theorem RH {xs:List Int} {i k:Nat} {v:Int} (h:i<=xs.length):b6 (DD xs i v) k=if k<i then b6 xs k else if k=i then v else b6 xs (k-1):=by
 unfold DD b6
 simp only[List.getD_eq_getElem?_getD]
 have hl:(xs.take i).length=i:=by rw[List.length_take]; omega
 by_cases h1:k<i
 ·rw[if_pos h1,List.append_assoc,List.getElem?_append_left zo,List.getElem?_take,if_pos h1]
 ·rw[if_neg h1]
  by_cases h2:k=i
  ·subst h2
   rw[if_pos rfl,List.append_assoc,List.getElem?_append_right zo,hl,Nat.sub_self]; rfl
  ·rw[if_neg h2,List.getElem?_append_right (by simp; omega),List.getElem?_drop]
   congr 2
   simp; omega
theorem QH {w:World} {b o:Nat} {cs:Array Value} {ty:TypeId} (h:w.heap[b]?=some (.cells cs ty (0,0))):w.frozen? ⟨b,o,none⟩=false:=by simp[World.frozen?,h]
theorem xD {xs:List Int} {j:Nat} {v:Value} (h:(xs.map (Value.int .i64))[j]?=some v):j<xs.length/\v=.int .i64 (b6 xs j):=by
 rw[List.getElem?_map] at h
 cases e:xs[j]? with
 | none=>rw[e] at h; cases h
 | some x =>
  rw[e] at h
  simp only[Option.map_some,Option.some.injEq] at h
  exact ⟨(List.getElem?_eq_some_iff.1 e).1,by subst h; simp[b6,e]⟩
section
variable {P:Program} {c:n6} {ops:Array Oper} {S:i4} {M:i1} {rest:List Oper} {Q:Exit->Act->World->Prop}
variable {d:Nat} {ty:TypeId} {pos:String} {af:Array Edge} {x y z:Operand}
set_option maxHeartbeats 1000000 in
theorem d5.insI {ρ:Go.Shelf.Ren} (L:Go.Proofs.Lays2.n21 P ρ) {f:FuncId} (hf:ρ.f 21=f) [hfn:f0 P f] {tys:Array TypeId} {zb zb':Bool} {et et':TypeId} {xs:List Int} {v:Int} {u r n i:Nat} {dep dep':List Nat} {M':i1} (hty:ρ.t 3=et)
  (hx:j2 S x=some (true,o9 u n)) [hl:q7 M u (l5 zb et eI xs n) dep] (hy:j2 S y=some (true,kI (i:Int))) (hi:i<=n) (hz:j2 S z=some (true,o9 r 1)) [hr:q7 M r (l5 zb' et' eI [v] 1) dep'] (hru:Nat.beq r u=false) (hbig:n<=1000)
  [hup:D5 M u (l5 zb et eI (DD xs i v) (n+1)) [] M'] (hnd:K5 u M=true) (hn:Nat.blt d c.n=true) (K:d5 P c ops (⟨d,true,[u],o9 u (n+1)⟩::H3 u S) M' rest Q) :
  d5 P c ops S M (⟨some d,.call { callee:=.value (.func f),args:=#[x,y,z],argTypes:=tys },ty,pos,af,none⟩::rest) Q:=by
 intro a g w hsat
 have hne:r≠u:=Nat.ne_of_beq_eq_false hru
 have hdn:d<c.n:=by simpa [Nat.blt_eq] using hn
 have ey:a.eval y=.int .i64 (i:Int):=C8 hsat.slots hy rfl
 obtain ⟨br,cr,mr,ez,csr,hcr,ccr⟩:∃br cr,g.M r=some (.blk br cr)/\a.eval z=.slice (some ⟨br,0,none⟩) 1 cr/\∃csr:Array Value,w.heap[br]?=some (.cells csr et' (0,0))/\csr[0]?=some (.int .i64 v):=by
  rcases C8 hsat.slots hz rfl with ⟨_,h0,_⟩ | ⟨b,cap,h1,h2⟩
  ·cases h0
  ·obtain ⟨_,_,cs,h3,_,_,_,h4⟩:=DS (xs:=[v]) hsat.conts h1
   have:=bE (g:=g) (xs:=[v]) rfl h4 0 zo
   exact ⟨b,cap,h1,h2,cs,h3,this⟩
 have hvs:∀(j:Nat) (q:Value),([Value.int .i64 v]:List Value)[j]?=some q->w.cell? ⟨br,0+j,none⟩=some q:=fun j q hj=>by
  match j with
  | 0=>simp at hj; subst hj; exact M7 hcr ccr
  | j+1=>simp at hj
 have h1v:∀q∈([Value.int .i64 v]:List Value),q.oneCell'=true:=fun q hq=>by rw[List.mem_singleton.1 hq]; rfl
 have h1c:∀q∈xs.map (Value.int .i64),q.oneCell'=true:=fun q hq=>by obtain ⟨_,_,rfl⟩:=List.mem_map.1 hq; rfl
 refine wpList_plain rfl fun K' hK'=>?_
 unfold Oper.wp
 simp only[execOp,resolve,Act.eval,Deferred.ofValue,Sem.run_bind,Sem.run_pure,Result.andThen_ok,invoke,List.map_toArray,List.map_cons,List.map_nil,Array.append_empty,Array.empty_append]
 rw[hfn.run]
 simp only[Oper.upon]
 have finish:∀{bk bk':Bk} {w':World} {v':Value},g.M u=some bk->ET bk w w'->(∀b cap,bk'=.blk b cap->(∃cap0,bk=.blk b cap0)\/(w.heap.size<=b/\b<w'.heap.size)) ->
   l5 zb et eI (DD xs i v) (n+1) ⟨g.J,fun t=>if t=u then some bk' else g.M t⟩ bk' (World.objAt w' bk')->o9 u (n+1) ⟨g.J,fun t=>if t=u then some bk' else g.M t⟩ v' ->
   K' (a.put (some d) v') w':=by
  intro bk bk' w' v' hm hbut hbk hct hkk
  exact hK' _ _ (K _ _ _ (hsat.rebind hm (hsat.nomark hl hm) hbut hup hnd inferInstance hbk hct hdn hkk))
 have grown:∀{bk:Bk} {cp:Nat} {w1:World} {cs:Array Value},g.M u=some bk->xs.length=n->cp<=n->w1.os=w.os->w1.tape=w.tape->w1.output=w.output->w1.heap.size=w.heap.size+1->dz w.drawn<=dz w1.drawn->(∀k,k<w.heap.size->w1.heap[k]?=w.heap[k]?) ->
   w1.heap[w.heap.size]?=some (.cells cs et (0,0))->cs.size=grownCap w (n+1) cp et->(∀k,k<n+1->cs[k]?=some (.int .i64 (b6 (DD xs i v) k)))->K' (a.put (some d) (.slice (some ⟨w.heap.size,0,none⟩) (n+1) (grownCap w (n+1) cp et))) w1:=by
  intro bk cp w1 cs hm hxl hcp e1 e2 e3 e4 e5 e6 e7 e8 e9
  refine finish (bk':=.blk w.heap.size (grownCap w (n+1) cp et)) hm ⟨e1,e2,e3,by omega,fun q hq _=>e6 q hq,e5⟩ (fun b cap hb=>by cases hb; exact .inr ⟨Nat.le_refl _,by omega⟩) ?_ (.inr ⟨_,_,if_pos rfl,rfl⟩)
  show l5 zb et eI _ _ _ _ (w1.heap[w.heap.size]?)
  rw[e7]
  exact UJ (by rw[WM zo,hxl]) (fun _=>zo) e8 (grownCap_ge _ _ _ _) (grownCap_le_maxLen _ _ _ _ (by simp only[maxLen]; omega)) e9
 show Calls P f #[a.eval x,a.eval y,a.eval z] w _
 rw[<- hf,ey,ez]
 rcases C8 hsat.slots hx rfl with ⟨hm,h0,ex⟩ | ⟨b,cap,hm,ex⟩
 ·-- nowhere yet
  subst h0
  obtain ⟨bk,q1,q2,_⟩:=hsat.conts _ hl.mem
  have hxs:xs=[]:=List.eq_nil_of_length_eq_zero q2
  subst hxs
  obtain rfl:i=0:=by omega
  rw[ex]
  refine (Go.Proofs.Any2.slices_Insert_int_end_grow L none 0 0 br 0 1 cr [] [.int .i64 v] w zo zo zo zo rfl rfl (fun _=>rfl) (fun a h=>by cases h) hvs h1v).mono fun e w' he=>?_
  obtain ⟨rfl,rfl⟩:=he
  rw[hty]
  refine grown (cp:=0) hm rfl zo rfl rfl rfl (by simp) (DZ _) (fun k hk=>Below.heap_alloc w.drew _ k hk) (heap_alloc_new w.drew _) ?_ ?_
  ·have hge:=grownCap_ge w (0+1) 0 et
   generalize grownCap w (0+1) 0 et=G at *
   have hv:(Value.int .i64 0).cells.size=1:=rfl
   simp only[Array.size_append,List.size_toArray,size_zeroCells,hv,List.nil_append,List.length_singleton]
   omega
  ·intro k hk
   obtain rfl:k=0:=by omega
   rw[Array.getElem?_append_left (by simp)]
   rfl
 ·obtain ⟨h0,hzl,cs,h3,h4,h5,h6,h7⟩:=DS (xs:=xs) hsat.conts hm
  have h4:cs.size=cap:=by rw[h4]; exact Nat.mul_one _
  have hc:=bE h0 h7
  have hbb:br≠b:=fun e=>hne (hsat.ok.inj _ _ _ _ _ mr (e▸hm))
  have hcs:∀(j:Nat) (q:Value),(xs.map (Value.int .i64))[j]?=some q->w.cell? ⟨b,0+j,none⟩=some q:=fun j q hj=>by
   obtain ⟨hj1,rfl⟩:=xD hj
   rw[Nat.zero_add]; exact M7 h3 (hc j zo)
  have hml:(xs.map (Value.int .i64)).length=n:=by rw[List.length_map,h0]
  have hmg:∀j,j<n->(xs.map (Value.int .i64))[j]?=some (.int .i64 (b6 xs j)):=fun j hj=>by
   rw[List.getElem?_map,H1 zo]; rfl
  have hsp:∀j,j<cap->(w.cell? ⟨b,0+j,none⟩).isSome=true:=fun j hj=>by
   rw[Nat.zero_add,M7 (v:=cs[j]'zo) h3 (by simp)]; rfl
  rw[ex]
  by_cases room:n+1<=cap
  ·by_cases hin:i=n
   ·subst hin
    refine (Go.Proofs.Any2.slices_Insert_int_end_room L b 0 i cap br 0 1 cr [.int .i64 v] w zo zo (by simp only[maxLen] at h6; omega) rfl (fun j hj=>by
     have:=hsp (i+j) zo
     rw[show 0+i+j=0+(i+j) by omega]; exact this) (fun j hj=>QH h3) hvs h1v).mono fun e w' he=>?_
    obtain ⟨rfl,rfl⟩:=he
    obtain ⟨c1,c2,c3,c4,c5,c6⟩:=KT (b:=b) [Value.int .i64 v] (0+i) w
    obtain ⟨cs',d1,d2,d3⟩:=KS (b:=b) [Value.int .i64 v] (0+i) w h3
    refine finish (bk':=.blk b cap) hm ⟨c1,c2,c3,by omega,fun k _ hk=>c6 k (fun e'=>hk cap (by rw[e'])),by rw[c5]; exact Nat.le_refl _⟩ (fun b' cap' hb=>by cases hb; exact .inl ⟨_,rfl⟩) ?_ (.inr ⟨_,_,if_pos rfl,rfl⟩)
    show l5 zb et eI _ _ _ _ ((w.setCells b (0+i) [Value.int .i64 v]).heap[b]?)
    rw[d1]
    refine UJ (by rw[WM zo,h0]) (fun _=>zo) zo room h6 fun k hk=>?_
    rw[d3 k zo,RH zo]
    by_cases hk':k<i
    ·rw[if_neg zo,if_pos hk',hc k hk']
    ·obtain rfl:k=i:=by omega
     rw[if_pos (by simp),if_neg hk',if_pos rfl]
     simp
   ·have hin:i<n:=by omega
    refine (Go.Proofs.Any2.slices_Insert_int_shift L b 0 n cap i br 0 1 cr (xs.map (Value.int .i64)) [.int .i64 v] w hin zo zo (by simp only[maxLen] at h6; omega) hbb hml rfl hcs (fun j hj=>hsp j zo) (fun j hj=>QH h3) hvs h1c h1v et' et csr.size cs.size (by simp[World.shape?,hcr]) (by simp[World.shape?,h3]) zo (QH hcr) (QH hcr)).mono fun e w' he=>?_
    obtain ⟨rfl,rfl⟩:=he
    have h3':w.drew.heap[b]?=some (.cells cs et (0,0)):=h3
    obtain ⟨c1,c2,c3,c4,c5,c6⟩:=KT (b:=b) ((xs.map (Value.int .i64)).drop i) (0+(i+1)) w.drew
    obtain ⟨cs1,d1,d2,d3⟩:=KS (b:=b) ((xs.map (Value.int .i64)).drop i) (0+(i+1)) w.drew h3'
    obtain ⟨f1,f2,f3,f4,f5,f6⟩:=KT (b:=b) [Value.int .i64 v] (0+i) (w.drew.setCells b (0+(i+1)) ((xs.map (Value.int .i64)).drop i))
    obtain ⟨cs2,g1,g2,g3⟩:=KS (b:=b) [Value.int .i64 v] (0+i) (w.drew.setCells b (0+(i+1)) ((xs.map (Value.int .i64)).drop i)) d1
    refine finish (bk':=.blk b cap) hm ⟨f1.trans c1,f2.trans c2,f3.trans c3,by rw[f4,c4]; exact Nat.le_refl _,fun k _ hk=>(f6 k (fun e'=>hk cap (by rw[e']))).trans (c6 k (fun e'=>hk cap (by rw[e']))),by rw[f5,c5]; exact DZ _⟩ (fun b' cap' hb=>by cases hb; exact .inl ⟨_,rfl⟩) ?_ (.inr ⟨_,_,if_pos rfl,rfl⟩)
    show l5 zb et eI _ _ _ _ ((World.setCells _ b (0+i) [Value.int .i64 v]).heap[b]?)
    rw[g1]
    refine UJ (by rw[WM zo,h0]) (fun _=>zo) zo room h6 fun k hk=>?_
    rw[g3 k zo,RH zo]
    by_cases k1:k<i
    ·rw[if_neg zo,if_pos k1,d3 k zo,if_neg zo,hc k zo]
    ·by_cases k2:k=i
     ·subst k2
      rw[if_pos (by simp),if_neg k1,if_pos rfl]; simp
     ·rw[if_neg (by simp; omega),if_neg k1,if_neg k2,d3 k zo,if_pos (by rw[List.length_drop,hml]; omega),List.getElem?_drop,show i+(k-(0+(i+1)))=k-1 by omega,hmg (k-1) zo]
  ·obtain rfl:cap=n:=by omega
   by_cases hin:i=cap
   ·subst hin
    refine (Go.Proofs.Any2.slices_Insert_int_end_grow L (some ⟨b,0,none⟩) i i br 0 1 cr (xs.map (Value.int .i64)) [.int .i64 v] w zo zo zo zo hml rfl (fun h=>by cases h) (fun a h=>by cases h; intro j q hj; rw[Addr.add_lit]; exact hcs j q hj) hvs h1v).mono fun e w' he=>?_
    obtain ⟨rfl,rfl⟩:=he
    rw[hty]
    have hge:=grownCap_ge w (i+1) i et
    refine grown hm h0 zo rfl rfl rfl (by simp) (DZ _) (fun k hk=>Below.heap_alloc w.drew _ k hk) (heap_alloc_new w.drew _) ?_ ?_
    ·simp only[Array.size_append,List.size_toArray,size_zeroCells,List.length_append,hml]
     simp[Value.cells]; omega
    ·intro k hk
     rw[RH zo]
     rw[Array.getElem?_append_left (by simp; omega)]
     by_cases k1:k<i
     ·rw[if_pos k1]
      rw[List.getElem?_toArray,List.getElem?_append_left zo]
      exact hmg k k1
     ·obtain rfl:k=i:=by omega
      rw[if_neg k1,if_pos rfl,List.getElem?_toArray,List.getElem?_append_right zo,hml,Nat.sub_self]; rfl
   ·have hin:i<cap:=by omega
    refine (Go.Proofs.Any2.slices_Insert_int_grow L b 0 cap cap i br 0 1 cr (xs.map (Value.int .i64)) [.int .i64 v] w hin zo zo zo zo hml rfl hcs hvs h1c h1v).mono fun e w' he=>?_
    obtain ⟨rfl,rfl⟩:=he
    rw[hty]
    have hge:=grownCap_ge w (cap+1) cap et
    generalize hA:((List.take i (xs.map (Value.int .i64))).toArray++Builtin.zeroCells (Value.int .i64 0).cells (cap+1-i)++Builtin.zeroCells (Value.int .i64 0).cells (grownCap w (cap+1) cap et-(cap+1)))=A0
    have hAs:A0.size=grownCap w (cap+1) cap et:=by
     rw[<- hA]
     simp only[Array.size_append,List.size_toArray,size_zeroCells,List.length_take,hml]
     simp[Value.cells]; omega
    have hAg:∀k,k<i->A0[k]?=some (.int .i64 (b6 xs k)):=fun k hk=>by
     rw[<- hA,Array.append_assoc,Array.getElem?_append_left (by simp; omega),List.getElem?_toArray,List.getElem?_take,if_pos hk]
     exact hmg k zo
    have e1:((w.alloc (.cells A0 et)).drew).heap[w.heap.size]?=some (.cells A0 et (0,0)):=heap_alloc_new w _
    obtain ⟨c1,c2,c3,c4,c5,c6⟩:=KT (b:=w.heap.size) [Value.int .i64 v] i (w.alloc (.cells A0 et)).drew
    obtain ⟨cs1,d1,d2,d3⟩:=KS (b:=w.heap.size) [Value.int .i64 v] i (w.alloc (.cells A0 et)).drew e1
    have e2:((w.alloc (.cells A0 et)).drew.setCells w.heap.size i [Value.int .i64 v]).drew.heap[w.heap.size]?=some (.cells cs1 et (0,0)):=d1
    obtain ⟨f1,f2,f3,f4,f5,f6⟩:=KT (b:=w.heap.size) ((xs.map (Value.int .i64)).drop i) (i+1) ((w.alloc (.cells A0 et)).drew.setCells w.heap.size i [Value.int .i64 v]).drew
    obtain ⟨cs2,g1,g2,g3⟩:=KS (b:=w.heap.size) ((xs.map (Value.int .i64)).drop i) (i+1) ((w.alloc (.cells A0 et)).drew.setCells w.heap.size i [Value.int .i64 v]).drew e2
    refine grown hm h0 zo (f1.trans c1) (f2.trans c2) (f3.trans c3) (f4.trans (c4.trans (by simp))) ?_ (fun k hk=>(f6 k zo).trans ((c6 k zo).trans (Below.heap_alloc w _ k hk))) g1 zo fun k hk=>?_
    ·rw[f5]
     refine Nat.le_trans ?_ (DZ _)
     rw[c5]
     exact DZ _
    ·rw[g3 k zo,RH zo]
     by_cases k1:k<i
     ·rw[if_neg zo,if_pos k1,d3 k zo,if_neg zo,hAg k k1]
     ·by_cases k2:k=i
      ·subst k2
       rw[if_neg zo,if_neg k1,if_pos rfl,d3 k zo,if_pos (by simp)]; simp
      ·rw[if_pos (by rw[List.length_drop,hml]; omega),if_neg k1,if_neg k2,List.getElem?_drop,show i+(k-(i+1))=k-1 by omega,hmg (k-1) zo]
end
end Go.Fl

/- Pointers into immutable memory, in any order. -/
namespace Go.Fl
open Go Go.RowKit
section
variable {P:Program} {c:n6} {S:i4} {M:i1} {Sp:World->Prop} {d:Option Tmp} {ty:TypeId} {pos:String} {af:Array Edge} {gd:Option (Nat×Bool)} {x y:Operand}
theorem J7 {α:Type} {e:i8 α} {v:α} (hx:j2 S x=some (true,r7 e v)):DQ P c S M Sp ⟨d,.nilCheck x,ty,pos,af,gd⟩ (r7 e v):=fun a g _ hs _=>by
 have hk:=C8 hs.slots hx rfl
 obtain ⟨b,o,ds,h1,h2⟩:=id hk
 exact ⟨a.eval x,fun _ _=>by simp[execOp,h1],hk⟩
theorem J6 {s:TypeId} {f off:Nat} [ht:s8 P s f off] {α β:Type} {e:i8 α} {v:α} {e':i8 β} {v':β} {off':Nat} [hf:v6 e v f e' v' off'] (hx:j2 S x=some (true,r7 e v)) (ho:off=off') :
  DQ P c S M Sp ⟨d,.fieldAddr s x f,ty,pos,af,gd⟩ (r7 e' v'):=fun a g _ hs _=>by
 obtain ⟨bl,o,ds,h1,h2,h3⟩:=C8 hs.slots hx rfl
 obtain ⟨es,k1,k2⟩:=hf.imp h2
 refine ⟨.pointer (some ⟨bl,o+off,none⟩),fun _ _=>by simp[execOp,h1,ht.run,Addr.add_lit],bl,o+off',es,by rw[ho],k1,fun j u hj=>?_⟩
 rw[Nat.add_assoc]
 exact h3 _ _ (k2 j u hj)
end
end Go.Fl

/- Immutable rows in drawn regions: elements and parts, in any order. -/
namespace Go.Fl
open Go Go.RowKit
section
variable {P:Program} {c:n6} {S:i4} {M:i1} {Sp:World->Prop} {d:Option Tmp} {ty:TypeId} {pos:String} {af:Array Edge} {gd:Option (Nat×Bool)} {x y:Operand}
end

section
variable {P:Program} {c:n6} {l:List Oper} {S:i4} {M:i1} {Q:Exit->Act->World->Prop}
end
end Go.Fl

/- Steps that follow from the code alone. -/
namespace Go.Fl
open Go
section
variable {P:Program} {c:n6} {ops:Array Oper} {S:i4} {M M0:i1} {rest:List Oper} {Q:Exit->Act->World->Prop}
theorem D8 {d:Option Nat} {ty:TypeId} {pos:String} {af:Array Edge} {gd:Option (Nat×Bool)} (o:Op) (h:d5 P c ops S M (⟨d,o,ty,pos,af,gd⟩::rest) Q):d5 P c ops S M (⟨d,o,ty,pos,af,gd⟩::rest) Q:=h
theorem E1 {d:Option Nat} {ty:TypeId} {pos:String} {af:Array Edge} {gd:Option (Nat×Bool)} {m:Nat} (o:Op) (h:i9 P c ops Q M0 (⟨d,o,ty,pos,af,gd⟩::rest) m S M):i9 P c ops Q M0 (⟨d,o,ty,pos,af,gd⟩::rest) m S M:=h
theorem wG {d:Option Nat} {ty:TypeId} {pos:String} {af:Array Edge} {gd:Nat×Bool} (o:Op) (h:d5 P c ops S M (⟨d,o,ty,pos,af,some gd⟩::rest) Q):d5 P c ops S M (⟨d,o,ty,pos,af,some gd⟩::rest) Q:=h
theorem wH {d:Option Nat} {ty:TypeId} {pos:String} {af:Array Edge} {gd:Nat×Bool} {m:Nat} (o:Op) (h:i9 P c ops Q M0 (⟨d,o,ty,pos,af,some gd⟩::rest) m S M):i9 P c ops Q M0 (⟨d,o,ty,pos,af,some gd⟩::rest) m S M:=h
theorem jc {f:FuncId} [f0 P f] {args:List Operand} {tys:Array TypeId} {ks:List d7} {res:d7} {d:Nat} {ty:TypeId} {pos:String} {af:Array Edge} (hct:Ct P f ks res) [o5 res []] (K:d5 P c ops (⟨d,true,[],res⟩::S) M rest Q) (ha:G4 S true args ks:=by repeat first | exact .nil | refine .a rfl (fun _=>rfl) ?_ | refine .s rfl (fun _=>rfl) rfl ?_ | refine .se rfl (fun _=>rfl) rfl rfl ?_) (hn:Nat.blt d c.n=true:=by rfl):d5 P c ops S M (⟨some d,.call { callee:=.value (.func f),args:=args.toArray,argTypes:=tys },ty,pos,af,none⟩::rest) Q:=d5.op (i6 (fun _=>hct) ha) rfl hn K
theorem jd {f:FuncId} [f0 P f] {args:List Operand} {tys:Array TypeId} {ks:List d7} {res:d7} {d m:Nat} {ty:TypeId} {pos:String} {af:Array Edge} (hct:Ct P f ks res) [o5 res []] (K:i9 P c ops Q M0 rest m (⟨d,true,[],res⟩::S) M) (ha:G4 S true args ks:=by repeat first | exact .nil | refine .a rfl (fun _=>rfl) ?_ | refine .s rfl (fun _=>rfl) rfl ?_ | refine .se rfl (fun _=>rfl) rfl rfl ?_) (hn:Nat.blt d c.n=true:=by rfl):i9 P c ops Q M0 (⟨some d,.call { callee:=.value (.func f),args:=args.toArray,argTypes:=tys },ty,pos,af,none⟩::rest) (m+1) S M:=i9.op (i6 (fun _=>hct) ha) rfl hn K
theorem jb {el:TypeId} {x:Operand} {k:d7} {ks:List d7} {dep:List Nat} {d:Nat} {ty:TypeId} {pos:String} {af:Array Edge} (t:Nat) (hx:j2 S x=some (true,k)) [E9 k ks] [B9 ks dep] (K:d5 P c ops (⟨d,true,[t],y5 t 0⟩::S) (⟨t,dep,j5 ks⟩::M) rest Q) (hs:t8 dep (tags M)=true:=by rfl) (hcs:t8 dep (tags (⟨t,dep,j5 ks⟩::M))=true:=by rfl) (hd:t8 [t] (tags (⟨t,dep,j5 ks⟩::M))=true:=by rfl) (hf:t8 [t] (tags M)=false:=by rfl) (hn:Nat.blt d c.n=true:=by rfl):d5 P c ops S M (⟨some d,.box el x,ty,pos,af,none⟩::rest) Q:=d5.new (yM t hx (fun _=>rfl) hs) hd hcs hf hn K
theorem ja {el:TypeId} {ks:List d7} {d:Nat} {ty:TypeId} {pos:String} {af:Array Edge} (t:Nat) [D4 P el ks] [B9 ks []] (K:d5 P c ops (⟨d,true,[t],y5 t 0⟩::S) (⟨t,[],j5 ks⟩::M) rest Q) (hd:t8 [t] (tags (⟨t,[],j5 ks⟩::M))=true:=by rfl) (hf:t8 [t] (tags M)=false:=by rfl) (hn:Nat.blt d c.n=true:=by rfl):d5 P c ops S M (⟨some d,.alloc el,ty,pos,af,none⟩::rest) Q:=d5.new (KE t) hd rfl hf hn K
theorem jq {x:Operand} {t f:Code} {p:Prop} [Decidable p] (ht:p->Tr P c S M t Q) (hf:¬p->Tr P c S M f Q) (hl:j2 S x=some (true,kB (decide p)):=by rfl):Tr P c S M (.cond x t f) Q:=Tr.cnd hl (fun h=>ht (of_decide_eq_true h)) (fun h=>hf (of_decide_eq_false h))
theorem MY {α:Type}:([]:List α)=[]:=rfl
theorem nC {s:Nat} {b:Bool} {d:List Nat} {k:d7} {S S':i4} (h:S=S'):(⟨s,b,d,k⟩::S:i4)=⟨s,b,d,k⟩::S':=by rw[h]
theorem nM {t:Nat} {d:List Nat} {k:t9} {S S':i1} (h:S=S'):(⟨t,d,k⟩::S:i1)=⟨t,d,k⟩::S':=by rw[h]
theorem jn {x:Code} {S':i4} {M':i1} (h:Tr P c S' M' x Q) (hS:S=S':=by repeat first | apply nC | exact MY) (hM:M=M':=by repeat first | apply nM | exact MY):Tr P c S M x Q:=Tr.norm hS hM h
theorem jl {S':i4} {M':i1} (h:d5 P c ops S' M' rest Q) (hS:S=S':=by repeat first | apply nC | exact MY) (hM:M=M':=by rfl):d5 P c ops S M rest Q:=d5.norm hS hM h
theorem je {S':i4} {M':i1} (h:d9 c S' M' Q) (hS:S=S':=by repeat first | apply nC | exact MY) (hM:M=M':=by repeat first | apply nM | exact MY):d9 c S M Q:=d9.norm hS hM h
theorem zk {p:Prop} (h:p:=by repeat first | exact E4.nil | exact P4.nil | exact F1.nil | refine E4.k rfl rfl ?_ | refine P4.k rfl ?_ | refine F1.k rfl ?_):p:=h
end
theorem i5 {A B:Prop} (h:A) (K:(Unit->A)->B:=by
 intro h
 first
 | with_reducible refine Tr.seq ?_
 | with_reducible refine Tr.rg ?_
 | with_reducible refine d5.fin ?_
 | with_reducible refine d9.nxt ?_
 | with_reducible refine Tr.skip ?_
 | with_reducible refine Tr.blk ?_
 | with_reducible refine d9.blk ?_
 | with_reducible refine Tr.ret ?_
 | with_reducible refine g6.thn ?_
 | with_reducible refine g6.out ?_
 | with_reducible refine AL.thn ?_
 | with_reducible refine i9.z ?_
 | with_reducible refine Tr.exit ?_
 | with_reducible refine AL.here ?_
 | with_reducible refine AL.out rfl ?_
 | (with_reducible refine wG _ ?_); first
  | (with_reducible refine D8 (.move _) ?_); first | refine d5.gd rfl rfl rfl (G7 rfl (by first | exact id | exact fun _=>rfl)) rfl rfl ?_
  | (with_reducible refine D8 (.assign _) ?_); first | refine d5.gd rfl rfl rfl (NC rfl (by first | exact id | exact fun _=>rfl)) rfl rfl ?_
  | (with_reducible refine D8 (.call _) ?_); first | refine d5.gd rfl rfl rfl (SB rfl (by first | exact id | exact fun _=>rfl)) rfl rfl ?_
  | (with_reducible refine D8 (.fieldAddr _ _ _) ?_); first | refine d5.gd rfl rfl rfl (S9 rfl (by first | exact id | exact fun _=>rfl)) rfl rfl ?_ | refine d5.gd rfl rfl rfl (RU rfl (by first | exact id | exact fun _=>rfl) rfl) rfl rfl ?_
  | (with_reducible refine D8 (.unOp .not _ _) ?_); first | refine d5.gd rfl rfl rfl (SI rfl (by first | exact id | exact fun _=>rfl)) rfl rfl ?_
  | (with_reducible refine D8 (.load _ _) ?_); first | refine d5.gd rfl rfl rfl (v8 rfl (by first | exact id | exact fun _=>rfl) rfl) rfl rfl ?_ | refine d5.gd rfl rfl rfl (E2 rfl (by first | exact id | exact fun _=>rfl) rfl) rfl rfl ?_ | refine d5.gd rfl rfl rfl (C2 rfl (by first | exact id | exact fun _=>rfl) rfl rfl) rfl rfl ?_ | refine d5.gd rfl rfl rfl (Q9 rfl (by first | exact id | exact fun _=>rfl)) rfl rfl ?_ | refine d5.gd rfl rfl rfl (RZ rfl (by first | exact id | exact fun _=>rfl) rfl rfl rfl) rfl rfl ?_
  | (with_reducible refine D8 (.extract _ _) ?_); first | refine d5.gd rfl rfl rfl (FV rfl (by first | exact id | exact fun _=>rfl) rfl) rfl rfl ?_
  | (with_reducible refine D8 (.binOp .lss _ _ _ _) ?_); first | refine d5.gd rfl rfl rfl (SD rfl (by first | exact id | exact fun _=>rfl) rfl (by first | exact id | exact fun _=>rfl)) rfl rfl ?_
  | (with_reducible refine D8 (.binOp .neq _ _ _ _) ?_); first | refine d5.gd rfl rfl rfl (SG rfl (by first | exact id | exact fun _=>rfl) rfl (by first | exact id | exact fun _=>rfl)) rfl rfl ?_
  | (with_reducible refine D8 (.binOp .eql _ _ _ _) ?_); first | refine d5.gd rfl rfl rfl (RT rfl (by first | exact id | exact fun _=>rfl) rfl (by first | exact id | exact fun _=>rfl)) rfl rfl ?_
  | (with_reducible refine D8 (.binOp .gtr _ _ _ _) ?_); first | refine d5.gd rfl rfl rfl (RW rfl (by first | exact id | exact fun _=>rfl) rfl (by first | exact id | exact fun _=>rfl)) rfl rfl ?_
  | (with_reducible refine D8 (.binOp .geq _ _ _ _) ?_); first | refine d5.gd rfl rfl rfl (RV rfl (by first | exact id | exact fun _=>rfl) rfl (by first | exact id | exact fun _=>rfl)) rfl rfl ?_
  | (with_reducible refine D8 (.binOp .leq _ _ _ _) ?_); first | refine d5.gd rfl rfl rfl (SC rfl (by first | exact id | exact fun _=>rfl) rfl (by first | exact id | exact fun _=>rfl)) rfl rfl ?_
  | (with_reducible refine D8 (.binOp .add _ _ _ _) ?_); first | refine d5.gd rfl rfl rfl (HM rfl (by first | exact id | exact fun _=>rfl) rfl (by first | exact id | exact fun _=>rfl) (fun _=>by omega)) rfl rfl ?_
  | (with_reducible refine D8 (.binOp .sub _ _ _ _) ?_); first | refine d5.gd rfl rfl rfl (AZ rfl (by first | exact id | exact fun _=>rfl) rfl (by first | exact id | exact fun _=>rfl) (fun _=>by omega)) rfl rfl ?_
  | (with_reducible refine D8 (.binOp .mul _ _ _ _) ?_); first | refine d5.gd rfl rfl rfl (EL rfl (by first | exact id | exact fun _=>rfl) rfl (by first | exact id | exact fun _=>rfl) (fun _=>by omega)) rfl rfl ?_
  | (with_reducible refine D8 (.indexAddr _ _ _) ?_); first | refine d5.gd rfl rfl rfl (F6 rfl (by first | exact id | exact fun _=>rfl) rfl (by first | exact id | exact fun _=>rfl) rfl (fun _=>by omega)) rfl rfl ?_ | refine d5.gd rfl rfl rfl (AY rfl (by first | exact id | exact fun _=>rfl) rfl (by first | exact id | exact fun _=>rfl) rfl (fun _=>by omega)) rfl rfl ?_ | refine d5.gd rfl rfl rfl (KG rfl (by first | exact id | exact fun _=>rfl) rfl (by first | exact id | exact fun _=>rfl) (fun _=>by omega)) rfl rfl ?_ | refine d5.gd rfl rfl rfl (HN rfl (by first | exact id | exact fun _=>rfl) rfl (by first | exact id | exact fun _=>rfl) (fun _=>by omega)) rfl rfl ?_
 | (with_reducible refine D8 _ ?_); first
  | (with_reducible refine D8 (.move _) ?_); first | refine d5.op (G7 rfl (fun _=>rfl)) rfl rfl ?_
  | (with_reducible refine D8 (.assign _) ?_); first | refine d5.op (NC rfl (fun _=>rfl)) rfl rfl ?_
  | (with_reducible refine D8 (.call _) ?_); first | refine d5.op (SB rfl (fun _=>rfl)) rfl rfl ?_ | refine d5.app rfl rfl rfl rfl rfl rfl rfl rfl (by first | omega | (simp only[List.length_cons,List.length_nil]; omega)) (by first | omega | (simp only[List.length_cons,List.length_nil]; omega)) ?_
  | (with_reducible refine D8 (.fieldAddr _ _ _) ?_); first | refine d5.op (S9 rfl (fun _=>rfl)) rfl rfl ?_ | refine d5.op (RU rfl (fun _=>rfl) rfl) rfl rfl ?_
  | (with_reducible refine D8 (.unOp .not _ _) ?_); first | refine d5.op (SI rfl (fun _=>rfl)) rfl rfl ?_
  | (with_reducible refine D8 (.load _ _) ?_); first | refine d5.op (v8 rfl (fun _=>rfl) rfl) rfl rfl ?_ | refine d5.op (E2 rfl (fun _=>rfl) rfl) rfl rfl ?_ | refine d5.op (C2 rfl (fun _=>rfl) rfl rfl) rfl rfl ?_ | refine d5.op (Q9 rfl (fun _=>rfl)) rfl rfl ?_ | refine d5.op (RZ rfl (fun _=>rfl) rfl rfl rfl) rfl rfl ?_
  | (with_reducible refine D8 (.extract _ _) ?_); first | refine d5.op (FV rfl (fun _=>rfl) rfl) rfl rfl ?_
  | (with_reducible refine D8 (.binOp .lss _ _ _ _) ?_); first | refine d5.op (SD rfl (fun _=>rfl) rfl (fun _=>rfl)) rfl rfl ?_
  | (with_reducible refine D8 (.binOp .neq _ _ _ _) ?_); first | refine d5.op (SG rfl (fun _=>rfl) rfl (fun _=>rfl)) rfl rfl ?_
  | (with_reducible refine D8 (.binOp .eql _ _ _ _) ?_); first | refine d5.op (RT rfl (fun _=>rfl) rfl (fun _=>rfl)) rfl rfl ?_
  | (with_reducible refine D8 (.binOp .gtr _ _ _ _) ?_); first | refine d5.op (RW rfl (fun _=>rfl) rfl (fun _=>rfl)) rfl rfl ?_
  | (with_reducible refine D8 (.binOp .geq _ _ _ _) ?_); first | refine d5.op (RV rfl (fun _=>rfl) rfl (fun _=>rfl)) rfl rfl ?_
  | (with_reducible refine D8 (.binOp .leq _ _ _ _) ?_); first | refine d5.op (SC rfl (fun _=>rfl) rfl (fun _=>rfl)) rfl rfl ?_
  | (with_reducible refine D8 (.binOp .add _ _ _ _) ?_); first | refine d5.op (HM rfl (fun _=>rfl) rfl (fun _=>rfl) (fun _=>by omega)) rfl rfl ?_
  | (with_reducible refine D8 (.binOp .sub _ _ _ _) ?_); first | refine d5.op (AZ rfl (fun _=>rfl) rfl (fun _=>rfl) (fun _=>by omega)) rfl rfl ?_
  | (with_reducible refine D8 (.binOp .mul _ _ _ _) ?_); first | refine d5.op (EL rfl (fun _=>rfl) rfl (fun _=>rfl) (fun _=>by omega)) rfl rfl ?_
  | (with_reducible refine D8 (.indexAddr _ _ _) ?_); first | refine d5.op (F6 rfl (fun _=>rfl) rfl (fun _=>rfl) rfl (fun _=>by omega)) rfl rfl ?_ | refine d5.op (AY rfl (fun _=>rfl) rfl (fun _=>rfl) rfl (fun _=>by omega)) rfl rfl ?_ | refine d5.op (KG rfl (fun _=>rfl) rfl (fun _=>rfl) (fun _=>by omega)) rfl rfl ?_ | refine d5.op (HN rfl (fun _=>rfl) rfl (fun _=>rfl) (fun _=>by omega)) rfl rfl ?_
  | (with_reducible refine D8 (.pick _ _ _) ?_); first | refine d5.op (RR rfl (fun _=>rfl) rfl (fun hp h=>QK ((fun _=>rfl) hp) h)) rfl rfl ?_ | refine d5.op (SJ rfl (fun _=>rfl) rfl (fun hp h=>QJ ((fun _=>rfl) hp) h)) rfl rfl ?_
  | (with_reducible refine D8 (.store _ _ _) ?_); first | refine d5.stB rfl rfl rfl rfl ?_ | refine d5.stE rfl rfl rfl rfl rfl ?_
 | (with_reducible refine wH _ ?_); first
  | (with_reducible refine E1 (.move _) ?_); first | refine i9.gd rfl rfl rfl (G7 rfl (by first | exact id | exact fun _=>rfl)) rfl rfl ?_
  | (with_reducible refine E1 (.assign _) ?_); first | refine i9.gd rfl rfl rfl (NC rfl (by first | exact id | exact fun _=>rfl)) rfl rfl ?_
  | (with_reducible refine E1 (.call _) ?_); first | refine i9.gd rfl rfl rfl (SB rfl (by first | exact id | exact fun _=>rfl)) rfl rfl ?_
  | (with_reducible refine E1 (.fieldAddr _ _ _) ?_); first | refine i9.gd rfl rfl rfl (S9 rfl (by first | exact id | exact fun _=>rfl)) rfl rfl ?_ | refine i9.gd rfl rfl rfl (RU rfl (by first | exact id | exact fun _=>rfl) rfl) rfl rfl ?_
  | (with_reducible refine E1 (.unOp .not _ _) ?_); first | refine i9.gd rfl rfl rfl (SI rfl (by first | exact id | exact fun _=>rfl)) rfl rfl ?_
  | (with_reducible refine E1 (.load _ _) ?_); first | refine i9.gd rfl rfl rfl (v8 rfl (by first | exact id | exact fun _=>rfl) rfl) rfl rfl ?_ | refine i9.gd rfl rfl rfl (E2 rfl (by first | exact id | exact fun _=>rfl) rfl) rfl rfl ?_ | refine i9.gd rfl rfl rfl (C2 rfl (by first | exact id | exact fun _=>rfl) rfl rfl) rfl rfl ?_ | refine i9.gd rfl rfl rfl (Q9 rfl (by first | exact id | exact fun _=>rfl)) rfl rfl ?_ | refine i9.gd rfl rfl rfl (RZ rfl (by first | exact id | exact fun _=>rfl) rfl rfl rfl) rfl rfl ?_
  | (with_reducible refine E1 (.extract _ _) ?_); first | refine i9.gd rfl rfl rfl (FV rfl (by first | exact id | exact fun _=>rfl) rfl) rfl rfl ?_
  | (with_reducible refine E1 (.binOp .lss _ _ _ _) ?_); first | refine i9.gd rfl rfl rfl (SD rfl (by first | exact id | exact fun _=>rfl) rfl (by first | exact id | exact fun _=>rfl)) rfl rfl ?_
  | (with_reducible refine E1 (.binOp .neq _ _ _ _) ?_); first | refine i9.gd rfl rfl rfl (SG rfl (by first | exact id | exact fun _=>rfl) rfl (by first | exact id | exact fun _=>rfl)) rfl rfl ?_
  | (with_reducible refine E1 (.binOp .eql _ _ _ _) ?_); first | refine i9.gd rfl rfl rfl (RT rfl (by first | exact id | exact fun _=>rfl) rfl (by first | exact id | exact fun _=>rfl)) rfl rfl ?_
  | (with_reducible refine E1 (.binOp .gtr _ _ _ _) ?_); first | refine i9.gd rfl rfl rfl (RW rfl (by first | exact id | exact fun _=>rfl) rfl (by first | exact id | exact fun _=>rfl)) rfl rfl ?_
  | (with_reducible refine E1 (.binOp .geq _ _ _ _) ?_); first | refine i9.gd rfl rfl rfl (RV rfl (by first | exact id | exact fun _=>rfl) rfl (by first | exact id | exact fun _=>rfl)) rfl rfl ?_
  | (with_reducible refine E1 (.binOp .leq _ _ _ _) ?_); first | refine i9.gd rfl rfl rfl (SC rfl (by first | exact id | exact fun _=>rfl) rfl (by first | exact id | exact fun _=>rfl)) rfl rfl ?_
  | (with_reducible refine E1 (.binOp .add _ _ _ _) ?_); first | refine i9.gd rfl rfl rfl (HM rfl (by first | exact id | exact fun _=>rfl) rfl (by first | exact id | exact fun _=>rfl) (fun _=>by omega)) rfl rfl ?_
  | (with_reducible refine E1 (.binOp .sub _ _ _ _) ?_); first | refine i9.gd rfl rfl rfl (AZ rfl (by first | exact id | exact fun _=>rfl) rfl (by first | exact id | exact fun _=>rfl) (fun _=>by omega)) rfl rfl ?_
  | (with_reducible refine E1 (.binOp .mul _ _ _ _) ?_); first | refine i9.gd rfl rfl rfl (EL rfl (by first | exact id | exact fun _=>rfl) rfl (by first | exact id | exact fun _=>rfl) (fun _=>by omega)) rfl rfl ?_
  | (with_reducible refine E1 (.indexAddr _ _ _) ?_); first | refine i9.gd rfl rfl rfl (F6 rfl (by first | exact id | exact fun _=>rfl) rfl (by first | exact id | exact fun _=>rfl) rfl (fun _=>by omega)) rfl rfl ?_ | refine i9.gd rfl rfl rfl (AY rfl (by first | exact id | exact fun _=>rfl) rfl (by first | exact id | exact fun _=>rfl) rfl (fun _=>by omega)) rfl rfl ?_ | refine i9.gd rfl rfl rfl (KG rfl (by first | exact id | exact fun _=>rfl) rfl (by first | exact id | exact fun _=>rfl) (fun _=>by omega)) rfl rfl ?_ | refine i9.gd rfl rfl rfl (HN rfl (by first | exact id | exact fun _=>rfl) rfl (by first | exact id | exact fun _=>rfl) (fun _=>by omega)) rfl rfl ?_
 | (with_reducible refine E1 _ ?_); first
  | (with_reducible refine E1 (.move _) ?_); first | refine i9.op (G7 rfl (fun _=>rfl)) rfl rfl ?_
  | (with_reducible refine E1 (.assign _) ?_); first | refine i9.op (NC rfl (fun _=>rfl)) rfl rfl ?_
  | (with_reducible refine E1 (.call _) ?_); first | refine i9.op (SB rfl (fun _=>rfl)) rfl rfl ?_
  | (with_reducible refine E1 (.fieldAddr _ _ _) ?_); first | refine i9.op (S9 rfl (fun _=>rfl)) rfl rfl ?_ | refine i9.op (RU rfl (fun _=>rfl) rfl) rfl rfl ?_
  | (with_reducible refine E1 (.unOp .not _ _) ?_); first | refine i9.op (SI rfl (fun _=>rfl)) rfl rfl ?_
  | (with_reducible refine E1 (.load _ _) ?_); first | refine i9.op (v8 rfl (fun _=>rfl) rfl) rfl rfl ?_ | refine i9.op (E2 rfl (fun _=>rfl) rfl) rfl rfl ?_ | refine i9.op (C2 rfl (fun _=>rfl) rfl rfl) rfl rfl ?_ | refine i9.op (Q9 rfl (fun _=>rfl)) rfl rfl ?_ | refine i9.op (RZ rfl (fun _=>rfl) rfl rfl rfl) rfl rfl ?_
  | (with_reducible refine E1 (.extract _ _) ?_); first | refine i9.op (FV rfl (fun _=>rfl) rfl) rfl rfl ?_
  | (with_reducible refine E1 (.binOp .lss _ _ _ _) ?_); first | refine i9.op (SD rfl (fun _=>rfl) rfl (fun _=>rfl)) rfl rfl ?_
  | (with_reducible refine E1 (.binOp .neq _ _ _ _) ?_); first | refine i9.op (SG rfl (fun _=>rfl) rfl (fun _=>rfl)) rfl rfl ?_
  | (with_reducible refine E1 (.binOp .eql _ _ _ _) ?_); first | refine i9.op (RT rfl (fun _=>rfl) rfl (fun _=>rfl)) rfl rfl ?_
  | (with_reducible refine E1 (.binOp .gtr _ _ _ _) ?_); first | refine i9.op (RW rfl (fun _=>rfl) rfl (fun _=>rfl)) rfl rfl ?_
  | (with_reducible refine E1 (.binOp .geq _ _ _ _) ?_); first | refine i9.op (RV rfl (fun _=>rfl) rfl (fun _=>rfl)) rfl rfl ?_
  | (with_reducible refine E1 (.binOp .leq _ _ _ _) ?_); first | refine i9.op (SC rfl (fun _=>rfl) rfl (fun _=>rfl)) rfl rfl ?_
  | (with_reducible refine E1 (.binOp .add _ _ _ _) ?_); first | refine i9.op (HM rfl (fun _=>rfl) rfl (fun _=>rfl) (fun _=>by omega)) rfl rfl ?_
  | (with_reducible refine E1 (.binOp .sub _ _ _ _) ?_); first | refine i9.op (AZ rfl (fun _=>rfl) rfl (fun _=>rfl) (fun _=>by omega)) rfl rfl ?_
  | (with_reducible refine E1 (.binOp .mul _ _ _ _) ?_); first | refine i9.op (EL rfl (fun _=>rfl) rfl (fun _=>rfl) (fun _=>by omega)) rfl rfl ?_
  | (with_reducible refine E1 (.indexAddr _ _ _) ?_); first | refine i9.op (F6 rfl (fun _=>rfl) rfl (fun _=>rfl) rfl (fun _=>by omega)) rfl rfl ?_ | refine i9.op (AY rfl (fun _=>rfl) rfl (fun _=>rfl) rfl (fun _=>by omega)) rfl rfl ?_ | refine i9.op (KG rfl (fun _=>rfl) rfl (fun _=>rfl) (fun _=>by omega)) rfl rfl ?_ | refine i9.op (HN rfl (fun _=>rfl) rfl (fun _=>rfl) (fun _=>by omega)) rfl rfl ?_
  | (with_reducible refine E1 (.pick _ _ _) ?_); first | refine i9.op (RR rfl (fun _=>rfl) rfl (fun hp h=>QK ((fun _=>rfl) hp) h)) rfl rfl ?_ | refine i9.op (SJ rfl (fun _=>rfl) rfl (fun hp h=>QJ ((fun _=>rfl) hp) h)) rfl rfl ?_
 | refine Tr.seq ?_
 | refine Tr.rg ?_
 | refine Tr.skip ?_
 | refine Tr.blk ?_
 | refine Tr.ret ?_
 | refine Tr.exit ?_
 exact h ()):B:=K fun _=>h
theorem g8 {A B:Prop} (h:A) (K:(Unit->A)->B:=by
 intro h
 iterate 2 refine i5 ?_
 exact h ()):B:=K fun _=>h
theorem i7 {A B:Prop} (h:A) (K:(Unit->A)->B:=by
 intro h
 iterate 3 refine i5 ?_
 exact h ()):B:=K fun _=>h
theorem g9 {A B:Prop} (h:A) (K:(Unit->A)->B:=by
 intro h
 iterate 4 refine i5 ?_
 exact h ()):B:=K fun _=>h
theorem l6 {A B:Prop} (h:A) (K:(Unit->A)->B:=by
 intro h
 iterate 5 refine i5 ?_
 exact h ()):B:=K fun _=>h
theorem l3 {A B:Prop} (h:A) (K:(Unit->A)->B:=by
 intro h
 iterate 6 refine i5 ?_
 exact h ()):B:=K fun _=>h
theorem j3 {A B:Prop} (h:A) (K:(Unit->A)->B:=by
 intro h
 iterate 7 refine i5 ?_
 exact h ()):B:=K fun _=>h
theorem j1 {A B:Prop} (h:A) (K:(Unit->A)->B:=by
 intro h
 iterate 8 refine i5 ?_
 exact h ()):B:=K fun _=>h
theorem m9 {A B:Prop} (h:A) (K:(Unit->A)->B:=by
 intro h
 iterate 9 refine i5 ?_
 exact h ()):B:=K fun _=>h
theorem u5 {A B:Prop} (h:A) (K:(Unit->A)->B:=by
 intro h
 iterate 10 refine i5 ?_
 exact h ()):B:=K fun _=>h
theorem y8 {A B:Prop} (h:A) (K:(Unit->A)->B:=by
 intro h
 iterate 11 refine i5 ?_
 exact h ()):B:=K fun _=>h
theorem v9 {A B:Prop} (h:A) (K:(Unit->A)->B:=by
 intro h
 iterate 12 refine i5 ?_
 exact h ()):B:=K fun _=>h
theorem B3 {A B:Prop} (h:A) (K:(Unit->A)->B:=by
 intro h
 iterate 13 refine i5 ?_
 exact h ()):B:=K fun _=>h
theorem D7 {A B:Prop} (h:A) (K:(Unit->A)->B:=by
 intro h
 iterate 14 refine i5 ?_
 exact h ()):B:=K fun _=>h
theorem K3 {A B:Prop} (h:A) (K:(Unit->A)->B:=by
 intro h
 iterate 15 refine i5 ?_
 exact h ()):B:=K fun _=>h
theorem Z2 {A B:Prop} (h:A) (K:(Unit->A)->B:=by
 intro h
 iterate 16 refine i5 ?_
 exact h ()):B:=K fun _=>h
theorem P1 {A B:Prop} (h:A) (K:(Unit->A)->B:=by
 intro h
 iterate 17 refine i5 ?_
 exact h ()):B:=K fun _=>h
theorem FP {A B:Prop} (h:A) (K:(Unit->A)->B:=by
 intro h
 iterate 18 refine i5 ?_
 exact h ()):B:=K fun _=>h
theorem JO {A B:Prop} (h:A) (K:(Unit->A)->B:=by
 intro h
 iterate 19 refine i5 ?_
 exact h ()):B:=K fun _=>h
theorem JP {A B:Prop} (h:A) (K:(Unit->A)->B:=by
 intro h
 iterate 20 refine i5 ?_
 exact h ()):B:=K fun _=>h
theorem WT {A B:Prop} (h:A) (K:(Unit->A)->B:=by
 intro h
 iterate 21 refine i5 ?_
 exact h ()):B:=K fun _=>h
theorem gJ {A B:Prop} (h:A) (K:(Unit->A)->B:=by
 intro h
 iterate 22 refine i5 ?_
 exact h ()):B:=K fun _=>h
theorem al1 {A B:Prop} (h:A) (K:(Unit->A)->B:=by
 intro h
 iterate 23 refine i5 ?_
 exact h ()):B:=K fun _=>h
theorem gK {A B:Prop} (h:A) (K:(Unit->A)->B:=by
 intro h
 iterate 24 refine i5 ?_
 exact h ()):B:=K fun _=>h
theorem WU {A B:Prop} (h:A) (K:(Unit->A)->B:=by
 intro h
 iterate 25 refine i5 ?_
 exact h ()):B:=K fun _=>h
theorem al2 {A B:Prop} (h:A) (K:(Unit->A)->B:=by
 intro h
 iterate 26 refine i5 ?_
 exact h ()):B:=K fun _=>h
theorem gM {A B:Prop} (h:A) (K:(Unit->A)->B:=by
 intro h
 iterate 27 refine i5 ?_
 exact h ()):B:=K fun _=>h
theorem al3 {A B:Prop} (h:A) (K:(Unit->A)->B:=by
 intro h
 iterate 28 refine i5 ?_
 exact h ()):B:=K fun _=>h
theorem wE {A B:Prop} (h:A) (K:(Unit->A)->B:=by
 intro h
 iterate 29 refine i5 ?_
 exact h ()):B:=K fun _=>h
theorem al4 {A B:Prop} (h:A) (K:(Unit->A)->B:=by
 intro h
 iterate 30 refine i5 ?_
 exact h ()):B:=K fun _=>h
theorem wF {A B:Prop} (h:A) (K:(Unit->A)->B:=by
 intro h
 iterate 31 refine i5 ?_
 exact h ()):B:=K fun _=>h
theorem al5 {A B:Prop} (h:A) (K:(Unit->A)->B:=by
 intro h
 iterate 32 refine i5 ?_
 exact h ()):B:=K fun _=>h
theorem al6 {A B:Prop} (h:A) (K:(Unit->A)->B:=by
 intro h
 iterate 33 refine i5 ?_
 exact h ()):B:=K fun _=>h
theorem al7 {A B:Prop} (h:A) (K:(Unit->A)->B:=by
 intro h
 iterate 34 refine i5 ?_
 exact h ()):B:=K fun _=>h
theorem al8 {A B:Prop} (h:A) (K:(Unit->A)->B:=by
 intro h
 iterate 35 refine i5 ?_
 exact h ()):B:=K fun _=>h
theorem al9 {A B:Prop} (h:A) (K:(Unit->A)->B:=by
 intro h
 iterate 36 refine i5 ?_
 exact h ()):B:=K fun _=>h
theorem am0 {A B:Prop} (h:A) (K:(Unit->A)->B:=by
 intro h
 iterate 37 refine i5 ?_
 exact h ()):B:=K fun _=>h
theorem am1 {A B:Prop} (h:A) (K:(Unit->A)->B:=by
 intro h
 iterate 38 refine i5 ?_
 exact h ()):B:=K fun _=>h
theorem am2 {A B:Prop} (h:A) (K:(Unit->A)->B:=by
 intro h
 iterate 39 refine i5 ?_
 exact h ()):B:=K fun _=>h
theorem am3 {A B:Prop} (h:A) (K:(Unit->A)->B:=by
 intro h
 iterate 40 refine i5 ?_
 exact h ()):B:=K fun _=>h
end Go.Fl
