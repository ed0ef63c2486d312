/- Laws on walking typed knowledge through code, and contracts. -/
import Derived.Test.YthfaleobmefibaaGreatM1
import Derived.Laws.CopyRow
import Derived.Laws.StructEq
import Derived.OrdersHeld
import Derived.WideLaws
import Derived.IntWalk
import Derived.Lib.SplitLaws
import Derived.Lib.Join
import Derived.Lib.AtoiAll
import Derived.Lib.ItoaNum
import Derived.Laws.BytesArg
import Derived.Shelf.Spec.SlicesInsert
import Derived.Shelf.Spec.SlicesInsertGrow

/- The last step of a law's row. -/
namespace Go.Fl
open Go Go.RowKit Go.ChangeShapes Go.WideShapes Go.ChangeAt
def YD (P:Program):Bool:=(List.range P.types.size).all fun t=>match P.underlying t with | some (.slice e)=>Nat.blt 0 (P.cellsOf e) | _=>true
theorem af1 {P:Program} (h:YD P=true) {t e:TypeId} (ht:t<P.types.size) (hu:P.underlying t=some (.slice e)):0<P.cellsOf e:=by
 have:=List.all_eq_true.1 h t (List.mem_range.2 ht)
 rw[hu] at this
 simpa [Nat.blt_eq] using this
section
variable {H:Type} {enc:TypeId×Value->H} {P:Program}
theorem lT (hl:laidOutB P=true) (hm:mapsRowed P=true) (hz:YD P=true) {W W':World} {sp:Nat->Bool}:∀{ts:List TypeId} {vs:List Value} {ds:List (DataW H)} {ps:List MemPlace},(∀t∈ts,t<P.types.size)->DataW.TrodAll enc P W 0 (fun _=>true) true ts vs ds ps ->
  (∀p∈ps,W.sameAt W' p)->(∀p∈ps,sp p.block=true)->DataW.TrodAll enc P W' 0 sp true ts vs ds ps
 | [],[],[],ps,_,h,_,_=>h
 | t::ts,v::vs,d::ds,ps,ht,h,hs,hp=>by
  obtain ⟨p,q,⟨n,hn⟩,h2,rfl⟩:=h
  refine ⟨p,q,⟨n,?_⟩,lT hl hm hz (fun u hu=>ht u (List.mem_cons_of_mem _ hu)) h2 (fun x hx=>hs x (List.mem_append.2 (.inr hx))) (fun x hx=>hp x (List.mem_append.2 (.inr hx))),rfl⟩
  exact DataW.trod_stays (kids_rows hl hm) (fun ht hu=>af1 hz ht hu) (fun h=>by cases h) (ht t List.mem_cons_self) hn (fun x hx=>hs x (List.mem_append.2 (.inl hx))) (fun x hx=>hp x (List.mem_append.2 (.inl hx)))
 | [],_::_,_,_,_,h,_,_=>h.elim
 | [],[],_::_,_,_,h,_,_=>h.elim
 | _::_,[],_,_,_,h,_,_=>h.elim
 | _::_,_::_,[],_,_,h,_,_=>h.elim
theorem vF {f:Func} {s:ChangeSpec} {W W':World} {args:Array Value} {ds gs:List (DataW H)} {before:List MemPlace} {tb:TypeId} (hl:laidOutB P=true) (hm:mapsRowed P=true) (hz:YD P=true) (hW:DataW.Whole enc P f.params.toList s.vars false W args.toList ds gs before)
  (hts:(f.params.toList.all fun t=>Nat.blt t P.types.size)=true) (hv:s.vars=[]) (hfn:gs=[]->s.fn H (ds++gs)={ results:=[.lit (.bool true)],args:=ds }) (hr:f.resultTypes=#[tb]) (hb:P.underlying tb=some .bool) (hbel:Below W.heap.size W W') :
  s.post enc P f false true false false W args (.bool true) W':=by
 have hW':=hW
 obtain ⟨p,q,hA,hV,rfl,_,_⟩:=hW
 rw[hv] at hV
 obtain ⟨rfl,rfl⟩:=trodVars_none hV
 simp only[List.append_nil] at hW'
 have hfn':=hfn rfl
 have hlt:∀x∈p,x.block<W.heap.size:=fun x hx=>hW'.lt x hx
 refine ⟨ds,[],p,[],p,[],hW',?_,?_,?_,hbel.frame _,fun h=>by cases h⟩
 ·rw[hfn',hr]
  exact trodAll_mk1 (shut_bool hb _)
 ·rw[hfn']
  refine lT hl hm hz (fun t ht=>?_) hA (fun x hx=>?_) (fun x hx=>by simpa using hlt x hx)
  ·have:=List.all_eq_true.1 hts t ht
   simpa [Nat.blt_eq] using this
  ·cases x with
   | cell b o=>exact hbel.cell (p:=⟨b,o,none⟩) (hlt _ hx)
   | map b=>exact hbel.block b (hlt _ hx)
 ·rw[hfn',hv]; exact rfl
theorem mK {t:TypeId} {ts:List TypeId} {d:DataW H} {ds:List (DataW H)} (h:(DataW.weightsEach P (t::ts) (d::ds)).all (·<=reachBytes)=true):(∀m∈d.weights P t,m<=reachBytes)/\(DataW.weightsEach P ts ds).all (·<=reachBytes)=true:=by
 simp only[DataW.weightsEach,List.all_append,Bool.and_eq_true] at h
 exact ⟨fun m hm=>by simpa using List.all_eq_true.1 h.1 m hm,h.2⟩
end
theorem Ct.law {P:Program} {f:FuncId} {args:List d5} (h:Ct P f args (kB true)) {W:World} {vs:Array Value} (hv:o4 ⟨FN W,z5⟩ args vs.toList) {Q:Ending->World->Prop} (hq:∀W',Below W.heap.size W W'->Q (.returned (.bool true)) W'):Calls P f vs W Q:=by
 have:=h W (FN W) (wD W) vs.toList hv
 refine this.mono fun e W' ⟨r,J',he,hb,_,_,_,hr⟩=>?_
 subst he
 rw[show r=.bool true from hr]
 exact hq W' hb
theorem vD {k:IntKind} {n:Int} {g:Gh} {v:Value} (h:b7 (DV k) n g v):i9 (.int k n) g v:=by
 obtain ⟨_,rfl,rfl⟩:=h; rfl
end Go.Fl

/- Function values as arguments: what is known of what they answer. Shorter words for the walks. -/
namespace Go.Fl
open Go Go.RowKit
theorem rr {p:Prop}:p->true=true:=fun _=>rfl
section
variable {P:Program} {c:m9} {S:i5} {M:i1} {p:Bool} {d:Option Tmp} {ty:TypeId} {pos:String} {af:Array Edge} {gd:Option (Nat×Bool)} {x:Operand} {b:Bool}
end
end Go.Fl

/- Slices of the call's own that begin behind the head of their row: queues. -/
namespace Go.Fl
open Go Go.RowKit
def C8 (t n off len:Nat):d5:=fun g v=>∃b cap o,g.M t=some (.blk b cap)/\off+len<=cap/\(off<cap->o=off*n)/\v=.slice (some ⟨b,o,none⟩) len (cap-off)
instance (t n o l:Nat):o7 (C8 t n o l) [t]:=⟨fun _ hd ⟨b,cap,a,h1,h2⟩=>⟨b,cap,a,(hd t (by simp)).trans h1,h2⟩⟩
section
variable {P:Program} {c:m9} {S:i5} {M:i1} {p:Bool} {d:Option Tmp} {ty:TypeId} {pos:String} {af:Array Edge} {gd:Option (Nat×Bool)} {x y:Operand} {b b':Bool}
theorem Y6 {t:TypeId} {e':TypeId} [ht:B7 P t e'] {u n off len:Nat} (hx:j2 S x=some (b,C8 u n off len)) (hb:p=true->b=true):l4 P c S M ⟨d,.call { callee:=.builtin .len,args:=#[x],argTypes:=#[t] },ty,pos,af,gd⟩ p (kI len) none :=
 l4.pure fun hp a g w _ _ ho=>by
  obtain ⟨_,_,_,_,_,_,h2⟩:=ho x (by simp[Op.operands,Call.operands]) b _ hx (hb hp)
  exact ⟨_,by simp[execOp,resolve,invoke,builtin,Builtin.len_,h2,run_underlying ht.h,goInt],rfl⟩
variable {ops:Array Oper} {rest:List Oper} {Q:Exit->Act->World->Prop} {dd:Nat}
theorem b8.appQ {t et:TypeId} [ht:B7 P t et] {size bytes:Nat} {zz:Value} [hsz:o8 P et size bytes zz] {α:Type} {e:i8 α} {xs ys:List α} {u off len len' m:Nat} {dep:List Nat} {k:d5} {M':List α->Nat->i1}
  (hx:j2 S x=some (true,C8 u size off len)) [hl:p9 M u (l3 false et e xs len') dep] (hle:off+len=len') (hy:j2 S y=some (true,k)) [hsrc:NS M k e ys] (hm:ys.length=m) (hup:∀L n,D4 M u (l3 false et e L n) [] (M' L n))
  (hs:size=e.n) (hzz:zz.cells.size=size) (hpos:0<size) (hnd:K0 u M=true) (hn:Nat.blt dd c.n=true) (h63:len'+m<=9223372036854775807) (hb:(len'+m)*bytes<=140737488355328)
  (K:∀(L:List α) (o:Nat),(o=off/\L=xs++ys)\/(o=0/\L=xs.drop off++ys)->b8 P c ops (⟨dd,true,[u],C8 u size o (len+m)⟩::G6 u S) (M' L (o+(len+m))) rest Q) :
  b8 P c ops S M (⟨some dd,.call { callee:=.builtin .append,args:=#[x,y],argTypes:=#[t,t] },ty,pos,af,none⟩::rest) Q:=by
 intro a g w hsat
 subst hle hm
 obtain ⟨i,hi,rfl,rfl,hz⟩:=hsz.h
 have hdn:dd<c.n:=by simpa [Nat.blt_eq] using hn
 obtain ⟨b,cap,ad0,hm,hoc,had,ex⟩:=A8 hsat.slots hx rfl
 have hk2:=hsrc.imp hsat.ok hsat.conts (A8 hsat.slots hy rfl)
 obtain ⟨news,ad,c2,e2,n1,n2,n3,n4⟩:=kN (P:=P) hk2
 rw[<- hs] at n1 n4
 obtain ⟨h0,_,cs,h3,h4,h5,h6,h7⟩:=DO (xs:=xs) hsat.conts hm
 refine wpList_plain rfl fun K' hK'=>?_
 unfold Oper.wp
 simp only[execOp,resolve,invoke,builtin,Sem.run_bind,Sem.run_pure,Result.andThen_ok,List.map_toArray,List.map_cons,List.map_nil]
 have finish:∀{bk':Bk} {w':World} {v':Value} (L:List α) (o:Nat),(o=off/\L=xs++ys)\/(o=0/\L=xs.drop off++ys)->EP (.blk b cap) w w'->(∀b2 cap2,bk'=.blk b2 cap2->(∃cap0,Bk.blk b cap=.blk b2 cap0)\/(w.heap.size<=b2/\b2<w'.heap.size)) ->
   l3 false et e L (o+(len+ys.length)) ⟨g.J,fun t=>if t=u then some bk' else g.M t⟩ bk' (World.objAt w' bk')->C8 u i.size o (len+ys.length) ⟨g.J,fun t=>if t=u then some bk' else g.M t⟩ v' ->
   (Builtin.append_ #[t,t] ty #[a.eval x,a.eval y]).run P w=.ok v' w' ->
   Oper.upon P ⟨some dd,.call { callee:=.builtin .append,args:=#[x,y],argTypes:=#[t,t] },ty,pos,af,none⟩ a K' Q (((Builtin.append_ #[t,t] ty #[a.eval x,a.eval y]).run P w).andThen fun v w=>.ok (.value v) w):=by
  intro bk' w' v' L o hLo hbut hbk hct hkk hr
  rw[hr]
  simp only[Result.andThen_ok,Oper.upon]
  exact hK' _ _ (K L o hLo _ _ _ (hsat.rebind hm (hsat.nomark hl hm) hbut (hup L _) hnd inferInstance hbk hct hdn hkk))
 have hcl:(off+len)*e.n<=cs.size:=by rw[h4]; exact Nat.mul_le_mul_right _ h5
 by_cases hroom:off+len+ys.length<=cap
 ·by_cases hzero:off<cap
  ·have hst:=run_storeCells_at P b ((off+len)*e.n) et news 0 cs w h3 (by rw[n1,hs,Nat.add_zero,<- Nat.add_mul,h4]; exact Nat.mul_le_mul_right _ hroom) n2
   simp only[Nat.add_zero] at hst
   have holdl:(cs.toList.take ((off+len)*e.n)).length=(off+len)*e.n:=by simp; omega
   have hold:∀i x,xs[i]?=some x->∃ds,e.rd g.J ds x/\∀j v,ds[j]?=some v->(cs.toList.take ((off+len)*e.n))[i*e.n+j]?=some v:=fun i x hx=>by
    obtain ⟨ds,q1,q2⟩:=h7 i x hx
    refine ⟨ds,q1,fun j v hj=>?_⟩
    have hil:=(List.getElem?_eq_some_iff.1 hx).1
    have hjl:=(List.getElem?_eq_some_iff.1 hj).1
    rw[e.len q1] at hjl
    have:(i+1)*e.n<=(off+len)*e.n:=Nat.mul_le_mul_right _ zo
    rw[Nat.succ_mul] at this
    rw[List.getElem?_take,if_pos zo]
    simpa using q2 j v hj
   refine finish (bk':=.blk b cap) (w':=w.setRow b (cs.toList.take ((off+len)*e.n)++news++cs.toList.drop ((off+len)*e.n+news.length)).toArray) (v':=.slice (some ⟨b,ad0,none⟩) (len+ys.length) (cap-off)) (xs++ys) off (.inl ⟨rfl,rfl⟩) ⟨rfl,rfl,rfl,by simp,fun k _ hk=>setRow_other w b k _ (fun e'=>hk cap (by rw[e'])),Nat.le_refl _⟩ (fun b' cap' hb=>by cases hb; exact .inl ⟨_,rfl⟩) ?_ ⟨_,_,_,if_pos rfl,by omega,had,rfl⟩ ?_
   ·refine ⟨by simp[h0]; omega,(fun hz0=>by cases hz0),_,setRow_heap w b cs _ et (0,0) h3,?_,by omega,h6,fun i' x' hx'=>?_⟩
    ·simp[n1,hs]; rw[Nat.min_eq_left hcl]; have:(off+len)*e.n+ys.length*e.n<=cs.size:=by rw[<- Nat.add_mul,h4]; exact Nat.mul_le_mul_right _ hroom
     omega
    ·obtain ⟨ds,q1,q2⟩:=OD (cs:=cs.toList.take ((off+len)*e.n)++news++cs.toList.drop ((off+len)*e.n+news.length)) (by rw[holdl,h0]) (fun j v hj=>by rw[List.getElem?_append_left (List.getElem?_eq_some_iff.1 hj).1]; exact hj) hold n3 i' x' hx'
     exact ⟨ds,q1,fun j v hj=>by have:=q2 j v hj; simpa using this⟩
   ·rw[ex,e2,RV ht.h hi (e2▸n4 w rfl) zo]
    simp only[Addr.add_lit,hs]
    rw[had hzero,hs,<- Nat.add_mul,hst]
    rfl
  ·have hy0:ys=[]:=List.eq_nil_of_length_eq_zero zo
   subst hy0
   have hnews:news=[]:=List.eq_nil_of_length_eq_zero (by simpa using n1)
   subst hnews
   refine finish (bk':=.blk b cap) (w':=w) (v':=.slice (some ⟨b,ad0,none⟩) len (cap-off)) (xs++[]) off (.inl ⟨rfl,rfl⟩) ⟨rfl,rfl,rfl,Nat.le_refl _,fun _ _ _=>rfl,Nat.le_refl _⟩ (fun b' cap' hb=>by cases hb; exact .inl ⟨_,rfl⟩) ?_ ⟨_,_,_,if_pos rfl,by simpa using hoc,had,rfl⟩ ?_
   ·rw[List.append_nil]
    exact ⟨by simpa using h0,(fun hz0=>by cases hz0),cs,h3,h4,h5,h6,h7⟩
   ·rw[ex,e2,RV ht.h hi (e2▸n4 w rfl) (by simp; omega)]
    rfl
 ·have hcells:∀j v,((cs.toList.take ((off+len)*e.n)).drop (off*e.n))[j]?=some v->w.cell? ⟨b,off*e.n+j,none⟩=some v:=fun j v hj=>by
   rw[List.getElem?_drop,List.getElem?_take] at hj
   split at hj
   ·exact L1 h3 (by simpa using hj)
   ·cases hj
  have hol:((cs.toList.take ((off+len)*e.n)).drop (off*e.n)).length=len*e.n:=by
   rw[List.length_drop,List.length_take,Array.length_toList,Nat.min_eq_left hcl,Nat.add_mul]; omega
  have holds:∀i x,(xs.drop off)[i]?=some x->∃ds,e.rd g.J ds x/\∀j v,ds[j]?=some v->((cs.toList.take ((off+len)*e.n)).drop (off*e.n))[i*e.n+j]?=some v:=fun i x hx=>by
   rw[List.getElem?_drop] at hx
   obtain ⟨ds,q1,q2⟩:=h7 _ x hx
   refine ⟨ds,q1,fun j v hj=>?_⟩
   have hil:=(List.getElem?_eq_some_iff.1 hx).1
   have hjl:=(List.getElem?_eq_some_iff.1 hj).1
   rw[e.len q1] at hjl
   have:(off+i+1)*e.n<=(off+len)*e.n:=Nat.mul_le_mul_right _ zo
   rw[Nat.succ_mul,Nat.add_mul] at this
   have q3:=q2 j v hj
   rw[Nat.add_mul] at q3
   rw[List.getElem?_drop,List.getElem?_take,if_pos zo,show off*e.n+(i*e.n+j)=off*e.n+i*e.n+j by omega]
   simpa using q3
  have hfo:(Builtin.firstCells i.size len (.slice (some ⟨b,ad0,none⟩) len (cap-off))).run P w.drew=.ok ((cs.toList.take ((off+len)*e.n)).drop (off*e.n)).toArray w.drew:=by
   refine XT (by rw[hol,hs]) fun j v hj=>?_
   rw[World.cell?_drew]
   by_cases hz0:off<cap
   ·rw[had hz0,hs]; exact hcells j v hj
   ·have hl0:len=0:=by omega
    have:=(List.getElem?_eq_some_iff.1 hj).1
    rw[hol,hl0] at this; omega
  have hr:=jT (ty:=ty) ht.h hi hz hfo (e2▸n4 w.drew rfl) (cap:=cap-off) zo zo (growslice_fits zo (Nat.le_trans (Nat.mul_le_mul_right _ zo) hb))
  have hge:=grownCap_ge w (len+ys.length) (cap-off) et
  have hcm:=grownCap_le_maxLen w (len+ys.length) (cap-off) et (by simp only[maxLen]; omega)
  have hobj:=heap_alloc_new w.drew (.cells (((cs.toList.take ((off+len)*e.n)).drop (off*e.n)).toArray++news.toArray++Builtin.zeroCells zz.cells (grownCap w (len+ys.length) (cap-off) et-(len+ys.length))) et)
  refine finish (bk':=.blk w.heap.size (grownCap w (len+ys.length) (cap-off) et)) (w':=w.drew.alloc (.cells (((cs.toList.take ((off+len)*e.n)).drop (off*e.n)).toArray++news.toArray++Builtin.zeroCells zz.cells (grownCap w (len+ys.length) (cap-off) et-(len+ys.length))) et)) (xs.drop off++ys) 0 (.inr ⟨rfl,rfl⟩) ⟨rfl,rfl,rfl,by simp,fun q hq _=>Below.heap_alloc w.drew _ q hq,DU _⟩ (fun b cap hb=>by cases hb; exact .inr ⟨Nat.le_refl _,by simp⟩) ?_ ⟨_,_,0,if_pos rfl,by omega,fun _=>by omega,by rw[Nat.sub_zero]⟩ (by rw[ex,e2]; exact hr)
  refine ⟨by simp[h0],(fun hz0=>by cases hz0),_,hobj,?_,by omega,hcm,fun i' x' hx'=>?_⟩
  ·simp only[Array.size_append,List.size_toArray,size_zeroCells,hol,n1,hzz,hs,<- Nat.add_mul]
   congr 1; omega
  ·obtain ⟨ds,q1,q2⟩:=OD (cs:=(cs.toList.take ((off+len)*e.n)).drop (off*e.n)++news++(Builtin.zeroCells zz.cells (grownCap w (len+ys.length) (cap-off) et-(len+ys.length))).toList) (by rw[hol,List.length_drop,h0]; congr 1; omega) (fun j v hj=>by rw[List.getElem?_append_left (List.getElem?_eq_some_iff.1 hj).1]; exact hj) holds n3 i' x' hx'
   refine ⟨ds,q1,fun j v hj=>?_⟩
   have:=q2 j v hj
   rw[<- Array.getElem?_toList]
   simpa [List.append_assoc] using this
end
theorem E3.q {S:i5} {M M':i1} {S':i5} {s t n o o' l l':Nat} (hl:look S s=some (true,C8 t n o l)) (ho:o=o') (hn:l=l') (hs:u4 [t] (tags M')=true) (r:E3 S M S' M'):E3 S M (⟨s,true,[t],C8 t n o' l'⟩::S') M' :=
 r.conv hl rfl (fun _ _ h=>by subst ho; subst hn; exact h) hs
end Go.Fl

/- Calls that change one block of the caller's own: the block is handed on (a pointer to it, or a slice of it, is the first argument) and holds something else behind the call. No program in sight. -/
namespace Go.Fl
open Go Go.RowKit

def g1 (J:JV) (b cap:Nat):Gh:=⟨J,fun t=>if t=0 then some (.blk b cap) else none⟩
def EQ (P:Program) (f:FuncId) (k0:d5) (ks:List d5) (ct ct':t8) (res:d5):Prop :=
 ∀w J b cap,Im J w->(∀o,J b o=none)->b<w.heap.size->ct (g1 J b cap) (.blk b cap) w.heap[b]?->∀v vs,k0 (g1 J b cap) v->o4 ⟨J,z5⟩ ks vs ->
  Calls P f (v::vs).toArray w fun e w'=>∃r J',e=.returned r/\EP (.blk b cap) w w'/\J.le J'/\(∀b' o,b'<w.heap.size->J' b' o=J b' o)/\Im J' w'/\res ⟨J',z5⟩ r/\ct' (g1 J' b cap) (.blk b cap) w'.heap[b]?
theorem l7.mut {c:m9} {S:i5} {M M':i1} {a:Act} {g:Gh} {w w':World} (h:l7 c S M a g w) {u b cap:Nat} (hm:g.M u=some (.blk b cap)) (hnm:w.heap[b]?≠some (Obj.deferred (some []))) (hbut:EP (.blk b cap) w w') {J':JV} (hJ:g.J.le J') (hJo:∀b' o,b'<w.heap.size->J' b' o=g.J b' o) (him:Im J' w')
  {ct':t8} (hup:D4 M u ct' [] M') (hd:A9 ct' []) (hct:ct' ⟨J',g.M⟩ (.blk b cap) w'.heap[b]?) {d:Nat} (hn:d<c.n) {k:d5} {v:Value} (hk:k ⟨J',g.M⟩ v) [hkd:o7 k []] :
  l7 c (⟨d,true,[],k⟩::S) M' (a.put (some d) v) ⟨J',g.M⟩ w':=by
 have htag:=hup.tags
 obtain ⟨hob,hlt,hJn⟩:=h.ok.own u b cap hm
 have hle:g.le ⟨J',g.M⟩:=⟨hJ,fun _ _ e=>e⟩
 refine ⟨⟨⟨hbut.os.trans h.ok.bel.os,hbut.tape.trans h.ok.bel.tape,hbut.output.trans h.ok.bel.output,Nat.le_trans h.ok.bel.size hbut.size,fun q hq hnb=>?_,Nat.le_trans h.ok.bel.drawn hbut.drawn⟩,JV.le_trans h.ok.jle hJ,fun b' o hb=>?_,him,fun t b' cap' ht=>?_,h.ok.inj⟩,?_,?_,?_,?_,?_,?_,h.defers.on fun D hD=>hbut.block D (Array.getElem?_eq_some_iff.1 hD).1 (fun cap' e=>by cases e; exact hnm hD),by simp[Act.put,h.size]⟩
 ·rw[hbut.block q (Nat.lt_of_lt_of_le hq h.ok.bel.size) (fun cap' e=>by cases e; rcases hob with h1 | h1; omega; exact hnb h1)]
  exact h.ok.bel.block q hq hnb
 ·show J' b' o=c.J0 b' o
  rw[hJo b' o (Nat.lt_of_lt_of_le hb h.ok.bel.size)]; exact h.ok.jold b' o hb
 ·obtain ⟨h1,h2,h3⟩:=h.ok.own t b' cap' ht
  exact ⟨h1,Nat.lt_of_lt_of_le h2 hbut.size,fun o=>by show J' b' o=none; rw[hJo b' o h2]; exact h3 o⟩
 ·exact (h.slots.on h.sdep h.conts hle).put (by rw[h.size]; exact hn) ⟨fun _=>hk,fun hf=>by cases hf⟩
 ·intro e he
  rcases hup.mem h.nodup e he with rfl | ⟨he,hne⟩
  ·exact ⟨_,hm,hct⟩
  ·obtain ⟨bk,h1,h2⟩:=h.conts e he
   refine ⟨bk,h1,?_⟩
   have:World.objAt w' bk=World.objAt w bk:=by
    cases bk with
    | nil=>rfl
    | blk b' cap'=>exact hbut.block b' (h.ok.own _ _ _ h1).2.1 (fun cap'' e'=>by cases e'; exact hne (h.ok.inj _ _ _ _ _ h1 hm))
   rw[this]
   exact (h.cdep e he).1.dep hJ (fun _ _=>rfl) h2
 ·intro t ht
  have:=h.dom t ht
  show t∈tags M'
  rw[htag]; exact this
 ·show (tags M').Nodup
  rw[htag]; exact h.nodup
 ·intro e he
  rcases List.mem_cons.1 he with rfl | he
  ·exact ⟨hkd,fun _ h=>by cases h⟩
  ·exact ⟨(h.sdep e he).1,fun t ht=>by show t∈tags M'; rw[htag]; exact (h.sdep e he).2 t ht⟩
 ·intro e he
  rcases hup.mem h.nodup e he with rfl | ⟨he,_⟩
  ·exact ⟨hd,fun _ h=>by cases h⟩
  ·exact ⟨(h.cdep e he).1,fun t ht=>by show t∈tags M'; rw[htag]; exact (h.cdep e he).2 t ht⟩
class YY (k:d5) (u:outParam Nat) (k0:outParam d5):Prop where
 imp:∀{g:Gh} {v:Value} {b cap:Nat} {J:JV},g.M u=some (.blk b cap)->k g v->k0 (g1 J b cap) v
 blk:∀{g:Gh} {v:Value},k g v->∃bk,g.M u=some bk
instance {u o:Nat}:YY (y5 u o) u (y5 0 o):=⟨fun hm ⟨b,cap,h1,h2⟩=>⟨b,cap,by rw[hm] at h1; simpa [g1] using h1,h2⟩,fun ⟨_,_,h1,_⟩=>⟨_,h1⟩⟩
section
variable {P:Program} {c:m9} {ops:Array Oper} {S:i5} {M:i1} {rest:List Oper} {Q:Exit->Act->World->Prop}
variable {d:Nat} {ty:TypeId} {pos:String} {af:Array Edge}
end

end Go.Fl

/- A region that draws its order and changes a thing of the call's own by an operation that hands back a value ('copy'). -/
namespace Go.Fl
open Go Go.RowKit
section
variable {P:Program} {c:m9} {Q:Exit->Act->World->Prop} {l:List Oper} {m:Nat} {S:i5} {M Mx:i1} {MI:Nat->i1} {rs:List B6} {a0:Act} {g0:Gh} {w1:World}
variable {M0 MA Mc:i1} {rest:List Oper} {d:Nat} {oop:Op} {ty:TypeId} {pos:String} {af:Array Edge} {q u k':Nat} {x y:Operand}
end
end Go.Fl

/- Slices of one's own row and 'copy' into it (elements: integers). No program in sight. -/
namespace Go.Fl
open Go Go.RowKit
section
variable {P:Program} {c:m9} {S:i5} {M:i1} {p:Bool} {d:Option Tmp} {ty:TypeId} {pos:String} {af:Array Edge} {gd:Option (Nat×Bool)} {x y:Operand} {b b':Bool}
theorem xZ {u len:Nat} {g:Gh} {v:Value} (h:o5 u len g v) (h0:0<len):∃b cap,g.M u=some (.blk b cap)/\v=.slice (some ⟨b,0,none⟩) len cap:=by
 rcases h with ⟨_,h1,_⟩ | h
 ·omega
 ·exact h
end
section
variable {P:Program} {c:m9} {S:i5} {M:i1} {ty:TypeId} {pos:String} {af:Array Edge} {x y:Operand} {d:Nat}
variable {ops:Array Oper} {rest:List Oper} {Q:Exit->Act->World->Prop}
end
end Go.Fl

/- Slices that are nil just if they are empty. No program in sight. -/
namespace Go.Fl
open Go Go.RowKit
section
variable {P:Program} {c:m9} {S:i5} {M:i1} {p:Bool} {d:Option Tmp} {ty:TypeId} {pos:String} {af:Array Edge} {gd:Option (Nat×Bool)} {x y:Operand} {b b':Bool} {Q:Exit->Act->World->Prop}
end
section
variable {P:Program} {c:m9} {Q:Exit->Act->World->Prop} {S:i5} {M M0:i1} {ops:Array Oper} {rest:List Oper} {d:Nat} {oop:Op} {ty:TypeId} {pos:String} {af:Array Edge} {m:Nat}
end
end Go.Fl

/- max, min. No program in sight. -/
namespace Go.Fl
open Go Go.RowKit
section
variable {P:Program} {c:m9} {S:i5} {M:i1} {p:Bool} {d:Option Tmp} {ty:TypeId} {pos:String} {af:Array Edge} {gd:Option (Nat×Bool)} {x y:Operand} {b b':Bool}
theorem iA {ts:Array TypeId} {m n:Int} (hx:j2 S x=some (b,kI m)) (hb:p=true->b=true) (hy:j2 S y=some (b',kI n)) (hb':p=true->b'=true):l4 P c S M ⟨d,.call { callee:=.builtin .max,args:=#[x,y],argTypes:=ts },ty,pos,af,gd⟩ p (kI (if n>m then n else m)) none :=
 l4.pure fun hp a g w _ _ ho=>by
  have h1:a.eval x=_:=ho x (by simp[Op.operands,Call.operands]) b _ hx (hb hp)
  have h2:a.eval y=_:=ho y (by simp[Op.operands,Call.operands]) b' _ hy (hb' hp)
  exact ⟨_,by simp[execOp,resolve,invoke,builtin,h1,h2,run_max_int2],rfl⟩
theorem iB {ts:Array TypeId} {m n:Int} (hx:j2 S x=some (b,kI m)) (hb:p=true->b=true) (hy:j2 S y=some (b',kI n)) (hb':p=true->b'=true):l4 P c S M ⟨d,.call { callee:=.builtin .min,args:=#[x,y],argTypes:=ts },ty,pos,af,gd⟩ p (kI (if n<m then n else m)) none :=
 l4.pure fun hp a g w _ _ ho=>by
  have h1:a.eval x=_:=ho x (by simp[Op.operands,Call.operands]) b _ hx (hb hp)
  have h2:a.eval y=_:=ho y (by simp[Op.operands,Call.operands]) b' _ hy (hb' hp)
  exact ⟨_,by simp[execOp,resolve,invoke,builtin,h1,h2,Builtin.min_,Builtin.min2],rfl⟩
end
end Go.Fl

/- Elements of an array of the call's own. No program in sight. -/
namespace Go.Fl
open Go Go.RowKit
section
variable {P:Program} {c:m9} {S:i5} {M:i1} {p:Bool} {d:Option Tmp} {ty:TypeId} {pos:String} {af:Array Edge} {gd:Option (Nat×Bool)} {x y:Operand} {b b':Bool}
theorem DE {t et:TypeId} {n:Nat} [ht:AH P t n et] {sz by':Nat} {zz:Value} [hz:o8 P et sz by' zz] {u o:Nat} {ik:IntKind} {i:Int} (hx:j2 S x=some (b,y5 u o)) (hb:p=true->b=true) (hy:j2 S y=some (b',y8 ik i)) (hb':p=true->b'=true) (h:p=true->0<=i/\i<n) :
  l4 P c S M ⟨d,.indexAddr t x y,ty,pos,af,gd⟩ p (y5 u (o+i.toNat*sz)) none :=
 l4.pure fun hp a g w _ _ ho=>by
  obtain ⟨bl,cap,h1,h2⟩:=ho x (by simp[Op.operands]) b _ hx (hb hp)
  have h3:a.eval y=_:=ho y (by simp[Op.operands]) b' _ hy (hb' hp)
  have hlt:=h hp
  obtain ⟨ti,hi,rfl,_,_⟩:=hz.h
  refine ⟨.pointer (some ⟨bl,o+i.toNat*ti.size,none⟩),?_,bl,cap,h1,rfl⟩
  simp[execOp,h2,h3,Instr.indexAt,run_underlying ht.h,asIntOf,hlt,sizeOf,typeInfo,hi,Instr.sureAddr,Addr.add_lit]
end
end Go.Fl

/- Rows that a struct of the call's own holds: they begin as nil, and are appended to; maps of integers. No program in sight. -/
namespace Go.Fl
open Go Go.RowKit

instance {ks kx out:List d5} [h:U1 ks 0 kx out]:U1 ks (0+0) kx out:=h
inductive Wk:List d5->List d5->Prop
 | nil:Wk [] []
 | k {k:d5} {ks ls:List d5} (r:Wk ks ls):Wk (k::ks) (k::ls)
 | any {k:d5} {ks ls:List d5} (r:Wk ks ls):Wk (k::ks) (W6::ls)
theorem Wk.imp {ks ls:List d5} (h:Wk ks ls) {g:Gh}:∀{vs:List Value},o4 g ks vs->o4 g ls vs:=by
 induction h with
 | nil=>intro vs h; exact h
 | k _ ih=>intro vs h; cases vs with
  | nil=>exact h.elim
  | cons v vs=>exact ⟨h.1,ih h.2⟩
 | any _ ih=>intro vs h; cases vs with
  | nil=>exact h.elim
  | cons v vs=>exact ⟨trivial,ih h.2⟩
theorem l7.conC {c:m9} {S:i5} {M M':i1} {a:Act} {g:Gh} {w:World} (h:l7 c S M a g w) {v:Nat} {ct ct':t8} {dep dep':List Nat} [hl:p9 M v ct dep] (hc:∀g b o,ct g b o->ct' g b o) (hd:A9 ct' dep') (hup:D4 M v ct' dep' M') (hs:∀t∈dep',t∈tags M):l7 c S M' a g w:=by
 have htag:=hup.tags
 refine ⟨h.ok,h.slots,fun e he=>?_,fun t ht=>?_,?_,fun e he=>?_,fun e he=>?_,h.defers,h.size⟩
 ·rcases hup.mem h.nodup e he with rfl | ⟨he,_⟩
  ·obtain ⟨b,h1,h2⟩:=h.conts _ hl.mem
   exact ⟨b,h1,hc _ _ _ h2⟩
  ·exact h.conts e he
 ·have:=h.dom t ht
  show t∈tags M'
  rw[htag]; exact this
 ·show (tags M').Nodup
  rw[htag]; exact h.nodup
 ·exact ⟨(h.sdep e he).1,fun t ht=>by show t∈tags M'; rw[htag]; exact (h.sdep e he).2 t ht⟩
 ·rcases hup.mem h.nodup e he with rfl | ⟨he,_⟩
  ·exact ⟨hd,fun t ht=>by show t∈tags M'; rw[htag]; exact hs t ht⟩
  ·exact ⟨(h.cdep e he).1,fun t ht=>by show t∈tags M'; rw[htag]; exact (h.cdep e he).2 t ht⟩
theorem l7.growC {c:m9} {S:i5} {M M1:i1} {a:Act} {g:Gh} {w:World} (h:l7 c S M a g w) (v o u:Nat) {ks ks':List d5} {dep dep':List Nat} [hl:p9 M v (j5 ks) dep] (ho:ks[o]?=some (i9 (.slice none 0 0))) (he:ks'=ks.set o (o5 u 0)) (hd:A9 (j5 ks') dep') (hup:D4 M v (j5 ks') dep' M1)
  (hf:u4 [u] (tags M)=false) {α:Type} (et:TypeId) (e:i8 α) (hs:u4 dep' (u::tags M)=true) (hdk:∀k∈ks,∃d,o7 k d/\∀t∈d,t∈tags M):∃g',l7 c S (⟨u,[],l3 true et e [] 0⟩::M1) a g' w:=by
 have hfresh:u∉tags M:=by
  intro ht
  have:u4 [u] (tags M)=true:=by
   simp only[u4,Bool.and_true]
   exact List.any_eq_true.2 ⟨u,ht,Nat.beq_refl u⟩
  rw[hf] at this; cases this
 have hnone:g.M u=none:=by
  cases hm:g.M u with
  | none=>rfl
  | some b=>exact absurd (h.dom u (by rw[hm]; simp)) hfresh
 have hle:g.le (g.add u .nil):=⟨JV.le_refl _,fun t b hb=>by
  simp only[Gh.add]
  by_cases ht:t=u
  ·subst ht; rw[hnone] at hb; cases hb
  ·rw[if_neg ht]; exact hb⟩
 have hblk:∀t b cap,(g.add u .nil).M t=some (.blk b cap)->g.M t=some (.blk b cap):=fun t b cap ht=>by
  simp only[Gh.add] at ht
  by_cases e:t=u
  ·rw[if_pos e] at ht; cases ht
  ·rw[if_neg e] at ht; exact ht
 have htag:=hup.tags
 refine ⟨g.add u .nil,⟨⟨h.ok.bel,h.ok.jle,h.ok.jold,h.ok.im,fun t b cap ht=>h.ok.own t b cap (hblk _ _ _ ht),fun t t' b c1 c2 h1 h2=>h.ok.inj t t' b c1 c2 (hblk _ _ _ h1) (hblk _ _ _ h2)⟩,h.slots.on h.sdep h.conts hle,fun x hx=>?_,fun t ht=>?_,?_,fun x hx=>?_,fun x hx=>?_,h.defers,h.size⟩⟩
 ·rcases List.mem_cons.1 hx with rfl | hx
  ·exact ⟨_,Gh.add_same _ _ _,rfl,rfl⟩
  ·rcases hup.mem h.nodup x hx with rfl | ⟨hx,_⟩
   ·obtain ⟨b,h1,cs,ty,h2,h3⟩:=h.conts _ hl.mem
    refine ⟨b,hle.2 _ _ h1,cs,ty,h2,?_⟩
    have hmono:o4 (g.add u .nil) ks cs.toList:=by
     have:∀{ls:List d5} {vs:List Value},(∀k∈ls,∃d,o7 k d/\∀t∈d,t∈tags M)->o4 g ls vs->o4 (g.add u .nil) ls vs:=by
      intro ls
      induction ls with
      | nil=>intro vs _ h; cases vs<;>exact h
      | cons k ls ih =>
       intro vs hk hh
       cases vs with
       | nil=>exact hh.elim
       | cons x vs =>
        obtain ⟨d,q1,q2⟩:=hk k List.mem_cons_self
        exact ⟨fI h.conts hle q1 q2 hh.1,ih (fun z hz=>hk z (List.mem_cons_of_mem _ hz)) hh.2⟩
     exact this hdk h3
    obtain ⟨x,hx1,hx2⟩:=IG h3 ho
    have hx2:x=.slice none 0 0:=hx2
    have:=ZN hmono o (k:=o5 u 0) (v:=x) (.inl ⟨Gh.add_same _ _ _,rfl,hx2⟩)
    rw[he]
    have hcs:cs.toList.set o x=cs.toList:=by
     refine List.ext_getElem? fun j=>?_
     by_cases e:o=j
     ·subst e
      rw[List.getElem?_set_self (List.getElem?_eq_some_iff.1 hx1).1,hx1]
     ·rw[List.getElem?_set_ne e]
    rwa [hcs] at this
   ·obtain ⟨b,h1,h2⟩:=h.conts x hx
    exact ⟨b,hle.2 _ _ h1,(h.cdep x hx).1.dep hle.1 (fun t ht=>by obtain ⟨b,hb⟩:=h.conts.tag ((h.cdep x hx).2 t ht); rw[hb]; exact hle.2 t b hb) h2⟩
 ·by_cases e':t=u
  ·subst e'; exact List.mem_cons_self
  ·have:g.M t≠none:=by simpa [Gh.add,e'] using ht
   have:=h.dom t this
   exact List.mem_cons_of_mem _ (by show t∈tags M1; rw[htag]; exact this)
 ·refine List.nodup_cons.2 ⟨?_,?_⟩
  ·show u∉tags M1
   rw[htag]; exact hfresh
  ·show (tags M1).Nodup
   rw[htag]; exact h.nodup
 ·exact ⟨(h.sdep x hx).1,fun t ht=>List.mem_cons_of_mem _ (by show t∈tags M1; rw[htag]; exact (h.sdep x hx).2 t ht)⟩
 ·rcases List.mem_cons.1 hx with rfl | hx
  ·exact ⟨inferInstance,fun _ h=>by cases h⟩
  ·rcases hup.mem h.nodup x hx with rfl | ⟨hx,_⟩
   ·refine ⟨hd,fun t ht=>?_⟩
    have:=C3 hs t ht
    rcases List.mem_cons.1 this with rfl | this
    ·exact List.mem_cons_self
    ·exact List.mem_cons_of_mem _ (by show t∈tags M1; rw[htag]; exact this)
   ·exact ⟨(h.cdep x hx).1,fun t ht=>List.mem_cons_of_mem _ (by show t∈tags M1; rw[htag]; exact (h.cdep x hx).2 t ht)⟩
class KN (ks:List d5) (L:List Nat):Prop where
 all:∀k∈ks,∃d,o7 k d/\∀t∈d,t∈L
instance {L:List Nat}:KN [] L:=⟨fun _ h=>by cases h⟩
theorem KN.cons {k:d5} {ks:List d5} {L d:List Nat} (h:o7 k d) (hd:u4 d L=true) (r:KN ks L):KN (k::ks) L:=⟨fun x hx=>by
 rcases List.mem_cons.1 hx with rfl | hx
 ·exact ⟨d,h,C3 hd⟩
 ·exact r.all x hx⟩
section
variable {P:Program} {c:m9} {ops:Array Oper} {S:i5} {M M':i1} {rest:List Oper} {Q:Exit->Act->World->Prop}
variable {p:Bool} {d:Option Tmp} {ty:TypeId} {pos:String} {af:Array Edge} {gd:Option (Nat×Bool)} {x y z:Operand} {b b':Bool} {code:Code}
theorem b8.wkC (v:Nat) {ks ls:List d5} {dep dep':List Nat} [hl:p9 M v (j5 ks) dep] (hw:Wk ks ls) [hd:C1 ls dep'] [hup:D4 M v (j5 ls) dep' M'] (hs:u4 dep' (tags M)=true) (K:b8 P c ops S M' rest Q):b8 P c ops S M rest Q :=
 fun a g w h=>K a g w (h.conC (ct:=j5 ks) (fun _ _ _ ⟨cs,ty,h1,h2⟩=>⟨cs,ty,h1,hw.imp h2⟩) inferInstance hup (C3 hs))
theorem Tr.growC (v o u:Nat) {ks:List d5} {dep dep':List Nat} [hl:p9 M v (j5 ks) dep] (ho:ks[o]?=some (i9 (.slice none 0 0))) {ks':List d5} (he:ks'=ks.set o (o5 u 0)) [hd:C1 ks' dep'] [hup:D4 M v (j5 ks') dep' M']
  (hf:u4 [u] (tags M)=false) {α:Type} (et:TypeId) (e:i8 α) (hs:u4 dep' (u::tags M)=true) (hk:KN ks (tags M)) (K:Tr P c S (⟨u,[],l3 true et e [] 0⟩::M') code Q):Tr P c S M code Q :=
 fun a _ w h=>let ⟨g',h'⟩:=h.growC v o u ho he inferInstance hup hf et e hs hk.all; K a g' w h'
end
end Go.Fl

/- Equal structs; how many keys a map has. No program in sight. -/
namespace Go.Fl
open Go Go.RowKit
section
variable {P:Program} {c:m9} {S:i5} {M:i1} {p:Bool} {d:Option Tmp} {ty:TypeId} {pos:String} {af:Array Edge} {gd:Option (Nat×Bool)} {x y:Operand} {b b':Bool}
end
end Go.Fl

/- A row of the call's own may be lent to a call that only reads; regions that draw their order, some of whose operations write: what yields the same in any world may come first, the rest is gone through as it may come up. No program in sight. -/
namespace Go.Fl
open Go Go.RowKit

class SW (k:d5):Prop where
 go:∀{g g':Gh} {v:Value},k g v->k g' v
theorem NZ {J J':JV} (hJ:J.le J'):∀{ks:List d5} {vs:List Value},(∀k∈ks,o7 k [])->o4 ⟨J,z5⟩ ks vs->o4 ⟨J',z5⟩ ks vs
 | [],[],_,_=>trivial
 | [],_::_,_,h=>h.elim
 | _::_,[],_,h=>h.elim
 | k::ks,v::vs,hk,h=>⟨(hk k List.mem_cons_self).dep (g:=⟨J,z5⟩) hJ (fun _ h=>by cases h) h.1,NZ hJ (fun x hx=>hk x (List.mem_cons_of_mem _ hx)) h.2⟩
section
variable {P:Program} {c:m9} {S:i5} {M:i1} {p:Bool} {d:Option Tmp} {ty:TypeId} {pos:String} {af:Array Edge} {gd:Option (Nat×Bool)}
variable {x y z:Operand} {b b' b'':Bool}
theorem xQ {f:FuncId} [hf:d8 P f] {args:List Operand} {tys:Array TypeId} {ks:List d5} {res:d5} {u len:Nat} {α:Type} {zb:Bool} {et:TypeId} {e:i8 α} {xs:List α} {dep:List Nat} [hl:p9 M u (l3 zb et e xs len) dep]
  (hct:p=true->Ct P f (b7 (eL e) xs::ks) res) (hx:j2 S x=some (b,o5 u len)) (hb:p=true->b=true) (hlen:p=true->len<=p6) (ha:G0 S p args ks) [hj:AA ks] [hk:o7 res []] [hfr:SW res] :
  l4 P c S M ⟨d,.call { callee:=.value (.func f),args:=(x::args).toArray,argTypes:=tys },ty,pos,af,gd⟩ p res none:=by
 intro hp a g w hok hc ho _
 have hargs:=ha.eval (g:=g) (ρ:=a.eval) hp (fun y hy b k hk hb=>ho y (by simp[Op.operands,Call.operands,hy]) b k hk hb)
 have hxv:o5 u len g (a.eval x):=ho x (by simp[Op.operands,Call.operands]) b _ hx (hb hp)
 obtain ⟨bk,hm,h0,h1⟩:=hc _ hl.mem
 simp only at hm h0
 have key:∃J':JV,g.J.le J'/\Im J' w/\(b7 (eL e) xs) ⟨J',z5⟩ (a.eval x)/\∀J2:JV,J'.le J2->(∀b o,b<w.heap.size->J2 b o=J' b o)->∃J3:JV,g.J.le J3/\(∀b o,b<w.heap.size->J3 b o=g.J b o)/\∀w',Im J2 w'->Im J3 w':=by
  cases bk with
  | nil =>
   subst h1
   have hxs:xs=[]:=List.eq_nil_of_length_eq_zero h0
   subst hxs
   refine ⟨g.J,JV.le_refl _,hok.im,?_,fun J2 h2 h3=>⟨J2,h2,h3,fun _ h=>h⟩⟩
   rcases hxv with ⟨_,_,hv⟩ | ⟨b,cap,hb,_⟩
   ·exact ⟨_,X0,hv⟩
   ·rw[hm] at hb; cases hb
  | blk bl cap =>
   obtain ⟨_,cs,h3,h4,h5,h6,h7⟩:=h1
   have hnone:=(hok.own u bl cap hm).2.2
   have hJ:g.J.le (g.J.with bl cs):=JV.le_with hnone
   refine ⟨g.J.with bl cs,hJ,fun b o v hv=>?_,?_,fun J2 h2 h3'=>⟨fun b o=>if b=bl then none else J2 b o,fun b o v hv=>?_,fun b o hlt=>?_,fun w' him b o v hv=>?_⟩⟩
   ·unfold JV.with at hv
    by_cases e:b=bl
    ·rw[if_pos e] at hv; subst e; exact L1 h3 hv
    ·rw[if_neg e] at hv; exact hok.im b o v hv
   ·rcases hxv with ⟨hb,_⟩ | ⟨b',cap',hb,hv⟩
    ·rw[hm] at hb; cases hb
    ·rw[hm] at hb; cases hb
     refine ⟨_,⟨some ⟨bl,0,none⟩,cap,rfl,⟨by rw[h0]; exact hlen hp,by rw[h0]; exact h5⟩,.inr ⟨bl,0,rfl,fun i x hx=>?_⟩⟩,by rw[h0]; exact hv⟩
     obtain ⟨ds,q1,q2⟩:=h7 i x hx
     refine ⟨ds,e.mono hJ q1,fun j v hj=>?_⟩
     show (g.J.with bl cs) bl (0+i*e.n+j)=some v
     unfold JV.with
     rw[if_pos rfl,Nat.zero_add]
     exact q2 j v hj
   ·have hne:b≠bl:=fun e=>by subst e; rw[hnone o] at hv; cases hv
    simp only[if_neg hne]
    exact h2 _ _ _ (hJ _ _ _ hv)
   ·by_cases e:b=bl
    ·subst e; simp only[if_true]; exact (hnone o).symm
    ·simp only[if_neg e]
     rw[h3' b o hlt]
     unfold JV.with
     rw[if_neg e]
   ·by_cases e:b=bl
    ·simp only[if_pos e] at hv; cases hv
    ·simp only[if_neg e] at hv; exact him b o v hv
 obtain ⟨J',hJ,him,hrd,hback⟩:=key
 have hr:=hct hp w J' him (a.eval x::args.map a.eval) ⟨hrd,NZ hJ hj.all hargs⟩
 unfold Oper.wp
 simp only[execOp,resolve,Act.eval,Deferred.ofValue,Sem.run_bind,Sem.run_pure,Result.andThen_ok,invoke,List.map_toArray,List.map_cons,Array.append_empty,Array.empty_append]
 rw[hf.run]
 simp only[Oper.upon]
 refine hr.mono fun e' w' he=>?_
 obtain ⟨r,J2,rfl,hbel,hJ2,hold,him2,hres⟩:=he
 obtain ⟨J3,q1,q2,q3⟩:=hback J2 hJ2 hold
 exact ⟨r,_,rfl,G5.call hok hbel q1 q2 (q3 _ him2) (hfr.go (g':=⟨J3,z5⟩) hres)⟩
end

def W7 (Q:Exit->Act->World->Prop):Exit->Act->World->Prop:=fun e a w=>e=.normal/\Q .normal a w
def Nx (K:Act->World->Prop):Exit->Act->World->Prop:=fun e a w=>e=.normal/\K a w
def f0 (P:Program) (c:m9) (ops:Array Oper) (Q:Exit->Act->World->Prop) (Sp:World->Prop) (n:Nat) (listed:Array Bool) (S:i5) (M:i1):Prop :=
 ∀a g w,l7 c S M a g w->Sp w->wpAnyH P .any ops (W7 Q) Sp n listed a w
def X4 (P:Program) (c:m9) (S:i5) (M:i1) (Sp:World->Prop) (o:Oper) (k:d5):Prop :=
 ∀a g w,l7 c S M a g w->Sp w->∃v,(∀w',Sp w'->(execOp a.eval o).run P w'=.ok (.value v) w')/\k g v
theorem LY {Q:Exit->Act->World->Prop}:¬LetsOut (W7 Q):=fun ⟨_,_,h⟩=>by cases h.1
theorem Oper.wp_onN {P:Program} {o:Oper} {a:Act} {w:World} {K K':Act->World->Prop} {Q:Exit->Act->World->Prop}
  (h:o.wp P a w K (Nx K')):o.wp P a w K Q:=by
 unfold Oper.wp at *
 generalize (execOp a.eval o).run P w=r at *
 cases r with
 | ok n w' =>
  cases n<;>simp only[Oper.upon] at h ⊢ <;>
   first
    | exact h
    | exact Calls.mono h (fun e w'' he=>by
      cases e with
      | returned v=>exact he
      | panicked ch=>exact absurd he.1 (by simp)
      | outgrown=>obtain ⟨_,_,hf⟩:=he; exact absurd hf.1 (by simp))
    | exact Rows.mono h (fun _ _ he=>he)
    | exact absurd h.1 (by simp)
 | halt x w' =>
  cases x<;>simp only[Oper.upon] at h ⊢<;>first | exact absurd h.1 (by simp) | exact h
section
variable {P:Program} {c:m9} {ops:Array Oper} {S:i5} {M:i1} {Q:Exit->Act->World->Prop} {Sp:World->Prop} {n:Nat} {listed:Array Bool}
variable {d:Nat} {oop:Op} {ty:TypeId} {pos:String} {af:Array Edge}
theorem f0.take (i:Nat) (listed':Array Bool) {k:d5} {dep:List Nat} (hs:Region.noSelect ops=true) (hf:Region.free .any ops listed i=true) (hr:(Region.ready .any ops listed).contains i=true) (hset:listed.setIfInBounds i true=listed')
  (hi:ops[i]?=some ⟨some d,oop,ty,pos,af,none⟩) (hy:X4 P c S M Sp ⟨some d,oop,ty,pos,af,none⟩ k) [hk:o7 k dep] (hsub:u4 dep (tags M)=true) (hn:Nat.blt d c.n=true)
  (K:f0 P c ops Q Sp n listed' (⟨d,true,dep,k⟩::S) M):f0 P c ops Q Sp (n+1) listed S M:=by
 intro a g w hsat hsp
 obtain ⟨v,h1,h2⟩:=hy a g w hsat hsp
 refine wpAnyH_take hi hs hf hr (fun _ _ _ h=>absurd h.1 (by simp)) (.inl ⟨rfl,h1⟩) hsp ?_
 rw[hset]
 exact K _ g _ (hsat.did (G5.same hsat.ok h2) (fun _ h=>by cases h) hk (C3 hsub) (by simpa [Nat.blt_eq] using hn)) hsp
theorem f0.all (rs:List Nat) (hr:Region.ready .any ops listed=rs) (hne:rs≠[])
  (h:∀i∈rs,∃o,ops[i]?=some o/\b8 P c ops S M [o] (Nx fun a w=>Sp w/\wpAnyH P .any ops (W7 Q) Sp n (listed.setIfInBounds i true) a w)):f0 P c ops Q Sp (n+1) listed S M:=by
 intro a g w hsat _
 refine wpAnyH_all hr hne fun i hi=>?_
 obtain ⟨o,ho,ht⟩:=h i hi
 have h1:=ht a g w hsat
 unfold wpOp
 rw[ho]
 simp only[wpList] at h1
 simp only
 split
 ·rename_i hw
  rw[if_pos hw] at h1
  rcases h1 with h1 | ⟨_,_,_,h1⟩
  ·exact .inl (Oper.wp_mono (fun _ _ h=>h.2) (Oper.wp_onN h1))
  ·exact absurd h1.1 (by simp)
 ·rename_i hw
  rw[if_neg hw] at h1
  exact h1.2
theorem f0.one (i:Nat) (hr:Region.ready .any ops listed=[i]) {o:Oper} (ho:ops[i]?=some o)
  (h:b8 P c ops S M [o] (Nx fun a w=>Sp w/\wpAnyH P .any ops (W7 Q) Sp n (listed.setIfInBounds i true) a w)):f0 P c ops Q Sp (n+1) listed S M :=
 f0.all [i] hr (by simp) (fun j hj=>by rw[List.mem_singleton] at hj; subst hj; exact ⟨o,ho,h⟩)
theorem f0.k {listed0:Array Bool} (listed':Array Bool) (hl:listed0=listed') (hSp:∀a g w,l7 c S M a g w->Sp w) (K:f0 P c ops Q Sp n listed' S M):b8 P c ops S M [] (Nx fun a w=>Sp w/\wpAnyH P .any ops (W7 Q) Sp n listed0 a w) :=
 fun a g w hs=>wpList_nil ⟨rfl,hSp a g w hs,by rw[hl]; exact K a g w hs (hSp a g w hs)⟩
theorem f0.done (hr:Region.ready .any ops listed=[]) (h:g6 c S M Q):f0 P c ops Q Sp n listed S M:=fun a g w hs _=>wpAnyH_done hr ⟨rfl,h a g w hs⟩ n
theorem Tr.drawA {l:List Oper} {id:Nat} (hm:P.follows .mixedOrders=true) (listed':Array Bool) (hl:Array.replicate l.length false=listed') (h:f0 P c l.toArray Q (fun _=>True) l.length listed' S M) (hr:c.rd=none\/EB l=true:=by first | exact .inl rfl | exact .inr rfl):Tr P c S M (.region id l.toArray true) Q:=by
 intro a g w hs
 subst hl
 exact Code.wpIn_mono (Q:=W7 Q) (fun e _ _ q=>by obtain ⟨he,h⟩:=q; subst he; exact h) (KJ (hr.imp (fun h=>h) fun h=>⟨h,LY⟩) hm (wpAny_of_held _ _ _ _ (by simpa using h _ _ _ hs.drew trivial)))
def OF (ct:t8) (q:Bk×Option Obj):t8:=fun g bk o=>ct g bk o/\bk=q.1/\o=q.2
def A2 (f:Nat->Bk×Option Obj) (M:i1):i1:=M.map fun e=>⟨e.t,e.dep,OF e.c (f e.t)⟩
def MQ (f:Nat->Bk×Option Obj) (M:i1):World->Prop:=fun w=>∀e∈M,World.objAt w (f e.t).1=(f e.t).2
end

section
variable {P:Program} {c:m9} {S:i5} {M:i1} {Sp:World->Prop} {d:Option Tmp} {ty:TypeId} {pos:String} {af:Array Edge} {gd:Option (Nat×Bool)} {x y:Operand}
theorem Q5 {k:d5} (hx:j2 S x=some (true,k)):X4 P c S M Sp ⟨d,.move x,ty,pos,af,gd⟩ k :=
 fun a g _ hs _=>⟨a.eval x,fun _ _=>by simp[execOp],A8 hs.slots hx rfl⟩
theorem ai2 {op:BinOp} {t t':TypeId} {u v r:Value} (hr:∀w,(do eqGuard op t x y u v; binOp op t u v:Sem Value).run P w=.ok r w) (hx:j2 S x=some (true,i9 u)) (hy:j2 S y=some (true,i9 v)) :
  X4 P c S M Sp ⟨d,.binOp op t x y t',ty,pos,af,gd⟩ (i9 r):=fun a g _ hs _=>by
 have h1:a.eval x=u:=A8 hs.slots hx rfl
 have h2:a.eval y=v:=A8 hs.slots hy rfl
 refine ⟨r,fun w _=>?_,rfl⟩
 have:=hr w
 simp only[Sem.run_bind] at this
 simp only[execOp,h1,h2,Sem.run_bind,this,Result.andThen_ok,Sem.run_pure]
theorem YW {t t':TypeId} {m n:Int} (hx:j2 S x=some (true,kI m)) (hy:j2 S y=some (true,kI n)) (h:-9223372036854775808<=m+n/\m+n<=9223372036854775807):X4 P c S M Sp ⟨d,.binOp .add t x y t',ty,pos,af,gd⟩ (kI (m+n)) :=
 ai2 (fun w=>by simp[go_sem,IntWalk.i64_in _ h]) hx hy
theorem CL {s:TypeId} {f off:Nat} [ht:t6 P s f off] {t o:Nat} (hx:j2 S x=some (true,y5 t o)):X4 P c S M Sp ⟨d,.fieldAddr s x f,ty,pos,af,gd⟩ (y5 t (o+off)):=fun a g _ hs _=>by
 obtain ⟨bl,cap,h1,h2⟩:=A8 hs.slots hx rfl
 exact ⟨.pointer (some ⟨bl,o+off,none⟩),fun _ _=>by simp[execOp,h2,ht.run,Addr.add_lit],bl,cap,h1,rfl⟩
theorem EN {t:TypeId} [ht:F6 P t] {u o:Nat} {ks:List d5} {dep:List Nat} {f:Nat->Bk×Option Obj} {M0:i1} [hl0:p9 M0 u (j5 ks) dep] [hl:p9 M u (OF (j5 ks) (f u)) dep] {k:d5} (hx:j2 S x=some (true,y5 u o)) (hk:ks[o]?=some k) :
  X4 P c S M (MQ f M0) ⟨d,.load t x,ty,pos,af,gd⟩ k:=fun a g w hs hsp=>by
 obtain ⟨bl,cap,h1,h2⟩:=A8 hs.slots hx rfl
 obtain ⟨bk,q1,⟨cs,tt,q2,q3⟩,q4,q5⟩:=hs.conts _ hl.mem
 simp only at q1 q4 q5
 rw[h1] at q1; cases q1
 obtain ⟨v,hv,hkv⟩:=IG q3 hk
 refine ⟨v,fun w' hw'=>?_,hkv⟩
 have hob:w'.heap[bl]?=some (.cells cs tt (0,0)):=by
  have:=hw' _ hl0.mem
  simp only at this
  rw[<- q4,<- q5,q2] at this
  exact this
 simp only[execOp,h2,Sem.run_bind,MX (P:=P) (t:=t) (L1 hob (by simpa using hv)),Result.andThen_ok,Sem.run_pure]
end
end Go.Fl

/- Functions that change a block which the caller lends by a pointer: their walk. No program in sight. -/
namespace Go.Fl
open Go Go.RowKit

def DX (t o bl:Nat):d5:=fun g v=>(∃cap,g.M t=some (.blk bl cap))/\v=.pointer (some ⟨bl,o,none⟩)
instance (t o bl:Nat):o7 (DX t o bl) [t]:=⟨fun _ hd ⟨⟨cap,h1⟩,h2⟩=>⟨⟨cap,(hd t (by simp)).trans h1⟩,h2⟩⟩
theorem DX.own {t o bl:Nat} {g:Gh} {v:Value} (h:DX t o bl g v):y5 t o g v:=let ⟨⟨cap,h1⟩,h2⟩:=h; ⟨bl,cap,h1,h2⟩
section
variable {P:Program} {c:m9} {S:i5} {M:i1} {p:Bool} {d:Option Tmp} {ty:TypeId} {pos:String} {af:Array Edge} {gd:Option (Nat×Bool)} {x:Operand} {b:Bool} {Sp:World->Prop}
theorem N4 {t o bl:Nat} (hx:j2 S x=some (b,DX t o bl)) (hb:p=true->b=true):l4 P c S M ⟨d,.nilCheck x,ty,pos,af,gd⟩ p (y5 t o) none :=
 l4.pure fun hp a g w _ _ ho=>by
  have hk:=ho x (by simp[Op.operands]) b _ hx (hb hp)
  exact ⟨a.eval x,by simp[execOp,hk.2],hk.own⟩
end
def BF (w:World) (J:JV) (b cap:Nat) (res:d5) (ct':t8):Ending->World->Prop:=fun e w'=>∃r J',e=.returned r/\EP (.blk b cap) w w'/\J.le J'/\(∀b' o,b'<w.heap.size->J' b' o=J b' o)/\Im J' w'/\res ⟨J',z5⟩ r/\ct' (g1 J' b cap) (.blk b cap) w'.heap[b]?
theorem KX {g g':Gh} (hJ:g.J.le g'.J):∀{ks:List d5} {vs:List Value},(∀k∈ks,o7 k [])->o4 g ks vs->o4 g' ks vs
 | [],[],_,_=>trivial
 | [],_::_,_,h=>h.elim
 | _::_,[],_,h=>h.elim
 | k::ks,v::vs,hk,h=>⟨(hk k List.mem_cons_self).dep hJ (fun _ h=>by cases h) h.1,KX hJ (fun x hx=>hk x (List.mem_cons_of_mem _ hx)) h.2⟩
theorem EQ.mk {P:Program} {f:FuncId} {fn:Func} {code:Code} {args:List d5} {res:d5} {ct ct':t8} {n:Nat} (hf:P.funcs[f]?=some fn) (hb:fn.body=some code) (hn:fn.ntmps=n) (hl:Nat.ble (args.length+1) n=true) [hj:AA args] [hcd:A9 ct []]
  (h:∀w J b cap,Tr P ⟨w,J,[b],n,none,false,[]⟩ (⟨0,true,[0],DX 0 0 b⟩::params 1 args) [⟨0,[],ct⟩] code (bodyPost P fn (BF w J b cap res ct'))):EQ P f (y5 0 0) args ct ct' res:=by
 intro w J b cap him hJ hlt hct v vs hv hvs
 have hlen:=K3 hvs
 have hle:args.length+1<=n:=Nat.le_of_ble_eq_true hl
 have hM:∀t bk,(g1 J b cap).M t=some bk->t=0/\bk=.blk b cap:=fun t bk ht=>by
  simp only[g1] at ht
  split at ht
  ·rename_i e; cases ht; exact ⟨e,rfl⟩
  ·cases ht
 refine calls_of_wp hf hb<|wpIn_wide.1 (h w J b cap _ (g1 J b cap) w ⟨⟨⟨rfl,rfl,rfl,Nat.le_refl _,fun _ _ _=>rfl,Nat.le_refl _⟩,JV.le_refl _,fun _ _ _=>rfl,him,fun t b' cap' ht=>?_,fun t t' b1 c1 c2 h1 h2=>?_⟩,?_,?_,?_,by simp,?_,?_,⟨rfl,fun _ h=>(by cases h)⟩,?_⟩)
 ·obtain ⟨_,e⟩:=hM _ _ ht
  cases e
  exact ⟨.inr (by simp),hlt,hJ⟩
 ·rw[(hM _ _ h1).1,(hM _ _ h2).1]
 ·intro t bb k hk
  simp only[look] at hk
  cases hb0:Nat.beq 0 t with
  | true =>
   rw[hb0] at hk
   simp only[cond_true,Option.some.injEq,Prod.mk.injEq] at hk
   obtain ⟨rfl,rfl⟩:=hk
   have:=Nat.eq_of_beq_eq_true hb0
   subst this
   refine ⟨fun _=>?_,fun hf=>(by cases hf)⟩
   obtain ⟨b',cap',h1,h2⟩:=hv
   obtain ⟨_,e⟩:=hM _ _ h1
   cases e
   have:((v::vs).toArray++Array.replicate (fn.ntmps-(v::vs).toArray.size) undef).getD 0 undef=v:=by
    rw[Array.getD_eq_getD_getElem?,Array.getElem?_append_left (by simp)]
    simp
   rw[this]
   exact ⟨⟨cap,by simp[g1]⟩,h2⟩
  | false =>
   rw[hb0] at hk
   obtain ⟨h1,rfl,u,hu,hku⟩:=JT (g:=g1 J b cap) (KX (g:=⟨J,z5⟩) (g':=g1 J b cap) (JV.le_refl _) hj.all hvs) hk
   refine ⟨fun _=>?_,fun hf=>(by cases hf)⟩
   have hu':(v::vs)[t]?=some u:=by
    rw[show t=(t-1)+1 by omega]; simpa using hu
   have ht:t<(v::vs).length:=(List.getElem?_eq_some_iff.1 hu').1
   have:((v::vs).toArray++Array.replicate (fn.ntmps-(v::vs).toArray.size) undef).getD t undef=u:=by
    rw[Array.getD_eq_getD_getElem?,Array.getElem?_append_left (by simpa using ht)]
    simp only[List.getElem?_toArray]
    rw[hu']; rfl
   rw[this]; exact hku
 ·intro e he
  simp only[List.mem_singleton] at he
  subst he
  exact ⟨_,by simp[g1],hct⟩
 ·intro t ht
  cases hm:(g1 J b cap).M t with
  | none=>exact absurd hm ht
  | some bk=>simp[(hM _ _ hm).1]
 ·intro e he
  rcases List.mem_cons.1 he with rfl | he
  ·exact ⟨inferInstance,fun t ht=>by simpa using ht⟩
  ·obtain ⟨h1,h2⟩:=JS hj.all he
   exact ⟨h1,fun t ht=>by rw[h2] at ht; cases ht⟩
 ·intro e he
  simp only[List.mem_singleton] at he
  subst he
  exact ⟨hcd,fun t ht=>by cases ht⟩
 ·simp only[Array.size_append,List.size_toArray,Array.size_replicate,List.length_cons]; omega
section
variable {P:Program} {n:Nat} {w0:World} {J0:JV} {S:i5} {M:i1} {fn:Func} {b cap t:Nat} {ct ct':t8} {dep:List Nat}
theorem wK {e:Exit} (he:e=.normal\/e=.ret) (hr:fn.results=#[]) (hl:look S t=some (true,DX 0 0 b)) [hm:p9 M 0 ct dep] (hc:∀g bk o,ct g bk o->ct' (g1 g.J b cap) (.blk b cap) o) (a:Act) (g:Gh) (w:World) (hs:l7 ⟨w0,J0,[b],n,none,false,[]⟩ S M a g w) :
  bodyPost P fn (BF w0 J0 b cap (i9 (.tuple #[])) ct') e a w:=by
 obtain ⟨⟨cap',h1⟩,_⟩:=(hs.slots t _ _ hl).1 rfl
 obtain ⟨bk,h2,h3⟩:=hs.conts _ hm.mem
 simp only at h2 h3
 rw[h1] at h2; cases h2
 have key:a.defers=[]/\∃v,(results fn a.tmps).run P w=.ok v w/\BF w0 J0 b cap (i9 (.tuple #[])) ct' (.returned v) w :=
  ⟨hs.defers.1,.tuple #[],by simp[results,hr],_,g.J,rfl,⟨hs.ok.bel.os,hs.ok.bel.tape,hs.ok.bel.output,hs.ok.bel.size,fun k hk hne=>hs.ok.bel.block k hk (by simp only[List.mem_singleton]; rintro rfl; exact hne cap rfl),hs.ok.bel.drawn⟩,hs.ok.jle,hs.ok.jold,hs.ok.im,rfl,hc _ _ _ h3⟩
 rcases he with rfl | rfl<;>exact key
theorem g6.mutB (hr:fn.results=#[]) (hl:look S t=some (true,DX 0 0 b)) [hm:p9 M 0 ct dep] (hc:∀g bk o,ct g bk o->ct' (g1 g.J b cap) (.blk b cap) o):g6 ⟨w0,J0,[b],n,none,false,[]⟩ S M (bodyPost P fn (BF w0 J0 b cap (i9 (.tuple #[])) ct')) :=
 fun a g w hs=>wK (.inl rfl) hr hl hc a g w hs
end
end Go.Fl

/- Elements of an array of the call's own at a place that is not written out; parts of the elements of a row of the call's own. No program in sight. -/
namespace Go.Fl
open Go Go.RowKit
section
variable {P:Program} {c:m9} {S:i5} {M:i1} {p:Bool} {d:Option Tmp} {ty:TypeId} {pos:String} {af:Array Edge} {gd:Option (Nat×Bool)} {x y:Operand} {b b':Bool}
end
section
variable {P:Program} {c:m9} {ops:Array Oper} {S:i5} {M:i1} {rest:List Oper} {Q:Exit->Act->World->Prop} {x y:Operand}
variable {ty:TypeId} {pos:String} {af:Array Edge}
end
section
variable {P:Program} {c:m9} {ops:Array Oper} {S:i5} {M:i1} {rest:List Oper} {Q:Exit->Act->World->Prop}
variable {d:Nat} {ty:TypeId} {pos:String} {af:Array Edge}
theorem b8.mutP {f:FuncId} [hf:d8 P f] {x:Operand} {args:List Operand} {tys:Array TypeId} {ks:List d5} {res:d5} {u:Nat} {ct ct0 ct':t8} {dep:List Nat} {M':i1} (hct:EQ P f (y5 0 0) ks ct ct' res) (hx:j2 S x=some (true,y5 u 0)) (ha:G0 S true args ks)
  [hl:p9 M u ct0 dep] [hnk:KQ ct0] (hc:∀g b cap o,ct0 g (.blk b cap) o->ct (g1 g.J b cap) (.blk b cap) o) (hc':∀{J b cap o} {g:Gh},ct' (g1 J b cap) (.blk b cap) o->ct' ⟨J,g.M⟩ (.blk b cap) o) [hcd:A9 ct' []] [hup:D4 M u ct' [] M'] [hkd:o7 res []] (hn:Nat.blt d c.n=true)
  (K:b8 P c ops (⟨d,true,[],res⟩::S) M' rest Q):b8 P c ops S M (⟨some d,.call { callee:=.value (.func f),args:=(x::args).toArray,argTypes:=tys },ty,pos,af,none⟩::rest) Q:=by
 intro a g w hsat
 have hdn:d<c.n:=by simpa [Nat.blt_eq] using hn
 have hk:=A8 hsat.slots hx rfl
 obtain ⟨b,cap,hm,hv⟩:=hk
 obtain ⟨bk2,hm2,hobj⟩:=hsat.conts _ hl.mem
 simp only at hm2 hobj
 rw[hm] at hm2; cases hm2
 obtain ⟨_,hlt,hJn⟩:=hsat.ok.own u b cap hm
 have hargs:=ha.eval (g:=g) (ρ:=a.eval) rfl (fun y _ b k hk hb=>A8 hsat.slots hk hb)
 have hr:=hct w g.J b cap hsat.ok.im hJn hlt (hc _ _ _ _ hobj) _ _ ((inferInstance:YY (y5 u 0) u (y5 0 0)).imp hm ⟨b,cap,hm,hv⟩) hargs
 refine wpList_plain rfl fun K' hK'=>?_
 unfold Oper.wp
 simp only[execOp,resolve,Act.eval,Deferred.ofValue,Sem.run_bind,Sem.run_pure,Result.andThen_ok,invoke,List.map_toArray,List.map_cons,Array.append_empty,Array.empty_append]
 rw[hf.run]
 simp only[Oper.upon]
 refine hr.mono fun e w' he=>?_
 obtain ⟨r,J',rfl,h1,h2,h3,h4,h5,h6⟩:=he
 exact hK' _ _ (K _ _ _ (hsat.mut hm (hsat.nomark hl hm _ _ rfl) h1 h2 h3 h4 hup hcd (hc' h6) hdn (hkd.dep (g:=⟨J',z5⟩) (JV.le_refl _) (fun _ h=>by cases h) h5)))
end
end Go.Fl

/- Structs of integers that are equal. No program in sight. -/
namespace Go.Fl
open Go Go.RowKit
section
variable {P:Program} {c:m9} {S:i5} {M:i1} {p:Bool} {d:Option Tmp} {ty:TypeId} {pos:String} {af:Array Edge} {gd:Option (Nat×Bool)} {x y:Operand} {b b':Bool}
end
end Go.Fl

/- Parts of rows that are immutable; functions that return a part of their argument; calls that take one of the caller's own rows for good. No program in sight. -/
namespace Go.Fl
open Go Go.RowKit
theorem CF.take {α:Type} {e:i8 α} {J:JV} {b o n:Nat} {xs:List α} (h:CF e J b o xs):CF e J b o (xs.take n):=fun i x hx=>by
 rw[List.getElem?_take] at hx
 split at hx
 ·exact h i x hx
 ·cases hx
theorem CF.drop {α:Type} {e:i8 α} {J:JV} {b o n:Nat} {xs:List α} (h:CF e J b o xs):CF e J b (o+n*e.n) (xs.drop n):=fun i x hx=>by
 rw[List.getElem?_drop] at hx
 obtain ⟨ds,h1,h2⟩:=h _ x hx
 refine ⟨ds,h1,fun j v hj=>?_⟩
 have:=h2 j v hj
 rwa [show o+(n+i)*e.n+j=o+n*e.n+i*e.n+j by rw[Nat.add_mul]; omega] at this
section
variable {P:Program} {c:m9} {S:i5} {M:i1} {p:Bool} {d:Option Tmp} {ty:TypeId} {pos:String} {af:Array Edge} {gd:Option (Nat×Bool)} {x y z:Operand} {b b' b'':Bool}
theorem FS {t et:TypeId} [ht:B7 P t et] {sz by':Nat} {zz:Value} [hz:o8 P et sz by' zz] {α:Type} {e:i8 α} {xs:List α} {ik:IntKind} {i0:Int} (hx:j2 S x=some (b,b7 (eL e) xs)) (hb:p=true->b=true) (hy:j2 S y=some (b',y8 ik i0)) (hb':p=true->b'=true) (h:p=true->0<=i0/\i0<=xs.length) :
  l4 P c S M ⟨d,.slice t x none (some y) none,ty,pos,af,gd⟩ p (b7 (eL e) (xs.take i0.toNat)) none :=
 l4.pure fun hp a g w _ _ ho=>by
  have hi:a.eval y=_:=ho y (by simp[Op.operands]) b' _ hy (hb' hp)
  have hlt0:=h hp
  obtain ⟨i,rfl⟩:∃i:Nat,i0=i:=⟨i0.toNat,by omega⟩
  rw[Int.toNat_natCast]
  have hlt:i<=xs.length:=by omega
  obtain ⟨cs,⟨ad,cap,rfl,⟨hl1,hl2⟩,hr⟩,h2⟩:=ho x (by simp[Op.operands]) b _ hx (hb hp)
  simp only[eL,Bool.false_eq_true,if_false,List.headD_cons] at h2
  obtain ⟨j,hj,rfl,rfl,_⟩:=hz.h
  have hun:P.underlying t=some (.slice (P.elem t)):=by rw[ht.h]; simp[Program.elem,ht.h]
  have hel:P.elem t=et:=by simp[Program.elem,ht.h]
  have hsz:(sizeOf et).run P w=.ok j.size w:=by simp[sizeOf,typeInfo,hj]
  refine ⟨sliced ad 0 i cap j.size,?_,?_⟩
  ·simp only[execOp,h2,hi,Option.map]
   rw[Sem.run_bind,run_sliceAt_slice w t _ _ _ _ hun,run_slice_h w t _ xs.length cap hun ik i zo zo,hel]
   simp only[Result.andThen_ok,Sem.run_pure,hsz,Int.toNat_natCast]
  ·have hmin:(xs.take i).length=i:=by rw[List.length_take]; omega
   rcases hr with rfl | ⟨bl,o,rfl,hrow⟩
   ·obtain rfl:i=0:=by simpa using hlt
    exact ⟨[sliced ad 0 0 cap j.size],⟨if cap=0 then ad else ad.map (·.add (0*j.size)),cap-0,rfl,⟨by simp,by simp⟩,.inl (by simp)⟩,rfl⟩
   ·refine ⟨[sliced (some ⟨bl,o,none⟩) 0 i cap j.size],⟨if cap=0 then some ⟨bl,o,none⟩ else (some ⟨bl,o,none⟩:Option Addr).map (·.add (0*j.size)),cap-0,?_,⟨by rw[hmin]; omega,by rw[hmin,Nat.sub_zero]; omega⟩,.inr ⟨bl,o,?_,hrow.take⟩⟩,rfl⟩
    ·simp only[sliced,hmin,Nat.sub_zero]
    ·split<;>simp[Addr.add]
end
end Go.Fl

/- Functions that return a part of their argument; calls that change a lent row and return a part of it; queues that become immutable. No program in sight. -/
namespace Go.Fl
open Go Go.RowKit
instance {t n o l:Nat}:AF (C8 t n o l):=⟨fun ⟨_,_,_,_,_,_,h⟩=>by subst h; rfl⟩
def J8 {α:Type} (e:i8 α) (ad:Option Addr) (cap:Nat) (xs:List α):d5:=fun g v=>v=.slice ad xs.length cap/\b7 (eL e) xs g v
instance {α:Type} (e:i8 α) (ad:Option Addr) (cap:Nat) (xs:List α):o7 (J8 e ad cap xs) []:=⟨fun hJ hd h=>⟨h.1,(inferInstance:o7 (b7 (eL e) xs) []).dep hJ hd h.2⟩⟩
theorem J8.cast {α:Type} {e:i8 α} {ad:Option Addr} {cap:Nat} {xs ys:List α} (h:xs=ys) {g:Gh} {v:Value} (k:J8 e ad cap xs g v):J8 e ad cap ys g v:=h▸k
section
variable {P:Program} {c:m9} {S:i5} {M:i1} {p:Bool} {d:Option Tmp} {ty:TypeId} {pos:String} {af:Array Edge} {gd:Option (Nat×Bool)} {x y z:Operand} {b b' b'':Bool}
theorem WX {t:TypeId} {e':TypeId} [ht:B7 P t e'] {α:Type} {e:i8 α} {ad:Option Addr} {cap:Nat} {xs:List α} (hx:j2 S x=some (b,J8 e ad cap xs)) (hb:p=true->b=true):l4 P c S M ⟨d,.call { callee:=.builtin .len,args:=#[x],argTypes:=#[t] },ty,pos,af,gd⟩ p (kI xs.length) none :=
 l4.pure fun hp a g w _ _ ho=>by
  have h2:a.eval x=_:=(ho x (by simp[Op.operands,Call.operands]) b _ hx (hb hp)).1
  exact ⟨_,by simp[execOp,resolve,invoke,builtin,Builtin.len_,h2,run_underlying ht.h,goInt],rfl⟩
theorem xO {t et:TypeId} [ht:B7 P t et] {sz by':Nat} {zz:Value} [hz:o8 P et sz by' zz] {α:Type} [Inhabited α] {e:i8 α} {ad:Option Addr} {cap:Nat} {xs:List α} {ik:IntKind} {i:Int} (hx:j2 S x=some (b,J8 e ad cap xs)) (hb:p=true->b=true) (hy:j2 S y=some (b',y8 ik i)) (hb':p=true->b'=true)
  (hs:sz=e.n) (h:p=true->0<=i/\i<xs.length):l4 P c S M ⟨d,.indexAddr t x y,ty,pos,af,gd⟩ p (s6 e (b6 xs i.toNat)) none :=
 l4.pure fun hp a g w _ _ ho=>by
  obtain ⟨cs,⟨ad,cap,rfl,_,hr⟩,h2⟩:=(ho x (by simp[Op.operands]) b _ hx (hb hp)).2
  have hi:a.eval y=_:=ho y (by simp[Op.operands]) b' _ hy (hb' hp)
  simp only[eL,Bool.false_eq_true,if_false,List.headD_cons] at h2
  have hlt:=h hp
  rcases hr with rfl | ⟨bl,o,rfl,hrow⟩
  ·simp at hlt; omega
  obtain ⟨ds,k1,k2⟩:=hrow i.toNat (b6 xs i.toNat) (F5 zo)
  exact ⟨.pointer (some ⟨bl,o+i.toNat*sz,none⟩),by simp only[execOp,h2,hi,Sem.run_bind,GT (P:=P) hlt,Result.andThen_ok,Sem.run_pure],bl,o+i.toNat*sz,ds,rfl,k1,by rw[hs]; exact k2⟩
theorem xV {t et:TypeId} [ht:B7 P t et] {sz by':Nat} {zz:Value} [hz:o8 P et sz by' zz] {α:Type} {e:i8 α} {ad:Option Addr} {cap:Nat} {xs:List α} {ik:IntKind} {i:Int} (hx:j2 S x=some (b,J8 e ad cap xs)) (hb:p=true->b=true) (hy:j2 S y=some (b',y8 ik i)) (hb':p=true->b'=true) (h:p=true->0<=i/\i<=xs.length) :
  l4 P c S M ⟨d,.slice t x none (some y) none,ty,pos,af,gd⟩ p (J8 e ad cap (xs.take i.toNat)) none :=
 l4.pure fun hp a g w _ _ ho=>by
  have hi:a.eval y=_:=ho y (by simp[Op.operands]) b' _ hy (hb' hp)
  have hlt:=h hp
  obtain ⟨hv,cs,⟨ad',cap',rfl,⟨hl1,hl2⟩,hr⟩,h2⟩:=ho x (by simp[Op.operands]) b _ hx (hb hp)
  simp only[eL,Bool.false_eq_true,if_false,List.headD_cons] at h2
  rw[h2] at hv
  cases hv
  obtain ⟨j,hj,rfl,rfl,_⟩:=hz.h
  have hun:P.underlying t=some (.slice (P.elem t)):=by rw[ht.h]; simp[Program.elem,ht.h]
  have hel:P.elem t=et:=by simp[Program.elem,ht.h]
  have hsz:(sizeOf et).run P w=.ok j.size w:=by simp[sizeOf,typeInfo,hj]
  have hmin:(xs.take i.toNat).length=i.toNat:=by rw[List.length_take]; omega
  have hadd:∀q:Option Addr,q.map (·.add (0*j.size))=q:=fun q=>by cases q<;>simp[Addr.add]
  have hsl:sliced ad 0 i.toNat cap j.size=.slice ad i.toNat cap:=by
   unfold sliced
   rw[hadd,Nat.sub_zero,Nat.sub_zero]
   split<;>rfl
  refine ⟨.slice ad i.toNat cap,?_,by rw[hmin],?_⟩
  ·simp only[execOp,h2,hi,Option.map]
   rw[Sem.run_bind,run_sliceAt_slice w t _ _ _ _ hun,run_slice_h w t _ xs.length cap hun ik i hlt.1 zo,hel]
   simp only[Result.andThen_ok,Sem.run_pure,hsz,hsl]
  ·refine ⟨[.slice ad i.toNat cap],⟨_,_,by rw[hmin],⟨by rw[hmin]; omega,by rw[hmin]; omega⟩,?_⟩,rfl⟩
   rcases hr with rfl | ⟨bl,o,rfl,hrow⟩
   ·exact .inl (by simp)
   ·exact .inr ⟨bl,o,rfl,hrow.take⟩
theorem Ct.ofSlv {f:FuncId} {α:Type} {e:i8 α} {xs ys:List α} (h:∀ad cap,Ct P f [J8 e ad cap xs] (J8 e ad cap ys)):Ct P f [b7 (eL e) xs] (b7 (eL e) ys):=by
 intro w J him vs hvs
 match vs,hvs with
 | [v],⟨hv,_⟩ =>
  obtain ⟨cs,⟨ad,cap,rfl,h1,h2⟩,h3⟩:=hv
  refine (h ad cap w J him [v] ⟨⟨h3,_,⟨ad,cap,rfl,h1,h2⟩,h3⟩,trivial⟩).mono fun e' w' he=>?_
  obtain ⟨r,J',q1,q2,q3,q4,q5,q6⟩:=he
  exact ⟨r,J',q1,q2,q3,q4,q5,q6.2⟩
theorem WY {f:FuncId} [hf:d8 P f] {tys:Array TypeId} {u len n:Nat} {α:Type} {zb:Bool} {et:TypeId} {e:i8 α} {xs ys:List α} {dep:List Nat} [hl:p9 M u (l3 zb et e xs len) dep]
  (hct:∀ad cap,Ct P f [J8 e ad cap xs] (J8 e ad cap ys)) (hx:j2 S x=some (b,o5 u len)) (hb:p=true->b=true) (hlen:p=true->0<len/\len<=p6/\ys.length<=len) :
  l4 P c S M ⟨d,.call { callee:=.value (.func f),args:=#[x],argTypes:=tys },ty,pos,af,gd⟩ p (C8 u n 0 ys.length) none:=by
 intro hp a g w hok hc ho _
 obtain ⟨hl0,hl1,hl2⟩:=hlen hp
 have hxv:o5 u len g (a.eval x):=ho x (by simp[Op.operands,Call.operands]) b _ hx (hb hp)
 obtain ⟨bk,hm,h0,h1⟩:=hc _ hl.mem
 simp only at hm h0
 cases bk with
 | nil=>omega
 | blk bl cap =>
  obtain ⟨_,cs,h3,h4,h5,h6,h7⟩:=h1
  have hnone:=(hok.own u bl cap hm).2.2
  have hJ:g.J.le (g.J.with bl cs):=JV.le_with hnone
  have him:Im (g.J.with bl cs) w:=fun b o v hv=>by
   unfold JV.with at hv
   by_cases e:b=bl
   ·rw[if_pos e] at hv; subst e; exact L1 h3 hv
   ·rw[if_neg e] at hv; exact hok.im b o v hv
  have hev:a.eval x=.slice (some ⟨bl,0,none⟩) len cap:=by
   rcases hxv with ⟨hb,_⟩ | ⟨b',cap',hb,hv⟩
   ·rw[hm] at hb; cases hb
   ·rw[hm] at hb; cases hb; exact hv
  have hrd:J8 e (some ⟨bl,0,none⟩) cap xs ⟨g.J.with bl cs,z5⟩ (a.eval x):=by
   refine ⟨by rw[hev,h0],_,⟨some ⟨bl,0,none⟩,cap,rfl,⟨by rw[h0]; exact hl1,by rw[h0]; exact h5⟩,.inr ⟨bl,0,rfl,fun i x hx=>?_⟩⟩,by rw[h0]; exact hev⟩
   obtain ⟨ds,q1,q2⟩:=h7 i x hx
   refine ⟨ds,e.mono hJ q1,fun j v hj=>?_⟩
   show (g.J.with bl cs) bl (0+i*e.n+j)=some v
   unfold JV.with
   rw[if_pos rfl,Nat.zero_add]
   exact q2 j v hj
  have hr:=hct _ _ w _ him [a.eval x] ⟨hrd,trivial⟩
  unfold Oper.wp
  simp only[execOp,resolve,Act.eval,Deferred.ofValue,Sem.run_bind,Sem.run_pure,Result.andThen_ok,invoke,List.map_toArray,List.map_cons,List.map_nil,Array.append_empty,Array.empty_append]
  rw[hf.run]
  simp only[Oper.upon]
  refine hr.mono fun e' w' he=>?_
  obtain ⟨r,J2,rfl,hbel,hJ2,hold,him2,hres⟩:=he
  refine ⟨r,⟨fun b o=>if b=bl then none else J2 b o,g.M⟩,rfl,?_⟩
  have hle:g.J.le (fun b o=>if b=bl then none else J2 b o):=fun b o v hv=>by
   have hne:b≠bl:=fun e=>by subst e; rw[hnone o] at hv; cases hv
   show (if b=bl then none else J2 b o)=some v
   rw[if_neg hne]
   exact hJ2 _ _ _ (hJ _ _ _ hv)
  have hq:∀b o,b<w.heap.size->(if b=bl then none else J2 b o)=g.J b o:=fun b o hlt=>by
   by_cases e:b=bl
   ·subst e; rw[if_pos rfl]; exact (hnone o).symm
   ·rw[if_neg e,hold b o hlt]
    unfold JV.with
    rw[if_neg e]
  refine ⟨⟨bl,cap,0,hm,by omega,fun _=>by omega,by rw[Nat.sub_zero]; exact hres.1⟩,⟨hle,fun _ _ h=>h⟩,⟨hok.bel.then hbel,JV.le_trans hok.jle hle,fun b o hb=>?_,fun b o v hv=>?_,fun t b cap ht=>?_,hok.inj⟩,hbel,fun _ h=>(by cases h),fun _ _=>rfl⟩
  ·show (if b=bl then none else J2 b o)=c.J0 b o
   rw[hq b o (Nat.lt_of_lt_of_le hb hok.bel.size)]; exact hok.jold b o hb
  ·have hv':(if b=bl then none else J2 b o)=some v:=hv
   by_cases e:b=bl
   ·rw[if_pos e] at hv'; cases hv'
   ·rw[if_neg e] at hv'; exact him2 b o v hv'
  ·obtain ⟨q1,q2,q3⟩:=hok.own t b cap ht
   exact ⟨q1,Nat.lt_of_lt_of_le q2 hbel.size,fun o=>by show (if b=bl then none else J2 b o)=none; rw[hq b o q2]; exact q3 o⟩
end
def KY (S:i5) (u n off len:Nat):List Nat->Prop
 | []=>True
 | s::r=>look S s=some (true,C8 u n off len)/\KY S u n off len r
theorem TF {S:i5} {u n off len:Nat}:∀{ss:List Nat},KY S u n off len ss->∀s∈ss,look S s=some (true,C8 u n off len)
 | s::r,h,t,ht=>by
  rcases List.mem_cons.1 ht with rfl | ht
  ·exact h.1
  ·exact TF h.2 t ht
theorem l7.frzQ {n:Nat} {rd:Option Nat} {mrk:Bool} {om:List Nat} {w0:World} {J0:JV} {S:i5} {M M':i1} {a:Act} {g:Gh} {w:World} (h:l7 ⟨w0,J0,[],n,rd,mrk,om⟩ S M a g w) {u sz m len:Nat} {α:Type} {zb:Bool} {et:TypeId} {e:i8 α} {xs:List α} {dep:List Nat} {ss:List Nat} [hl:p9 M u (l3 zb et e xs len) dep]
  (hss:KY S u sz 0 m ss) (hm0:m<=len/\len<=p6) [hdel:L6 M u M'] (hnd:K0 u M=true):∃g',l7 ⟨w0,J0,[],n,rd,mrk,om⟩ (i5.setAll ss (b7 (eL e) (xs.take m)) (G6 u S)) M' a g' w:=by
 obtain ⟨bk,hm,h0,h1⟩:=h.conts _ hl.mem
 simp only at hm h0
 have hml:(xs.take m).length=m:=by rw[List.length_take]; omega
 cases bk with
 | nil =>
  subst h1
  have hxs:xs=[]:=List.eq_nil_of_length_eq_zero h0
  subst hxs
  refine ⟨_,h.freeze (cs:=#[]) (ty:=0) hm (fun _ _ h=>by cases h) hdel hnd inferInstance (fun s hs=>?_)⟩
  obtain ⟨b,cap,o,hb,_⟩:=(h.slots s _ _ (TF hss s hs)).1 rfl
  rw[hm] at hb; cases hb
 | blk b cap =>
  obtain ⟨_,cs,h3,h4,h5,h6,h7⟩:=h1
  refine ⟨_,h.freeze (cs:=cs) (ty:=et) hm (fun b' cap' hb=>by cases hb; exact h3) hdel hnd inferInstance (fun s hs=>?_)⟩
  have hJ:g.J.le (g.J.with b cs):=JV.le_with (h.ok.own u b cap hm).2.2
  obtain ⟨b',cap',o,hb,q1,q2,hv⟩:=(h.slots s _ _ (TF hss s hs)).1 rfl
  rw[hm] at hb; cases hb
  rw[Nat.sub_zero] at hv
  refine ⟨[.slice (some ⟨b,o,none⟩) m cap],⟨some ⟨b,o,none⟩,cap,by rw[hml],⟨by rw[hml]; omega,by rw[hml]; omega⟩,?_⟩,hv⟩
  by_cases hz:m=0
  ·subst hz; exact .inl (by simp)
  ·obtain rfl:o=0:=by have:=q2 zo; omega
   refine .inr ⟨b,0,rfl,(CF.take (n:=m) fun i x hx=>?_)⟩
   obtain ⟨ds,k1,k2⟩:=h7 i x hx
   refine ⟨ds,e.mono hJ k1,fun j v hj=>?_⟩
   show (g.J.with b cs) b (0+i*e.n+j)=some v
   unfold JV.with
   rw[if_pos rfl,Nat.zero_add]
   exact k2 j v hj
section
variable {P:Program} {n:Nat} {rd:Option Nat} {mrk:Bool} {om:List Nat} {w0:World} {J0:JV} {S:i5} {M M':i1} {Q:Exit->Act->World->Prop} {ops:Array Oper} {rest:List Oper}
theorem Tr.frzQ {code:Code} (u:Nat) (ss:List Nat) {sz m len:Nat} {α:Type} {zb:Bool} {et:TypeId} {e:i8 α} {xs:List α} {dep:List Nat} [hl:p9 M u (l3 zb et e xs len) dep] (hss:KY S u sz 0 m ss) (hlen:m<=len/\len<=p6) [hdel:L6 M u M'] (hnd:K0 u M=true)
  (K:Tr P ⟨w0,J0,[],n,rd,mrk,om⟩ (i5.setAll ss (b7 (eL e) (xs.take m)) (G6 u S)) M' code Q):Tr P ⟨w0,J0,[],n,rd,mrk,om⟩ S M code Q:=fun a _ w hs=>let ⟨g',hs'⟩:=hs.frzQ (ss:=ss) (u:=u) hss hlen hnd; K a g' w hs'
theorem b8.frzQ (u:Nat) (ss:List Nat) {sz m len:Nat} {α:Type} {zb:Bool} {et:TypeId} {e:i8 α} {xs:List α} {dep:List Nat} [hl:p9 M u (l3 zb et e xs len) dep] (hss:KY S u sz 0 m ss) (hlen:m<=len/\len<=p6) [hdel:L6 M u M'] (hnd:K0 u M=true)
  (K:b8 P ⟨w0,J0,[],n,rd,mrk,om⟩ ops (i5.setAll ss (b7 (eL e) (xs.take m)) (G6 u S)) M' rest Q):b8 P ⟨w0,J0,[],n,rd,mrk,om⟩ ops S M rest Q:=fun a _ w hs=>let ⟨g',hs'⟩:=hs.frzQ (ss:=ss) (u:=u) hss hlen hnd; K a g' w hs'
end
def JD (t len bl cap:Nat):d5:=fun g v=>g.M t=some (.blk bl cap)/\v=.slice (some ⟨bl,0,none⟩) len cap
instance (t len bl cap:Nat):o7 (JD t len bl cap) [t]:=⟨fun _ hd ⟨h1,h2⟩=>⟨(hd t (by simp)).trans h1,h2⟩⟩
theorem JD.osl {t len bl cap:Nat} {g:Gh} {v:Value} (h:JD t len bl cap g v):o5 t len g v:=.inr ⟨bl,cap,h.1,h.2⟩
def IC (w:World) (J:JV) (b cap:Nat) (res:d5) (ct':t8):Ending->World->Prop:=fun e w'=>∃r J',e=.returned r/\EP (.blk b cap) w w'/\J.le J'/\(∀b' o,b'<w.heap.size->J' b' o=J b' o)/\Im J' w'/\res (g1 J' b cap) r/\ct' (g1 J' b cap) (.blk b cap) w'.heap[b]?
def KL (P:Program) (f:FuncId) (len:Nat) (ks:List d5) (ct ct':t8) (res:d5):Prop :=
 ∀w J b cap,Im J w->(∀o,J b o=none)->b<w.heap.size->ct (g1 J b cap) (.blk b cap) w.heap[b]?->∀v vs,v=.slice (some ⟨b,0,none⟩) len cap->o4 ⟨J,z5⟩ ks vs->Calls P f (v::vs).toArray w (IC w J b cap res ct')
section
variable {P:Program} {c:m9} {S:i5} {M:i1} {p:Bool} {d:Option Tmp} {ty:TypeId} {pos:String} {af:Array Edge} {gd:Option (Nat×Bool)} {x:Operand} {b:Bool}
theorem JR {t len bl cap:Nat} (hx:j2 S x=some (b,JD t len bl cap)) (hb:p=true->b=true):l4 P c S M ⟨d,.move x,ty,pos,af,gd⟩ p (o5 t len) none :=
 l4.pure fun hp a g w _ _ ho=>by
  have hk:=ho x (by simp[Op.operands]) b _ hx (hb hp)
  exact ⟨a.eval x,by simp[execOp],hk.osl⟩
end
theorem KL.mk {P:Program} {f:FuncId} {fn:Func} {code:Code} {args:List d5} {res:d5} {ct ct':t8} {n len:Nat} (hf:P.funcs[f]?=some fn) (hb:fn.body=some code) (hn:fn.ntmps=n) (hl:Nat.ble (args.length+1) n=true) [hj:AA args] [hcd:A9 ct []]
  (h:∀w J b cap,Tr P ⟨w,J,[b],n,none,false,[]⟩ (⟨0,true,[0],JD 0 len b cap⟩::params 1 args) [⟨0,[],ct⟩] code (bodyPost P fn (IC w J b cap res ct'))):KL P f len args ct ct' res:=by
 intro w J b cap him hJ hlt hct v vs hv hvs
 have hlen:=K3 hvs
 have hle:args.length+1<=n:=Nat.le_of_ble_eq_true hl
 have hM:∀t bk,(g1 J b cap).M t=some bk->t=0/\bk=.blk b cap:=fun t bk ht=>by
  simp only[g1] at ht
  split at ht
  ·rename_i e; cases ht; exact ⟨e,rfl⟩
  ·cases ht
 refine calls_of_wp hf hb<|wpIn_wide.1 (h w J b cap _ (g1 J b cap) w ⟨⟨⟨rfl,rfl,rfl,Nat.le_refl _,fun _ _ _=>rfl,Nat.le_refl _⟩,JV.le_refl _,fun _ _ _=>rfl,him,fun t b' cap' ht=>?_,fun t t' b1 c1 c2 h1 h2=>?_⟩,?_,?_,?_,by simp,?_,?_,⟨rfl,fun _ h=>(by cases h)⟩,?_⟩)
 ·obtain ⟨_,e⟩:=hM _ _ ht
  cases e
  exact ⟨.inr (by simp),hlt,hJ⟩
 ·rw[(hM _ _ h1).1,(hM _ _ h2).1]
 ·intro t bb k hk
  simp only[look] at hk
  cases hb0:Nat.beq 0 t with
  | true =>
   rw[hb0] at hk
   simp only[cond_true,Option.some.injEq,Prod.mk.injEq] at hk
   obtain ⟨rfl,rfl⟩:=hk
   have:=Nat.eq_of_beq_eq_true hb0
   subst this
   refine ⟨fun _=>?_,fun hf=>(by cases hf)⟩
   have:((v::vs).toArray++Array.replicate (fn.ntmps-(v::vs).toArray.size) undef).getD 0 undef=v:=by
    rw[Array.getD_eq_getD_getElem?,Array.getElem?_append_left (by simp)]
    simp
   rw[this]
   exact ⟨by simp[g1],hv⟩
  | false =>
   rw[hb0] at hk
   obtain ⟨h1,rfl,u,hu,hku⟩:=JT (g:=g1 J b cap) (KX (g:=⟨J,z5⟩) (g':=g1 J b cap) (JV.le_refl _) hj.all hvs) hk
   refine ⟨fun _=>?_,fun hf=>(by cases hf)⟩
   have hu':(v::vs)[t]?=some u:=by
    rw[show t=(t-1)+1 by omega]; simpa using hu
   have ht:t<(v::vs).length:=(List.getElem?_eq_some_iff.1 hu').1
   have:((v::vs).toArray++Array.replicate (fn.ntmps-(v::vs).toArray.size) undef).getD t undef=u:=by
    rw[Array.getD_eq_getD_getElem?,Array.getElem?_append_left (by simpa using ht)]
    simp only[List.getElem?_toArray]
    rw[hu']; rfl
   rw[this]; exact hku
 ·intro e he
  simp only[List.mem_singleton] at he
  subst he
  exact ⟨_,by simp[g1],hct⟩
 ·intro t ht
  cases hm:(g1 J b cap).M t with
  | none=>exact absurd hm ht
  | some bk=>simp[(hM _ _ hm).1]
 ·intro e he
  rcases List.mem_cons.1 he with rfl | he
  ·exact ⟨inferInstance,fun t ht=>by simpa using ht⟩
  ·obtain ⟨h1,h2⟩:=JS hj.all he
   exact ⟨h1,fun t ht=>by rw[h2] at ht; cases ht⟩
 ·intro e he
  simp only[List.mem_singleton] at he
  subst he
  exact ⟨hcd,fun t ht=>by cases ht⟩
 ·simp only[Array.size_append,List.size_toArray,Array.size_replicate,List.length_cons]; omega
section
variable {P:Program} {n:Nat} {rd:Option Nat} {mrk:Bool} {om:List Nat} {w0:World} {J0:JV} {S:i5} {M:i1} {fn:Func} {b cap s t len:Nat} {ct ct':t8} {dep:List Nat} {k res:d5}
theorem d9.mutR (hr:fn.results=#[.tmp t]) (hs0:look S s=some (true,JD 0 len b cap)) (hl:look S t=some (true,k)) [hm:p9 M 0 ct dep] (hc:∀(g:Gh) (o:Option Obj),ct g (.blk b cap) o->ct' (g1 g.J b cap) (.blk b cap) o) (hk:∀(g:Gh) (v:Value),g.M 0=some (.blk b cap)->k g v->res (g1 g.J b cap) v) :
  d9 ⟨w0,J0,[b],n,none,false,[]⟩ S M (bodyPost P fn (IC w0 J0 b cap res ct')):=by
 intro a g w hs
 obtain ⟨h1,_⟩:=(hs.slots s _ _ hs0).1 rfl
 obtain ⟨bk,h2,h3⟩:=hs.conts _ hm.mem
 simp only at h2 h3
 rw[h1] at h2; cases h2
 exact ⟨hs.defers.1,_,results_tmp hr _ _ _,_,g.J,rfl,⟨hs.ok.bel.os,hs.ok.bel.tape,hs.ok.bel.output,hs.ok.bel.size,fun k hk hne=>hs.ok.bel.block k hk (by simp only[List.mem_singleton]; rintro rfl; exact hne cap rfl),hs.ok.bel.drawn⟩,hs.ok.jle,hs.ok.jold,hs.ok.im,hk g _ h1 ((hs.slots t _ _ hl).1 rfl),hc _ _ h3⟩
end
theorem iG {m n off:Nat} {b cap:Nat} {g:Gh} {v:Value} (hm:g.M 0=some (.blk b cap)) (h:C8 0 n off m g v):C8 0 n off m (g1 g.J b cap) v:=by
 obtain ⟨b',cap',o,h1,h2,h3,h4⟩:=h
 rw[hm] at h1; cases h1
 exact ⟨b,cap,o,by simp[g1],h2,h3,h4⟩
section
variable {P:Program} {c:m9} {ops:Array Oper} {S:i5} {M:i1} {rest:List Oper} {Q:Exit->Act->World->Prop}
variable {d:Nat} {ty:TypeId} {pos:String} {af:Array Edge}
theorem b8.mutR {f:FuncId} [hf:d8 P f] {x:Operand} {args:List Operand} {tys:Array TypeId} {ks:List d5} {u len n m:Nat} {ct ct0 ct':t8} {dep:List Nat} {M':i1} (hct:KL P f len ks ct ct' (C8 0 n 0 m)) (hx:j2 S x=some (true,o5 u len)) (hlen:0<len) (ha:G0 S true args ks)
  [hl:p9 M u ct0 dep] [hnk:KQ ct0] (hnd:K0 u M=true) (hc:∀g b cap o,ct0 g (.blk b cap) o->ct (g1 g.J b cap) (.blk b cap) o) (hc':∀{J b cap o} {g:Gh},ct' (g1 J b cap) (.blk b cap) o->ct' ⟨J,g.M⟩ (.blk b cap) o) [hcd:A9 ct' []] [hup:D4 M u ct' [] M'] (hn:Nat.blt d c.n=true)
  (K:b8 P c ops (⟨d,true,[u],C8 u n 0 m⟩::G6 u S) M' rest Q):b8 P c ops S M (⟨some d,.call { callee:=.value (.func f),args:=(x::args).toArray,argTypes:=tys },ty,pos,af,none⟩::rest) Q:=by
 intro a g w hsat
 have hdn:d<c.n:=by simpa [Nat.blt_eq] using hn
 have hk:=A8 hsat.slots hx rfl
 rcases hk with ⟨_,h0,_⟩ | ⟨b,cap,hm,hv⟩
 ·omega
 obtain ⟨bk2,hm2,hobj⟩:=hsat.conts _ hl.mem
 simp only at hm2 hobj
 rw[hm] at hm2; cases hm2
 obtain ⟨hob,hlt,hJn⟩:=hsat.ok.own u b cap hm
 have hargs:=ha.eval (g:=g) (ρ:=a.eval) rfl (fun y _ b k hk hb=>A8 hsat.slots hk hb)
 have hr:=hct w g.J b cap hsat.ok.im hJn hlt (hc _ _ _ _ hobj) _ _ hv hargs
 refine wpList_plain rfl fun K' hK'=>?_
 unfold Oper.wp
 simp only[execOp,resolve,Act.eval,Deferred.ofValue,Sem.run_bind,Sem.run_pure,Result.andThen_ok,invoke,List.map_toArray,List.map_cons,Array.append_empty,Array.empty_append]
 rw[hf.run]
 simp only[Oper.upon]
 refine hr.mono fun e w' he=>?_
 obtain ⟨r,J',rfl,h1,h2,h3,h4,h5,h6⟩:=he
 have hko:C8 u n 0 m ⟨J',g.M⟩ r:=by
  obtain ⟨b',cap',o,q1,q2,q3,q4⟩:=h5
  simp only[g1,if_true,Option.some.injEq,Bk.blk.injEq] at q1
  obtain ⟨rfl,rfl⟩:=q1
  exact ⟨b,cap,o,hm,q2,q3,q4⟩
 have hs:=hsat.mut hm (hsat.nomark hl hm _ _ rfl) h1 h2 h3 h4 hup hcd (hc' h6) hdn (k:=W6) trivial (v:=r)
 have htag:=hup.tags
 refine hK' _ _ (K _ _ _ ⟨hs.ok,fun t bb k' hl'=>?_,hs.conts,hs.dom,hs.nodup,fun e he=>?_,hs.cdep,hs.defers,hs.size⟩)
 ·simp only[look] at hl'
  cases hb0:Nat.beq d t with
  | true =>
   rw[hb0] at hl'
   simp only[cond_true,Option.some.injEq,Prod.mk.injEq] at hl'
   obtain ⟨rfl,rfl⟩:=hl'
   have:=Nat.eq_of_beq_eq_true hb0
   subst this
   refine ⟨fun _=>?_,fun hf=>(by cases hf)⟩
   have hsz:d<a.tmps.size:=by have:=hsat.size; omega
   simpa [Act.put,Array.getD_eq_getD_getElem?,hsz] using hko
  | false =>
   rw[hb0] at hl'
   obtain ⟨k0,q1,q2⟩:=LX hl'
   have hh:=hs.slots t bb k0 (by simp only[look,hb0]; exact q1)
   refine ⟨fun hb=>?_,hh.2⟩
   rcases q2 with rfl | ⟨rfl,_⟩
   ·trivial
   ·exact hh.1 hb
 ·rcases List.mem_cons.1 he with rfl | he
  ·exact ⟨inferInstance,fun t ht=>by
    have:t=u:=by simpa using ht
    subst this
    show t∈tags M'
    rw[htag]; exact List.mem_map.2 ⟨_,hl.mem,rfl⟩⟩
  ·rcases PU he with ⟨q1,_⟩ | ⟨q1,q2⟩
   ·exact hs.sdep e (List.mem_cons_of_mem _ q1)
   ·rw[q1,q2]; exact ⟨inferInstance,fun _ h=>by cases h⟩
end
section
variable {P:Program} {n0:Nat} {w0:World} {J0:JV} {S:i5} {M:i1} {fn:Func}
theorem d9.resNC {a u o n q by':Nat} {ty:TypeId} {zz:Value} {kc kc':List d5} {dep dep2:List Nat} {res:Nat->d5} {ct ct':t8} [hlk:p9 M q (j5 kc) dep2] [ht:C4 P ty] [hz:o8 P ty n by' zz] [hs:O1 kc o n kc'] [hlu:p9 M u ct' dep] [J5 dep] (hr:fn.results=#[.cell a ty]) (hx:look S a=some (true,y5 q o))
  (hv:∀g bk o,ct' g bk o->ct g bk o) (hc:∀(g:Gh) (v:Value) (bk:Bk),g.M u=some bk->H6 kc' g v->∀t,res t ⟨g.J,fun q=>if q=t then some bk else none⟩ v) (hcd:A9 ct []) :
  d9 ⟨w0,J0,[],n0,none,false,[]⟩ S M (bodyPost P fn (NO w0 J0 res ct)):=by
 intro act g w hst
 obtain ⟨ad,v,h1,h2,h3⟩:=LB (ty:=ty) (P:=P) hx hst
 obtain ⟨bk,h4,h5⟩:=hst.conts _ hlu.mem
 simp only at h4 h5
 refine ⟨hst.defers.1,_,jQ hr h1 h2,_,g.J,bk,rfl,⟨hst.ok.bel.os,hst.ok.bel.tape,hst.ok.bel.output,hst.ok.bel.size,fun k hk=>hst.ok.bel.block k hk (by simp),hst.ok.bel.drawn⟩,hst.ok.jle,hst.ok.jold,hst.ok.im,?_,hcd.dep (g:=g) (JV.le_refl _) (fun _ h=>by cases h) (hv _ _ _ h5),fun t=>hc g _ bk h4 h3 t⟩
 rintro b cap rfl
 obtain ⟨o1,o2,o3⟩:=hst.ok.own _ _ _ h4
 refine ⟨?_,o2,o3⟩
 rcases o1 with o1 | o1
 ·exact o1
 ·cases o1
end
end Go.Fl

/- Closures: values that hold pointers to things of the call's own; their calls are gone through in place, with the caller's own things. No program in sight. -/
namespace Go.Fl
open Go Go.RowKit
def AN (f:FuncId) (ks:List d5):d5:=fun g v=>∃vs:List Value,v=.func (.func f) #[] vs.toArray/\o4 g ks vs
instance {f:FuncId} {ks:List d5} {ds:List Nat} [h:C1 ks ds]:o7 (AN f ks) ds:=⟨fun hl hd ⟨vs,h1,h2⟩=>⟨vs,h1,h.dep hl hd h2⟩⟩
inductive EO (S:i5) (p:Bool):List Operand->List d5->Prop
 | nil:EO S p [] []
 | cons {x:Operand} {xs:List Operand} {k:d5} {ks:List d5} {b:Bool} (hx:j2 S x=some (b,k)) (hb:p=true->b=true) (r:EO S p xs ks):EO S p (x::xs) (k::ks)
theorem EO.eval {S:i5} {p:Bool} {g:Gh} {ρ:Operand->Value} (hp:p=true):∀{xs:List Operand} {ks:List d5},EO S p xs ks->(∀x∈xs,∀b k,j2 S x=some (b,k)->b=true->k g (ρ x))->o4 g ks (xs.map ρ)
 | [],[],_,_=>trivial
 | x::_,_::_,.cons hx hb r,h=>⟨h x List.mem_cons_self _ _ hx (hb hp),EO.eval hp r fun y hy=>h y (List.mem_cons_of_mem _ hy)⟩
section
variable {P:Program} {c:m9} {S:i5} {M:i1} {p:Bool} {d:Option Tmp} {ty:TypeId} {pos:String} {af:Array Edge} {gd:Option (Nat×Bool)} {x:Operand} {b:Bool}
theorem FP {f:FuncId} {caps:List Operand} {ks:List d5} (ha:EO S p caps ks):l4 P c S M ⟨d,.makeFunc (.func f) #[] caps.toArray,ty,pos,af,gd⟩ p (AN f ks) none :=
 l4.pure fun hp a g w _ _ ho=>by
  have hk:=ha.eval (g:=g) (ρ:=a.eval) hp (fun y hy b k hk hb=>ho y (by simp[Op.operands,hy]) b k hk hb)
  exact ⟨_,by simp[execOp,Instr.makeFunc],_,rfl,hk⟩
end
def BR (t:Nat) (bk:Bk):d5:=fun g _=>g.M t=some bk
instance (t:Nat) (bk:Bk):o7 (BR t bk) [t]:=⟨fun _ hd h=>(hd t (by simp)).trans h⟩
def L0 (n:Nat) (bks:Nat->Bk):List Nat->i5
 | []=>[]
 | t::ts=>⟨n+t,true,[t],BR t (bks t)⟩::L0 n bks ts
def EI:Nat->List (List Nat)->List d5->i5
 | i,d::ds,k::ks=>⟨i,true,d,k⟩::EI (i+1) ds ks
 | _,_,_=>[]
inductive HV:List d5->List (List Nat)->Prop
 | nil:HV [] []
 | cons {k:d5} {ks:List d5} {d:List Nat} {ds:List (List Nat)} (h:o7 k d) (r:HV ks ds):HV (k::ks) (d::ds)
class GB (ks:List d5) (ds:outParam (List (List Nat))):Prop where
 h:HV ks ds
instance:GB [] []:=⟨.nil⟩
instance {k:d5} {ks:List d5} {d:List Nat} {ds:List (List Nat)} [h:o7 k d] [r:GB ks ds]:GB (k::ks) (d::ds):=⟨.cons h r.h⟩
theorem XF {g:Gh}:∀{ks:List d5} {ds:List (List Nat)} {vs:List Value} {i t:Nat} {b:Bool} {k:d5},o4 g ks vs->look (EI i ds ks) t=some (b,k)->i<=t/\t<i+ks.length/\b=true/\∃v,vs[t-i]?=some v/\k g v
 | [],ds,_,_,_,_,_,_,h=>by cases ds<;>cases h
 | _::_,[],_,_,_,_,_,_,h=>by cases h
 | k0::ks,d::ds,v::vs,i,t,b,k,hh,h=>by
  simp only[EI,look] at h
  cases hb:Nat.beq i t with
  | true =>
   rw[hb] at h
   simp only[cond_true,Option.some.injEq,Prod.mk.injEq] at h
   obtain ⟨rfl,rfl⟩:=h
   have:=Nat.eq_of_beq_eq_true hb
   subst this
   exact ⟨Nat.le_refl _,by simp,rfl,v,by simp,hh.1⟩
  | false =>
   rw[hb] at h
   obtain ⟨h1,h2,h3,u,h4,h5⟩:=XF hh.2 h
   refine ⟨by omega,by simp only[List.length_cons]; omega,h3,u,?_,h5⟩
   rw[show t-i=(t-(i+1))+1 by omega]; simpa using h4
theorem XG:∀{ks:List d5} {ds:List (List Nat)} {i:Nat} {e:SE},HV ks ds->e∈EI i ds ks->o7 e.k e.dep/\e.dep∈ds
 | [],ds,_,_,_,h=>by cases ds<;>cases h
 | _::_,[],_,_,h,_=>by cases h
 | k::ks,d::ds,i,e,.cons hk r,h=>by
  rcases List.mem_cons.1 h with rfl | h
  ·exact ⟨hk,List.mem_cons_self⟩
  ·obtain ⟨h1,h2⟩:=XG r h
   exact ⟨h1,List.mem_cons_of_mem _ h2⟩
theorem VV {S1 S2:i5} {t:Nat} {b:Bool} {k:d5}:look (S1++S2) t=some (b,k)->look S1 t=some (b,k)\/look S2 t=some (b,k):=by
 induction S1 with
 | nil=>exact .inr
 | cons e S1 ih =>
  intro h
  simp only[List.cons_append,look] at h ⊢
  cases hb:Nat.beq e.s t with
  | true=>rw[hb] at h; exact .inl h
  | false=>rw[hb] at h; exact ih h
theorem SH {n:Nat} {bks:Nat->Bk}:∀{ts:List Nat} {t:Nat} {b:Bool} {k:d5},look (L0 n bks ts) t=some (b,k)->b=true/\n<=t/\(t-n)∈ts/\k=BR (t-n) (bks (t-n))
 | [],_,_,_,h=>by cases h
 | u::ts,t,b,k,h=>by
  simp only[L0,look] at h
  cases hb:Nat.beq (n+u) t with
  | true =>
   rw[hb] at h
   simp only[cond_true,Option.some.injEq,Prod.mk.injEq] at h
   have:=Nat.eq_of_beq_eq_true hb
   subst this
   rw[Nat.add_sub_cancel_left]
   exact ⟨h.1.symm,by omega,List.mem_cons_self,h.2.symm⟩
  | false =>
   rw[hb] at h
   obtain ⟨h1,h2,h3,h4⟩:=SH h
   exact ⟨h1,h2,List.mem_cons_of_mem _ h3,h4⟩
theorem SI {n:Nat} {bks:Nat->Bk}:∀{ts:List Nat} {e:SE},e∈L0 n bks ts->∃t∈ts,e.dep=[t]/\e.k=BR t (bks t)
 | [],_,h=>by cases h
 | u::ts,e,h=>by
  rcases List.mem_cons.1 h with rfl | h
  ·exact ⟨u,List.mem_cons_self,rfl,rfl⟩
  ·obtain ⟨t,h1,h2⟩:=SI h
   exact ⟨t,List.mem_cons_of_mem _ h1,h2⟩
def ZA (c:m9) (keep:List Nat) (bks:Nat->Bk) (M:i1) (res:d5):Ending->World->Prop:=fun e w'=>∃r g',e=.returned r/\Ok c g' w'/\F3 M g' w'/\(∀t,g'.M t≠none->t∈tags M)/\(tags M).Nodup/\HU M M/\(∀t∈keep,g'.M t=some (bks t))/\res g' r/\∀D∈c.om,w'.heap[D]?=some (Obj.deferred (some []))
def MB (ds:List Deferred):List Nat:=ds.flatMap fun d=>match d.target with | .collected D=>[D] | _=>[]
theorem vZ {ds:List Deferred} {D:Nat} (h:({ target:=.collected D,args:=#[] }:Deferred)∈ds):D∈MB ds:=List.mem_flatMap.2 ⟨_,h,by simp⟩
theorem wB {m:Bool} {B:Nat} {om:List Nat} {ds:List Deferred} {w:World} (h:O9 m B om ds w):∀D∈om++MB ds,w.heap[D]?=some (Obj.deferred (some [])):=by
 intro D hD
 rcases List.mem_append.1 hD with hD | hD
 ·exact h.2 D hD
 obtain ⟨d,hd,he⟩:=List.mem_flatMap.1 hD
 have h:=h.1
 cases m with
 | false=>simp only at h; subst h; cases hd
 | true =>
  obtain ⟨D',h1,_,h3⟩:=h.2 d hd
  subst h1
  simp only[List.mem_singleton] at he
  subst he; exact h3
theorem wA {m:Bool} {B:Nat} {om:List Nat} {ds:List Deferred} {w w':World} (h:O9 m B om ds w) (h':∀D∈om++MB ds,w'.heap[D]?=some (Obj.deferred (some []))):O9 m B om ds w':=by
 refine ⟨?_,fun D hD=>h' D (List.mem_append_left _ hD)⟩
 have h:=h.1
 cases m with
 | false=>exact h
 | true =>
  refine ⟨h.1,fun d hd=>?_⟩
  obtain ⟨D,h1,h2,_⟩:=h.2 d hd
  subst h1
  exact ⟨D,rfl,h2,h' D (List.mem_append_right _ (vZ hd))⟩
def JF (keep:List Nat):i5->i5
 | []=>[]
 | e::S=>(cond (u4 e.dep keep) e ⟨e.s,e.b,[],W6⟩)::JF keep S
theorem VR {keep:List Nat}:∀{S:i5} {t:Nat} {b:Bool} {k:d5},look (JF keep S) t=some (b,k)->∃k0,look S t=some (b,k0)/\(k=W6\/(k=k0/\∃e∈S,e.k=k/\∀q∈e.dep,q∈keep))
 | [],_,_,_,h=>by cases h
 | e::S,t,b,k,h=>by
  simp only[JF] at h
  cases hs:u4 e.dep keep with
  | true =>
   rw[hs] at h
   simp only[cond_true,look] at h ⊢
   cases hb:Nat.beq e.s t with
   | true =>
    rw[hb] at h
    simp only[cond_true,Option.some.injEq,Prod.mk.injEq] at h ⊢
    exact ⟨e.k,⟨h.1,rfl⟩,.inr ⟨h.2.symm,e,List.mem_cons_self,h.2,C3 hs⟩⟩
   | false =>
    rw[hb] at h
    obtain ⟨k0,h1,h2⟩:=VR h
    exact ⟨k0,h1,h2.imp id fun ⟨q1,e',q2,q3⟩=>⟨q1,e',List.mem_cons_of_mem _ q2,q3⟩⟩
  | false =>
   rw[hs] at h
   simp only[cond_false,look] at h ⊢
   cases hb:Nat.beq e.s t with
   | true =>
    rw[hb] at h
    simp only[cond_true,Option.some.injEq,Prod.mk.injEq] at h ⊢
    exact ⟨e.k,⟨h.1,rfl⟩,.inl h.2.symm⟩
   | false =>
    rw[hb] at h
    obtain ⟨k0,h1,h2⟩:=VR h
    exact ⟨k0,h1,h2.imp id fun ⟨q1,e',q2,q3⟩=>⟨q1,e',List.mem_cons_of_mem _ q2,q3⟩⟩
theorem fH {keep:List Nat}:∀{S:i5} {e:SE},e∈JF keep S->(e∈S/\∀q∈e.dep,q∈keep)\/(e.dep=[]/\e.k=W6)
 | [],_,h=>by cases h
 | x::S,e,h=>by
  simp only[JF] at h
  rcases List.mem_cons.1 h with h | h
  ·cases hs:u4 x.dep keep with
   | true=>rw[hs] at h; subst h; exact .inl ⟨List.mem_cons_self,C3 hs⟩
   | false=>rw[hs] at h; subst h; exact .inr ⟨rfl,rfl⟩
  ·exact (fH h).imp (fun ⟨h1,h2⟩=>⟨List.mem_cons_of_mem _ h1,h2⟩) id
section
variable {P:Program} {ops:Array Oper} {S:i5} {M M':i1} {rest:List Oper} {Q:Exit->Act->World->Prop}
variable {d:Nat} {ty:TypeId} {pos:String} {af:Array Edge} {w0:World} {J0:JV} {bor om:List Nat} {n:Nat} {rd:Option Nat} {mrk:Bool}
end
inductive EU (S:i5) (n:Nat) (bks:Nat->Bk):List Nat->Prop
 | nil:EU S n bks []
 | cons {t:Nat} {ts:List Nat} (h:look S (n+t)=some (true,BR t (bks t))) (r:EU S n bks ts):EU S n bks (t::ts)
theorem EU.holds {S:i5} {n:Nat} {bks:Nat->Bk} {a:Act} {g:Gh} (hs:U2 S a g):∀{ts:List Nat},EU S n bks ts->∀t∈ts,g.M t=some (bks t)
 | _::_,.cons h r,t,ht=>by
  rcases List.mem_cons.1 ht with rfl | ht
  ·exact (hs _ _ _ h).1 rfl
  ·exact r.holds hs t ht
section
variable {P:Program} {w0:World} {J0:JV} {bor om:List Nat} {n0:Nat} {S:i5} {M:i1} {fn:Func} {keep:List Nat} {bks:Nat->Bk} {n t:Nat} {k res:d5}
theorem eS {c:m9} {a:Act} {g:Gh} {w:World} (hs:l7 c S M a g w) (hk:EU S n bks keep) {r:Value} (hr:res g r):ZA c keep bks M res (.returned r) w :=
 ⟨r,g,rfl,hs.ok,hs.conts,hs.dom,hs.nodup,hs.cdep,hk.holds hs.slots,hr,hs.defers.2⟩
end
end Go.Fl

/- Parts of a row with their address: in states and results. No program in sight. -/
namespace Go.Fl
open Go Go.RowKit
theorem J8.down {α:Type} {e:i8 α} {ad:Option Addr} {cap:Nat} {xs:List α} {g:Gh} {v:Value} (k:J8 e ad cap xs g v):J8 e ad cap xs ⟨g.J,z5⟩ v :=
 (inferInstance:o7 (J8 e ad cap xs) []).dep (g:=g) (g':=⟨g.J,z5⟩) (JV.le_refl _) (fun _ h=>by cases h) k
theorem E8.v {S:i5} {t:Nat} {ts:List Nat} {ks:List d5} {α:Type} {e:i8 α} {ad:Option Addr} {cap:Nat} {xs ys:List α} (hl:look S t=some (true,J8 e ad cap xs)) (he:xs=ys) (r:E8 S ts ks):E8 S (t::ts) (J8 e ad cap ys::ks) :=
 .cons hl (fun _ _ h=>(h.cast he).down) r
theorem E3.v {S S':i5} {M M':i1} {s:Nat} {α:Type} {e:i8 α} {ad:Option Addr} {cap:Nat} {xs ys:List α} (hl:look S s=some (true,J8 e ad cap xs)) (he:xs=ys) (r:E3 S M S' M'):E3 S M (⟨s,true,[],J8 e ad cap ys⟩::S') M' :=
 E3.conv hl rfl (fun _ _ h=>h.cast he) rfl r
section
variable {P:Program} {c:m9} {S:i5} {M:i1} {p:Bool} {d:Option Tmp} {ty:TypeId} {pos:String} {af:Array Edge} {gd:Option (Nat×Bool)} {x y:Operand} {b b':Bool}
theorem xS {t et:TypeId} [ht:B7 P t et] {size bytes:Nat} {zz:Value} [hsz:o8 P et size bytes zz] {α:Type} (e:i8 α) {n:Int} (u:Nat) (hx:j2 S x=some (b,kI 0)) (hb:p=true->b=true) (hy:j2 S y=some (b',kI n)) (hb':p=true->b'=true)
  (hs:size=e.n) (h:p=true->0<=n/\bytes*n<=281474976710656/\n<=281474976710656) :
  l4 P c S M ⟨d,.makeSlice t x y,ty,pos,af,gd⟩ p (o5 u 0) (some ⟨u,[],l3 false et e [] 0⟩):=by
 intro hp a g w hok hc ho hf
 have hf':=hf _ rfl
 obtain ⟨i,hi,rfl,rfl,hzz⟩:=hsz.h
 obtain ⟨h0,h1,h2⟩:=h hp
 have e1:a.eval x=_:=ho x (by simp[Op.operands]) b _ hx (hb hp)
 have e2:a.eval y=_:=ho y (by simp[Op.operands]) b' _ hy (hb' hp)
 have hr:=run_make (P:=P) w t et i zz ht.h hi hzz .i64 .i64 0 n (Int.le_refl _) h0 h1 zo
 unfold Oper.wp
 simp only[execOp,e1,e2,Sem.run_bind,hr,Result.andThen_ok,Sem.run_pure,Oper.upon]
 exact ⟨_,_,rfl,G5.alloc (cap:=n.toNat) hok hf' (.inl rfl) (.inr ⟨_,_,Gh.add_same _ _ _,rfl⟩) ⟨rfl,fun h=>(by cases h),_,rfl,by rw[size_madeCells,hs],Nat.zero_le _,by simp only[maxLen]; omega,fun i x hx=>by simp at hx⟩⟩
end
section
variable {P:Program} {c:m9} {S:i5} {M1 M2 M:i1} {Q:Exit->Act->World->Prop} {a:Act} {g:Gh} {w:World}
theorem MZ {f:Nat->Bk×Option Obj}:tags (A2 f M1++M2)=tags (M1++M2):=by simp[tags,A2]
theorem l7.pinA (h:l7 c S (M1++M2) a g w):∃f,l7 c S (A2 f M1++M2) a g w:=by
 refine ⟨fun t=>((g.M t).getD .nil,World.objAt w ((g.M t).getD .nil)),h.ok,h.slots,fun e he=>?_,fun t ht=>?_,?_,fun e he=>?_,fun e he=>?_,h.defers,h.size⟩
 ·rcases List.mem_append.1 he with he | he
  ·obtain ⟨e0,he0,rfl⟩:=List.mem_map.1 he
   obtain ⟨bk,h1,h2⟩:=h.conts e0 (List.mem_append_left _ he0)
   refine ⟨bk,h1,h2,?_,?_⟩
   ·show bk=(g.M e0.t).getD .nil
    rw[h1]; rfl
   ·show _=World.objAt w ((g.M e0.t).getD .nil)
    rw[h1]; rfl
  ·exact h.conts e (List.mem_append_right _ he)
 ·show t∈tags (A2 _ M1++M2)
  rw[MZ]; exact h.dom t ht
 ·show (tags (A2 _ M1++M2)).Nodup
  rw[MZ]; exact h.nodup
 ·refine ⟨(h.sdep e he).1,fun t ht=>?_⟩
  show t∈tags (A2 _ M1++M2)
  rw[MZ]; exact (h.sdep e he).2 t ht
 ·rcases List.mem_append.1 he with he | he
  ·obtain ⟨e0,he0,rfl⟩:=List.mem_map.1 he
   refine ⟨⟨fun hl hd ⟨h1,h2⟩=>⟨(h.cdep e0 (List.mem_append_left _ he0)).1.dep hl hd h1,h2⟩⟩,fun t ht=>?_⟩
   show t∈tags (A2 _ M1++M2)
   rw[MZ]; exact (h.cdep e0 (List.mem_append_left _ he0)).2 t ht
  ·refine ⟨(h.cdep e (List.mem_append_right _ he)).1,fun t ht=>?_⟩
   show t∈tags (A2 _ M1++M2)
   rw[MZ]; exact (h.cdep e (List.mem_append_right _ he)).2 t ht
theorem D9 {f:Nat->Bk×Option Obj} {N:i1} (h:∀e∈A2 f M1,e∈N):∀a g w,l7 c S N a g w->MQ f M1 w:=by
 intro a g w hs e he
 obtain ⟨bk,_,_,h2,h3⟩:=hs.conts _ (h _ (List.mem_map.2 ⟨e,he,rfl⟩))
 rw[<- h2]; exact h3
theorem Tr.drawQ {l:List Oper} {id:Nat} (M1 M2:i1) (hM:M=M1++M2) (hm:P.follows .mixedOrders=true) (listed':Array Bool) (hl:Array.replicate l.length false=listed') (h:∀f,f0 P c l.toArray Q (MQ f M1) l.length listed' S (A2 f M1++M2)) (hr:c.rd=none\/EB l=true:=by first | exact .inl rfl | exact .inr rfl):Tr P c S M (.region id l.toArray true) Q:=by
 intro a g w hs
 subst hl
 subst hM
 obtain ⟨f,hf⟩:=hs.drew.pinA
 exact Code.wpIn_mono (Q:=W7 Q) (fun e _ _ q=>by obtain ⟨he,h⟩:=q; subst he; exact h) (KJ (hr.imp (fun h=>h) fun h=>⟨h,LY⟩) hm (wpAny_of_held _ _ _ _ (by simpa using h f _ _ _ hf (D9 (fun _ h=>List.mem_append_left _ h) _ _ _ hf))))
end
end Go.Fl

/- Structs that come back with a row of one's own, of which a part is wanted. No program in sight. -/
namespace Go.Fl
open Go Go.RowKit
theorem vE {t n len:Nat} (h0:0<len) {g:Gh} {v:Value} (h:C8 t n 0 len g v):o5 t len g v:=by
 obtain ⟨b,cap,o,h1,h2,h3,h4⟩:=h
 have:=h3 zo
 rw[Nat.zero_mul] at this
 subst this
 exact .inr ⟨b,cap,h1,h4⟩
theorem nS {α:Type} {et:TypeId} {e:i8 α} {xs ys:List α} {len m:Nat} (hm:m<=len) (he:xs.take m=ys) {g:Gh} {bk:Bk} {o:Option Obj} (h:l3 false et e xs len g bk o):l3 false et e ys m g bk o:=by
 subst he
 obtain ⟨h0,h1⟩:=h
 refine ⟨by rw[List.length_take]; omega,?_⟩
 cases bk with
 | nil=>have:len=0:=h1; show m=0; omega
 | blk b cap =>
  obtain ⟨_,cs,h3,h4,h5,h6,h7⟩:=h1
  refine ⟨fun h=>(by cases h),cs,h3,h4,by omega,h6,fun i x hx=>h7 i x ?_⟩
  rw[List.getElem?_take] at hx
  split at hx
  ·exact hx
  ·cases hx
theorem nI {x y:Bool} {u n m m':Nat} (hx:x=y) (hm:m=m') (g:Gh) (v:Value) (bk:Bk) (hb:g.M u=some bk) (h:H6 [kB x,C8 u n 0 m] g v) (t:Nat):H6 [kB y,C8 t n 0 m'] ⟨g.J,fun q=>if q=t then some bk else none⟩ v:=by
 subst hx hm
 obtain ⟨cs,h1,h2⟩:=h
 match cs,h2 with
 | [c1,c2],⟨k1,k2,_⟩ =>
  refine ⟨_,h1,k1,?_,trivial⟩
  obtain ⟨b,cap,o,q1,q2⟩:=k2
  rw[hb] at q1
  exact ⟨b,cap,o,by rw[<- q1]; simp,q2⟩
instance {x:Bool} {u n m:Nat}:o7 (H6 [kB x,C8 u n 0 m]) [u]:=(inferInstance:o7 (H6 [kB x,C8 u n 0 m]) _)
theorem G0.se {S:i5} {p b:Bool} {x:Operand} {xs:List Operand} {kl:List d5} {α:Type} {e:i8 α} {v v':α} {ks:List d5} (hx:j2 S x=some (b,H6 kl)) (hb:p=true->b=true) [hr:t9 kl e v []] (ha:e.agg=true) (he:v=v') (r:G0 S p xs ks):G0 S p (x::xs) (b7 e v'::ks):=by
 subst he; exact G0.s hx hb ha r
section
variable {P:Program} {c:m9} {S:i5} {M:i1} {p:Bool} {d:Option Tmp} {ty:TypeId} {pos:String} {af:Array Edge} {gd:Option (Nat×Bool)} {x:Operand} {b:Bool}
theorem jV {s f:Nat} {fs:Array Field} {fl:Field} (hu:P.underlying s=some (.struct fs)) (hf:fs[f]?=some fl) {ft off:Nat} (hft:fl.type=ft) (ho:fl.offset=off) [hl:F6 P ft] {cs:List Value} {v:Value} (hv:cs[off]?=some v) (w:World) :
  (Instr.field s (.agg cs.toArray) f).run P w=.ok v w:=by
 subst hft ho
 have hv':cs.toArray[fl.offset]?=some v:=by simpa using hv
 simp[Instr.field,run_underlying hu,hf,asAgg,part,hl.run,hv]
theorem xL {s f:Nat} {fs:Array Field} {fl:Field} (hu:P.underlying s=some (.struct fs)) (hf:fs[f]?=some fl) {ft off:Nat} (hft:fl.type=ft) (ho:fl.offset=off) [hl:F6 P ft] {ks:List d5} {k:d5} (hx:j2 S x=some (b,H6 ks)) (hb:p=true->b=true) (hk:ks[off]?=some k) :
  l4 P c S M ⟨d,.field s x f,ty,pos,af,gd⟩ p k none :=
 l4.pure fun hp a g w _ _ ho'=>by
  obtain ⟨cs,h1,h2⟩:=ho' x (by simp[Op.operands]) b _ hx (hb hp)
  obtain ⟨v,hv,hkv⟩:=IG h2 hk
  exact ⟨v,by simp only[execOp,h1,Sem.run_bind,jV hu hf hft ho hv,Result.andThen_ok,Sem.run_pure],hkv⟩
theorem xM {s f:Nat} {fs:Array Field} {fl:Field} (hu:P.underlying s=some (.struct fs)) (hf:fs[f]?=some fl) {ft off:Nat} (hft:fl.type=ft) (ho:fl.offset=off) [hl:F6 P ft] {α β:Type} {e:i8 α} {e':i8 β} {v:α} {v':β} {k:d5} [h1:v7 e v f e' v' off] [h2:P0 e' v' k]
  (hx:j2 S x=some (b,b7 e v)) (hb:p=true->b=true) (ha:e.agg=true) (ha':e'.agg=false):l4 P c S M ⟨d,.field s x f,ty,pos,af,gd⟩ p k none :=
 l4.pure fun hp a g w _ _ ho'=>by
  obtain ⟨cs,q1,q2⟩:=ho' x (by simp[Op.operands]) b _ hx (hb hp)
  rw[ha] at q2
  obtain ⟨ds,q3,q4⟩:=h1.imp q1
  have hlen:=e'.len q3
  rw[(e'.one ha').1] at hlen
  match ds,hlen with
  | [u],_ =>
   have hc:=q4 0 u rfl
   rw[Nat.add_zero] at hc
   exact ⟨u,by simp only[execOp,q2,if_true,Sem.run_bind,jV hu hf hft ho hc,Result.andThen_ok,Sem.run_pure],h2.imp ⟨_,q3,by rw[ha']; rfl⟩⟩
end
end Go.Fl

/- Two structs that come back out of cells; a struct with a nil row. No program in sight. -/
namespace Go.Fl
open Go Go.RowKit
section
variable {P:Program} {n0:Nat} {w0:World} {J0:JV} {S:i5} {M:i1} {fn:Func}
theorem zU {fn:Func} {a b ty ty2:Nat} (h:fn.results=#[.cell a ty,.cell b ty2]) {tmps:Array Value} {w:World} {ad ad2:Addr} {v v2:Value} (ha:tmps.getD a undef=.pointer (some ad)) (hr:(loadVar ty ad).run P w=.ok v w) (hb:tmps.getD b undef=.pointer (some ad2)) (hr2:(loadVar ty2 ad2).run P w=.ok v2 w) :
  (results fn tmps).run P w=.ok (.tuple #[v,v2]) w:=by
 rw[Array.getD_eq_getD_getElem?] at ha hb
 have hs:(asAddr (tmps[a]?.getD undef)).run P w=.ok ad w:=by rw[ha]; rfl
 have hs2:(asAddr (tmps[b]?.getD undef)).run P w=.ok ad2 w:=by rw[hb]; rfl
 simp[results,h,hs,hr,hs2,hr2]
theorem d9.resC2 {a b u v o o2 n n2 by' by2:Nat} {ty ty2:TypeId} {zz zz2:Value} {kc kc' kc2 kc2':List d5} {dep dep2:List Nat} [hlk:p9 M u (j5 kc) dep] [ht:C4 P ty] [hz:o8 P ty n by' zz] [hs:O1 kc o n kc'] [hlk2:p9 M v (j5 kc2) dep2] [ht2:C4 P ty2] [hz2:o8 P ty2 n2 by2 zz2] [hs2:O1 kc2 o2 n2 kc2'] {k k2:d5}
  (hr:fn.results=#[.cell a ty,.cell b ty2]) (hx:look S a=some (true,y5 u o)) (hy:look S b=some (true,y5 v o2)) (hc:∀(g:Gh) (v:Value),H6 kc' g v->k ⟨g.J,z5⟩ v) (hc2:∀(g:Gh) (v:Value),H6 kc2' g v->k2 ⟨g.J,z5⟩ v):d9 ⟨w0,J0,[],n0,none,false,[]⟩ S M (bodyPost P fn (DN w0 J0 (z9 [k,k2]))):=by
 intro act g w hst
 obtain ⟨ad,v,h1,h2,h3⟩:=LB (ty:=ty) (P:=P) hx hst
 obtain ⟨ad2,v2,h4,h5,h6⟩:=LB (ty:=ty2) (P:=P) hy hst
 exact ⟨hst.defers.1,_,zU hr h1 h2 h4 h5,_,g.J,rfl,⟨hst.ok.bel.os,hst.ok.bel.tape,hst.ok.bel.output,hst.ok.bel.size,fun k hk=>hst.ok.bel.block k hk (by simp),hst.ok.bel.drawn⟩,hst.ok.jle,hst.ok.jold,hst.ok.im,_,rfl,hc _ _ h3,hc2 _ _ h6,trivial⟩
end
theorem LA {x y:Bool} {α:Type} {e:i8 α} {xs ys:List α} (hx:x=y) (he:xs=ys) {g:Gh} {bk:Bk} {o:Option Obj} (h:j5 [kB x,b7 (eL e) xs] g bk o):j5 [kB y,b7 (eL e) ys] g bk o:=by subst hx he; exact h
theorem nT {x y:Bool} {α:Type} {e:i8 α} {cp:Nat} {ys:List α} (hx:x=y) (he:[]=ys) {g:Gh} {bk:Bk} {o:Option Obj} (h:j5 [kB x,i9 (.slice none 0 cp)] g bk o):j5 [kB y,b7 (eL e) ys] g bk o:=by
 subst hx he
 obtain ⟨cs,ty,h1,h2⟩:=h
 refine ⟨cs,ty,h1,?_⟩
 match hcs:cs.toList,h2 with
 | [c1,c2],⟨k1,k2,_⟩=>exact ⟨k1,⟨_,X0 (c:=cp),k2⟩,trivial⟩
section
variable {P:Program} {c:m9} {S:i5} {M:i1} {Sp:World->Prop} {d:Option Tmp} {ty:TypeId} {pos:String} {af:Array Edge} {gd:Option (Nat×Bool)} {x:Operand}
theorem mR {t:TypeId} [ht:C4 P t] {n by':Nat} {zz:Value} [hz:o8 P t n by' zz] {u o:Nat} {ks ks':List d5} {dep:List Nat} {f:Nat->Bk×Option Obj} {M0:i1} [hl0:p9 M0 u (j5 ks) dep] [hl:p9 M u (OF (j5 ks) (f u)) dep] [hs':O1 ks o n ks'] (hx:j2 S x=some (true,y5 u o)) :
  X4 P c S M (MQ f M0) ⟨d,.load t x,ty,pos,af,gd⟩ (H6 ks'):=fun a g w hs hsp=>by
 obtain ⟨bl,cap,h1,h2⟩:=A8 hs.slots hx rfl
 obtain ⟨bk,q1,⟨cs,tt,q2,q3⟩,q4,q5⟩:=hs.conts _ hl.mem
 simp only at q1 q4 q5
 rw[h1] at q1; cases q1
 have h5:=EZ o n q3
 rw[hs'.eq] at h5
 have hlen:((cs.toList.drop o).take n).length=n:=(K3 h5).trans hs'.len
 refine ⟨.agg ((cs.toList.drop o).take n).toArray,fun w' hw'=>?_,_,rfl,h5⟩
 have hob:w'.heap[bl]?=some (.cells cs tt (0,0)):=by
  have:=hw' _ hl0.mem
  simp only at this
  rw[<- q4,<- q5,q2] at this
  exact this
 have hc:∀j v,((cs.toList.drop o).take n)[j]?=some v->w'.cell? ⟨bl,o+j,none⟩=some v:=fun j v hj=>by
  refine L1 hob ?_
  rw[List.getElem?_take] at hj
  split at hj
  ·rw[List.getElem?_drop] at hj; simpa using hj
  ·cases hj
 simp only[execOp,h2,Sem.run_bind,MW (P:=P) (t:=t) hlen hc,Result.andThen_ok,Sem.run_pure]
end
theorem E3.n {S S':i5} {M M':i1} {s cp:Nat} {α:Type} {e:i8 α} {y:List α} (hl:look S s=some (true,i9 (.slice none 0 cp))) (he:[]=y) (r:E3 S M S' M'):E3 S M (⟨s,true,[],b7 (eL e) y⟩::S') M' :=
 E3.conv hl rfl (fun _ _ h=>by subst he; exact ⟨_,X0 (c:=cp),h⟩) rfl r
end Go.Fl

/- Closures whose captured values are immutable: their calls are calls by contract. No program in sight. -/
namespace Go.Fl
open Go Go.RowKit
def JC {α:Type} (P:Program) (φ:α->Prop) (ks:α->List d5) (res:α->d5):d5:=fun g v=>∃(f:FuncId) (caps:Array Value),v=.func (.func f) #[] caps/\d8 P f/\∀a,φ a->∀w J,g.J.le J->Im J w->∀vs,o4 ⟨J,z5⟩ (ks a) vs->Calls P f (vs.toArray++caps) w (DN w J (res a))
instance {α:Type} {P:Program} {φ:α->Prop} {ks:α->List d5} {res:α->d5}:o7 (JC P φ ks res) []:=⟨fun hl _ ⟨f,caps,h1,h2,h3⟩=>⟨f,caps,h1,h2,fun a ha w J hJ=>h3 a ha w J (JV.le_trans hl hJ)⟩⟩
theorem TD {g:Gh}:∀{ks ks':List d5} {vs vs':List Value},o4 g ks vs->o4 g ks' vs'->o4 g (ks++ks') (vs++vs')
 | [],_,[],_,_,h=>h
 | [],_,_::_,_,h,_=>h.elim
 | _::_,_,[],_,h,_=>h.elim
 | _::_,_,_::_,_,h,h'=>⟨h.1,TD h.2 h'⟩
theorem QA {α:Type} {P:Program} {f:FuncId} [hf:d8 P f] {φ:α->Prop} {ks:α->List d5} {res:α->d5} {cks:List d5} [hj:AA cks] (h:∀a,φ a->Ct P f (ks a++cks) (res a)) (g:Gh) (v:Value) (hv:AN f cks g v):JC P φ ks res g v:=by
 obtain ⟨cvs,rfl,hc⟩:=hv
 refine ⟨f,cvs.toArray,rfl,hf,fun a ha w J hJ him vs hvs=>?_⟩
 have h1:o4 ⟨J,z5⟩ cks cvs:=NZ (J:=g.J) hJ hj.all (KX (g:=g) (g':=⟨g.J,z5⟩) (JV.le_refl _) hj.all hc)
 have:=h a ha w J him (vs++cvs) (TD hvs h1)
 rwa [List.append_toArray]
section
variable {P:Program} {c:m9} {S:i5} {M:i1} {p:Bool} {d:Option Tmp} {ty:TypeId} {pos:String} {af:Array Edge} {gd:Option (Nat×Bool)} {x:Operand} {b:Bool}
theorem WV {α:Type} (a:α) {φ:α->Prop} {ks:α->List d5} {res:α->d5} {args:List Operand} {tys:Array TypeId} (hx:j2 S x=some (b,JC P φ ks res)) (hb:p=true->b=true) (ha:p=true->φ a) (hargs:G0 S p args (ks a)) [hk:o7 (res a) []] :
  l4 P c S M ⟨d,.call { callee:=.value x,args:=args.toArray,argTypes:=tys },ty,pos,af,gd⟩ p (res a) none:=by
 intro hp q g w hok hc ho _
 obtain ⟨f,caps,hfv,hf,hct⟩:=ho x (by simp[Op.operands,Call.operands]) b _ hx (hb hp)
 have hvs:=hargs.eval (g:=g) (ρ:=q.eval) hp (fun y hy b k hk hb=>ho y (by simp[Op.operands,Call.operands,hy]) b k hk hb)
 have hr:=hct a (ha hp) w g.J (JV.le_refl _) hok.im _ hvs
 unfold Oper.wp
 simp only[execOp,resolve,hfv,Deferred.ofValue,Sem.run_bind,Sem.run_pure,Result.andThen_ok,invoke,List.map_toArray,Array.empty_append]
 rw[hf.run]
 simp only[Oper.upon]
 refine hr.mono fun e w' he=>?_
 obtain ⟨r,J',rfl,hbel,hJ,hold,him,hres⟩:=he
 exact ⟨r,_,rfl,G5.call hok hbel hJ hold him hres⟩
end
end Go.Fl

/- The end of a call that is gone through in place, with what the caller wants to know. No program in sight. -/
namespace Go.Fl
open Go Go.RowKit
section
variable {P:Program} {c:m9} {w0:World} {J0:JV} {bor om:List Nat} {n0:Nat} {S:i5} {M M':i1} {fn:Func} {keep:List Nat} {bks:Nat->Bk} {n:Nat}
variable {p:Bool} {d:Option Tmp} {ty:TypeId} {pos:String} {af:Array Edge} {gd:Option (Nat×Bool)} {x:Operand} {b:Bool}
theorem hZ {f:FuncId} [hf:d8 P f] {ks cks:List d5} {res:d5} {args:List Operand} {tys:Array TypeId} (hx:j2 S x=some (b,AN f cks)) (hb:p=true->b=true) [hj:AA cks] (hct:p=true->Ct P f (ks++cks) res) (hargs:G0 S p args ks) [hk:o7 res []] :
  l4 P c S M ⟨d,.call { callee:=.value x,args:=args.toArray,argTypes:=tys },ty,pos,af,gd⟩ p res none:=by
 intro hp q g w hok hc ho _
 obtain ⟨cvs,hfv,hcs⟩:=ho x (by simp[Op.operands,Call.operands]) b _ hx (hb hp)
 have hvs:=hargs.eval (g:=g) (ρ:=q.eval) hp (fun y hy b k hk hb=>ho y (by simp[Op.operands,Call.operands,hy]) b k hk hb)
 have h1:o4 ⟨g.J,z5⟩ cks cvs:=KX (g:=g) (g':=⟨g.J,z5⟩) (JV.le_refl _) hj.all hcs
 have hr:=hct hp w g.J hok.im _ (TD hvs h1)
 unfold Oper.wp
 simp only[execOp,resolve,hfv,Deferred.ofValue,Sem.run_bind,Sem.run_pure,Result.andThen_ok,invoke,List.map_toArray,List.append_toArray]
 rw[hf.run]
 simp only[Oper.upon]
 refine hr.mono fun e w' he=>?_
 obtain ⟨r,J',rfl,hbel,hJ,hold,him,hres⟩:=he
 exact ⟨r,_,rfl,G5.call hok hbel hJ hold him hres⟩
end
end Go.Fl

/- Loops over what slices.Backward hands back: the body is a round with the frame's temporaries; what the rounds write are things of the call's own, which stay where they are. No program in sight. -/
namespace Go.Fl
open Go Go.RowKit
class SV (ct:t8):Prop where
  is:∀{g:Gh} {b cap:Nat} {o:Option Obj},ct g (.blk b cap) o->∃cs ty fr,o=some (Obj.cells cs ty fr)
instance {ks:List d5}:SV (j5 ks):=⟨fun ⟨cs,ty,h,_⟩=>⟨cs,ty,_,h⟩⟩
class AB (M:i1):Prop where
  is:∀e∈M,SV e.c
instance:AB []:=⟨fun _ h=>by cases h⟩
instance {t:Nat} {d:List Nat} {ct:t8} {M:i1} [h:SV ct] [hs:AB M]:AB (⟨t,d,ct⟩::M):=⟨fun e he=>by
  rcases List.mem_cons.1 he with rfl | he
  · exact h
  · exact hs.is e he⟩
def CA (g:Gh) (M:i1):List Nat:=(tags M).filterMap fun t=>match g.M t with | some (.blk b _)=>some b | _=>none
theorem RK {g:Gh} {M:i1} {b:Nat}:b∈CA g M↔∃t∈tags M,∃cap,g.M t=some (.blk b cap):=by
  unfold CA
  rw[List.mem_filterMap]
  constructor
  · rintro ⟨t,ht,h⟩
    refine ⟨t,ht,?_⟩
    cases hg:g.M t with
    | none=>rw[hg] at h; cases h
    | some bk =>
      cases bk with
      | nil=>rw[hg] at h; cases h
      | blk b' cap=>rw[hg] at h; simp only[Option.some.injEq] at h; subst h; exact ⟨cap,rfl⟩
  · rintro ⟨t,ht,cap,h⟩
    exact ⟨t,ht,by rw[h]⟩
section
variable {c:m9} {S S':i5} {M M':i1} {a a':Act} {g g':Gh} {W W':World}
theorem nV {W:World} {b off:Nat} {o:Obj} (hl:W.heap[b]?=some o) (ho:o.isCells=false):W.cell? ⟨b,off,none⟩=none:=by
  cases o<;>first | (simp[World.cell?,hl]; done) | (simp[Obj.isCells] at ho)
theorem l7.notOwn (h:l7 c S M a g W) (hM:AB M) {k:Nat} {o:Obj} (hk:W.heap[k]?=some o) (ho:o.isCells=false):k∉CA g M:=by
  intro hm
  obtain ⟨t,ht,cap,hg⟩:=RK.1 hm
  obtain ⟨e,he,rfl⟩:=List.mem_map.1 ht
  obtain ⟨bk,h1,h2⟩:=h.conts e he
  rw[hg] at h1; cases h1
  obtain ⟨cs,ty,fr,h3⟩:=(hM.is e he).is h2
  have h3:W.heap[k]?=some (Obj.cells cs ty fr):=h3
  rw[hk] at h3; cases h3; cases ho
theorem l7.rebase (h:l7 c S M a g W) (rd:Option Nat) (mrk:Bool) (om:List Nat) (hm:O9 mrk W.heap.size om a.defers W):l7 ⟨W,g.J,CA g M,c.n,rd,mrk,om⟩ S M a g W :=
  ⟨⟨⟨rfl,rfl,rfl,Nat.le_refl _,fun _ _ _=>rfl,Nat.le_refl _⟩,JV.le_refl _,fun _ _ _=>rfl,h.ok.im,fun t b cap ht=>⟨.inr (RK.2 ⟨t,h.dom t (by rw[ht]; simp),cap,ht⟩),(h.ok.own t b cap ht).2⟩,h.ok.inj⟩,
    h.slots,h.conts,h.dom,h.nodup,h.sdep,h.cdep,hm,h.size⟩
theorem l7.unbase {c0:m9} {rd:Option Nat} {mrk:Bool} {om:List Nat} (h0:l7 c0 S M a g W) (h:l7 ⟨W,g.J,CA g M,c0.n,rd,mrk,om⟩ S' M' a' g' W') (hw:c.w0=c0.w0) (hJ:c.J0=c0.J0) (hb:c.bor=c0.bor) (hn:c.n=c0.n)
    (hm:O9 c.mrk c.w0.heap.size c.om a'.defers W'):l7 c S' M' a' g' W':=by
  have hown:∀b,b∈CA g M->c0.w0.heap.size<=b\/b∈c0.bor:=fun b hb=>by
    obtain ⟨t,_,cap,hg⟩:=RK.1 hb
    exact (h0.ok.own t b cap hg).1
  have b0:=h0.ok.bel
  have b1:=h.ok.bel
  refine ⟨⟨⟨b1.os.trans (hw▸b0.os),b1.tape.trans (hw▸b0.tape),b1.output.trans (hw▸b0.output),Nat.le_trans (hw▸b0.size) b1.size,fun k hk hnb=>?_,Nat.le_trans (hw▸b0.drawn) b1.drawn⟩,JV.le_trans (hJ▸h0.ok.jle) h.ok.jle,fun b o hlt=>?_,h.ok.im,fun t b cap ht=>?_,h.ok.inj⟩,h.slots,h.conts,h.dom,h.nodup,h.sdep,h.cdep,hm,hn▸h.size⟩
  · rw[hw] at hk
    rw[hb] at hnb
    have h1:=b1.block k (Nat.lt_of_lt_of_le hk b0.size) (fun hk'=>by
      rcases hown k hk' with h2 | h2
      · omega
      · exact hnb h2)
    rw[h1,hw]
    exact b0.block k hk hnb
  · rw[hw] at hlt
    rw[h.ok.jold b o (Nat.lt_of_lt_of_le hlt b0.size),hJ]
    exact h0.ok.jold b o hlt
  · obtain ⟨h1,h2,h3⟩:=h.ok.own t b cap ht
    refine ⟨?_,h2,h3⟩
    rw[hw,hb]
    rcases h1 with h1 | h1
    · exact .inl (Nat.le_trans b0.size h1)
    · exact hown b h1
theorem l7.turn (h:l7 c S M a g W) (hM:AB M) {l:Nat} {o o':Obj} (hl:W.heap[l]?=some o) (ho:o.isCells=false) (hB:c.w0.heap.size<=l) (hmk:O9 c.mrk c.w0.heap.size c.om a.defers (W.putObj l o')):l7 c S M a g (W.putObj l o'):=by
  have hno:=h.notOwn hM hl ho
  have hoth:∀k,k≠l->(W.putObj l o').heap[k]?=W.heap[k]?:=fun k hk=>World.putObj_heap_other hk
  refine ⟨⟨⟨h.ok.bel.os,h.ok.bel.tape,h.ok.bel.output,by simpa using h.ok.bel.size,fun k hk hnb=>?_,h.ok.bel.drawn⟩,h.ok.jle,h.ok.jold,fun b off v hv=>?_,fun t b cap ht=>?_,h.ok.inj⟩,h.slots,fun e he=>?_,h.dom,h.nodup,h.sdep,h.cdep,hmk,h.size⟩
  · rw[hoth k zo]; exact h.ok.bel.block k hk hnb
  · have h1:=h.ok.im b off v hv
    rw[World.cell?_of_block (w:=W) (hoth b (fun e=>by
      subst e
      rw[nV hl ho] at h1; cases h1))]
    exact h1
  · obtain ⟨h1,h2,h3⟩:=h.ok.own t b cap ht
    exact ⟨h1,by simpa using h2,h3⟩
  · obtain ⟨bk,h1,h2⟩:=h.conts e he
    refine ⟨bk,h1,?_⟩
    have:World.objAt (W.putObj l o') bk=World.objAt W bk:=by
      cases bk with
      | nil=>rfl
      | blk b cap=>exact hoth b (fun e'=>by subst e'; exact hno (RK.2 ⟨e.t,List.mem_map.2 ⟨e,he,rfl⟩,cap,h1⟩))
    rw[this]; exact h2
end
def NJ (P:Program) (f:FuncId) {α:Type} [Inhabited α] (e:i8 α):Prop :=
  ∀(J:JV) (W:World) (xs:List α) (ptr:Value),Im J W->s6 (eL e) xs ⟨J,z5⟩ ptr->∃val:Nat->Value,(∀i,i<xs.length->e.val J (val i) (b6 xs i)) /\
    ∀(l:Nat) (Iv Ix:Nat->World->Prop),(∀k W1,k<xs.length->Im J W1->Iv k W1->YieldAt Fence.wide 2 P l #[.int .i64 ((xs.length-1-k:Nat):Int),val (xs.length-1-k)] W1 fun e W' =>
        (e=.returned (.bool true)/\Iv (k+1) W'/\Im J W')\/(e=.returned (.bool false)/\Ix (k+1) W'))->Iv 0 W ->
      Calls P f #[.func (.yield l) #[] #[],ptr] W fun e W'=>(∃v,e=.returned v)/\(Iv xs.length W'\/∃k,k<xs.length/\Ix (k+1) W')
def YX (P:Program) (n l:Nat) (body:Code) (Q:m9->Exit->Act->World->Prop) (c:m9) (a:Act) (W:World):Prop :=
  ∃S M g,l7 c S M a g W/\AB M/\∀(w2:World) (J2:JV) (b2:List Nat),Tr P ⟨w2,J2,b2,n,some l,false,[]⟩ S M body (Q ⟨w2,J2,b2,n,some l,false,[]⟩)
def ZB (n:Nat) (bks:Nat->Bk) (keep:List Nat) (N:i1) (R:Prop) (NX:i1) (RX:Prop) (c:m9):Exit->Act->World->Prop
  | .normal,a,W=>R/\∃g,l7 c (L0 n bks keep) N a g W
  | .ret,a,W=>RX/\∃g,l7 c (L0 n bks keep) NX a g W
  | _,_,_=>False
section
variable {P:Program} {c:m9} {S:i5} {M N NX:i1} {n l:Nat} {body:Code} {Q:m9->Exit->Act->World->Prop} {bks:Nat->Bk} {keep:List Nat} {R RX:Prop}
theorem g6.asg [hM:AB M] (h:∀(w2:World) (J2:JV) (b2:List Nat),Tr P ⟨w2,J2,b2,n,some l,false,[]⟩ S M body (Q ⟨w2,J2,b2,n,some l,false,[]⟩)):g6 c S M (Exit.then (YX P n l body Q c) (fun _ _ _=>False)) :=
  fun _ g _ hs=>⟨S,M,g,hs,hM,h⟩
theorem g6.rnd (hR:R) (h:d6 c S M (L0 n bks keep) N):g6 c S M (ZB n bks keep N R NX RX c):=fun a g w hs=>⟨hR,h a g w hs⟩
theorem af4 {n:Nat} {bks:Nat->Bk} {keep:List Nat} {a:Act} {g:Gh} (h:U2 (L0 n bks keep) a g):∀t∈keep,g.M t=some (bks t):=by
  intro t ht
  have hl:∀(ts:List Nat),t∈ts->look (L0 n bks ts) (n+t)=some (true,BR t (bks t)):=by
    intro ts
    induction ts with
    | nil=>intro h; cases h
    | cons u ts ih =>
      intro h
      simp only[L0,look]
      cases hb:Nat.beq (n+u) (n+t) with
      | true =>
        have:=Nat.eq_of_beq_eq_true hb
        have:u=t:=by omega
        subst this; rfl
      | false =>
        rcases List.mem_cons.1 h with rfl | h
        · rw[Nat.beq_refl] at hb; cases hb
        · exact ih h
  exact (h _ _ _ (hl keep ht)).1 rfl
end
section
variable {P:Program} {w0:World} {J0:JV} {bor om:List Nat} {n:Nat} {S S0:i5} {M:i1} {Q:Exit->Act->World->Prop}
theorem Tr.back {f:FuncId} [hf:d8 P f] {α:Type} [Inhabited α] {e:i8 α} {xs:List α} {s p1 p2:Nat} {assign body:Code} (hback:NJ P f e) (S0:i5) (keep:List Nat) (N NX:Nat->i1) (R RX:Nat->Prop)
    (he:d6 ⟨w0,J0,bor,n,none,true,om⟩ S M S0 (N 0)) (hx:look S0 s=some (true,AN f [s6 (eL e) xs])) (hkeep:S0.all (fun e=>u4 e.dep keep)=true) (hkt:∀k,u4 keep (tags (N k))=true) (hkx:∀k,u4 keep (tags (NX k))=true)
    (hN:∀k,AB (N k)) (hNX:∀k,AB (NX k)) (hp:(Nat.blt p1 n&&Nat.blt p2 n&&!Nat.beq p1 p2)=true) (h0:R 0) {kE:Nat->d5} [hE:∀i,P0 e (b6 xs i) (kE i)] [hEd:∀i,o7 (kE i) []]
    (round:∀k,k<xs.length->R k->∀(l:Nat) (w1:World) (J1:JV) (b1:List Nat) (bks:Nat->Bk),
      Tr P ⟨w1,J1,b1,n,some l,false,[]⟩ (⟨p2,true,[],kE (xs.length-1-k)⟩::⟨p1,true,[],kI ((xs.length-1-k:Nat):Int)⟩::(S0++L0 n bks keep)) (N k) assign
        (Exit.then (YX P n l body (ZB n bks keep (N (k+1)) (R (k+1)) (NX (k+1)) (RX (k+1))) ⟨w1,J1,b1,n,some l,false,[]⟩) (fun _ _ _=>False)))
    (done:R xs.length->g6 ⟨w0,J0,bor,n,none,true,om⟩ S0 (N xs.length) Q) (ret:∀k,k<xs.length->RX (k+1)->d9 ⟨w0,J0,bor,n,none,true,om⟩ S0 (NX (k+1)) Q) :
    Tr P ⟨w0,J0,bor,n,none,true,om⟩ S M (.rangeFunc (.tmp s) #[p1,p2] assign body) Q:=by
  intro a g00 w hs00
  obtain ⟨g,hs0⟩:=he a g00 w hs00
  simp only[Bool.and_eq_true,Bool.not_eq_true'] at hp
  obtain ⟨⟨hp1,hp2⟩,hp12⟩:=hp
  have hp1:p1<n:=by simpa [Nat.blt_eq] using hp1
  have hp2:p2<n:=by simpa [Nat.blt_eq] using hp2
  have hp12:p1≠p2:=Nat.ne_of_beq_eq_false hp12
  obtain ⟨cvs,hfv,hcl⟩:=(hs0.slots s _ _ hx).1 rfl
  obtain ⟨ptr,rfl,hptr⟩:∃ptr,cvs=[ptr]/\s6 (eL e) xs g ptr:=by
    match cvs,hcl with
    | [ptr],h=>exact ⟨ptr,rfl,h.1⟩
  have hn:=hs0.size
  simp only at hn
  have hkm:∀t∈keep,∃bk,g.M t=some bk:=fun t ht=>hs0.tagM (C3 (hkt 0) t ht)
  refine wpIn_rangeFunc fun fn _=>?_
  obtain ⟨rec,hrec⟩:∃rec:LoopState->Option Code->Loop,rec=fun st pe=>{ state:=st,pending:=pe,fn,tmps:=a.tmps,params:=#[p1,p2],assign,body,defers:=w.heap.size }:=⟨_,rfl⟩
  obtain ⟨D,hD⟩:∃D,D=w.heap.size:=⟨_,rfl⟩
  obtain ⟨W1,hW1⟩:∃W1,(w.alloc (.deferred (some []))).alloc (.loop (rec .ready none))=W1:=⟨_,rfl⟩
  have hL1:W1.heap[D+1]?=some (.loop (rec .ready none)):=by
    rw[<- hW1,hD]; have:=World.alloc_heap_new (w.alloc (.deferred (some []))) (.loop (rec .ready none)); rwa [World.size_alloc] at this
  have hD1:W1.heap[D]?=some (Obj.deferred (some [])):=by
    rw[<- hW1,hD]; exact (Below.heap_alloc _ _ _ (by simp)).trans (World.alloc_heap_new w _)
  have hbel:Below w.heap.size w W1:=by rw[<- hW1]; exact ((Below.refl _ w).alloc (Nat.le_refl _) _).alloc (by simp) _
  have hB:w0.heap.size<=D:=by rw[hD]; exact hs0.ok.bel.size
  have hs1:l7 ⟨w0,J0,bor,n,none,true,om⟩ S0 (N 0) a g W1:=by
    have hob:∀bk,(∀b cap,bk=Bk.blk b cap->b<w.heap.size)->World.objAt W1 bk=World.objAt w bk:=fun bk hb=>QU hbel hb
    refine ⟨⟨hs0.ok.bel.then hbel,hs0.ok.jle,hs0.ok.jold,fun b o v hv=>?_,fun t b cap ht=>?_,hs0.ok.inj⟩,hs0.slots,fun x hx=>?_,hs0.dom,hs0.nodup,hs0.sdep,hs0.cdep,hs0.defers.below hbel,hs0.size⟩
    · have h1:=hs0.ok.im b o v hv
      rw[World.cell?_of_block (w:=w) (hbel.block b (World.block_lt_of_cell? _ _ h1))]; exact h1
    · obtain ⟨q1,q2,q3⟩:=hs0.ok.own t b cap ht
      exact ⟨q1,Nat.lt_of_lt_of_le q2 hbel.size,q3⟩
    · obtain ⟨bk,q1,q2⟩:=hs0.conts x hx
      exact ⟨bk,q1,by rw[hob bk (fun b cap e=>by subst e; exact (hs0.ok.own _ _ _ q1).2.1)]; exact q2⟩
  have him1:Im g.J W1:=hs1.ok.im
  obtain ⟨val,hval,hcall⟩:=hback g.J W1 xs ptr him1 (by obtain ⟨b,o,ds,q⟩:=hptr; exact ⟨b,o,ds,q⟩)
  let St (Nk:i1) (W:World):Prop:=∃g':Gh,g.J.le g'.J/\(∀t∈keep,g'.M t=g.M t)/\l7 ⟨w0,J0,bor,n,none,true,om⟩ S0 Nk a g' W
  have hfin:Calls P f #[.func (.yield (D+1)) #[] #[],ptr] W1 fun e W'=>(∃v,e=.returned v) /\
      (((R xs.length/\St (N xs.length) W')/\W'.heap[D+1]?=some (.loop (rec .ready none))/\W'.heap[D]?=some (Obj.deferred (some []))) \/
       ∃k,k<xs.length/\(RX (k+1)/\St (NX (k+1)) W')/\W'.heap[D+1]?=some (.loop (rec .done (some .ret)))/\W'.heap[D]?=some (Obj.deferred (some []))):=by
    refine hcall (D+1) (fun k W=>(R k/\St (N k) W)/\W.heap[D+1]?=some (.loop (rec .ready none))/\W.heap[D]?=some (Obj.deferred (some [])))
      (fun k W=>(RX k/\St (NX k) W)/\W.heap[D+1]?=some (.loop (rec .done (some .ret)))/\W.heap[D]?=some (Obj.deferred (some []))) ?_ ⟨⟨h0,g,JV.le_refl _,fun _ _=>rfl,hs1⟩,hL1,hD1⟩
    rintro k W hk _ ⟨⟨hR,g',hJ',hM',hsW⟩,hLW,hDW⟩
    have hy:=run_yield (P:=P) (args:=#[.int .i64 ((xs.length-1-k:Nat):Int),val (xs.length-1-k)]) hLW (by rw[hrec]; rfl)
    rw[hrec] at hy
    refine ⟨fn,_,assign,body,hy,roundIn_of_wpIn trivial ?_⟩
    obtain ⟨a1,ha1⟩:∃a1:Act,a1={ tmps:=(a.tmps.setIfInBounds p1 (.int .i64 ((xs.length-1-k:Nat):Int))).setIfInBounds p2 (val (xs.length-1-k)),defers:=[] }:=⟨_,rfl⟩
    have hfold:({ tmps:=((#[p1,p2]:Array Tmp).zip #[.int .i64 ((xs.length-1-k:Nat):Int),val (xs.length-1-k)]).foldl (fun t (p,v)=>t.setIfInBounds p v) a.tmps,defers:=[] }:Act)=a1:=by
      rw[ha1]; simp
    have hbks:∀t∈keep,g'.M t=some ((g.M t).getD .nil):=fun t ht=>by
      obtain ⟨bk,q⟩:=hkm t ht
      rw[hM' t ht,q]; rfl
    have hsr:l7 ⟨w0,J0,bor,n,some (D+1),false,[]⟩ (⟨p2,true,[],kE (xs.length-1-k)⟩::⟨p1,true,[],kI ((xs.length-1-k:Nat):Int)⟩::(S0++L0 n (fun t=>(g.M t).getD .nil) keep)) (N k) a1 g' W:=by
      have hv:=hval (xs.length-1-k) zo
      have hoth:∀t,t≠p1->t≠p2->a1.tmps.getD t undef=a.tmps.getD t undef:=fun t h1 h2=>by
        rw[ha1]; simp[Array.getElem?_setIfInBounds_ne (Ne.symm h1),Array.getElem?_setIfInBounds_ne (Ne.symm h2)]
      refine ⟨⟨hsW.ok.bel,hsW.ok.jle,hsW.ok.jold,hsW.ok.im,hsW.ok.own,hsW.ok.inj⟩,fun t b k0 hl=>?_,hsW.conts,hsW.dom,hsW.nodup,fun x hx=>?_,hsW.cdep,⟨by rw[ha1],fun _ h=>by cases h⟩,by rw[ha1]; simpa using hn⟩
      · simp only[look] at hl
        cases hb2:Nat.beq p2 t with
        | true =>
          rw[hb2] at hl
          simp only[cond_true,Option.some.injEq,Prod.mk.injEq] at hl
          obtain ⟨rfl,rfl⟩:=hl
          rw[<- Nat.eq_of_beq_eq_true hb2]
          refine ⟨fun _=>?_,fun h=>by cases h⟩
          rw[show a1.tmps.getD p2 undef=val (xs.length-1-k) by rw[ha1]; simp[hn,hp2]]
          exact (hE _).imp (hv.mono hJ')
        | false =>
          rw[hb2] at hl
          simp only[cond_false] at hl
          cases hb1:Nat.beq p1 t with
          | true =>
            rw[hb1] at hl
            simp only[cond_true,Option.some.injEq,Prod.mk.injEq] at hl
            obtain ⟨rfl,rfl⟩:=hl
            rw[<- Nat.eq_of_beq_eq_true hb1]
            refine ⟨fun _=>?_,fun h=>by cases h⟩
            show a1.tmps.getD p1 undef=_
            rw[ha1]
            simp only[Array.getD_eq_getD_getElem?]
            rw[Array.getElem?_setIfInBounds_ne (Ne.symm hp12),Array.getElem?_setIfInBounds_self_of_lt zo]
            rfl
          | false =>
            rw[hb1] at hl
            simp only[cond_false] at hl
            rcases VV hl with hl | hl
            · rw[hoth t (fun e=>Nat.ne_of_beq_eq_false hb1 e.symm) (fun e=>Nat.ne_of_beq_eq_false hb2 e.symm)]
              exact hsW.slots t b k0 hl
            · obtain ⟨rfl,_,h3,rfl⟩:=SH hl
              exact ⟨fun _=>hbks _ h3,fun hf=>(by cases hf)⟩
      · rcases List.mem_cons.1 hx with rfl | hx
        · exact ⟨hEd _,fun _ h=>by cases h⟩
        rcases List.mem_cons.1 hx with rfl | hx
        · exact ⟨inferInstance,fun _ h=>by cases h⟩
        rcases List.mem_append.1 hx with hx | hx
        · exact hsW.sdep x hx
        · obtain ⟨t,h1,h2,h3⟩:=SI hx
          rw[h2,h3]
          exact ⟨inferInstance,fun q hq=>by simp at hq; subst hq; exact C3 (hkt k) _ h1⟩
    have hNk:=hN k
    have nW:∀{q:Nat} {o:Obj},W.heap[q]?=some o->o.isCells=false->q∉CA g' (N k):=fun h1 h2=>hsW.notOwn hNk h1 h2
    have hr1:=hsr.rebase (some (D+1)) false [] ⟨by rw[ha1],fun _ h=>by cases h⟩
    refine wpIn_mono (by
      have:=round k hk hR (D+1) W g'.J (CA g' (N k)) (fun t=>(g.M t).getD .nil) a1 g' W hr1
      rw[<- hfold] at this
      exact this) ?_
    rintro e2 a2 W2 hq
    cases e2 with
    | normal =>
      obtain ⟨S1,M1,g1,hs2,hM1,hbody⟩:=hq
      have keep2:∀{q:Nat} {o:Obj},W.heap[q]?=some o->o.isCells=false->W2.heap[q]?=some o:=fun h1 h2 =>
        (hs2.ok.bel.block _ (Array.getElem?_eq_some_iff.1 h1).1 (nW h1 h2)).trans h1
      have hL2:=keep2 hLW rfl
      have hD2:=keep2 hDW rfl
      have hs2':l7 ⟨w0,J0,bor,n,some (D+1),false,[]⟩ S1 M1 a2 g1 W2:=hsr.unbase hs2 rfl rfl rfl rfl ⟨hs2.defers.1,fun _ h=>by cases h⟩
      obtain ⟨busy,hbusy⟩:∃busy:Obj,busy=.loop { rec .ready none with state:=.busy }:=⟨_,rfl⟩
      refine ⟨W2.putObj (D+1) busy,by rw[hbusy]; exact run_beginRound hL2 (by rw[hrec]),?_⟩
      have hs3:=hs2'.turn (o':=busy) hM1 hL2 rfl (Nat.le_trans hB (Nat.le_succ _)) ⟨hs2.defers.1,fun _ h=>by cases h⟩
      have hL3:(W2.putObj (D+1) busy).heap[D+1]?=some busy:=World.putObj_heap_same (Array.getElem?_eq_some_iff.1 hL2).1
      have hoth3:∀q,q≠D+1->(W2.putObj (D+1) busy).heap[q]?=W2.heap[q]?:=fun q hq=>World.putObj_heap_other hq
      have hD3:(W2.putObj (D+1) busy).heap[D]?=some (Obj.deferred (some [])):=(hoth3 D zo).trans hD2
      generalize hW3:W2.putObj (D+1) busy=W3 at hs3 hL3 hoth3 hD3 ⊢
      have nW3:∀{q:Nat} {o:Obj},W3.heap[q]?=some o->o.isCells=false->q∉CA g1 M1:=fun h1 h2=>hs3.notOwn hM1 h1 h2
      have hr3:=hs3.rebase (some (D+1)) false [] ⟨hs2.defers.1,fun _ h=>by cases h⟩
      refine wpIn_mono (hbody W3 g1.J (CA g1 M1) a2 g1 W3 hr3) ?_
      have fin:∀(jump:Option Code) (N':i1) (a4:Act) (g4:Gh) (W4:World),AB N'->u4 keep (tags N')=true->l7 ⟨W3,g1.J,CA g1 M1,n,some (D+1),false,[]⟩ (L0 n (fun t=>(g.M t).getD .nil) keep) N' a4 g4 W4 ->
          ∃W5,(Instr.endRound (D+1) jump).run P W4=.ok (.bool jump.isNone) W5/\St N' W5/\Im g.J W5/\W5.heap[D+1]?=some (.loop (rec (if jump.isNone then .ready else .done) jump))/\W5.heap[D]?=some (Obj.deferred (some [])):=by
        intro jump N' a4 g4 W4 hN' hkN hs4
        have keep4:∀{q:Nat} {o:Obj},W3.heap[q]?=some o->o.isCells=false->W4.heap[q]?=some o:=fun h1 h2 =>
          (hs4.ok.bel.block _ (Array.getElem?_eq_some_iff.1 h1).1 (nW3 h1 h2)).trans h1
        have hL4:=keep4 hL3 (by rw[hbusy]; rfl)
        have hD4:=keep4 hD3 rfl
        have hs4':l7 ⟨w0,J0,bor,n,some (D+1),false,[]⟩ (L0 n (fun t=>(g.M t).getD .nil) keep) N' a4 g4 W4:=hs3.unbase hs4 rfl rfl rfl rfl ⟨hs4.defers.1,fun _ h=>by cases h⟩
        have hJ4:g'.J.le g4.J:=JV.le_trans hs2.ok.jle hs4.ok.jle
        have hM4:∀t∈keep,g4.M t=g.M t:=fun t ht=>by
          obtain ⟨bk,q⟩:=hkm t ht
          rw[af4 hs4.slots t ht,q]; rfl
        have hmk:∀(o':Obj),O9 true w0.heap.size om a.defers (W4.putObj (D+1) o'):=fun o'=>by
          refine hsW.defers.on fun q hq=>?_
          have hne:q≠D+1:=fun e=>by subst e; rw[hLW] at hq; cases hq
          rw[World.putObj_heap_other hne]
          have h3:W3.heap[q]?=some (Obj.deferred (some [])):=(hoth3 q hne).trans (keep2 hq rfl)
          exact (keep4 h3 rfl).trans hq.symm
        have hmk4:O9 true w0.heap.size om a.defers W4:=by
          refine hsW.defers.on fun q hq=>?_
          have hne:q≠D+1:=fun e=>by subst e; rw[hLW] at hq; cases hq
          have h3:W3.heap[q]?=some (Obj.deferred (some [])):=(hoth3 q hne).trans (keep2 hq rfl)
          exact (keep4 h3 rfl).trans hq.symm
        have hsO:l7 ⟨w0,J0,bor,n,none,true,om⟩ S0 N' a g4 W4:=by
          refine ⟨⟨hs4'.ok.bel,hs4'.ok.jle,hs4'.ok.jold,hs4'.ok.im,hs4'.ok.own,hs4'.ok.inj⟩,fun t b k0 hl=>?_,hs4'.conts,hs4'.dom,hs4'.nodup,fun x hx=>⟨(hsW.sdep x hx).1,fun t ht=>C3 hkN t (C3 (List.all_eq_true.1 hkeep x hx) t ht)⟩,hs4'.cdep,hmk4,hn⟩
          obtain ⟨x,hx,_,_,rfl⟩:=DZ hl
          obtain ⟨q1,q2⟩:=hsW.slots t b _ hl
          exact ⟨fun hb=>(hsW.sdep x hx).1.dep (g:=g') hJ4 (fun u hu=>by rw[hM4 u (C3 (List.all_eq_true.1 hkeep x hx) u hu),hM' u (C3 (List.all_eq_true.1 hkeep x hx) u hu)]) (q1 hb),q2⟩
        rw[hbusy] at hL4
        have hsT:=hsO.turn (o':=.loop (rec (if jump.isNone then .ready else .done) jump)) hN' hL4 rfl (Nat.le_trans hB (Nat.le_succ _)) (hmk _)
        have hrun:=run_endRound (P:=P) jump hL4
        refine ⟨_,?_,⟨g4,JV.le_trans hJ' hJ4,hM4,hsT⟩,fun b o v hv=>hsT.ok.im b o v (JV.le_trans hJ' hJ4 b o v hv),World.putObj_heap_same (Array.getElem?_eq_some_iff.1 hL4).1,(World.putObj_heap_other zo).trans hD4⟩
        rw[hrun,hrec]
      rintro e4 a4 W4 hp
      cases e4 with
      | normal =>
        obtain ⟨hR',g4,hs4⟩:=hp
        obtain ⟨W5,q1,q2,q3,q4,q5⟩:=fin none _ a4 g4 W4 (hN _) (hkt _) hs4
        exact ⟨_,W5,q1,.inl ⟨rfl,⟨⟨hR',q2⟩,q4,q5⟩,q3⟩⟩
      | ret =>
        obtain ⟨hR',g4,hs4⟩:=hp
        obtain ⟨W5,q1,q2,_,q4,q5⟩:=fin (some .ret) _ a4 g4 W4 (hNX _) (hkx _) hs4
        exact ⟨_,W5,q1,.inr ⟨rfl,⟨hR',q2⟩,q4,q5⟩⟩
      | exit id=>exact hp.elim
      | goto t=>exact hp.elim
      | panic ch=>exact hp.elim
      | outgrown=>exact hp.elim
    | exit id=>exact hq.elim
    | goto t=>exact hq.elim
    | ret=>exact hq.elim
    | panic ch=>exact hq.elim
    | outgrown=>exact hq.elim
  have hout:∀(Nk:i1) (W:World) (o:Loop) (o':Obj),AB Nk->St Nk W->W.heap[D+1]?=some (.loop o)->W.heap[D]?=some (Obj.deferred (some [])) ->
      ∃g',l7 ⟨w0,J0,bor,n,none,true,om⟩ S0 Nk { a with defers:=[{ target:=.collected D,args:=#[] }]++a.defers } g' (W.putObj (D+1) o'):=by
    rintro Nk W o o' hc ⟨g',_,_,hsW⟩ hl hd
    have hk:∀q,W.heap[q]?=some (Obj.deferred (some []))->(W.putObj (D+1) o').heap[q]?=W.heap[q]?:=fun q hq=>World.putObj_heap_other (fun e=>by subst e; rw[hl] at hq; cases hq)
    have hm:=hsW.defers.on hk
    have hs:=hsW.turn (o':=o') hc hl rfl (Nat.le_trans hB (Nat.le_succ _)) hm
    refine ⟨g',hs.ok,hs.slots,hs.conts,hs.dom,hs.nodup,hs.sdep,hs.cdep,⟨⟨List.nodup_cons.2 ⟨fun hmem=>?_,hm.1.1⟩,fun d hd'=>?_⟩,hm.2⟩,hs.size⟩
    · obtain ⟨D',q1,_,q3⟩:=hs0.defers.1.2 _ hmem
      simp only[Deferred.mk.injEq,Target.collected.injEq,and_true] at q1
      rw[<- q1,hD] at q3
      have:=(Array.getElem?_eq_some_iff.1 q3).1
      omega
    · rcases List.mem_cons.1 hd' with rfl | hd'
      · exact ⟨D,rfl,hB,(hk D hd).trans hd⟩
      · exact hm.1.2 d hd'
  refine ⟨D+1,[{ target:=.collected D,args:=#[] }],W1,{ target:=.fn (.func f) #[ptr],args:=#[.func (.yield (D+1)) #[] #[]] },W1,f,#[.func (.yield (D+1)) #[] #[],ptr],W1,?_,?_,fun _ _=>trivial,?_,fun _=>by omega,?_⟩
  · rw[<- hW1,hrec,hD]; exact run_enterLoop_outer _ _ _ _ _
  · have hev:a.eval (.tmp s)=.func (.func f) #[] #[ptr]:=hfv
    simp only[resolve,hev]
    simp[go_sem]
  · simp only[invoke]
    exact hf.run _ _
  · refine callsIn_wide.2 (hfin.mono ?_)
    rintro e W2 ⟨⟨v,rfl⟩,h⟩
    rcases h with ⟨⟨hR,hst⟩,hl,hd⟩ | ⟨k,hk,⟨hR,hst⟩,hl,hd⟩
    · obtain ⟨g',hs⟩:=hout _ W2 _ (.loop { rec .ready none with state:=.exhausted }) (hN _) hst hl hd
      exact ⟨none,_,by have:=run_endLoop (P:=P) hl (by rw[hrec]; simp); rw[hrec] at this ⊢; exact this,done hR _ g' _ hs⟩
    · obtain ⟨g',hs⟩:=hout _ W2 _ (.loop { rec .done (some .ret) with state:=.exhausted }) (hNX _) hst hl hd
      exact ⟨some .ret,_,by have:=run_endLoop (P:=P) hl (by rw[hrec]; simp); rw[hrec] at this ⊢; exact this,wpIn_ret (ret k hk hR _ g' _ hs)⟩
end
end Go.Fl

/- Functions that hold a loop over a function: their contracts. No program in sight. -/
namespace Go.Fl
open Go Go.RowKit
abbrev SU (P:Program) (fn:Func) (R:Ending->World->Prop):Exit->Act->World->Prop:=bodyPostM Fence.wide 2 P fn R
theorem CtM.mk {P:Program} {f:FuncId} {fn:Func} {code:Code} {args:List d5} {res:d5} {n:Nat} (hf:P.funcs[f]?=some fn) (hb:fn.body=some code) (hn:fn.ntmps=n) (hl:Nat.ble args.length n=true) [hj:AA args]
  (h:∀w J,Tr P ⟨w,J,[],n,none,true,[]⟩ (params 0 args) [] code (SU P fn (DN w J res))):Ct P f args res:=by
 intro w J him vs hvs
 have hlen:=K3 hvs
 have hle:args.length<=n:=Nat.le_of_ble_eq_true hl
 refine callsIn_wide.1 (callsIn_of_wp_marks (n:=2) hf hb trivial (h w J _ ⟨J,z5⟩ w ⟨⟨⟨rfl,rfl,rfl,Nat.le_refl _,fun _ _ _=>rfl,Nat.le_refl _⟩,JV.le_refl _,fun _ _ _=>rfl,him,fun _ _ _ h=>(by cases h),fun _ _ _ _ _ h=>(by cases h)⟩,?_,fun _ h=>(by cases h),fun _ h=>absurd rfl h,List.nodup_nil,?_,fun _ h=>(by cases h),⟨⟨List.nodup_nil,fun _ h=>(by cases h)⟩,fun _ h=>(by cases h)⟩,?_⟩))
 ·intro t b k hk
  obtain ⟨_,rfl,v,hv,hkv⟩:=JT hvs hk
  refine ⟨fun _=>?_,fun hf=>(by cases hf)⟩
  have ht:t<vs.length:=(List.getElem?_eq_some_iff.1 (by simpa using hv)).1
  have:(vs.toArray++Array.replicate (fn.ntmps-vs.toArray.size) undef).getD t undef=v:=by
   rw[Array.getD_eq_getD_getElem?,Array.getElem?_append_left (by simpa using ht)]
   simp only[List.getElem?_toArray]
   rw[show vs[t]?=some v by simpa using hv]
   rfl
  rw[this]; exact hkv
 ·intro e he
  obtain ⟨h1,h2⟩:=JS hj.all he
  exact ⟨h1,fun t ht=>by rw[h2] at ht; cases ht⟩
 ·simp only[Array.size_append,List.size_toArray,Array.size_replicate]; omega
theorem d9.mk {P:Program} {w0:World} {J0:JV} {bor:List Nat} {n:Nat} {S:i5} {M:i1} {fn:Func} {R:Ending->World->Prop} [hM:AB M] (h:d9 ⟨w0,J0,bor,n,none,false,[]⟩ S M (bodyPost P fn R)):d9 ⟨w0,J0,bor,n,none,true,[]⟩ S M (SU P fn R):=by
 have key:∀(ds:List Deferred) (a:Act) (g:Gh) (w:World),a.defers=ds->l7 ⟨w0,J0,bor,n,none,true,[]⟩ S M a g w->LeavesInM Fence.wide 2 P fn a.tmps R ds .returning w:=by
  intro ds
  induction ds with
  | nil =>
   intro a g w hd hs
   have h1:=h a g w ⟨⟨hs.ok.bel,hs.ok.jle,hs.ok.jold,hs.ok.im,hs.ok.own,hs.ok.inj⟩,hs.slots,hs.conts,hs.dom,hs.nodup,hs.sdep,hs.cdep,⟨hd,hs.defers.2⟩,hs.size⟩
   exact h1.2
  | cons d ds ih =>
   intro a g w hd hs
   have hdf:=hs.defers
   rw[hd] at hdf
   obtain ⟨D,h1,h2,h3⟩:=hdf.1.2 d List.mem_cons_self
   have hnd:=List.nodup_cons.1 hdf.1.1
   refine ⟨by simp,.inl ⟨D,w.putObj D (.deferred none),by rw[h1],run_takeDeferred h3,?_⟩⟩
   have hoth:∀q,q≠D->(w.putObj D (.deferred none)).heap[q]?=w.heap[q]?:=fun q hq=>World.putObj_heap_other hq
   have hs':l7 ⟨w0,J0,bor,n,none,false,[]⟩ S M { a with defers:=[] } g w:=⟨⟨hs.ok.bel,hs.ok.jle,hs.ok.jold,hs.ok.im,hs.ok.own,hs.ok.inj⟩,hs.slots,hs.conts,hs.dom,hs.nodup,hs.sdep,hs.cdep,⟨rfl,fun _ h=>by cases h⟩,hs.size⟩
   have ht:=hs'.turn (o':=.deferred none) hM h3 rfl h2 ⟨rfl,fun _ h=>by cases h⟩
   refine ih { a with defers:=ds } g _ rfl ⟨⟨ht.ok.bel,ht.ok.jle,ht.ok.jold,ht.ok.im,ht.ok.own,ht.ok.inj⟩,ht.slots,ht.conts,ht.dom,ht.nodup,ht.sdep,ht.cdep,⟨⟨hnd.2,fun d' hd'=>?_⟩,fun _ h=>by cases h⟩,ht.size⟩
   ·obtain ⟨D',q1,q2,q3⟩:=hdf.1.2 d' (List.mem_cons_of_mem _ hd')
    exact ⟨D',q1,q2,(hoth D' (fun e=>by subst e; exact hnd.1 (by rw[h1,<- q1]; exact hd'))).trans q3⟩
 exact fun a g w hs=>key a.defers a g w rfl hs
end Go.Fl

/- Arrays that are immutable, as lists of one length: elements at any place, slices. No program in sight. -/
namespace Go.Fl
open Go Go.RowKit
def AR {α:Type} (e:i8 α) (J:JV):List Value->List α->Prop
 | cs,[]=>cs=[]
 | cs,x::xs=>∃c1 c2,cs=c1++c2/\e.rd J c1 x/\AR e J c2 xs
theorem RS {α:Type} {e:i8 α} {J:JV}:∀{xs:List α} {cs:List Value},AR e J cs xs->cs.length=xs.length*e.n
 | [],_,h=>by have h:_=[]:=h; subst h; simp
 | _::xs,_,⟨c1,c2,h,h1,h2⟩=>by subst h; rw[List.length_append,e.len h1,RS h2,List.length_cons,Nat.succ_mul]; omega
theorem jA {α:Type} {e:i8 α} {J J':JV} (hl:J.le J'):∀{xs:List α} {cs:List Value},AR e J cs xs->AR e J' cs xs
 | [],_,h=>h
 | _::_,_,⟨c1,c2,h,h1,h2⟩=>⟨c1,c2,h,e.mono hl h1,jA hl h2⟩
theorem XN {α:Type} {e:i8 α} {J:JV}:∀{xs:List α} {cs:List Value},AR e J cs xs->∀v∈cs,v.oneCell'=true
 | [],_,h,v,hv=>by have h:_=[]:=h; subst h; cases hv
 | _::_,_,⟨c1,c2,h,h1,h2⟩,v,hv=>by
  subst h
  rcases List.mem_append.1 hv with hv | hv
  ·exact e.all1 h1 v hv
  ·exact XN h2 v hv
theorem MS {α:Type} {e:i8 α} {J:JV}:∀{xs:List α} {cs:List Value},AR e J cs xs->∀{i:Nat} {x:α},xs[i]?=some x->∃ds,e.rd J ds x/\∀j v,ds[j]?=some v->cs[i*e.n+j]?=some v
 | [],_,_,_,_,hx=>by simp at hx
 | y::xs,_,⟨c1,c2,h,h1,h2⟩,0,x,hx=>by
  subst h
  simp only[List.getElem?_cons_zero,Option.some.injEq] at hx
  subst hx
  exact ⟨c1,h1,fun j v hj=>by rw[Nat.zero_mul,Nat.zero_add,List.getElem?_append_left (List.getElem?_eq_some_iff.1 hj).1]; exact hj⟩
 | y::xs,_,⟨c1,c2,h,h1,h2⟩,i+1,x,hx=>by
  subst h
  obtain ⟨ds,q1,q2⟩:=MS h2 (i:=i) (by simpa using hx)
  refine ⟨ds,q1,fun j v hj=>?_⟩
  rw[Nat.succ_mul,List.getElem?_append_right (by rw[e.len h1]; omega),e.len h1,show i*e.n+e.n+j-e.n=i*e.n+j by omega]
  exact q2 j v hj
def P4 {α:Type} (k:Nat) (e:i8 α):i8 (List α) where
 n:=k*e.n
 agg:=true
 rd J cs xs:=xs.length=k/\AR e J cs xs
 len h:=by rw[RS h.2,h.1]
 one h:=by cases h
 all1 h:=XN h.2
 mono hl h:=⟨h.1,jA hl h.2⟩
section
variable {P:Program} {c:m9} {S:i5} {M:i1} {p:Bool} {d:Option Tmp} {ty:TypeId} {pos:String} {af:Array Edge} {gd:Option (Nat×Bool)} {x y:Operand} {b b':Bool}
theorem FR {t et:TypeId} {n:Nat} [ht:AH P t n et] {sz by':Nat} {zz:Value} [hz:o8 P et sz by' zz] {α:Type} [Inhabited α] {e:i8 α} {xs:List α} {ik:IntKind} {i:Int} (hx:j2 S x=some (b,s6 (P4 n e) xs)) (hb:p=true->b=true) (hy:j2 S y=some (b',y8 ik i)) (hb':p=true->b'=true)
  (hs:sz=e.n) (h:p=true->0<=i/\i<n):l4 P c S M ⟨d,.indexAddr t x y,ty,pos,af,gd⟩ p (s6 e (b6 xs i.toNat)) none :=
 l4.pure fun hp a g w _ _ ho=>by
  obtain ⟨bl,o,ds,h1,⟨h2,h3⟩,h4⟩:=ho x (by simp[Op.operands]) b _ hx (hb hp)
  have hi:a.eval y=_:=ho y (by simp[Op.operands]) b' _ hy (hb' hp)
  have hlt:=h hp
  obtain ⟨ti,hti,rfl,_,_⟩:=hz.h
  obtain ⟨es,q1,q2⟩:=MS h3 (F5 (xs:=xs) (i:=i.toNat) zo)
  refine ⟨.pointer (some ⟨bl,o+i.toNat*ti.size,none⟩),?_,bl,o+i.toNat*ti.size,es,rfl,q1,fun j v hj=>?_⟩
  ·simp[execOp,h1,hi,Instr.indexAt,run_underlying ht.h,asIntOf,hlt,sizeOf,typeInfo,hti,Instr.sureAddr,Addr.add_lit]
  ·rw[hs,Nat.add_assoc]; exact h4 _ _ (q2 j v hj)
theorem kM {t et:TypeId} {n:Nat} [ht:AH P t n et] {sz by':Nat} {zz:Value} [hz:o8 P et sz by' zz] {α:Type} {e:i8 α} {xs:List α} {g:Gh} {v:Value} {w:World} (hv:s6 (P4 n e) xs g v) (hs:sz=e.n) (hlm:n<=p6) {lo hi:Option Value} {l h:Nat} (hlh:l<=h) (hn:h<=n)
  (hlo:(lo=none/\l=0)\/∃ik,lo=some (.int ik (l:Int))) (hhi:(hi=none/\h=n)\/∃ik,hi=some (.int ik (h:Int))):∃u,(Instr.sliceAt t v lo hi none).run P w=.ok u w/\b7 (eL e) ((xs.take h).drop l) g u:=by
 obtain ⟨bl,o,ds,rfl,⟨h2,h3⟩,h4⟩:=hv
 obtain ⟨ti,hti,rfl,_,_⟩:=hz.h
 have hlen:((xs.take h).drop l).length=h-l:=by rw[List.length_drop,List.length_take]; omega
 have hb:(Instr.sliceBounds false n n lo hi none).run P w=.ok (l,h,n) w:=by
  rcases hlo with ⟨rfl,rfl⟩ | ⟨ik,rfl⟩<;>rcases hhi with ⟨rfl,rfl⟩ | ⟨ik',rfl⟩
  ·simp[Instr.sliceBounds]
  ·simp[Instr.sliceBounds,Instr.sliceBound,asIntOf]; omega
  ·simp[Instr.sliceBounds,Instr.sliceBound,asIntOf]; omega
  ·simp[Instr.sliceBounds,Instr.sliceBound,asIntOf]
   rw[if_pos zo]
   simp
   omega
 refine ⟨.slice (some (if n=l then ⟨bl,o,none⟩ else (⟨bl,o,none⟩:Addr).add (l*ti.size))) (h-l) (n-l),?_,?_⟩
 ·unfold Instr.sliceAt
  simp only[Sem.run_bind,run_underlying ht.h,Result.andThen_ok,Instr.sureAddr,Sem.run_pure,hb]
  simp[sizeOf,typeInfo,hti]
 ·refine ⟨[.slice (some (if n=l then ⟨bl,o,none⟩ else (⟨bl,o,none⟩:Addr).add (l*ti.size))) (h-l) (n-l)],⟨_,_,by rw[hlen],⟨by rw[hlen]; omega,by rw[hlen]; omega⟩,?_⟩,rfl⟩
  by_cases hnl:n=l
  ·left
   exact List.eq_nil_of_length_eq_zero (by rw[hlen]; omega)
  ·right
   refine ⟨bl,o+l*ti.size,by rw[if_neg hnl]; simp[Addr.add_lit],fun i x hx=>?_⟩
   rw[List.getElem?_drop,List.getElem?_take] at hx
   split at hx
   ·obtain ⟨es,q1,q2⟩:=MS h3 hx
    refine ⟨es,q1,fun j v hj=>?_⟩
    have:=h4 _ _ (q2 j v hj)
    rwa [hs,show o+l*e.n+i*e.n+j=o+((l+i)*e.n+j) by rw[Nat.add_mul]; omega]
   ·cases hx
theorem iC {t et:TypeId} {n:Nat} [ht:AH P t n et] {sz by':Nat} {zz:Value} [hz:o8 P et sz by' zz] {α:Type} {e:i8 α} {xs:List α} {ik:IntKind} {i0:Int} (hx:j2 S x=some (b,s6 (P4 n e) xs)) (hb:p=true->b=true) (hy:j2 S y=some (b',y8 ik i0)) (hb':p=true->b'=true)
  (hs:sz=e.n) (hlm:Nat.ble n p6=true) (h:p=true->0<=i0/\i0<=n):l4 P c S M ⟨d,.slice t x none (some y) none,ty,pos,af,gd⟩ p (b7 (eL e) (xs.take i0.toNat)) none :=
 l4.pure fun hp a g w _ _ ho=>by
  have hv:=ho x (by simp[Op.operands]) b _ hx (hb hp)
  have hi:a.eval y=_:=ho y (by simp[Op.operands]) b' _ hy (hb' hp)
  have hlt:=h hp
  obtain ⟨u,h1,h2⟩:=kM (P:=P) (t:=t) (w:=w) hv hs (Nat.le_of_ble_eq_true hlm) (lo:=none) (hi:=some (.int ik i0)) (l:=0) (h:=i0.toNat) (Nat.zero_le _) zo (.inl ⟨rfl,rfl⟩) (.inr ⟨ik,by rw[show ((i0.toNat:Nat):Int)=i0 by omega]⟩)
  exact ⟨u,by simp only[execOp,hi,Option.map,Sem.run_bind,h1,Result.andThen_ok,Sem.run_pure],by simpa using h2⟩
theorem xU {t et:TypeId} {n:Nat} [ht:AH P t n et] {sz by':Nat} {zz:Value} [hz:o8 P et sz by' zz] {α:Type} {e:i8 α} {xs:List α} {ik:IntKind} {i0:Int} (hx:j2 S x=some (b,s6 (P4 n e) xs)) (hb:p=true->b=true) (hy:j2 S y=some (b',y8 ik i0)) (hb':p=true->b'=true)
  (hs:sz=e.n) (hlm:Nat.ble n p6=true) (h:p=true->0<=i0/\i0<=n):l4 P c S M ⟨d,.slice t x (some y) none none,ty,pos,af,gd⟩ p (b7 (eL e) ((xs.take n).drop i0.toNat)) none :=
 l4.pure fun hp a g w _ _ ho=>by
  have hv:=ho x (by simp[Op.operands]) b _ hx (hb hp)
  have hi:a.eval y=_:=ho y (by simp[Op.operands]) b' _ hy (hb' hp)
  have hlt:=h hp
  obtain ⟨u,h1,h2⟩:=kM (P:=P) (t:=t) (w:=w) hv hs (Nat.le_of_ble_eq_true hlm) (lo:=some (.int ik i0)) (hi:=none) (l:=i0.toNat) (h:=n) zo (Nat.le_refl _) (.inr ⟨ik,by rw[show ((i0.toNat:Nat):Int)=i0 by omega]⟩) (.inl ⟨rfl,rfl⟩)
  exact ⟨u,by simp only[execOp,hi,Option.map,Sem.run_bind,h1,Result.andThen_ok,Sem.run_pure],h2⟩
end
end Go.Fl

/- Pointers against nil. No program in sight. -/
namespace Go.Fl
open Go Go.RowKit
section
variable {P:Program} {c:m9} {S:i5} {M:i1} {p:Bool} {d:Option Tmp} {ty:TypeId} {pos:String} {af:Array Edge} {gd:Option (Nat×Bool)} {x y:Operand} {b b':Bool}
class ZE (P:Program) (t:TypeId):Prop where
 h:∃e,P.underlying t=some (.pointer e)
theorem FQ {t t':TypeId} [ht:ZE P t] {α:Type} {e:i8 α} {v:α} (hx:j2 S x=some (b,s6 e v)) (hb:p=true->b=true):l4 P c S M ⟨d,.binOp .eql t x (.const (.pointer none)) t',ty,pos,af,gd⟩ p (kB false) none :=
 l4.pure fun hp a g w _ _ ho=>by
  obtain ⟨bl,o,ds,h1,_⟩:=ho x (by simp[Op.operands]) b _ hx (hb hp)
  have he:a.eval (.const (.pointer none))=.pointer none:=rfl
  obtain ⟨ee,hh⟩:=ht.h
  refine ⟨.bool false,?_,rfl⟩
  simp only[execOp,h1,he]
  simp[go_sem,hh]
end
end Go.Fl

/- A struct of the call's own is lent by a pointer: to a call that returns what hangs on no memory, and to one that leaves it as it was. No program in sight. -/
namespace Go.Fl
open Go Go.RowKit
section
variable {P:Program} {c:m9} {S:i5} {M:i1} {p:Bool} {d:Option Tmp} {ty:TypeId} {pos:String} {af:Array Edge} {gd:Option (Nat×Bool)} {x:Operand} {b:Bool}
instance {ik:IntKind} {n:Int}:SW (y8 ik n):=⟨fun h=>h⟩
theorem xR {f:FuncId} [hf:d8 P f] {args:List Operand} {tys:Array TypeId} {ks:List d5} {res:d5} {u:Nat} {α:Type} {e:i8 α} {x0 x1:α} {kc:List d5} {dep dep2:List Nat} [hl:p9 M u (j5 kc) dep] [hr:t9 kc e x0 []] [hd:C1 kc dep2] [hdn:J5 dep2]
  (hct:p=true->Ct P f (s6 e x1::ks) res) (he:x0=x1) (hx:j2 S x=some (b,y5 u 0)) (hb:p=true->b=true) (ha:G0 S p args ks) [hj:AA ks] [hk:o7 res []] [hfr:SW res] :
  l4 P c S M ⟨d,.call { callee:=.value (.func f),args:=(x::args).toArray,argTypes:=tys },ty,pos,af,gd⟩ p res none:=by
 subst he
 intro hp a g w hok hc ho _
 have hargs:=ha.eval (g:=g) (ρ:=a.eval) hp (fun y hy b k hk hb=>ho y (by simp[Op.operands,Call.operands,hy]) b k hk hb)
 obtain ⟨bl,cap,hm,hxv⟩:=ho x (by simp[Op.operands,Call.operands]) b _ hx (hb hp)
 obtain ⟨bk,hm2,cs,tt,h3,h4⟩:=hc _ hl.mem
 simp only at hm2 h3
 rw[hm] at hm2; cases hm2
 have h3:w.heap[bl]?=some (.cells cs tt (0,0)):=h3
 have hnone:=(hok.own u bl cap hm).2.2
 have hJ:g.J.le (g.J.with bl cs):=JV.le_with hnone
 have him:Im (g.J.with bl cs) w:=fun b o v hv=>by
  unfold JV.with at hv
  by_cases e:b=bl
  ·rw[if_pos e] at hv; subst e; exact L1 h3 hv
  ·rw[if_neg e] at hv; exact hok.im b o v hv
 have hrd:s6 e x0 ⟨g.J.with bl cs,z5⟩ (a.eval x):=by
  have hk':=hd.dep (g:=g) (g':=⟨g.J.with bl cs,z5⟩) hJ (fun t ht=>by rw[hdn.eq] at ht; cases ht) h4
  refine ⟨bl,0,cs.toList,hxv,t9.whole (h:=hr) hk',fun j v hj=>?_⟩
  show (g.J.with bl cs) bl (0+j)=some v
  unfold JV.with
  rw[if_pos rfl,Nat.zero_add]
  simpa using hj
 have hr2:=hct hp w (g.J.with bl cs) him (a.eval x::args.map a.eval) ⟨hrd,NZ hJ hj.all hargs⟩
 unfold Oper.wp
 simp only[execOp,resolve,Act.eval,Deferred.ofValue,Sem.run_bind,Sem.run_pure,Result.andThen_ok,invoke,List.map_toArray,List.map_cons,Array.append_empty,Array.empty_append]
 rw[hf.run]
 simp only[Oper.upon]
 refine hr2.mono fun e' w' he=>?_
 obtain ⟨r,J2,rfl,hbel,hJ2,hold,him2,hres⟩:=he
 have q1:g.J.le (fun b o=>if b=bl then none else J2 b o):=fun b o v hv=>by
  have hne:b≠bl:=fun e=>by subst e; rw[hnone o] at hv; cases hv
  simp only[if_neg hne]
  exact hJ2 _ _ _ (hJ _ _ _ hv)
 refine ⟨r,_,rfl,G5.call hok hbel q1 (fun b o hlt=>?_) (fun b o v hv=>?_) (hfr.go (g':=⟨_,z5⟩) hres)⟩
 ·by_cases e:b=bl
  ·subst e; simp only[if_true]; exact (hnone o).symm
  ·simp only[if_neg e]
   rw[hold b o hlt]
   unfold JV.with
   rw[if_neg e]
 ·by_cases e:b=bl
  ·simp only[if_pos e] at hv; cases hv
  ·simp only[if_neg e] at hv; exact him2 b o v hv
end
theorem AL {ks:List d5} {dep:List Nat} [hd:C1 ks dep] [hn:J5 dep] {g g':Gh} {bk:Bk} {o:Option Obj} (hJ:g.J=g'.J) (h:j5 ks g bk o):j5 ks g' bk o :=
 let ⟨cs,ty,h1,h2⟩:=h; ⟨cs,ty,h1,hd.dep (by rw[hJ]; exact JV.le_refl _) (fun t ht=>by rw[hn.eq] at ht; cases ht) h2⟩
section
variable {P:Program} {n:Nat} {rd:Option Nat} {mrk:Bool} {om:List Nat} {w0:World} {J0:JV} {S:i5} {M M':i1} {Q:Exit->Act->World->Prop} {fn:Func} {bb cap:Nat}
theorem Tr.frzBo {code:Code} (u:Nat) (ss:List Nat) {len:Nat} {α:Type} {zb:Bool} {et:TypeId} {e:i8 α} {xs:List α} {dep:List Nat} [hl:p9 M u (l3 zb et e xs len) dep] (h0:look S 0=some (true,DX 0 0 bb)) (hu:Nat.beq u 0=false) (hss:GJ S u len ss) (hlen:len<=p6) [hdel:L6 M u M'] (hnd:K0 u M=true)
  (K:Tr P ⟨w0,J0,[bb],n,rd,mrk,om⟩ (i5.setAll ss (b7 (eL e) xs) (G6 u S)) M' code Q):Tr P ⟨w0,J0,[bb],n,rd,mrk,om⟩ S M code Q:=fun a g w hs =>
 let ⟨g',hs'⟩:=hs.frzAB (ss:=ss) (u:=u) (fun b cap hm hbb=>by
  obtain ⟨⟨cap',h1⟩,_⟩:=(hs.slots 0 _ _ h0).1 rfl
  simp only[List.mem_singleton] at hbb
  subst hbb
  have:=hs.ok.inj _ _ _ _ _ hm h1
  subst this
  simp at hu) hss hlen hnd
 K a g' w hs'
theorem zV {fn:Func} {t a ty:Nat} (h:fn.results=#[.tmp t,.cell a ty]) {tmps:Array Value} {w:World} {ad:Addr} {v:Value} (ha:tmps.getD a undef=.pointer (some ad)) (hr:(loadVar ty ad).run P w=.ok v w) :
  (results fn tmps).run P w=.ok (.tuple #[tmps.getD t undef,v]) w:=by
 rw[Array.getD_eq_getD_getElem?] at ha
 have hs:(asAddr (tmps[a]?.getD undef)).run P w=.ok ad w:=by rw[ha]; rfl
 simp[results,h,hs,hr,Array.getD_eq_getD_getElem?]
theorem d9.mutTC {t a u o n2 by':Nat} {ty:TypeId} {zz:Value} {kc kc' kb kb':List d5} {dep dep2 dep3:List Nat} {r1 r2:d5} [hm:p9 M 0 (j5 kb) dep] [hkd:C1 kb dep3] [hkn:J5 dep3] [hlk:p9 M u (j5 kc) dep2] [ht:C4 P ty] [hz:o8 P ty n2 by' zz] [hsk:O1 kc o n2 kc'] (hr:fn.results=#[.tmp t,.cell a ty]) (hs0:look S 0=some (true,DX 0 0 bb))
  (h1:E8 S [t] [r1]) (hx:look S a=some (true,y5 u o)) (hkb:kb=kb') (h2:∀(g:Gh) (v:Value),H6 kc' g v->r2 ⟨g.J,z5⟩ v) :
  d9 ⟨w0,J0,[bb],n,none,false,[]⟩ S M (bodyPost P fn (BF w0 J0 bb cap (z9 [r1,r2]) (j5 kb'))):=by
 subst hkb
 intro act g w hs
 obtain ⟨⟨cap',q1⟩,_⟩:=(hs.slots 0 _ _ hs0).1 rfl
 obtain ⟨bk,q2,q3⟩:=hs.conts _ hm.mem
 simp only at q2 q3
 rw[q1] at q2; cases q2
 obtain ⟨bl,cap2,p1,p2⟩:=(hs.slots a _ _ hx).1 rfl
 obtain ⟨cs,ty',p3,p4⟩:=DP (ks:=kc) hs.conts p1
 have p5:=EZ o n2 p4
 rw[hsk.eq] at p5
 have hld:=jW (P:=P) (t:=ty) (w:=w) (b:=bl) (o:=o) (ds:=(cs.toList.drop o).take n2) ((K3 p5).trans hsk.len) (fun j v hj=>by
  refine L1 p3 ?_
  rw[List.getElem?_take] at hj
  split at hj
  ·rw[List.getElem?_drop] at hj; simpa using hj
  ·cases hj)
 exact ⟨hs.defers.1,_,zV hr p2 hld,_,g.J,rfl,⟨hs.ok.bel.os,hs.ok.bel.tape,hs.ok.bel.output,hs.ok.bel.size,fun k hk hne=>hs.ok.bel.block k hk (by simp only[List.mem_singleton]; rintro rfl; exact hne cap rfl),hs.ok.bel.drawn⟩,hs.ok.jle,hs.ok.jold,hs.ok.im,
  ⟨_,rfl,(h1.holds hs.slots).1,h2 _ _ ⟨_,rfl,p5⟩,trivial⟩,AL (g:=g) (g':=g1 g.J bb cap) (bk:=.blk bb cap') (o:=w.heap[bb]?) rfl q3⟩
end
section
variable {P:Program} {c:m9} {ops:Array Oper} {S:i5} {M:i1} {rest:List Oper} {Q:Exit->Act->World->Prop}
variable {d:Nat} {ty:TypeId} {pos:String} {af:Array Edge}
theorem b8.mutQ {f:FuncId} [hf:d8 P f] {x:Operand} {args:List Operand} {tys:Array TypeId} {ks:List d5} {res:d5} {u:Nat} {kb0 kb kb':List d5} {dep dep0 dep1:List Nat} {M':i1} (hct:EQ P f (y5 0 0) ks (j5 kb) (j5 kb') res) (hx:j2 S x=some (true,y5 u 0)) (ha:G0 S true args ks)
  [hl:p9 M u (j5 kb0) dep] [hd0:C1 kb0 dep0] [hn0:J5 dep0] [hd1:C1 kb' dep1] [hn1:J5 dep1] (hkb:kb0=kb) [hup:D4 M u (j5 kb') [] M'] [hkd:o7 res []] (hn:Nat.blt d c.n=true)
  (K:b8 P c ops (⟨d,true,[],res⟩::S) M' rest Q):b8 P c ops S M (⟨some d,.call { callee:=.value (.func f),args:=(x::args).toArray,argTypes:=tys },ty,pos,af,none⟩::rest) Q:=by
 subst hkb
 have hcd:A9 (j5 kb') []:=⟨fun hJ _ h=>let ⟨cs,t,h1,h2⟩:=h; ⟨cs,t,h1,hd1.dep hJ (fun t ht=>by rw[hn1.eq] at ht; cases ht) h2⟩⟩
 exact b8.mutP hct hx ha (fun g b cap o h=>AL (g:=g) (g':=g1 g.J b cap) rfl h) (fun {J b cap o g} h=>AL (g:=g1 J b cap) (g':=⟨J,g.M⟩) rfl h) (hcd:=hcd) hn K
end
end Go.Fl

/- Parts of strings, errors against nil, contracts that lean on what package variables hold. -/
namespace Go.Fl
open Go Go.RowKit
section
variable {P:Program} {c:m9} {S:i5} {M:i1} {p:Bool} {d:Option Tmp} {ty:TypeId} {pos:String} {af:Array Edge} {gd:Option (Nat×Bool)} {x y z:Operand} {b b' b'':Bool}
end
section
variable {P:Program} {c:m9} {S:i5} {M:i1} {p:Bool} {d:Option Tmp} {ty:TypeId} {pos:String} {af:Array Edge} {gd:Option (Nat×Bool)} {x:Operand} {b:Bool}
end
end Go.Fl

/- What the code computes, in plain Lean: origamis, cycles. No program in sight. -/
namespace Go.Fl
theorem G1 {α:Type} [Inhabited α] {xs:List α} {i:Nat} (h:i<xs.length):b6 xs i∈xs:=List.mem_of_getElem? (F5 h)
theorem Y3 {α:Type} [Inhabited α] {xs:List α} {i:Nat} {x:α} (h:xs[i]?=some x):b6 xs i=x:=by
 have hi:=(List.getElem?_eq_some_iff.1 h).1
 rw[F5 hi] at h; exact Option.some.inj h
theorem D1 {α:Type} [Inhabited α] {a b:List α} (h:a.length=b.length) (k:∀i,i<a.length->b6 a i=b6 b i):a=b:=by
 apply List.ext_getElem? ; intro i
 by_cases hi:i<a.length
 ·rw[F5 hi,F5 (h▸hi),k i hi]
 ·rw[List.getElem?_eq_none (Nat.le_of_not_lt hi),List.getElem?_eq_none (h▸Nat.le_of_not_lt hi)]
theorem V5 {α:Type} [Inhabited α] {xs:List α} {k:Nat} (h:k<xs.length):xs.take (k+1)=xs.take k++[b6 xs k]:=by
 rw[List.take_add_one,F5 h]; rfl
theorem HA {α β:Type} [Inhabited α] [Inhabited β] {f:α->β} {xs:List α} {i:Nat} (h:i<xs.length):b6 (xs.map f) i=f (b6 xs i) :=
 Y3 (by rw[List.getElem?_map,F5 h]; rfl)
theorem gU {n i:Nat} (h:i<n):b6 (List.range n) i=i:=Y3 (by rw[List.getElem?_range h])
theorem WP {α:Type} [Inhabited α] {a b:List α} {i:Nat} (h:i<a.length):b6 (a++b) i=b6 a i :=
 Y3 (by rw[List.getElem?_append_left h,F5 h])
theorem gR {α:Type} [Inhabited α] {a b:List α} {i:Nat} (h:a.length<=i) (hb:i-a.length<b.length):b6 (a++b) i=b6 b (i-a.length) :=
 Y3 (by rw[List.getElem?_append_right h,F5 hb])
theorem N1 {α:Type} [Inhabited α] {xs:List α} {i j:Nat} {x:α} (h:j<xs.length):b6 (xs.set i x) j=if i=j then x else b6 xs j:=by
 apply Y3
 rw[List.getElem?_set]
 by_cases e:i=j
 ·subst e; rw[if_pos rfl,if_pos rfl,if_pos h]
 ·rw[if_neg e,if_neg e,F5 h]
theorem QQ {α:Type} [Inhabited α] {n i:Nat} {x:α} (h:i<n):b6 (List.replicate n x) i=x:=Y3 (by simp[h])
def FK (p:List Int) (n:Nat):Prop:=∀i,i<p.length->0<=b6 p i/\b6 p i<n
instance (p:List Int) (n:Nat):Decidable (FK p n):=by unfold FK; exact Nat.decidableBallLT _ _
abbrev q7:=List Int×List Int
def eO:i8 q7:=eC (fun o:q7=>(o.1,o.2,())) (eP (eL eI) (eP (eL eI) eU))
instance {o:q7}:E5 (b7 eO o) [b7 (eL eI) o.1,b7 (eL eI) o.2]:=inferInstanceAs (E5 (b7 (eC (fun o:q7=>(o.1,o.2,())) (eP (eL eI) (eP (eL eI) eU))) o) _)
instance {o:q7}:v7 eO o 0 (eL eI) o.1 0:=inferInstanceAs (v7 (eC (fun o:q7=>(o.1,o.2,())) (eP (eL eI) (eP (eL eI) eU))) o 0 _ _ _)
instance {o:q7}:v7 eO o 1 (eL eI) o.2 1:=inferInstanceAs (v7 (eC (fun o:q7=>(o.1,o.2,())) (eP (eL eI) (eP (eL eI) eU))) o 1 _ _ _)
instance {o:q7}:P0 eO o (b7 eO o):=⟨fun h=>h⟩
instance {ks r:List d5} {a b:List Int} [h:t9 ks (eP (eL eI) (eP (eL eI) eU)) (a,b,()) r]:t9 ks eO (a,b) r:=⟨fun h'=>h.imp h'⟩
instance {o:q7} {r:List d5}:t9 (b7 (eL eI) o.1::b7 (eL eI) o.2::r) eO o r:=inferInstanceAs (t9 (b7 (eL eI) o.1::b7 (eL eI) o.2::r) eO (o.1,o.2) r)
def CH (n:Nat) (S:List Int):List Bool:=(List.range n).map (fun j:Nat=>decide ((j:Int)∈S))
theorem QR {n:Nat} {S:List Int} {j:Nat} (h:j<n):b6 (CH n S) j=decide ((j:Int)∈S):=by
 unfold CH; rw[HA (by simpa using h),gU h]
theorem gV {n:Nat} {S:List Int} {x:Int} (h0:0<=x) (h:x<n):b6 (CH n S) x.toNat=decide (x∈S):=by
 rw[QR zo,Int.toNat_of_nonneg h0]
theorem ab2 {n:Nat}:List.replicate n false=CH n []:=by
 apply D1 (by simp[CH])
 intro i hi
 have hi':i<n:=by simpa using hi
 rw[QQ hi',QR hi']; simp
theorem ab3 {n:Nat} {S:List Int} {x:Int} (h0:0<=x):(CH n S).set x.toNat true=CH n (S++[x]):=by
 apply D1 (by simp[CH])
 intro i hi
 have hi':i<n:=by simpa [CH] using hi
 rw[N1 (by simpa [CH] using hi'),QR hi',QR hi']
 by_cases e:x.toNat=i
 ·rw[if_pos e]
  have:(i:Int)=x:=by omega
  simp[this]
 ·rw[if_neg e]
  have:(i:Int)≠x:=by omega
  simp[this]
structure ET (n:Nat) (S:List Int):Prop where
 nodup:S.Nodup
 rng:∀x∈S,0<=x/\x<n
theorem ET.snoc {n:Nat} {S:List Int} {x:Int} (h:ET n S) (h0:0<=x) (h1:x<n) (hx:x∉S):ET n (S++[x]) :=
 ⟨List.nodup_append.2 ⟨h.nodup,by simp,fun a ha b hb=>by simp at hb; subst hb; exact fun e=>hx (e▸ha)⟩,fun y hy=>by
  rcases List.mem_append.1 hy with hy | hy
  ·exact h.rng y hy
  ·simp at hy; subst hy; exact ⟨h0,h1⟩⟩
theorem gQ:∀{n:Nat} {l:List Nat},l.Nodup->(∀x∈l,x<n)->l.length<=n
 | 0,l,_,h=>by
  cases l with
  | nil=>simp
  | cons a l=>exact absurd (h a (by simp)) zo
 | n+1,l,hn,h=>by
  have:=gQ (n:=n) (hn.erase n) (fun x hx=>by
   obtain ⟨h1,h2⟩:=(List.Nodup.mem_erase_iff hn).1 hx
   have:=h x h2; omega)
  rw[List.length_erase] at this
  split at this<;>omega
theorem ET.len {n:Nat} {S:List Int} (h:ET n S):S.length<=n:=by
 have h1:(S.map Int.toNat).Nodup:=by
  rw[List.nodup_iff_pairwise_ne,List.pairwise_map]
  exact (List.nodup_iff_pairwise_ne.1 h.nodup).imp_of_mem (fun {a b} ha hb hne e=>hne (by have:=h.rng a ha; have:=h.rng b hb; omega))
 have:=gQ (n:=n) h1 (fun y hy=>by
  obtain ⟨x,hx,rfl⟩:=List.mem_map.1 hy
  have:=h.rng x hx
  omega)
 simpa using this
theorem ET.room {n:Nat} {S:List Int} {x:Int} (h:ET n S) (h0:0<=x) (h1:x<n) (hx:x∉S):S.length<n:=by
 have:=(h.snoc h0 h1 hx).len
 rw[List.length_append] at this
 exact this
end Go.Fl

/- Sums, tables, numbers up to multiples of 2 to the 64; what the functions of chapter 8 answer. Plain Lean, no program in sight. -/
namespace Go.Fl
open Go Go.RowKit

abbrev W (n:Int):Int:=IntKind.i64.wrap n
def r6 (f:Nat->Int):Nat->Int
 | 0=>0
 | k+1=>r6 f k+f k
theorem K2 (f:Nat->Int) (k:Nat):r6 f (k+1)=r6 f k+f k:=rfl
theorem Q3 {f g:Nat->Int}:∀{k:Nat},(∀i,i<k->f i=g i)->r6 f k=r6 g k
 | 0,_=>rfl
 | k+1,h=>by rw[r6,r6,Q3 (fun i hi=>h i zo),h k zo]
theorem SD {f g:Nat->Int}:∀{k:Nat},r6 (fun i=>f i+g i) k=r6 f k+r6 g k
 | 0=>rfl
 | k+1=>by rw[r6,r6,r6,SD]; omega
theorem kY {f g:Nat->Int}:∀{k:Nat},r6 (fun i=>f i-g i) k=r6 f k-r6 g k
 | 0=>rfl
 | k+1=>by rw[r6,r6,r6,kY]; omega
def j4 {α:Type} (n:Nat) (F:Nat->α):List α:=(List.range n).map F
theorem p8 {α:Type} {n:Nat} {F:Nat->α}:(j4 n F).length=n:=by simp[j4]
theorem q9 {α:Type} [Inhabited α] {n:Nat} {F:Nat->α} {i:Nat} (h:i<n):b6 (j4 n F) i=F i:=by
 unfold j4; rw[HA (by simpa using h),gU h]
theorem C9 {α:Type} {n:Nat} {F G:Nat->α} (h:∀i,i<n->F i=G i):j4 n F=j4 n G:=by
 unfold j4; exact List.map_congr_left fun i hi=>h i (List.mem_range.1 hi)
theorem FW {α:Type} {n i:Nat} {F:Nat->α} {x:α}:(j4 n F).set i x=j4 n (fun j=>if j=i then x else F j):=by
 have:Inhabited α:=⟨x⟩
 refine D1 (by simp[p8]) (fun j hj=>?_)
 have hj':j<n:=by simpa [p8] using hj
 rw[N1 (by rw[p8]; exact hj'),q9 hj',q9 hj']
 by_cases e:i=j
 ·rw[if_pos e,if_pos e.symm]
 ·rw[if_neg e,if_neg (fun h=>e h.symm)]
theorem T2 {α:Type} [Inhabited α] {xs:List α} {n:Nat} (h:xs.length=n):xs=j4 n (b6 xs):=by
 refine D1 (by rw[p8,h]) (fun i hi=>?_)
 rw[q9 zo]
theorem F0 {α:Type} {n:Nat} {F:Nat->α}:j4 (n+1) F=j4 n F++[F n]:=by simp[j4,List.range_succ]
def FJ {α:Type} (q:α->Bool) (xs:List α):Int:=if xs.any q then (xs.findIdx q:Int) else -1
theorem eM {α:Type} [Inhabited α] {q:α->Bool} {xs:List α} {k:Nat} (hk:k<xs.length) (h:∀i,i<k->q (b6 xs i)=false) (hq:q (b6 xs k)=true):(k:Int)=FJ q xs:=by
 have h1:xs.any q=true:=List.any_eq_true.2 ⟨_,G1 hk,hq⟩
 have h2:xs.findIdx q=k:=by
  rw[List.findIdx_eq hk]
  have e:∀i (hi:i<xs.length),xs[i]=b6 xs i:=fun i hi=>by have:=F5 hi; rw[List.getElem?_eq_getElem hi] at this; exact Option.some.inj this
  exact ⟨by rw[e]; exact hq,fun j hj=>by rw[e]; exact h j hj⟩
 rw[FJ,if_pos h1,h2]
theorem nK {α:Type} [Inhabited α] {q:α->Bool} {xs:List α}:xs.any q=false↔∀i,i<xs.length->q (b6 xs i)=false:=by
 constructor
 ·intro h i hi
  rw[List.any_eq_false] at h
  have:=h _ (G1 hi)
  simpa using this
 ·intro h
  rw[List.any_eq_false]
  intro x hx
  obtain ⟨i,hi,rfl⟩:=List.getElem_of_mem hx
  have:=h i hi
  have e:=F5 hi
  rw[List.getElem?_eq_getElem hi] at e
  rw[Option.some.inj e]; simp[this]
theorem eN {α:Type} [Inhabited α] {q:α->Bool} {xs:List α} (h:∀i,i<xs.length->q (b6 xs i)=false):-1=FJ q xs:=by
 rw[FJ,if_neg (by rw[nK.2 h]; simp)]
theorem eQ {α:Type} {q:α->Bool} {xs:List α}:decide (0<=FJ q xs)=xs.any q:=by
 unfold FJ
 cases h:xs.any q with
 | true=>simp
 | false=>rfl
def nz (x:Int):Bool:=decide (x≠0)
end Go.Fl

/- Words that act on origamis and chains. Plain Lean, no program in sight. -/
namespace Go.Fl
open Go Go.RowKit
theorem JJ {p:List Int} (h:p.Nodup) {i j:Nat} (hi:i<p.length) (hj:j<p.length) (e:b6 p i=b6 p j):i=j:=by
 have h1:=F5 hi
 have h2:=F5 hj
 rw[List.getElem?_eq_getElem hi] at h1
 rw[List.getElem?_eq_getElem hj] at h2
 have e1:=Option.some.inj h1
 have e2:=Option.some.inj h2
 rw[List.nodup_iff_pairwise_ne,List.pairwise_iff_getElem] at h
 rcases Nat.lt_trichotomy i j with hlt | heq | hgt
 ·exact absurd (by rw[e1,e2,e]) (h i j hi hj hlt)
 ·exact heq
 ·exact absurd (by rw[e1,e2,e]) (h j i hj hi hgt)
theorem MP {p:List Int} {n:Nat} (hn:p.Nodup) (hr:FK p n) (hl:p.length=n) {x:Int} (h0:0<=x) (h1:x<n):∃i,i<n/\b6 p i=x:=by
 by_cases hx:x∈p
 ·obtain ⟨i,hi,rfl⟩:=List.getElem_of_mem hx
  have h2:=F5 hi
  rw[List.getElem?_eq_getElem hi] at h2
  exact ⟨i,by omega,(Option.some.inj h2).symm⟩
 ·exfalso
  have g:ET n p:=⟨hn,fun y hy=>by
   obtain ⟨i,hi,rfl⟩:=List.getElem_of_mem hy
   have h2:=F5 hi
   rw[List.getElem?_eq_getElem hi] at h2
   rw[Option.some.inj h2]; exact hr i hi⟩
  have:=g.room h0 h1 hx
  omega
end Go.Fl

/- The references of chapters 6 and 8: places in lists, corners. Plain Lean, no program in sight. -/
namespace Go.Fl
open Go Go.RowKit
theorem uP {l:List Int}:∀{k:Nat},k<l.length->(∀i,i<k->b6 l i≠b6 l k)->l.idxOf (b6 l k)=k:=by
 induction l with
 | nil=>intro k hk; simp at hk
 | cons a r ih =>
  intro k hk h
  cases k with
  | zero=>show List.idxOf a (a::r)=0; simp
  | succ k =>
   have h0:a≠b6 r k:=h 0 zo
   show List.idxOf (b6 r k) (a::r)=k+1
   rw[List.idxOf_cons,show (a==b6 r k)=false by simpa using h0,cond_false,ih (by simpa using hk) (fun i hi=>h (i+1) zo)]
theorem BT {l:List Int} {x:Int} (h:x∈l):∃i,i<l.length/\b6 l i=x:=by
 obtain ⟨i,hi,rfl⟩:=List.getElem_of_mem h
 have h2:=F5 hi
 rw[List.getElem?_eq_getElem hi] at h2
 exact ⟨i,hi,(Option.some.inj h2).symm⟩
end Go.Fl

/- Permutations of 0 to n - 1, their cycles. Plain Lean, no program in sight. -/
namespace Go.Fl
open Go Go.RowKit
def ap (p:List Int) (x:Int):Int:=b6 p x.toNat
def it (p:List Int):Nat->Int->Int
 | 0,x=>x
 | m+1,x=>ap p (it p m x)
structure Perm (p:List Int) (n:Nat):Prop where
 nd:p.Nodup
 rg:FK p n
 ln:p.length=n
def Sq (n:Nat) (x:Int):Prop:=0<=x/\x<n
section
variable {p:List Int} {n:Nat} (P:Perm p n)
include P
end
def iL (p:List Int) (x:Int):Nat->Nat->Nat
 | 0,m=>m
 | f+1,m=>if it p m x=x then m else iL p x f (m+1)
def yH (p:List Int) (x:Int):Nat:=iL p x p.length 1
def xY (p:List Int) (x:Int):List Int:=j4 (yH p x) (fun i=>it p i x)
section
variable {p:List Int} {n:Nat} (P:Perm p n) {x y z:Int} (h:Sq n x)
include P h
end
def low (p:List Int) (i:Nat):Bool:=(xY p i).all fun y=>decide ((i:Int)<=y)
section
variable {p:List Int} {n:Nat} (P:Perm p n)
include P
end
end Go.Fl

/- Texts of origamis, in plain Lean: numerals, words, lines, what is printed is read back. No program in sight. -/
namespace Go.Fl
abbrev Bt:=List UInt8
def num (n:Int):Bt:=if n<10 then [UInt8.ofNat (48+n.toNat)] else [UInt8.ofNat (48+n.toNat/10),UInt8.ofNat (48+n.toNat%10)]
theorem gY {n:Int}:1<=(num n).length/\(num n).length<=2:=by unfold num; split<;>simp
def HQ (p:List Int):Bt:=p.flatMap fun x=>32::num x
theorem mI {p:List Int}:(HQ p).length<=3*p.length:=by
 induction p with
 | nil=>simp[HQ]
 | cons x p ih =>
  have:=gY (n:=x)
  simp only[HQ,List.flatMap_cons,List.length_append,List.length_cons] at ih ⊢
  omega
theorem VH {p:List Int} {n:Nat} (h:FK p n) {x:Int} (hx:x∈p):0<=x/\x<n:=by
 obtain ⟨i,hi,rfl⟩:=List.mem_iff_getElem.1 hx
 have:=h i hi
 rwa [Y3 (List.getElem?_eq_getElem hi)] at this
end Go.Fl

/- Contracts of the library's over strings, told in ours. -/
namespace Go.Fl
open Go Go.RowKit
end Go.Fl

/- Bytes and strings: exclusive or, a row of bytes as a string, one string behind another. -/
namespace Go.Fl
open Go Go.RowKit
section
variable {P:Program} {c:m9} {S:i5} {M:i1} {p:Bool} {d:Option Tmp} {ty:TypeId} {pos:String} {af:Array Edge} {gd:Option (Nat×Bool)} {x y:Operand} {b b':Bool}
end
end Go.Fl

/- A region that draws its order, whose first operation only copies a value: it may be taken first. No program in sight. -/
namespace Go.Fl
open Go Go.RowKit
section
variable {P:Program} {c:m9} {S:i5} {M:i1} {Q:Exit->Act->World->Prop}
theorem Tr.drawM {id m d:Nat} {x:Operand} {ty:TypeId} {pos:String} {af:Array Edge} {rest:List Oper} (hm:P.follows .mixedOrders=true) (chk:UR (⟨some d,.move x,ty,pos,af,none⟩::rest) m=true) (h1m:Nat.ble 1 m=true)
  (hsel:Region.noSelect (⟨some d,.move x,ty,pos,af,none⟩::rest).toArray=true) (hfr:Region.free .any (⟨some d,.move x,ty,pos,af,none⟩::rest).toArray (Array.replicate (⟨some d,.move x,ty,pos,af,none⟩::rest).toArray.size false) 0=true)
  (hrd:(Region.ready .any (⟨some d,.move x,ty,pos,af,none⟩::rest).toArray (Array.replicate (⟨some d,.move x,ty,pos,af,none⟩::rest).toArray.size false)).contains 0=true)
  (h:j1 P c (⟨some d,.move x,ty,pos,af,none⟩::rest).toArray (W7 Q) M (⟨some d,.move x,ty,pos,af,none⟩::rest) m S M) (hr:c.rd=none\/EB (⟨some d,.move x,ty,pos,af,none⟩::rest)=true:=by first | exact .inl rfl | exact .inr rfl):Tr P c S M (.region id (⟨some d,.move x,ty,pos,af,none⟩::rest).toArray true) Q:=by
 intro a g w hs0
 have hs:=hs0.drew
 generalize hl:(⟨some d,.move x,ty,pos,af,none⟩::rest:List Oper)=l at *
 have hl0:l[0]?=some ⟨some d,.move x,ty,pos,af,none⟩:=by rw[<- hl]; rfl
 have hlp:0<l.length:=by rw[<- hl]; simp
 have hm1:1<=m:=Nat.le_of_ble_eq_true h1m
 obtain ⟨rs,hlen,hml,hst,htail⟩:=j1.recs h
 have hd:=ES.of1 chk
 have hI0:BD l c M rs a g w.drew (Array.replicate l.toArray.size false) a g w.drew:=by
  refine ⟨by simp,hs.ok,Gh.le_refl _,Below.refl _ _,fun i j hi=>?_,fun i hi=>?_,rfl,hs.size,fun _ _=>rfl,fun i r hr hi=>?_,fun i r e hi=>?_,fun t ht=>.inl ht⟩
  all_goals
   unfold Ld at hi
   rw[Array.getElem?_eq_some_iff] at hi
   obtain ⟨_,hi⟩:=hi
   simp at hi
 have hmem:0∈Region.ready .any l.toArray (Array.replicate l.toArray.size false):=by simpa using hrd
 have hop:wpOp P l.toArray (W7 Q) 0 (fun a' w'=>∃g',BD l c M rs a g w.drew ((Array.replicate l.toArray.size false).setIfInBounds 0 true) a' g' w') a w.drew :=
  hI0.step hst hlen hml hd (dE hst zo) hs hmem zo (fun a' g' w' h=>⟨g',h⟩)
 have hI1:∃g',BD l c M rs a g w.drew ((Array.replicate l.toArray.size false).setIfInBounds 0 true) (a.put (some d) (a.eval x)) g' w.drew:=by
  unfold wpOp at hop
  rw[List.getElem?_toArray,hl0] at hop
  simp only at hop
  have hw:Region.wanted ⟨some d,.move x,ty,pos,af,none⟩ (yielded l.toArray a.tmps)=true:=rfl
  rw[if_pos hw] at hop
  rcases hop with hop | ⟨_,hop⟩
  ·simpa [Oper.wp,execOp,Oper.upon] using hop
  ·exact absurd hop LY
 obtain ⟨g1,hI1⟩:=hI1
 refine Code.wpIn_mono (Q:=W7 Q) (fun e _ _ q=>by obtain ⟨he,h⟩:=q; subst he; exact h) (KJ (hr.imp (fun h=>h) fun h=>⟨h,LY⟩) hm ?_)
 have hsz:l.toArray.size=(l.toArray.size-1)+1:=by simp; omega
 rw[hsz,<- hsz] 
 have hu:R9 ((Array.replicate l.toArray.size false).setIfInBounds 0 true)<=l.toArray.size-1:=by
  have h1:=SM (listed:=Array.replicate l.toArray.size false) (i:=0) (by simpa using hlp) (fun h=>by unfold Ld at h; rw[Array.getElem?_eq_some_iff] at h; obtain ⟨_,h⟩:=h; simp at h)
  have h2:R9 (Array.replicate l.toArray.size false)<=l.toArray.size:=by
   unfold R9
   refine Nat.le_trans (List.countP_le_length) ?_
   simp
  omega
 have hrun:=dD (Q:=W7 Q) hd hm1 hlen hml hst htail hs (l.toArray.size-1) _ _ g1 w.drew hu (fun i hi=>by
  obtain rfl:i=0:=by omega
  exact (Ld.set (by simpa using hlp)).2 (.inl rfl)) hI1
 have:=wpAny_take (P:=P) (Q:=W7 Q) (ops:=l.toArray) (md:=.any) (i:=0) (oi:=⟨some d,.move x,ty,pos,af,none⟩) (v:=a.eval x) (fuel:=l.toArray.size-1) (listed:=Array.replicate l.toArray.size false) (a:=a) (w:=w.drew) (by rw[List.getElem?_toArray,hl0]) hsel hfr hrd (fun _ _ _ h=>absurd h.1 (by simp)) (.inl ⟨rfl,fun w=>by simp[execOp]⟩) hrun
 rw[<- hsz] at this
 exact this
theorem b8.finN {ops:Array Oper} (h:g6 c S M Q):b8 P c ops S M [] (W7 Q):=fun a g w hs=>wpList_nil ⟨rfl,h a g w hs⟩
end
section
variable {P:Program} {w0:World} {J0:JV} {n0:Nat} {S:i5} {M:i1} {fn:Func}
end
instance {ks out:List d5} {n:Nat} [h:O1 ks 0 n out]:O1 ks (0+0) n out:=h
end Go.Fl

/- A block of the caller's own on loan, wherever the arguments speak of it: in a pointer, or in what a closure has captured. No program in sight. -/
namespace Go.Fl
open Go Go.RowKit
def CM (P:Program) (f:FuncId) (args:List d5) (ct ct':t8) (res:d5):Prop :=
 ∀w J b cap,Im J w->(∀o,J b o=none)->b<w.heap.size->ct (g1 J b cap) (.blk b cap) w.heap[b]?->∀vs,o4 (g1 J b cap) args vs->Calls P f vs.toArray w (BF w J b cap res ct')
theorem VU {w:World} {J:JV} {b cap n m:Nat} {mrk:Bool} {ct:t8} {args:List d5} {ds:List (List Nat)} {vs:List Value} (him:Im J w) (hJ:∀o,J b o=none) (hlt:b<w.heap.size) (hct:ct (g1 J b cap) (.blk b cap) w.heap[b]?) (hvs:o4 (g1 J b cap) args vs) (hds:HV args ds) (hd0:ds.all (fun d=>u4 d [0])=true) (hle:args.length<=n) [hcd:A9 ct []] :
  l7 ⟨w,J,[b],n,none,mrk,[]⟩ (EI 0 ds args++L0 m (fun _=>.blk b cap) [0]) [⟨0,[],ct⟩] { tmps:=vs.toArray++Array.replicate (n-vs.toArray.size) undef,defers:=[] } (g1 J b cap) w:=by
 have hlen:=K3 hvs
 have hM:∀t bk,(g1 J b cap).M t=some bk->t=0/\bk=.blk b cap:=fun t bk ht=>by
  simp only[g1] at ht
  split at ht
  ·rename_i e; cases ht; exact ⟨e,rfl⟩
  ·cases ht
 refine ⟨⟨⟨rfl,rfl,rfl,Nat.le_refl _,fun _ _ _=>rfl,Nat.le_refl _⟩,JV.le_refl _,fun _ _ _=>rfl,him,fun t b' cap' ht=>?_,fun t t' b1 c1 c2 h1 h2=>?_⟩,?_,?_,?_,by simp,?_,?_,⟨?_,fun _ h=>(by cases h)⟩,?_⟩
 ·obtain ⟨_,e⟩:=hM _ _ ht
  cases e
  exact ⟨.inr (by simp),hlt,hJ⟩
 ·rw[(hM _ _ h1).1,(hM _ _ h2).1]
 ·intro t bb k hk
  rcases VV hk with hk | hk
  ·obtain ⟨_,ht,rfl,u,hu,hku⟩:=XF hvs hk
   refine ⟨fun _=>?_,fun hf=>(by cases hf)⟩
   have ht':t<vs.length:=by omega
   have:((vs.toArray++Array.replicate (n-vs.toArray.size) undef).getD t undef)=u:=by
    rw[Array.getD_eq_getD_getElem?,Array.getElem?_append_left (by simpa using ht')]
    simp only[List.getElem?_toArray]
    rw[show vs[t]?=some u by simpa using hu]; rfl
   show k _ ((vs.toArray++Array.replicate (n-vs.toArray.size) undef).getD t undef)
   rw[this]; exact hku
  ·obtain ⟨rfl,_,h3,rfl⟩:=SH hk
   refine ⟨fun _=>?_,fun hf=>(by cases hf)⟩
   have h3:t-m=0:=by simpa using h3
   show (g1 J b cap).M (t-m)=some (.blk b cap)
   rw[h3]; simp[g1]
 ·intro e he
  simp only[List.mem_singleton] at he
  subst he
  exact ⟨_,by simp[g1],hct⟩
 ·intro t ht
  cases hm:(g1 J b cap).M t with
  | none=>exact absurd hm ht
  | some bk=>simp[(hM _ _ hm).1]
 ·intro e he
  rcases List.mem_append.1 he with he | he
  ·obtain ⟨h1,h2⟩:=XG hds he
   exact ⟨h1,fun t ht=>by simpa [Fl.tags] using C3 (List.all_eq_true.1 hd0 _ h2) t ht⟩
  ·obtain ⟨t,h1,h2,h3⟩:=SI he
   rw[h3,h2]
   exact ⟨inferInstance,fun u hu=>by simp at h1 hu; subst h1 hu; simp⟩
 ·intro e he
  simp only[List.mem_singleton] at he
  subst he
  exact ⟨hcd,fun t ht=>by cases ht⟩
 ·cases mrk
  ·rfl
  ·exact ⟨List.nodup_nil,fun _ h=>(by cases h)⟩
 ·simp only[Array.size_append,List.size_toArray,Array.size_replicate]; omega
theorem CM.mk {P:Program} {f:FuncId} {fn:Func} {code:Code} {args:List d5} {ds:List (List Nat)} {res:d5} {ct ct':t8} {n:Nat} (hf:P.funcs[f]?=some fn) (hb:fn.body=some code) (hn:fn.ntmps=n) (hl:Nat.ble args.length n=true) [hd:GB args ds] (hd0:ds.all (fun d=>u4 d [0])=true) [hcd:A9 ct []]
  (h:∀w J b cap,Tr P ⟨w,J,[b],n,none,false,[]⟩ (EI 0 ds args++L0 (n+500) (fun _=>.blk b cap) [0]) [⟨0,[],ct⟩] code (bodyPost P fn (BF w J b cap res ct'))):CM P f args ct ct' res:=by
 intro w J b cap him hJ hlt hct vs hvs
 refine calls_of_wp hf hb<|wpIn_wide.1 (h w J b cap _ (g1 J b cap) w ?_)
 rw[hn]
 exact VU him hJ hlt hct hvs hd.h hd0 (Nat.le_of_ble_eq_true hl)
theorem CM.mkM {P:Program} {f:FuncId} {fn:Func} {code:Code} {args:List d5} {ds:List (List Nat)} {res:d5} {ct ct':t8} {n:Nat} (hf:P.funcs[f]?=some fn) (hb:fn.body=some code) (hn:fn.ntmps=n) (hl:Nat.ble args.length n=true) [hd:GB args ds] (hd0:ds.all (fun d=>u4 d [0])=true) [hcd:A9 ct []]
  (h:∀w J b cap,Tr P ⟨w,J,[b],n,none,true,[]⟩ (EI 0 ds args++L0 (n+500) (fun _=>.blk b cap) [0]) [⟨0,[],ct⟩] code (SU P fn (BF w J b cap res ct'))):CM P f args ct ct' res:=by
 intro w J b cap him hJ hlt hct vs hvs
 refine callsIn_wide.1 (callsIn_of_wp_marks (n:=2) hf hb trivial (h w J b cap _ (g1 J b cap) w ?_))
 rw[hn]
 exact VU him hJ hlt hct hvs hd.h hd0 (Nat.le_of_ble_eq_true hl)
section
variable {P:Program} {n:Nat} {w0:World} {J0:JV} {S:i5} {M:i1} {fn:Func} {bb cap s:Nat} {kb kb':List d5} {dep dep3:List Nat}
theorem fP [hm:p9 M 0 (j5 kb) dep] [hkd:C1 kb dep3] [hkn:J5 dep3] (hkb:kb=kb') (hs0:look S s=some (true,BR 0 (.blk bb cap))) {a:Act} {g:Gh} {w:World} (hs:l7 ⟨w0,J0,[bb],n,none,false,[]⟩ S M a g w) {r:Value} {res:d5} (hr:res ⟨g.J,z5⟩ r) :
  BF w0 J0 bb cap res (j5 kb') (.returned r) w:=by
 subst hkb
 have q1:g.M 0=some (.blk bb cap):=(hs.slots s _ _ hs0).1 rfl
 obtain ⟨bk,q2,q3⟩:=hs.conts _ hm.mem
 simp only at q2 q3
 rw[q1] at q2; cases q2
 exact ⟨r,g.J,rfl,⟨hs.ok.bel.os,hs.ok.bel.tape,hs.ok.bel.output,hs.ok.bel.size,fun k hk hne=>hs.ok.bel.block k hk (by simp only[List.mem_singleton]; rintro rfl; exact hne cap rfl),hs.ok.bel.drawn⟩,hs.ok.jle,hs.ok.jold,hs.ok.im,hr,AL (g:=g) (g':=g1 g.J bb cap) (bk:=.blk bb cap) (o:=w.heap[bb]?) rfl q3⟩
theorem d9.loan1 {t:Nat} {k:d5} [hm:p9 M 0 (j5 kb) dep] [hkd:C1 kb dep3] [hkn:J5 dep3] (hr:fn.results=#[.tmp t]) (hs0:look S s=some (true,BR 0 (.blk bb cap))) (h:E8 S [t] [k]) (hkb:kb=kb') :
  d9 ⟨w0,J0,[bb],n,none,false,[]⟩ S M (bodyPost P fn (BF w0 J0 bb cap k (j5 kb'))):=fun _ _ _ hs =>
 ⟨hs.defers.1,_,results_tmp hr _ _ _,fP hkb hs0 hs (h.holds hs.slots).1⟩
theorem d9.loan0 [hm:p9 M 0 (j5 kb) dep] [hkd:C1 kb dep3] [hkn:J5 dep3] (hr:fn.results=#[]) (hs0:look S s=some (true,BR 0 (.blk bb cap))) (hkb:kb=kb') :
  d9 ⟨w0,J0,[bb],n,none,false,[]⟩ S M (bodyPost P fn (BF w0 J0 bb cap (i9 (.tuple #[])) (j5 kb'))):=fun _ _ _ hs =>
 ⟨hs.defers.1,_,results_none hr _ _ _,fP (res:=i9 (.tuple #[])) hkb hs0 hs rfl⟩
end
class HW (u:Nat) (k:d5) (k0:outParam d5):Prop where
 imp:∀{g:Gh} {v:Value} {b cap:Nat},g.M u=some (.blk b cap)->k g v->k0 (g1 g.J b cap) v
instance {u o:Nat}:HW u (y5 u o) (y5 0 o):=⟨fun hm ⟨b,cap,h1,h2⟩=>⟨b,cap,by rw[hm] at h1; simpa [g1] using h1,h2⟩⟩
instance (priority:=low) {u:Nat} {k:d5} [h:o7 k []]:HW u k k:=⟨fun {g v b cap} _ hk=>h.dep (g:=g) (g':=g1 g.J b cap) (JV.le_refl _) (fun _ h=>by cases h) hk⟩
class KO (u:Nat) (ks:List d5) (ks0:outParam (List d5)):Prop where
 imp:∀{g:Gh} {vs:List Value} {b cap:Nat},g.M u=some (.blk b cap)->o4 g ks vs->o4 (g1 g.J b cap) ks0 vs
instance {u:Nat}:KO u [] []:=⟨fun {g vs b cap} _ h=>by
 cases vs with
 | nil=>trivial
 | cons=>exact h.elim⟩
instance {u:Nat} {k k0:d5} {ks ks0:List d5} [h:HW u k k0] [hs:KO u ks ks0]:KO u (k::ks) (k0::ks0):=⟨fun {g vs b cap} hm h'=>by
 cases vs with
 | nil=>exact h'.elim
 | cons v vs=>exact ⟨h.imp hm h'.1,hs.imp hm h'.2⟩⟩
instance {u:Nat} {f:FuncId} {ks ks0:List d5} [h:KO u ks ks0]:HW u (AN f ks) (AN f ks0):=⟨fun hm ⟨vs,h1,h2⟩=>⟨vs,h1,h.imp hm h2⟩⟩
section
variable {P:Program} {c:m9} {ops:Array Oper} {S:i5} {M:i1} {rest:List Oper} {Q:Exit->Act->World->Prop}
variable {d:Nat} {ty:TypeId} {pos:String} {af:Array Edge}
end
end Go.Fl

/- Calls that hand on a loan: arguments that are put together, or read as something else. No program in sight. -/
namespace Go.Fl
open Go Go.RowKit
inductive V6 (S:i5) (u:Nat):List Operand->List d5->Prop
 | nil:V6 S u [] []
 | cons {x:Operand} {xs:List Operand} {k k1:d5} {ks:List d5} (hx:j2 S x=some (true,k)) (hc:∀(g:Gh) (v:Value) (b cap:Nat),g.M u=some (.blk b cap)->k g v->k1 (g1 g.J b cap) v) (r:V6 S u xs ks):V6 S u (x::xs) (k1::ks)
section
variable {S:i5} {u:Nat} {x:Operand} {xs:List Operand} {ks:List d5}
theorem V6.a {k k1:d5} (hx:j2 S x=some (true,k)) [hl:HW u k k1] (r:V6 S u xs ks):V6 S u (x::xs) (k1::ks):=.cons hx (fun _ _ _ _ hm hk=>hl.imp hm hk) r
theorem V6.se {kl:List d5} {α:Type} {e:i8 α} {v v':α} (hx:j2 S x=some (true,H6 kl)) [hr:t9 kl e v []] (ha:e.agg=true) (he:v=v') (r:V6 S u xs ks):V6 S u (x::xs) (b7 e v'::ks):=by
 subst he
 exact .cons hx (fun g _ _ _ _ ⟨cs,h1,h2⟩=>⟨cs,t9.whole (h:=hr) (g:=g) h2,by rw[ha]; exact h1⟩) r
theorem V6.eval {g:Gh} {ρ:Operand->Value} {b cap:Nat} (hm:g.M u=some (.blk b cap)) (h:V6 S u xs ks):(∀y∈xs,∀b k,j2 S y=some (b,k)->b=true->k g (ρ y))->o4 (g1 g.J b cap) ks (xs.map ρ):=by
 induction h with
 | nil=>intro _; trivial
 | cons hx hc _ ih=>intro hy; exact ⟨hc _ _ _ _ hm (hy _ List.mem_cons_self _ _ hx rfl),ih fun y h'=>hy y (List.mem_cons_of_mem _ h')⟩
end
section
variable {P:Program} {c:m9} {ops:Array Oper} {S:i5} {M:i1} {rest:List Oper} {Q:Exit->Act->World->Prop}
variable {d:Nat} {ty:TypeId} {pos:String} {af:Array Edge}
theorem b8.loanL {f:FuncId} [hf:d8 P f] {args:List Operand} {tys:Array TypeId} {ks1:List d5} {res:d5} {u:Nat} {kb0 kb kb':List d5} {dep dep0 dep1:List Nat} {M':i1} (hct:CM P f ks1 (j5 kb) (j5 kb') res) (ha:V6 S u args ks1)
  [hl:p9 M u (j5 kb0) dep] [hd0:C1 kb0 dep0] [hn0:J5 dep0] [hd1:C1 kb' dep1] [hn1:J5 dep1] (hkb:kb0=kb) [hup:D4 M u (j5 kb') [] M'] [hkd:o7 res []] (hn:Nat.blt d c.n=true)
  (K:b8 P c ops (⟨d,true,[],res⟩::S) M' rest Q):b8 P c ops S M (⟨some d,.call { callee:=.value (.func f),args:=args.toArray,argTypes:=tys },ty,pos,af,none⟩::rest) Q:=by
 subst hkb
 have hcd:A9 (j5 kb') []:=⟨fun hJ _ h=>let ⟨cs,t,h1,h2⟩:=h; ⟨cs,t,h1,hd1.dep hJ (fun t ht=>by rw[hn1.eq] at ht; cases ht) h2⟩⟩
 intro a g w hsat
 have hdn:d<c.n:=by simpa [Nat.blt_eq] using hn
 obtain ⟨bk2,hm2,hobj⟩:=hsat.conts _ hl.mem
 simp only at hm2 hobj
 cases bk2 with
 | nil=>obtain ⟨_,_,h,_⟩:=hobj; cases h
 | blk b cap =>
  obtain ⟨_,hlt,hJn⟩:=hsat.ok.own u b cap hm2
  have hargs:=ha.eval (g:=g) (ρ:=a.eval) hm2 (fun y _ b k hk hb=>A8 hsat.slots hk hb)
  have hr:=hct w g.J b cap hsat.ok.im hJn hlt (AL (g:=g) (g':=g1 g.J b cap) (bk:=.blk b cap) rfl hobj) _ hargs
  refine wpList_plain rfl fun K' hK'=>?_
  unfold Oper.wp
  simp only[execOp,resolve,Act.eval,Deferred.ofValue,Sem.run_bind,Sem.run_pure,Result.andThen_ok,invoke,List.map_toArray,Array.append_empty,Array.empty_append]
  rw[hf.run]
  simp only[Oper.upon]
  refine hr.mono fun e w' he=>?_
  obtain ⟨r,J',rfl,h1,h2,h3,h4,h5,h6⟩:=he
  exact hK' _ _ (K _ _ _ (hsat.mut hm2 (hsat.nomark hl hm2 _ _ rfl) h1 h2 h3 h4 hup hcd (AL (g:=g1 J' b cap) (g':=⟨J',g.M⟩) (bk:=.blk b cap) rfl h6) hdn (hkd.dep (g:=⟨J',z5⟩) (JV.le_refl _) (fun _ h=>by cases h) h5)))
theorem b8.loanLK {f:FuncId} [hf:d8 P f] {x:Operand} {cks cks1:List d5} {args:List Operand} {tys:Array TypeId} {ks1 ks2:List d5} {res:d5} {u:Nat} {kb0 kb kb':List d5} {dep dep0 dep1:List Nat} {M':i1} (hct:CM P f ks2 (j5 kb) (j5 kb') res) (hx:j2 S x=some (true,AN f cks)) (ha:V6 S u args ks1) [hln:KO u cks cks1] (hks:ks1++cks1=ks2)
  [hl:p9 M u (j5 kb0) dep] [hd0:C1 kb0 dep0] [hn0:J5 dep0] [hd1:C1 kb' dep1] [hn1:J5 dep1] (hkb:kb0=kb) [hup:D4 M u (j5 kb') [] M'] [hkd:o7 res []] (hn:Nat.blt d c.n=true)
  (K:b8 P c ops (⟨d,true,[],res⟩::S) M' rest Q):b8 P c ops S M (⟨some d,.call { callee:=.value x,args:=args.toArray,argTypes:=tys },ty,pos,af,none⟩::rest) Q:=by
 subst hkb hks
 have hcd:A9 (j5 kb') []:=⟨fun hJ _ h=>let ⟨cs,t,h1,h2⟩:=h; ⟨cs,t,h1,hd1.dep hJ (fun t ht=>by rw[hn1.eq] at ht; cases ht) h2⟩⟩
 intro a g w hsat
 have hdn:d<c.n:=by simpa [Nat.blt_eq] using hn
 obtain ⟨cvs,hfv,hcs⟩:=A8 hsat.slots hx rfl
 obtain ⟨bk2,hm2,hobj⟩:=hsat.conts _ hl.mem
 simp only at hm2 hobj
 cases bk2 with
 | nil=>obtain ⟨_,_,h,_⟩:=hobj; cases h
 | blk b cap =>
  obtain ⟨_,hlt,hJn⟩:=hsat.ok.own u b cap hm2
  have hargs:=NY (ha.eval (g:=g) (ρ:=a.eval) hm2 (fun y _ b k hk hb=>A8 hsat.slots hk hb)) (hln.imp hm2 hcs)
  have hr:=hct w g.J b cap hsat.ok.im hJn hlt (AL (g:=g) (g':=g1 g.J b cap) (bk:=.blk b cap) rfl hobj) _ hargs
  refine wpList_plain rfl fun K' hK'=>?_
  unfold Oper.wp
  simp only[execOp,resolve,hfv,Deferred.ofValue,Sem.run_bind,Sem.run_pure,Result.andThen_ok,invoke,List.map_toArray,List.append_toArray]
  rw[hf.run]
  simp only[Oper.upon]
  refine hr.mono fun e w' he=>?_
  obtain ⟨r,J',rfl,h1,h2,h3,h4,h5,h6⟩:=he
  exact hK' _ _ (K _ _ _ (hsat.mut hm2 (hsat.nomark hl hm2 _ _ rfl) h1 h2 h3 h4 hup hcd (AL (g:=g1 J' b cap) (g':=⟨J',g.M⟩) (bk:=.blk b cap) rfl h6) hdn (hkd.dep (g:=⟨J',z5⟩) (JV.le_refl _) (fun _ h=>by cases h) h5)))
end
theorem l7.frzBB {n:Nat} {bor:List Nat} {rd:Option Nat} {mrk:Bool} {om:List Nat} {w0:World} {J0:JV} {S:i5} {M M':i1} {a:Act} {g:Gh} {w:World} (h:l7 ⟨w0,J0,bor,n,rd,mrk,om⟩ S M a g w) {u:Nat} {α:Type} {e:i8 α} {x:α} {ks:List d5} {dep dep2:List Nat} {ss:List Nat} [hl:p9 M u (j5 ks) dep] [hr:t9 ks e x []] [hd:C1 ks dep2] [hdn:J5 dep2]
  (hbo:∀b cap,g.M u=some (.blk b cap)->b∉bor) (hss:IH S u ss) [hdel:L6 M u M'] (hnd:K0 u M=true):∃g',l7 ⟨w0,J0,bor,n,rd,mrk,om⟩ (i5.setAll ss (s6 e x) (G6 u S)) M' a g' w:=by
 obtain ⟨bk,hm,cs,ty,ho,hk⟩:=h.conts _ hl.mem
 simp only at hm
 cases bk with
 | nil=>cases ho
 | blk b cap =>
  refine ⟨_,h.freezeB (cs:=cs) (ty:=ty) hm (fun b2 cap2 e=>by cases e; exact hbo _ _ hm) (fun b' cap' hb=>by cases hb; exact ho) hdel hnd inferInstance (fun s hs=>?_)⟩
  have hJ:g.J.le (g.J.with b cs):=JV.le_with (h.ok.own u b cap hm).2.2
  obtain ⟨b',cap',hb,hv⟩:=(h.slots s _ _ (TG hss s hs)).1 rfl
  rw[hm] at hb; cases hb
  have hk':=hd.dep (g:=g) (g':=g.frz u (.blk b cap) cs) hJ (fun t ht=>by rw[hdn.eq] at ht; cases ht) hk
  refine ⟨b,0,cs.toList,hv,t9.whole (h:=hr) hk',fun j v hj=>?_⟩
  show (g.J.with b cs) b (0+j)=some v
  unfold JV.with
  rw[if_pos rfl,Nat.zero_add]
  simpa using hj
section
variable {P:Program} {n:Nat} {rd:Option Nat} {mrk:Bool} {om:List Nat} {w0:World} {J0:JV} {S:i5} {M M':i1} {Q:Exit->Act->World->Prop} {bb cap s:Nat}
theorem Tr.frzBL {code:Code} (u:Nat) (ss:List Nat) {α:Type} (e:i8 α) {x:α} {ks:List d5} {dep dep2:List Nat} [hl:p9 M u (j5 ks) dep] [hr:t9 ks e x []] [hd:C1 ks dep2] [hdn:J5 dep2] (h0:look S s=some (true,BR 0 (.blk bb cap))) (hu:Nat.beq u 0=false) (hss:IH S u ss) [hdel:L6 M u M'] (hnd:K0 u M=true)
  (K:Tr P ⟨w0,J0,[bb],n,rd,mrk,om⟩ (i5.setAll ss (s6 e x) (G6 u S)) M' code Q):Tr P ⟨w0,J0,[bb],n,rd,mrk,om⟩ S M code Q:=fun a g w hs =>
 let ⟨g',hs'⟩:=hs.frzBB (u:=u) (e:=e) (x:=x) (fun b cap hm hbb=>by
  have h1:g.M 0=some (.blk bb _):=(hs.slots s _ _ h0).1 rfl
  simp only[List.mem_singleton] at hbb
  subst hbb
  have:=hs.ok.inj _ _ _ _ _ hm h1
  subst this
  simp at hu) hss hnd
 K a g' w hs'
end
end Go.Fl

/- A row of the caller's own on loan, of which a part comes back. No program in sight. -/
namespace Go.Fl
open Go Go.RowKit
def KK (P:Program) (f:FuncId) (args:List d5) (ct ct':t8) (res:d5):Prop :=
 ∀w J b cap,Im J w->(∀o,J b o=none)->b<w.heap.size->ct (g1 J b cap) (.blk b cap) w.heap[b]?->∀vs,o4 (g1 J b cap) args vs->Calls P f vs.toArray w (IC w J b cap res ct')
theorem KK.mk {P:Program} {f:FuncId} {fn:Func} {code:Code} {args:List d5} {ds:List (List Nat)} {res:d5} {ct ct':t8} {n:Nat} (hf:P.funcs[f]?=some fn) (hb:fn.body=some code) (hn:fn.ntmps=n) (hl:Nat.ble args.length n=true) [hd:GB args ds] (hd0:ds.all (fun d=>u4 d [0])=true) [hcd:A9 ct []]
  (h:∀w J b cap,Tr P ⟨w,J,[b],n,none,false,[]⟩ (EI 0 ds args++L0 (n+500) (fun _=>.blk b cap) [0]) [⟨0,[],ct⟩] code (bodyPost P fn (IC w J b cap res ct'))):KK P f args ct ct' res:=by
 intro w J b cap him hJ hlt hct vs hvs
 refine calls_of_wp hf hb<|wpIn_wide.1 (h w J b cap _ (g1 J b cap) w ?_)
 rw[hn]
 exact VU him hJ hlt hct hvs hd.h hd0 (Nat.le_of_ble_eq_true hl)
section
variable {P:Program} {n:Nat} {w0:World} {J0:JV} {S:i5} {M:i1} {fn:Func} {bb cap s t:Nat} {ct ct':t8} {dep:List Nat} {k res:d5}
theorem d9.loanR (hr:fn.results=#[.tmp t]) (hs0:look S s=some (true,BR 0 (.blk bb cap))) (hl:look S t=some (true,k)) [hm:p9 M 0 ct dep] (hc:∀(g:Gh) (o:Option Obj),ct g (.blk bb cap) o->ct' (g1 g.J bb cap) (.blk bb cap) o) (hk:∀(g:Gh) (v:Value),g.M 0=some (.blk bb cap)->k g v->res (g1 g.J bb cap) v) :
  d9 ⟨w0,J0,[bb],n,none,false,[]⟩ S M (bodyPost P fn (IC w0 J0 bb cap res ct')):=by
 intro a g w hs
 have h1:g.M 0=some (.blk bb cap):=(hs.slots s _ _ hs0).1 rfl
 obtain ⟨bk,h2,h3⟩:=hs.conts _ hm.mem
 simp only at h2 h3
 rw[h1] at h2; cases h2
 exact ⟨hs.defers.1,_,results_tmp hr _ _ _,_,g.J,rfl,⟨hs.ok.bel.os,hs.ok.bel.tape,hs.ok.bel.output,hs.ok.bel.size,fun k hk hne=>hs.ok.bel.block k hk (by simp only[List.mem_singleton]; rintro rfl; exact hne cap rfl),hs.ok.bel.drawn⟩,hs.ok.jle,hs.ok.jold,hs.ok.im,hk g _ h1 ((hs.slots t _ _ hl).1 rfl),hc _ _ h3⟩
end
theorem yB {J:JV} {b cap n o m u:Nat} {g:Gh} {v:Value} (hm:g.M u=some (.blk b cap)) (h:C8 0 n o m (g1 J b cap) v):C8 u n o m ⟨J,g.M⟩ v:=by
 obtain ⟨b',cap',a,q1,q2,q3,q4⟩:=h
 simp only[g1,if_true,Option.some.injEq,Bk.blk.injEq] at q1
 obtain ⟨rfl,rfl⟩:=q1
 exact ⟨b,cap,a,hm,q2,q3,q4⟩
instance {u n o m:Nat}:HW u (C8 u n o m) (C8 0 n o m):=⟨fun {g v b cap} hm h=>by
 obtain ⟨b',cap',a,q1,q2,q3,q4⟩:=h
 rw[hm] at q1; cases q1
 exact ⟨b,cap,a,by simp[g1],q2,q3,q4⟩⟩
theorem TM {zb:Bool} {et:TypeId} {α:Type} {e:i8 α} {xs:List α} {len b cap:Nat} {o:Option Obj} {g g':Gh} (hJ:g'.J=g.J) (h:l3 zb et e xs len g (.blk b cap) o):l3 zb et e xs len g' (.blk b cap) o:=by
 obtain ⟨h1,h2⟩:=h
 exact ⟨h1,by simpa only [hJ] using h2⟩
section
variable {P:Program} {c:m9} {ops:Array Oper} {S:i5} {M:i1} {rest:List Oper} {Q:Exit->Act->World->Prop}
variable {d:Nat} {ty:TypeId} {pos:String} {af:Array Edge}
theorem b8.loanR {f:FuncId} [hf:d8 P f] {args:List Operand} {tys:Array TypeId} {ks1:List d5} {u n m len:Nat} {zb:Bool} {et:TypeId} {α:Type} {e:i8 α} {xs xs' ys:List α} {dep:List Nat} {M':i1} (hct:KK P f ks1 (l3 zb et e xs len) (l3 zb et e ys len) (C8 0 n 0 m)) (ha:V6 S u args ks1) (hlen:0<len)
  [hl:p9 M u (l3 zb et e xs' len) dep] (hxs:xs'=xs) [hup:D4 M u (l3 zb et e ys len) [] M'] (hn:Nat.blt d c.n=true)
  (K:b8 P c ops (⟨d,true,[u],C8 u n 0 m⟩::S) M' rest Q):b8 P c ops S M (⟨some d,.call { callee:=.value (.func f),args:=args.toArray,argTypes:=tys },ty,pos,af,none⟩::rest) Q:=by
 subst hxs
 intro a g w hsat
 have hdn:d<c.n:=by simpa [Nat.blt_eq] using hn
 obtain ⟨bk2,hm2,hobj⟩:=hsat.conts _ hl.mem
 simp only at hm2 hobj
 obtain ⟨b,cap,rfl⟩:∃b cap,bk2=.blk b cap:=by
  cases bk2 with
  | nil=>exact absurd hobj.2 zo
  | blk b cap=>exact ⟨b,cap,rfl⟩
 obtain ⟨_,hlt,hJn⟩:=hsat.ok.own u b cap hm2
 have hargs:=ha.eval (g:=g) (ρ:=a.eval) hm2 (fun y _ b k hk hb=>A8 hsat.slots hk hb)
 have hr:=hct w g.J b cap hsat.ok.im hJn hlt (TM rfl hobj) _ hargs
 refine wpList_plain rfl fun K' hK'=>?_
 unfold Oper.wp
 simp only[execOp,resolve,Act.eval,Deferred.ofValue,Sem.run_bind,Sem.run_pure,Result.andThen_ok,invoke,List.map_toArray,Array.append_empty,Array.empty_append]
 rw[hf.run]
 simp only[Oper.upon]
 refine hr.mono fun e w' he=>?_
 obtain ⟨r,J',rfl,h1,h2,h3,h4,h5,h6⟩:=he
 have hko:C8 u n 0 m ⟨J',g.M⟩ r:=yB hm2 h5
 have hs:=hsat.mut hm2 (hsat.nomark hl hm2 _ _ rfl) h1 h2 h3 h4 hup inferInstance (TM rfl h6) hdn (k:=W6) trivial (v:=r)
 have htag:=hup.tags
 refine hK' _ _ (K _ _ _ ⟨hs.ok,fun t bb k' hl'=>?_,hs.conts,hs.dom,hs.nodup,fun e he=>?_,hs.cdep,hs.defers,hs.size⟩)
 ·simp only[look] at hl'
  cases hb0:Nat.beq d t with
  | true =>
   rw[hb0] at hl'
   simp only[cond_true,Option.some.injEq,Prod.mk.injEq] at hl'
   obtain ⟨rfl,rfl⟩:=hl'
   have:=Nat.eq_of_beq_eq_true hb0
   subst this
   refine ⟨fun _=>?_,fun hf=>(by cases hf)⟩
   have hsz:d<a.tmps.size:=by have:=hsat.size; omega
   simpa [Act.put,Array.getD_eq_getD_getElem?,hsz] using hko
  | false =>
   rw[hb0] at hl'
   exact hs.slots t bb k' (by simp only[look]; rw[hb0]; exact hl')
 ·rcases List.mem_cons.1 he with rfl | he
  ·exact ⟨inferInstance,fun t ht=>by
    simp only[List.mem_singleton] at ht
    rw[ht]
    exact hs.dom _ (by show g.M u≠none; rw[hm2]; simp)⟩
  ·exact hs.sdep e (List.mem_cons_of_mem _ he)
end
end Go.Fl

/- Parts of own rows: elements, shorter parts, closures called under a condition. No program in sight. -/
namespace Go.Fl
open Go Go.RowKit
section
variable {P:Program} {c:m9} {S:i5} {M:i1} {p:Bool} {d:Option Tmp} {ty:TypeId} {pos:String} {af:Array Edge} {gd:Option (Nat×Bool)} {x y:Operand} {b b':Bool}
theorem BW (L:Nat) {t et:TypeId} [ht:B7 P t et] {sz by':Nat} {zz:Value} [hz:o8 P et sz by' zz] {u off len:Nat} {ik:IntKind} {i:Int} (hx:j2 S x=some (b,C8 u sz off len)) (hb:p=true->b=true) (hy:j2 S y=some (b',y8 ik i)) (hb':p=true->b'=true)
  (h:p=true->(0<=i/\i<len)/\off+len<=L):l4 P c S M ⟨d,.indexAddr t x y,ty,pos,af,gd⟩ p (DB u sz (off+i.toNat) L) none :=
 l4.pure fun hp a g w _ _ ho=>by
  have hi:a.eval y=_:=ho y (by simp[Op.operands]) b' _ hy (hb' hp)
  obtain ⟨hlt,hL⟩:=h hp
  obtain ⟨bk,cap,o,h1,h3,h4,h2⟩:=ho x (by simp[Op.operands]) b _ hx (hb hp)
  have ho':=h4 zo
  exact ⟨.pointer (some ⟨bk,o+i.toNat*sz,none⟩),by simp only[execOp,h2,hi,Sem.run_bind,GT (P:=P) hlt,Result.andThen_ok,Sem.run_pure],by omega,bk,cap,h1,by rw[ho',Nat.add_mul]⟩
theorem iD {t et:TypeId} [ht:B7 P t et] {sz by':Nat} {zz:Value} [hz:o8 P et sz by' zz] {u len:Nat} {ik:IntKind} {i:Int} (hx:j2 S x=some (b,C8 u sz 0 len)) (hb:p=true->b=true) (hy:j2 S y=some (b',y8 ik i)) (hb':p=true->b'=true)
  (h:p=true->0<=i/\i<=len):l4 P c S M ⟨d,.slice t x none (some y) none,ty,pos,af,gd⟩ p (C8 u sz 0 i.toNat) none :=
 l4.pure fun hp a g w _ _ ho=>by
  have hi:a.eval y=_:=ho y (by simp[Op.operands]) b' _ hy (hb' hp)
  have hlt:=h hp
  obtain ⟨bk,cap,o,h1,h3,h4,h2⟩:=ho x (by simp[Op.operands]) b _ hx (hb hp)
  obtain ⟨j,hj,rfl,rfl,_⟩:=hz.h
  refine ⟨.slice (some ⟨bk,o,none⟩) i.toNat (cap-0),?_,bk,cap,o,h1,by omega,h4,rfl⟩
  have hun:P.underlying t=some (.slice (P.elem t)):=by rw[ht.h]; simp[Program.elem,ht.h]
  have hel:P.elem t=et:=by simp[Program.elem,ht.h]
  simp only[execOp,h2,hi,Option.map]
  rw[Sem.run_bind,run_sliceAt_slice w t _ _ _ _ hun,run_slice_h w t _ len (cap-0) hun ik i zo zo,hel]
  have hsz:(sizeOf et).run P w=.ok j.size w:=by simp[sizeOf,typeInfo,hj]
  simp only[Result.andThen_ok,Sem.run_pure,hsz,sliced,Option.map,Addr.add_lit]
  simp
end
section
variable {P:Program} {c:m9} {S:i5} {M:i1} {Q:Exit->Act->World->Prop}
theorem Tr.osq {code:Code} (s:Nat) (sz:Nat) {u len len':Nat} {dep:List Nat} {α:Type} {z:Bool} {et:TypeId} {e:i8 α} {xs:List α} (hs:look S s=some (true,o5 u len)) [hl:p9 M u (l3 z et e xs len') dep] (h0:0<len/\len=len') (K:Tr P c (⟨s,true,[u],C8 u sz 0 len⟩::S) M code Q):Tr P c S M code Q:=fun a g w h =>
 K a g w ⟨h.ok,fun t b k0 hl'=>by
  simp only[look] at hl'
  cases hb:Nat.beq s t with
  | true =>
   rw[hb] at hl'
   simp only[cond_true,Option.some.injEq,Prod.mk.injEq] at hl'
   obtain ⟨rfl,rfl⟩:=hl'
   rw[<- Nat.eq_of_beq_eq_true hb]
   refine ⟨fun _=>?_,fun hf=>by cases hf⟩
   obtain ⟨bk,cap,h1,h2⟩:=xZ ((h.slots s _ _ hs).1 rfl) h0.1
   obtain ⟨bk2,hm2,hobj⟩:=h.conts _ hl.mem
   simp only at hm2 hobj
   rw[h1] at hm2; cases hm2
   obtain ⟨_,_,cs,_,_,hcap,_⟩:=hobj
   exact ⟨bk,cap,0,h1,by omega,fun _=>by omega,h2⟩
  | false =>
   rw[hb] at hl'
   exact h.slots t b k0 hl',h.conts,h.dom,h.nodup,fun e he=>by
  rcases List.mem_cons.1 he with rfl | he
  ·exact ⟨inferInstance,fun t ht=>by
    simp only[List.mem_singleton] at ht
    rw[ht]
    exact List.mem_map.2 ⟨_,hl.mem,rfl⟩⟩
  ·exact h.sdep e he,h.cdep,h.defers,h.size⟩
end
end Go.Fl

/- Rows of rows that change in place: a slice of headers, and up to eight rows with tags of their own. -/
namespace Go.Fl
open Go Go.RowKit
instance:Inhabited Value:=⟨.slice none 0 0⟩
def M8:i8 Value where
 n:=1
 agg:=false
 rd _ cs x:=cs=[x]/\x.oneCell'=true
 len h:=by rw[h.1]; rfl
 one _:=⟨rfl,fun h=>by have:=h.1; cases this; exact h.2⟩
 all1 h v hv:=by rw[h.1] at hv; simp at hv; subst hv; exact h.2
 mono _ h:=h
theorem iX {J:JV} {v x:Value}:M8.val J v x↔v=x/\x.oneCell'=true:=by
 constructor
 ·rintro ⟨cs,⟨rfl,h⟩,h2⟩; exact ⟨h2,h⟩
 ·rintro ⟨rfl,h⟩; exact ⟨[v],⟨rfl,h⟩,rfl⟩
instance {x:Value}:P0 M8 x (b7 M8 x):=⟨fun h=>h⟩
instance {cp:Nat}:GG M8 (.slice none 0 cp) (.slice none 0 cp):=⟨fun _=>⟨rfl,rfl⟩⟩
def X9 (bk:Bk) (n:Nat) (v:Value):Prop:=match bk with
 | .nil=>v=.slice none 0 0/\n=0
 | .blk b cap=>v=.slice (some ⟨b,0,none⟩) n cap
def FA (v:Value) (n:Nat) (ct:t8):t8:=fun g bk o=>X9 bk n v/\ct g bk o
instance {v:Value} {n:Nat} {ct:t8} {dep:List Nat} [h:A9 ct dep]:A9 (FA v n ct) dep:=⟨fun hl hd ⟨h1,h2⟩=>⟨h1,h.dep hl hd h2⟩⟩
def s5 (ity:TypeId) (hs:List Value) (rows:List (List Int)) (j:Nat):t8:=fun g bk o=>(j<hs.length->FA (b6 hs j) (b6 rows j).length (l3 true ity eI (b6 rows j) (b6 rows j).length) g bk o)/\(hs.length<=j->bk=.nil)
instance {ity:TypeId} {hs:List Value} {rows:List (List Int)} {j:Nat}:A9 (s5 ity hs rows j) []:=⟨fun hl hd ⟨h1,h2⟩=>⟨fun hj=>(inferInstance:A9 (FA (b6 hs j) (b6 rows j).length (l3 true ity eI (b6 rows j) (b6 rows j).length)) []).dep hl hd (h1 hj),h2⟩⟩
abbrev fam (t:Nat) (ity:TypeId) (hs:List Value) (rows:List (List Int)):i1 :=
 [⟨t,[],s5 ity hs rows 0⟩,⟨t+1,[],s5 ity hs rows 1⟩,⟨t+2,[],s5 ity hs rows 2⟩,⟨t+3,[],s5 ity hs rows 3⟩,⟨t+4,[],s5 ity hs rows 4⟩,⟨t+5,[],s5 ity hs rows 5⟩,⟨t+6,[],s5 ity hs rows 6⟩,⟨t+7,[],s5 ity hs rows 7⟩]
abbrev H4 (t:Nat):List Nat:=[t,t+1,t+2,t+3,t+4,t+5,t+6,t+7]
theorem GY {t q:Nat}:q∈H4 t↔∃j,j<8/\q=t+j:=by
 simp only[H4,List.mem_cons,List.not_mem_nil,or_false]
 constructor
 ·intro h; exact ⟨q-t,by omega,by omega⟩
 ·rintro ⟨j,hj,rfl⟩; omega
theorem FO {t:Nat} {ity:TypeId} {hs:List Value} {rows:List (List Int)} {e:CE}:e∈fam t ity hs rows↔∃j,j<8/\e=⟨t+j,[],s5 ity hs rows j⟩:=by
 constructor
 ·intro h
  simp only[fam,List.mem_cons,List.not_mem_nil,or_false] at h
  rcases h with h | h | h | h | h | h | h | h
  ·exact ⟨0,by omega,h⟩
  ·exact ⟨1,by omega,h⟩
  ·exact ⟨2,by omega,h⟩
  ·exact ⟨3,by omega,h⟩
  ·exact ⟨4,by omega,h⟩
  ·exact ⟨5,by omega,h⟩
  ·exact ⟨6,by omega,h⟩
  ·exact ⟨7,by omega,h⟩
 ·rintro ⟨j,hj,rfl⟩
  match j,hj with
  | 0,_=>simp[fam]
  | 1,_=>simp[fam]
  | 2,_=>simp[fam]
  | 3,_=>simp[fam]
  | 4,_=>simp[fam]
  | 5,_=>simp[fam]
  | 6,_=>simp[fam]
  | 7,_=>simp[fam]
class U5 (N M:i1):Prop where
 mem:∀e∈N,e∈M
instance {M:i1}:U5 [] M:=⟨fun _ h=>by cases h⟩
instance {N M:i1} {t:Nat} {ct:t8} {dep:List Nat} [hl:p9 M t ct dep] [hs:U5 N M]:U5 (⟨t,dep,ct⟩::N) M:=⟨fun e he=>by
 rcases List.mem_cons.1 he with rfl | he
 ·exact hl.mem
 ·exact hs.mem e he⟩
def DW:i1->Nat->Option CE
 | [],_=>none
 | e::r,t=>bif Nat.beq e.t t then some e else DW r t
def N6 (N:i1) (M:i1):i1:=M.map fun e=>(DW N e.t).getD e
theorem PR:∀{N:i1} {t:Nat} {e:CE},DW N t=some e->e∈N/\e.t=t
 | x::N,t,e,h=>by
  simp only[DW] at h
  cases hb:Nat.beq x.t t with
  | true=>rw[hb] at h; simp only[cond_true,Option.some.injEq] at h; subst h; exact ⟨List.mem_cons_self,Nat.eq_of_beq_eq_true hb⟩
  | false=>rw[hb] at h; exact ⟨List.mem_cons_of_mem _ (PR h).1,(PR h).2⟩
theorem eG:∀{N:i1} {t:Nat},DW N t=none->t∉tags N
 | [],_,_=>fun h=>by cases h
 | x::N,t,h=>by
  simp only[DW] at h
  cases hb:Nat.beq x.t t with
  | true=>rw[hb] at h; cases h
  | false =>
   rw[hb] at h
   intro hm
   rcases List.mem_cons.1 hm with hm | hm
   ·exact Nat.ne_of_beq_eq_false hb hm.symm
   ·exact eG h hm
theorem JU {N M:i1} {e:CE} (h:e∈N6 N M):e∈N\/(e∈M/\e.t∉tags N):=by
 obtain ⟨x,hx,rfl⟩:=List.mem_map.1 h
 cases hg:DW N x.t with
 | none=>exact .inr ⟨hx,eG hg⟩
 | some y=>exact .inl (PR hg).1
theorem Y9 {N M:i1}:tags (N6 N M)=tags M:=by
 unfold N6 tags
 rw[List.map_map]
 refine List.map_congr_left fun e _=>?_
 show ((DW N e.t).getD e).t=e.t
 cases hg:DW N e.t with
 | none=>rfl
 | some y=>exact (PR hg).2
def BM (T:List Nat):i1->i1
 | []=>[]
 | e::r=>bif T.any (Nat.beq e.t) then BM T r else e::BM T r
theorem AM {T:List Nat}:∀{M:i1} {e:CE},e∈BM T M↔e∈M/\e.t∉T
 | [],e=>by simp[BM]
 | x::M,e=>by
  simp only[BM]
  cases hb:T.any (Nat.beq x.t) with
  | true =>
   simp only[cond_true]
   have hx:x.t∈T:=by obtain ⟨y,hy,he⟩:=List.any_eq_true.1 hb; rw[Nat.eq_of_beq_eq_true he]; exact hy
   rw[AM]
   constructor
   ·rintro ⟨h1,h2⟩; exact ⟨List.mem_cons_of_mem _ h1,h2⟩
   ·rintro ⟨h1,h2⟩
    rcases List.mem_cons.1 h1 with rfl | h1
    ·exact absurd hx h2
    ·exact ⟨h1,h2⟩
  | false =>
   simp only[cond_false]
   have hx:x.t∉T:=fun h=>by rw[List.any_eq_true.2 ⟨x.t,h,Nat.beq_refl _⟩] at hb; cases hb
   rw[List.mem_cons,AM,List.mem_cons]
   constructor
   ·rintro (rfl | ⟨h1,h2⟩)
    ·exact ⟨.inl rfl,hx⟩
    ·exact ⟨.inr h1,h2⟩
   ·rintro ⟨rfl | h1,h2⟩
    ·exact .inl rfl
    ·exact .inr ⟨h1,h2⟩
theorem OZ {T:List Nat}:∀{M:i1},(tags (BM T M)).Sublist (tags M)
 | []=>List.Sublist.refl _
 | x::M=>by
  simp only[BM]
  cases T.any (Nat.beq x.t) with
  | true=>exact List.Sublist.cons _ OZ
  | false=>exact List.Sublist.cons_cons _ OZ
def GU (T:List Nat) (S:i5):i5:=S.map fun e=>bif e.dep.any (fun d=>T.any (Nat.beq d)) then ⟨e.s,e.b,[],W6⟩ else e
theorem TI {l T:List Nat} (h:l.any (fun d=>T.any (Nat.beq d))=false):∀d∈l,d∉T:=fun d hd ht=>by
 have:l.any (fun d=>T.any (Nat.beq d))=true:=List.any_eq_true.2 ⟨d,hd,List.any_eq_true.2 ⟨d,ht,Nat.beq_refl d⟩⟩
 rw[h] at this; cases this
theorem PV {T:List Nat}:∀{S:i5} {t:Nat} {b:Bool} {k:d5},look (GU T S) t=some (b,k)->∃k0,look S t=some (b,k0)/\(k=W6\/(k=k0/\∃e∈S,e.k=k/\∀d∈e.dep,d∉T))
 | e::S,t,b,k,h=>by
  simp only[GU,List.map_cons,look] at h ⊢
  cases hd:e.dep.any (fun d=>T.any (Nat.beq d)) with
  | true =>
   rw[hd] at h
   simp only[cond_true] at h
   cases hb:Nat.beq e.s t with
   | true=>rw[hb] at h; simp only[cond_true,Option.some.injEq,Prod.mk.injEq] at h ⊢; exact ⟨e.k,⟨h.1,rfl⟩,.inl h.2.symm⟩
   | false =>
    rw[hb] at h
    obtain ⟨k0,h1,h2⟩:=PV (S:=S) h
    exact ⟨k0,h1,h2.imp id fun ⟨h3,x,hx,h4⟩=>⟨h3,x,List.mem_cons_of_mem _ hx,h4⟩⟩
  | false =>
   rw[hd] at h
   simp only[cond_false] at h
   cases hb:Nat.beq e.s t with
   | true =>
    rw[hb] at h
    simp only[cond_true,Option.some.injEq,Prod.mk.injEq] at h ⊢
    exact ⟨e.k,⟨h.1,rfl⟩,.inr ⟨h.2.symm,e,List.mem_cons_self,h.2,TI hd⟩⟩
   | false =>
    rw[hb] at h
    obtain ⟨k0,h1,h2⟩:=PV (S:=S) h
    exact ⟨k0,h1,h2.imp id fun ⟨h3,x,hx,h4⟩=>⟨h3,x,List.mem_cons_of_mem _ hx,h4⟩⟩
theorem eV {T:List Nat} {S:i5} {e:SE} (h:e∈GU T S):(e∈S/\∀d∈e.dep,d∉T)\/(e.dep=[]/\e.k=W6):=by
 obtain ⟨x,hx,rfl⟩:=List.mem_map.1 h
 cases hd:x.dep.any (fun d=>T.any (Nat.beq d)) with
 | true=>exact .inr ⟨rfl,rfl⟩
 | false=>exact .inl ⟨hx,TI hd⟩
def MH (T:List Nat) (M:i1):Bool:=M.all fun e=>!(e.dep.any fun d=>T.any (Nat.beq d))
theorem gZ {T:List Nat} {M:i1} (h:MH T M=true):∀e∈M,∀d∈e.dep,d∉T:=fun e he=>by
 have:=List.all_eq_true.1 h e he
 simp only[Bool.not_eq_true'] at this
 exact TI this
def JE (t i len:Nat):d5:=fun g v=>i<8/\o5 (t+i) len g v
instance {t i len:Nat}:o7 (JE t i len) (H4 t):=⟨fun hl hd ⟨h1,h2⟩=>⟨h1,(inferInstance:o7 (o5 (t+i) len) [t+i]).dep hl (fun q hq=>hd q (by simp only[List.mem_singleton] at hq; subst hq; exact GY.2 ⟨i,h1,rfl⟩)) h2⟩⟩
def JB (t i sz j len:Nat):d5:=fun g v=>i<8/\DB (t+i) sz j len g v
instance {t i sz j len:Nat}:o7 (JB t i sz j len) (H4 t):=⟨fun hl hd ⟨h1,h2⟩=>⟨h1,(inferInstance:o7 (DB (t+i) sz j len) [t+i]).dep hl (fun q hq=>hd q (by simp only[List.mem_singleton] at hq; subst hq; exact GY.2 ⟨i,h1,rfl⟩)) h2⟩⟩
end Go.Fl

/- Rows of rows that change in place: laws. -/
namespace Go.Fl
open Go Go.RowKit
def LK (l m:List Nat):Bool:=l.all fun q=>!(m.any (Nat.beq q))
theorem cT {l m:List Nat} (h:LK l m=true):∀q∈l,q∉m:=fun q hq hm=>by
 have:=List.all_eq_true.1 h q hq
 rw[List.any_eq_true.2 ⟨q,hm,Nat.beq_refl q⟩] at this; cases this
section
variable {c:m9} {S:i5} {M:i1} {a:Act} {g:Gh} {w:World}
theorem l7.fam (h:l7 c S M a g w) (t:Nat) (ity:TypeId) {hs:List Value} {rows:List (List Int)} (hz:∀j,j<hs.length->b6 hs j=.slice none 0 0/\b6 rows j=[]) (hf:LK (H4 t) (tags M)=true) :
  ∃g',l7 c S (Fl.fam t ity hs rows++M) a g' w:=by
 have hdis:=cT hf
 let g':Gh:=⟨g.J,fun q=>if q∈H4 t then some .nil else g.M q⟩
 have hold:∀q,q∈tags M->g'.M q=g.M q:=fun q hq=>if_neg fun hd=>hdis q hd hq
 have hblk:∀q b cap,g'.M q=some (.blk b cap)->g.M q=some (.blk b cap):=fun q b cap hq=>by
  simp only[g'] at hq
  by_cases e:q∈H4 t
  ·rw[if_pos e] at hq; cases hq
  ·rw[if_neg e] at hq; exact hq
 refine ⟨g',⟨h.ok.bel,h.ok.jle,h.ok.jold,h.ok.im,fun q b cap hq=>h.ok.own q b cap (hblk _ _ _ hq),fun q q' b c1 c2 h1 h2=>h.ok.inj q q' b c1 c2 (hblk _ _ _ h1) (hblk _ _ _ h2)⟩,?_,?_,?_,?_,?_,?_,h.defers,h.size⟩
 ·intro q b k hk
  obtain ⟨e,he,_,_,rfl⟩:=DZ hk
  obtain ⟨h1,h2⟩:=h.slots q b _ hk
  exact ⟨fun hb=>(h.sdep e he).1.dep (g:=g) (g':=g') (JV.le_refl _) (fun q hq=>hold q ((h.sdep e he).2 q hq)) (h1 hb),h2⟩
 ·intro e he
  rcases List.mem_append.1 he with he | he
  ·obtain ⟨j,hj,rfl⟩:=FO.1 he
   refine ⟨.nil,if_pos (GY.2 ⟨j,hj,rfl⟩),fun hl=>?_,fun _=>rfl⟩
   obtain ⟨e1,e2⟩:=hz j hl
   rw[e1,e2]
   exact ⟨⟨rfl,rfl⟩,rfl,rfl⟩
  ·obtain ⟨b,h1,h2⟩:=h.conts e he
   exact ⟨b,(hold _ (List.mem_map.2 ⟨e,he,rfl⟩)).trans h1,(h.cdep e he).1.dep (g:=g) (g':=g') (JV.le_refl _) (fun q hq=>hold q ((h.cdep e he).2 q hq)) h2⟩
 ·intro q hq
  show q∈tags (Fl.fam t ity hs rows++M)
  simp only[tags,List.map_append]
  refine List.mem_append.2 ?_
  by_cases e:q∈H4 t
  ·exact .inl e
  ·simp only[g',if_neg e] at hq; exact .inr (h.dom q hq)
 ·show (tags (Fl.fam t ity hs rows++M)).Nodup
  simp only[tags,List.map_append]
  refine List.nodup_append.2 ⟨?_,h.nodup,fun x hx y hy e=>hdis x hx (e▸hy)⟩
  simp
 ·intro e he
  exact ⟨(h.sdep e he).1,fun q hq=>by
   have:=(h.sdep e he).2 q hq
   simp only[List.map_append]
   exact List.mem_append.2 (.inr this)⟩
 ·intro e he
  rcases List.mem_append.1 he with he | he
  ·obtain ⟨j,hj,rfl⟩:=FO.1 he
   exact ⟨inferInstance,fun _ h=>by cases h⟩
  ·exact ⟨(h.cdep e he).1,fun q hq=>by
    have:=(h.cdep e he).2 q hq
    simp only[List.map_append]
    exact List.mem_append.2 (.inr this)⟩
theorem l7.add (h:l7 c S M a g w) {s:Nat} {k:d5} {dep:List Nat} (hk:o7 k dep) (hd:∀q∈dep,q∈tags M) (hv:k g (a.tmps.getD s undef)):l7 c (⟨s,true,dep,k⟩::S) M a g w:=by
 refine ⟨h.ok,?_,h.conts,h.dom,h.nodup,?_,h.cdep,h.defers,h.size⟩
 ·intro q b k' hl
  simp only[look] at hl
  cases hb:Nat.beq s q with
  | true =>
   rw[hb] at hl
   simp only[cond_true,Option.some.injEq,Prod.mk.injEq] at hl
   obtain ⟨rfl,rfl⟩:=hl
   rw[<- Nat.eq_of_beq_eq_true hb]
   exact ⟨fun _=>hv,fun hf=>by cases hf⟩
  | false=>rw[hb] at hl; exact h.slots q b k' hl
 ·intro e he
  rcases List.mem_cons.1 he with rfl | he
  ·exact ⟨hk,hd⟩
  ·exact h.sdep e he
theorem l7.put (h:l7 c S M a g w) {N:i1} (hN:∀e∈N,∃b,g.M e.t=some b/\e.c g b (World.objAt w b)) (hd:∀e∈N,A9 e.c e.dep/\∀q∈e.dep,q∈tags M):l7 c S (N6 N M) a g w:=by
 refine ⟨h.ok,h.slots,fun e he=>?_,fun q hq=>?_,?_,fun e he=>?_,fun e he=>?_,h.defers,h.size⟩
 ·rcases JU he with he | ⟨he,_⟩
  ·exact hN e he
  ·exact h.conts e he
 ·show q∈tags (N6 N M); rw[Y9]; exact h.dom q hq
 ·show (tags (N6 N M)).Nodup; rw[Y9]; exact h.nodup
 ·exact ⟨(h.sdep e he).1,fun q hq=>by show q∈tags (N6 N M); rw[Y9]; exact (h.sdep e he).2 q hq⟩
 ·rcases JU he with he | ⟨he,_⟩
  ·exact ⟨(hd e he).1,fun q hq=>by show q∈tags (N6 N M); rw[Y9]; exact (hd e he).2 q hq⟩
  ·exact ⟨(h.cdep e he).1,fun q hq=>by show q∈tags (N6 N M); rw[Y9]; exact (h.cdep e he).2 q hq⟩
theorem uM {r n:Nat} {v:Value} (h:o5 r n g v) {bk:Bk} (hb:g.M r=some bk):X9 bk n v/\v.oneCell'=true:=by
 rcases h with ⟨h1,h2,h3⟩ | ⟨b,cap,h1,h2⟩
 ·rw[hb] at h1; cases h1; subst h3; exact ⟨⟨rfl,h2⟩,rfl⟩
 ·rw[hb] at h1; cases h1; subst h2; exact ⟨rfl,rfl⟩
theorem yA {r n:Nat} {v:Value} {bk:Bk} (hb:g.M r=some bk) (h:X9 bk n v):o5 r n g v:=by
 cases bk with
 | nil=>exact .inl ⟨hb,h.2,h.1⟩
 | blk b cap=>exact .inr ⟨b,cap,hb,h⟩
theorem l7.raw (h:l7 c S M a g w) {s r n:Nat} {ct:t8} {dep:List Nat} (hl:look S s=some (true,o5 r n)) (hm:p9 M r ct dep):l7 c (⟨s,true,[],b7 M8 (a.tmps.getD s undef)⟩::S) (N6 [⟨r,dep,FA (a.tmps.getD s undef) n ct⟩] M) a g w:=by
 obtain ⟨bk,h1,h2⟩:=h.conts _ hm.mem
 simp only at h1 h2
 obtain ⟨h3,h4⟩:=uM ((h.slots s _ _ hl).1 rfl) h1
 have hc:=h.cdep _ hm.mem
 have:=h.put (N:=[⟨r,dep,FA (a.tmps.getD s undef) n ct⟩]) (fun e he=>by rw[List.mem_singleton.1 he]; exact ⟨bk,h1,h3,h2⟩) (fun e he=>by
  rw[List.mem_singleton.1 he]
  have:=hc.1
  exact ⟨inferInstance,hc.2⟩)
 exact this.add inferInstance (fun _ h=>by cases h) (iX.2 ⟨rfl,h4⟩)
theorem IW {t:Nat} {ity:TypeId} {hs:List Value} {rows:List (List Int)} (hsub:U5 (Fl.fam t ity hs rows) M) (hc:F3 M g w) {j:Nat} (hj:j<8):∃bk,g.M (t+j)=some bk/\s5 ity hs rows j g bk (World.objAt w bk):=by
 obtain ⟨bk,h1,h2⟩:=hc _ (hsub.mem _ (FO.2 ⟨j,hj,rfl⟩))
 exact ⟨bk,h1,h2⟩
theorem tV {t:Nat} {ity:TypeId} {hs:List Value} {rows:List (List Int)} (hsub:U5 (Fl.fam t ity hs rows) M) (hc:F3 M g w) {j:Nat} (hj:j<8) (hn:hs.length<=j\/b6 rows j=[]):g.M (t+j)=some .nil:=by
 obtain ⟨bk,h1,h2,h3⟩:=IW hsub hc hj
 by_cases q:j<hs.length
 ·rcases hn with hn | hn
  ·omega
  ·obtain ⟨_,h4⟩:=h2 q
   cases bk with
   | nil=>exact h1
   | blk b cap=>exact absurd (by rw[hn]; rfl) (h4.2.1 rfl)
 ·rw[h1,h3 zo]
theorem ZQ {z z':Bool} {ty:TypeId} {α:Type} {e:i8 α} {xs:List α} {n:Nat} {g g':Gh} {bk:Bk} {o:Option Obj} (hJ:g'.J=g.J) (h:l3 z ty e xs n g bk o) (hz:z'=true->n≠0\/bk=.nil):l3 z' ty e xs n g' bk o:=by
 refine ⟨h.1,?_⟩
 cases bk with
 | nil=>exact h.2
 | blk b cap =>
  obtain ⟨h1,h2⟩:=h.2
  refine ⟨fun hh=>(hz hh).resolve_right (by simp),?_⟩
  rw[hJ]; exact h2
theorem l7.ren (h:l7 c S M a g w) {r t n k:Nat} {v:Value} {z:Bool} {ity:TypeId} {xs:List Int} {hs hs':List Value} {rows rows':List (List Int)} (hm:p9 M r (FA v n (l3 z ity eI xs n)) []) (hsub:U5 (Fl.fam t ity hs rows) M) (hk:k<8) (hn0:0<n)
  (hnil:hs.length<=k\/b6 rows k=[]) (h1:k<hs'.length) (h2:b6 hs' k=v) (h3:b6 rows' k=xs) (h4:∀j,j≠k->(j<hs'.length->j<hs.length/\b6 hs' j=b6 hs j/\b6 rows' j=b6 rows j)/\(hs'.length<=j->hs.length<=j))
  (hr:LK [r] (H4 t)=true) (hoff:MH (r::H4 t) M=true):∃g',l7 c (GU (r::H4 t) S) (BM [r] (N6 (Fl.fam t ity hs' rows') M)) a g' w:=by
 have hrt:r∉H4 t:=cT hr r (by simp)
 obtain ⟨br,b1,b2,b3⟩:=h.conts _ hm.mem
 simp only at b1
 have hv:=tV hsub h.conts hk hnil
 have hkm:t+k∈H4 t:=GY.2 ⟨k,hk,rfl⟩
 have hrk:r≠t+k:=fun e=>hrt (e▸hkm)
 let g':Gh:=⟨g.J,fun q=>if q=r then none else if q=t+k then some br else g.M q⟩
 have gv:g'.M (t+k)=some br:=by simp only[g',if_neg (Ne.symm hrk),if_true]
 have gr:g'.M r=none:=by simp only[g',if_true]
 have go:∀q,q≠r->q≠t+k->g'.M q=g.M q:=fun q q1 q2=>by simp only[g',if_neg q1,if_neg q2]
 have hoffS:=gZ hoff
 have src:∀q b cap,g'.M q=some (.blk b cap)->∃q0,g.M q0=some (.blk b cap)/\q0≠t+k/\((q=t+k/\q0=r)\/(q≠t+k/\q0=q/\q≠r)):=fun q b cap hq=>by
  by_cases e1:q=t+k
  ·subst e1; rw[gv] at hq; cases hq; exact ⟨r,b1,hrk,.inl ⟨rfl,rfl⟩⟩
  ·by_cases e2:q=r
   ·subst e2; rw[gr] at hq; cases hq
   ·rw[go q e2 e1] at hq; exact ⟨q,hq,e1,.inr ⟨e1,rfl,e2⟩⟩
 have hxl:xs.length=n:=b3.1
 refine ⟨g',⟨h.ok.bel,h.ok.jle,h.ok.jold,h.ok.im,fun q b cap hq=>by obtain ⟨q0,e,_⟩:=src q b cap hq; exact h.ok.own q0 b cap e,fun q q' b c1 c2 e1 e2=>?_⟩,?_,?_,?_,?_,?_,?_,h.defers,h.size⟩
 ·obtain ⟨q0,f1,f2,f3⟩:=src q b c1 e1
  obtain ⟨q1,f4,f5,f6⟩:=src q' b c2 e2
  have:=h.ok.inj _ _ _ _ _ f1 f4
  subst this
  rcases f3 with ⟨rfl,f3⟩ | ⟨f3,f7,f8⟩<;>rcases f6 with ⟨rfl,f6⟩ | ⟨f6,f9,f10⟩
  ·rfl
  ·exact absurd (f9.symm.trans f3) f10
  ·exact absurd (f7.symm.trans f6) f8
  ·exact f7.symm.trans f9
 ·intro q b k' hl
  obtain ⟨k0,f1,f2⟩:=PV hl
  obtain ⟨f3,f4⟩:=h.slots q b k0 f1
  refine ⟨fun hb=>?_,f4⟩
  rcases f2 with rfl | ⟨rfl,e,he,rfl,hnu⟩
  ·trivial
  ·exact (h.sdep e he).1.dep (g:=g) (g':=g') (JV.le_refl _) (fun q hq=>go q (fun e'=>hnu q hq (e'▸List.mem_cons_self)) (fun e'=>hnu q hq (e'▸List.mem_cons_of_mem _ hkm))) (f3 hb)
 ·intro e he
  obtain ⟨he,hne⟩:=AM.1 he
  simp only[List.mem_singleton] at hne
  rcases JU he with he | ⟨he,hnt⟩
  ·obtain ⟨j,hj,rfl⟩:=FO.1 he
   by_cases ej:j=k
   ·subst ej
    refine ⟨br,gv,fun _=>?_,fun hh=>by omega⟩
    rw[h2,h3,hxl]
    exact ⟨b2,ZQ (g:=g) rfl b3 (fun _=>.inl zo)⟩
   ·obtain ⟨bk,f1,f2,f3⟩:=IW hsub h.conts hj
    obtain ⟨g1,g2⟩:=h4 j ej
    refine ⟨bk,(go _ hne (by show t+j≠t+k; omega)).trans f1,fun hl=>?_,fun hl=>f3 (g2 hl)⟩
    obtain ⟨q1,q2,q3⟩:=g1 hl
    rw[q2,q3]
    obtain ⟨p1,p2⟩:=f2 q1
    exact ⟨p1,ZQ (g:=g) rfl p2 (fun hh=>by
     cases bk with
     | nil=>exact .inr rfl
     | blk b cap=>exact .inl (p2.2.1 rfl))⟩
  ·obtain ⟨bk,f1,f2⟩:=h.conts e he
   have hnt:e.t∉H4 t:=hnt
   refine ⟨bk,(go _ hne (fun e'=>hnt (e'▸hkm))).trans f1,?_⟩
   exact (h.cdep e he).1.dep (g:=g) (g':=g') (JV.le_refl _) (fun q hq=>go q (fun e'=>hoffS e he q hq (e'▸List.mem_cons_self)) (fun e'=>hoffS e he q hq (e'▸List.mem_cons_of_mem _ hkm))) f2
 ·intro q hq
  obtain ⟨e,he,rfl⟩:∃e∈N6 (Fl.fam t ity hs' rows') M,e.t=q:=by
   have:q∈tags M:=by
    by_cases e1:q=t+k
    ·rw[e1]; exact h.dom _ (by rw[hv]; simp)
    ·by_cases e2:q=r
     ·rw[e2,gr] at hq; exact absurd rfl hq
     ·rw[go q e2 e1] at hq; exact h.dom q hq
   rw[<- Y9 (N:=Fl.fam t ity hs' rows')] at this
   exact List.mem_map.1 this
  refine List.mem_map.2 ⟨e,AM.2 ⟨he,fun hh=>?_⟩,rfl⟩
  rw[List.mem_singleton.1 hh,gr] at hq; exact hq rfl
 ·exact List.Nodup.sublist OZ (by rw[Y9]; exact h.nodup)
 ·intro e he
  rcases eV he with ⟨f1,f2⟩ | ⟨f1,f2⟩
  ·refine ⟨(h.sdep e f1).1,fun q hq=>?_⟩
   have:=(h.sdep e f1).2 q hq
   have:q∈tags M:=this
   rw[<- Y9 (N:=Fl.fam t ity hs' rows')] at this
   obtain ⟨x,hx,rfl⟩:=List.mem_map.1 this
   exact List.mem_map.2 ⟨x,AM.2 ⟨hx,fun hh=>f2 _ hq (by rw[List.mem_singleton.1 hh]; exact List.mem_cons_self)⟩,rfl⟩
  ·rw[f1,f2]; exact ⟨inferInstance,fun _ h=>by cases h⟩
 ·intro e he
  obtain ⟨he,hne⟩:=AM.1 he
  rcases JU he with he | ⟨he,hnt⟩
  ·obtain ⟨j,hj,rfl⟩:=FO.1 he
   exact ⟨inferInstance,fun _ h=>by cases h⟩
  ·refine ⟨(h.cdep e he).1,fun q hq=>?_⟩
   have:q∈tags M:=(h.cdep e he).2 q hq
   rw[<- Y9 (N:=Fl.fam t ity hs' rows')] at this
   obtain ⟨x,hx,rfl⟩:=List.mem_map.1 this
   exact List.mem_map.2 ⟨x,AM.2 ⟨hx,fun hh=>hoffS e he _ hq (by rw[List.mem_singleton.1 hh]; exact List.mem_cons_self)⟩,rfl⟩
theorem l7.asRow (h:l7 c S M a g w) {s t i:Nat} {ity:TypeId} {hs:List Value} {rows:List (List Int)} (hl:look S s=some (true,b7 M8 (b6 hs i))) (hsub:U5 (Fl.fam t ity hs rows) M) (hi:i<hs.length) (h8:i<8):l7 c (⟨s,true,H4 t,JE t i (b6 rows i).length⟩::S) M a g w:=by
 obtain ⟨bk,f1,f2,_⟩:=IW hsub h.conts h8
 have hv:=iX.1 ((h.slots s _ _ hl).1 rfl)
 refine h.add inferInstance (fun q hq=>?_) ⟨h8,?_⟩
 ·obtain ⟨j,hj,rfl⟩:=GY.1 hq
  exact List.mem_map.2 ⟨_,hsub.mem _ (FO.2 ⟨j,hj,rfl⟩),rfl⟩
 ·rw[hv.1]; exact yA f1 (f2 hi).1
end
section
variable {P:Program} {c:m9} {ops:Array Oper} {S:i5} {M:i1} {rest:List Oper} {Q:Exit->Act->World->Prop} {x:Code}
theorem Tr.fam (t:Nat) (ity:TypeId) {hs:List Value} {rows:List (List Int)} (hz:∀j,j<hs.length->b6 hs j=.slice none 0 0/\b6 rows j=[]) (hf:LK (H4 t) (tags M)=true) (K:Tr P c S (Fl.fam t ity hs rows++M) x Q):Tr P c S M x Q:=fun a _ w hs=>let ⟨g',h'⟩:=hs.fam t ity hz hf; K a g' w h'
theorem b8.raw (s r:Nat) {n:Nat} {ct:t8} {dep:List Nat} (hl:look S s=some (true,o5 r n)) [hm:p9 M r ct dep] (K:∀v,b8 P c ops (⟨s,true,[],b7 M8 v⟩::S) (N6 [⟨r,dep,FA v n ct⟩] M) rest Q):b8 P c ops S M rest Q:=fun a g w hs=>K _ a g w (hs.raw hl hm)
theorem b8.ren (r t k:Nat) (hs':List Value) (rows':List (List Int)) {n:Nat} {v:Value} {z:Bool} {ity:TypeId} {xs:List Int} {hs:List Value} {rows:List (List Int)} [hm:p9 M r (FA v n (l3 z ity eI xs n)) []] (_hfam:p9 M t (s5 ity hs rows 0) []) [hsub:U5 (Fl.fam t ity hs rows) M] (hk:k<8) (hn0:0<n)
  (hnil:hs.length<=k\/b6 rows k=[]) (h1:k<hs'.length) (h2:b6 hs' k=v) (h3:b6 rows' k=xs) (h4:∀j,j≠k->(j<hs'.length->j<hs.length/\b6 hs' j=b6 hs j/\b6 rows' j=b6 rows j)/\(hs'.length<=j->hs.length<=j))
  (hr:LK [r] (H4 t)=true) (hoff:MH (r::H4 t) M=true) (K:b8 P c ops (GU (r::H4 t) S) (BM [r] (N6 (Fl.fam t ity hs' rows') M)) rest Q):b8 P c ops S M rest Q:=fun a _ w hs=>let ⟨g',h'⟩:=hs.ren hm hsub hk hn0 hnil h1 h2 h3 h4 hr hoff; K a g' w h'
theorem b8.asRow (s t:Nat) {i:Nat} {ity:TypeId} {hs:List Value} {rows:List (List Int)} (hl:look S s=some (true,b7 M8 (b6 hs i))) (_hfam:p9 M t (s5 ity hs rows 0) []) [hsub:U5 (Fl.fam t ity hs rows) M] (hi:i<hs.length) (h8:i<8) (K:b8 P c ops (⟨s,true,H4 t,JE t i (b6 rows i).length⟩::S) M rest Q):b8 P c ops S M rest Q:=fun a g w h=>K a g w (h.asRow hl hsub hi h8)
end
end Go.Fl

/- Rows of rows that change in place: elements, freezing. -/
namespace Go.Fl
open Go Go.RowKit
section
variable {P:Program} {c:m9} {S:i5} {M:i1} {p:Bool} {d:Option Tmp} {ty:TypeId} {pos:String} {af:Array Edge} {gd:Option (Nat×Bool)} {x y:Operand} {b b':Bool}
theorem MM {t et:TypeId} [ht:B7 P t et] {sz by':Nat} {zz:Value} [hz:o8 P et sz by' zz] {t0 k len:Nat} {ik:IntKind} {i:Int} (hx:j2 S x=some (b,JE t0 k len)) (hb:p=true->b=true) (hy:j2 S y=some (b',y8 ik i)) (hb':p=true->b'=true)
  (h:p=true->0<=i/\i<len):l4 P c S M ⟨d,.indexAddr t x y,ty,pos,af,gd⟩ p (JB t0 k sz i.toNat len) none :=
 l4.pure fun hp a g w _ _ ho=>by
  have hi:a.eval y=_:=ho y (by simp[Op.operands]) b' _ hy (hb' hp)
  have hlt:=h hp
  obtain ⟨h8,hr⟩:=ho x (by simp[Op.operands]) b _ hx (hb hp)
  rcases hr with ⟨_,h0,_⟩ | ⟨bk,cap,h1,h2⟩
  ·omega
  ·exact ⟨.pointer (some ⟨bk,0+i.toNat*sz,none⟩),by simp only[execOp,h2,hi,Sem.run_bind,GT (P:=P) hlt,Result.andThen_ok,Sem.run_pure],h8,by omega,bk,cap,h1,by simp⟩
theorem QZ {t et:TypeId} [ht:B7 P t et] {sz by':Nat} {zz:Value} [hz:o8 P et sz by' zz] {t0 k len:Nat} {ik:IntKind} {i:Nat} (hx:j2 S x=some (b,JE t0 k len)) (hb:p=true->b=true) (hy:j2 S y=some (b',y8 ik (i:Int))) (hb':p=true->b'=true)
  (h:p=true->i<len):l4 P c S M ⟨d,.indexAddr t x y,ty,pos,af,gd⟩ p (JB t0 k sz i len) none :=
 MM (i:=(i:Int)) hx hb hy hb' (fun hp=>by have:=h hp; omega)
theorem UZ {g:Gh} {w:World} {t:Nat} {ity:TypeId} {hs:List Value} {rows:List (List Int)} (hsub:U5 (Fl.fam t ity hs rows) M) (hc:F3 M g w) {j b cap:Nat} (hj:j<8) (hb:g.M (t+j)=some (.blk b cap)) :
  j<hs.length/\b6 hs j=.slice (some ⟨b,0,none⟩) (b6 rows j).length cap/\(b6 rows j).length≠0/\∃cs:Array Value,w.heap[b]?=some (.cells cs ity (0,0))/\cs.size=cap*1/\(b6 rows j).length<=cap/\cap<=maxLen/\∀i x,(b6 rows j)[i]?=some x->∃ds,eI.rd g.J ds x/\∀q v,ds[q]?=some v->cs[i*1+q]?=some v:=by
 obtain ⟨bk,h1,h2,h3⟩:=IW hsub hc hj
 rw[hb] at h1; cases h1
 have hl:j<hs.length:=Nat.lt_of_not_le fun q=>by cases h3 q
 obtain ⟨h4,h5,h6,cs,h7⟩:=h2 hl
 exact ⟨hl,h4,h6 rfl,cs,h7⟩
theorem RB {t:TypeId} [ht:F6 P t] {ity:TypeId} {hs:List Value} {rows:List (List Int)} {t0 k j len:Nat} (_hfam:p9 M t0 (s5 ity hs rows 0) []) [hsub:U5 (Fl.fam t0 ity hs rows) M] (hx:j2 S x=some (b,JB t0 k 1 j len)) (hb:p=true->b=true)
  (hj:p=true->j<(b6 rows k).length):l4 P c S M ⟨d,.load t x,ty,pos,af,gd⟩ p (kI (b6 (b6 rows k) j)) none :=
 l4.pure fun hp a g w hok hc ho=>by
  obtain ⟨h8,hlt,bl,cap,h1,h2⟩:=ho x (by simp[Op.operands]) b _ hx (hb hp)
  obtain ⟨_,_,_,cs,h3,_,_,_,h5⟩:=UZ hsub hc h8 h1
  obtain ⟨ds,k1,k2⟩:=h5 j _ (F5 (hj hp))
  have k1:ds=[.int .i64 (b6 (b6 rows k) j)]:=k1
  subst k1
  have hc:=k2 0 _ rfl
  have hcell:w.cell? ⟨bl,j*1,none⟩=some (.int .i64 (b6 (b6 rows k) j)):=L1 h3 (by simpa using hc)
  exact ⟨_,by simp only[execOp,h2,Sem.run_bind,MX (P:=P) (t:=t) hcell,Result.andThen_ok,Sem.run_pure],rfl⟩
end
section
variable {c:m9} {S:i5} {M:i1} {a:Act} {g:Gh} {w:World}
theorem l7.setR (h:l7 c S M a g w) {t k j:Nat} {ity:TypeId} {hs:List Value} {rows:List (List Int)} (hsub:U5 (Fl.fam t ity hs rows) M) (hk:k<8) {b cap:Nat} (hb:g.M (t+k)=some (.blk b cap)) (hj:j<(b6 rows k).length) (hrl:k<rows.length) {z:Int} {cs:Array Value} (hcs:w.heap[b]?=some (.cells cs ity (0,0))) :
  l7 c S (N6 (Fl.fam t ity hs (rows.set k ((b6 rows k).set j z))) M) a g (w.setRow b (cs.setIfInBounds j (.int .i64 z))):=by
 obtain ⟨f1,f2,f3,cs',f4,f5,f6,f7,f8⟩:=UZ hsub h.conts hk hb
 rw[hcs] at f4
 simp only[Option.some.injEq,Obj.cells.injEq,and_true] at f4
 subst f4
 obtain ⟨q1,q2,q3⟩:=h.ok.own _ _ _ hb
 have hother:∀q,q≠b->(w.setRow b (cs.setIfInBounds j (.int .i64 z))).heap[q]?=w.heap[q]?:=fun q hq=>setRow_other w b q _ hq
 have hrow:∀i,i≠k->b6 (rows.set k ((b6 rows k).set j z)) i=b6 rows i:=fun i hi=>by
  simp[b6,List.getElem?_set_ne (Ne.symm hi)]
 have hself:b6 (rows.set k ((b6 rows k).set j z)) k=(b6 rows k).set j z:=by simp[b6,hrl]
 have keep:∀bk q,g.M q=some bk->q≠t+k->World.objAt (w.setRow b (cs.setIfInBounds j (.int .i64 z))) bk=World.objAt w bk:=fun bk q hq hne=>by
  cases bk with
  | nil=>rfl
  | blk b2 cap2=>exact hother b2 (fun e=>by subst e; exact hne (h.ok.inj _ _ _ _ _ hq hb))
 refine ⟨⟨⟨h.ok.bel.os,h.ok.bel.tape,h.ok.bel.output,by simpa using h.ok.bel.size,fun q hq hnb=>?_,h.ok.bel.drawn⟩,h.ok.jle,h.ok.jold,fun b2 o v hv=>?_,fun q b2 cap2 hq=>?_,h.ok.inj⟩,h.slots,?_,?_,?_,?_,?_,h.defers.on fun D hD=>hother D (fun e=>by subst e; rw[hcs] at hD; cases hD),h.size⟩
 ·rw[hother q (fun e=>by subst e; rcases q1 with q1 | q1; omega; exact hnb q1)]
  exact h.ok.bel.block q hq hnb
 ·have:=h.ok.im b2 o v hv
  rw[World.cell?_of_block (w:=w) (hother b2 (fun e=>by subst e; rw[q3 o] at hv; cases hv))]
  exact this
 ·obtain ⟨h1,h2,h3⟩:=h.ok.own q b2 cap2 hq
  exact ⟨h1,by simpa using h2,h3⟩
 ·intro e he
  rcases JU he with he | ⟨he,hnt⟩
  ·obtain ⟨i,hi,rfl⟩:=FO.1 he
   by_cases ei:i=k
   ·subst ei
    refine ⟨_,hb,fun _=>?_,fun hh=>by omega⟩
    rw[hself,List.length_set]
    refine ⟨f2,by rw[List.length_set],fun _=>f3,cs.setIfInBounds j (.int .i64 z),by simp only[World.objAt]; exact setRow_heap w b cs _ ity (0,0) hcs,by show (cs.setIfInBounds j (.int .i64 z)).size=cap*1; simp; omega,f6,f7,fun q v hq=>?_⟩
    by_cases e:j=q
    ·subst e
     rw[List.getElem?_set_self hj] at hq
     simp only[Option.some.injEq] at hq
     subst hq
     refine ⟨_,rfl,fun r u hu=>?_⟩
     match r with
     | 0 =>
      simp at hu; subst hu
      have:j<cs.size:=by omega
      show (cs.setIfInBounds j (.int .i64 z))[j*1+0]?=_
      simp[this]
     | r+1=>simp at hu
    ·rw[List.getElem?_set_ne e] at hq
     obtain ⟨ds,k1,k2⟩:=f8 q v hq
     refine ⟨ds,k1,fun r u hu=>?_⟩
     have k1:ds=[.int .i64 v]:=k1
     subst k1
     match r with
     | 0 =>
      have:=k2 0 u hu
      show (cs.setIfInBounds j (.int .i64 z))[q*1+0]?=_
      rw[Array.getElem?_setIfInBounds_ne zo]
      exact this
     | r+1=>simp at hu
   ·obtain ⟨bk,g1,g2,g3⟩:=IW hsub h.conts hi
    refine ⟨bk,g1,fun hl=>?_,g3⟩
    rw[hrow i ei,keep bk _ g1 (by show t+i≠t+k; omega)]
    exact g2 hl
  ·obtain ⟨bk,g1,g2⟩:=h.conts e he
   refine ⟨bk,g1,?_⟩
   rw[keep bk _ g1 (fun e'=>hnt (by rw[e']; exact GY.2 ⟨k,hk,rfl⟩))]
   exact g2
 ·intro q hq
  show q∈tags (N6 _ M); rw[Y9]; exact h.dom q hq
 ·show (tags (N6 _ M)).Nodup; rw[Y9]; exact h.nodup
 ·intro e he
  exact ⟨(h.sdep e he).1,fun q hq=>by show q∈tags (N6 _ M); rw[Y9]; exact (h.sdep e he).2 q hq⟩
 ·intro e he
  rcases JU he with he | ⟨he,_⟩
  ·obtain ⟨i,hi,rfl⟩:=FO.1 he
   exact ⟨inferInstance,fun _ h=>by cases h⟩
  ·exact ⟨(h.cdep e he).1,fun q hq=>by show q∈tags (N6 _ M); rw[Y9]; exact (h.cdep e he).2 q hq⟩
end
section
variable {P:Program} {c:m9} {ops:Array Oper} {S:i5} {M:i1} {rest:List Oper} {Q:Exit->Act->World->Prop}
variable {ty:TypeId} {pos:String} {af:Array Edge} {x y:Operand}
theorem b8.stR {t:TypeId} {by':Nat} {zz:Value} [hz:o8 P t 1 by' zz] {ity:TypeId} {hs:List Value} {rows:List (List Int)} {t0 k j len:Nat} {z:Int} (_hfam:p9 M t0 (s5 ity hs rows 0) []) [hsub:U5 (Fl.fam t0 ity hs rows) M] (hx:j2 S x=some (true,JB t0 k 1 j len)) (hy:j2 S y=some (true,kI z))
  (hj:j<(b6 rows k).length) (K:b8 P c ops S (N6 (Fl.fam t0 ity hs (rows.set k ((b6 rows k).set j z))) M) rest Q):b8 P c ops S M (⟨none,.store t x y,ty,pos,af,none⟩::rest) Q:=by
 intro a g w hsat
 obtain ⟨h8,hlt,b,cap,hm,he⟩:=A8 hsat.slots hx rfl
 have hv:a.eval y=.int .i64 z:=A8 hsat.slots hy rfl
 obtain ⟨f1,f2,f3,cs,f4,f5,f6,f7,f8⟩:=UZ hsub hsat.conts h8 hm
 have hrl:k<rows.length:=Nat.lt_of_not_le fun q=>by rw[show b6 rows k=[] by simp[b6,List.getElem?_eq_none q]; rfl] at hj; exact absurd hj (Nat.not_lt_zero _)
 have hin:j<cs.size:=by omega
 have hr:=KB (P:=P) (t:=t) (o:=j*1) (v:=.int .i64 z) f4 rfl zo (fun u hu=>by simp[Value.cells] at hu; subst hu; rfl)
 refine wpList_plain rfl fun K' hK'=>?_
 unfold Oper.wp
 simp only[execOp,he,hv,Sem.run_bind,hr,Result.andThen_ok,Sem.run_pure,Oper.upon,Act.put]
 have e:(cs.toList.take (j*1)++(Value.int .i64 z).cells.toList++cs.toList.drop (j*1+1)).toArray=cs.setIfInBounds j (.int .i64 z):=by
  apply Array.ext'
  rw[Nat.mul_one]
  simp only[Array.toList_setIfInBounds,Value.cells,List.append_assoc]
  rw[List.set_eq_take_append_cons_drop,if_pos (by simpa using hin)]
  simp
 rw[e]
 exact hK' _ _ (K a g _ (hsat.setR hsub h8 hm hj hrl f4))
end
section
variable {P:Program} {ops:Array Oper} {S:i5} {M:i1} {rest:List Oper} {Q:Exit->Act->World->Prop} {x:Code}
variable {w0:World} {J0:JV} {n:Nat} {rd:Option Nat} {mrk:Bool} {om:List Nat}
theorem l7.frzM {a:Act} {g:Gh} {w:World} (h:l7 ⟨w0,J0,[],n,rd,mrk,om⟩ S M a g w) {s t u len:Nat} {z:Bool} {oty ity:TypeId} {hs:List Value} {rows:List (List Int)} (hl:look S s=some (true,o5 u len)) (hu:p9 M u (l3 z oty M8 hs len) []) (hsub:U5 (Fl.fam t ity hs rows) M) (h8:hs.length<=8)
  (hr:rows.length=hs.length) (hlen:∀i,(b6 rows i).length<=p6) (hoff:MH (u::H4 t) M=true):∃g',l7 ⟨w0,J0,[],n,rd,mrk,om⟩ (⟨s,true,[],b7 (eL (eL eI)) rows⟩::GU (u::H4 t) S) (BM (u::H4 t) M) a g' w:=by
 classical
 let T:=u::H4 t
 let am:Nat->Prop:=fun b=>∃q∈T,∃cap,g.M q=some (.blk b cap)
 let J':JV:=fun b o=>if am b then w.cell? ⟨b,o,none⟩ else g.J b o
 let g':Gh:=⟨J',fun q=>if q∈T then none else g.M q⟩
 have hoffS:=gZ hoff
 have gn:∀q,q∉T->g'.M q=g.M q:=fun q hq=>if_neg hq
 have gs:∀q b cap,g'.M q=some (.blk b cap)->q∉T/\g.M q=some (.blk b cap):=fun q b cap hq=>by
  simp only[g'] at hq
  by_cases e:q∈T
  ·rw[if_pos e] at hq; cases hq
  ·rw[if_neg e] at hq; exact ⟨e,hq⟩
 have hJ:g.J.le J':=fun b o v hv=>by
  have:¬am b:=fun ⟨q,_,cap,e⟩=>by rw[(h.ok.own q b cap e).2.2 o] at hv; cases hv
  show (if am b then _ else _)=_
  rw[if_neg this]; exact hv
 have inJ:∀{q b cap cs ty},q∈T->g.M q=some (.blk b cap)->w.heap[b]?=some (.cells cs ty (0,0))->∀o v,cs[o]?=some v->J' b o=some v:=fun {q b cap cs ty} hq e hh o v hv=>by
  show (if am b then _ else _)=_
  rw[if_pos ⟨q,hq,cap,e⟩]
  exact L1 hh hv
 have row:∀i,i<hs.length->(eL eI).rd J' [b6 hs i] (b6 rows i):=fun i hi=>by
  obtain ⟨bk,f1,f2,f3⟩:=IW hsub h.conts (show i<8 by omega)
  obtain ⟨f4,f5⟩:=f2 hi
  cases bk with
  | nil =>
   have e1:b6 hs i=.slice none 0 0:=f4.1
   have e2:(b6 rows i).length=0:=f4.2
   exact ⟨none,0,by rw[e1,e2],⟨hlen i,by omega⟩,.inl (List.eq_nil_of_length_eq_zero e2)⟩
  | blk b cap =>
   have e1:b6 hs i=.slice (some ⟨b,0,none⟩) (b6 rows i).length cap:=f4
   obtain ⟨_,_,cs,g1,g2,g3,g4,g5⟩:=f5
   refine ⟨_,_,by rw[e1],⟨hlen i,g3⟩,.inr ⟨b,0,rfl,fun j y hy=>?_⟩⟩
   obtain ⟨ds,k1,k2⟩:=g5 j y hy
   refine ⟨ds,k1,fun q v hq=>?_⟩
   have:=k2 q v hq
   exact inJ (List.mem_cons_of_mem _ (GY.2 ⟨i,by omega,rfl⟩)) f1 g1 _ v (by rw[Nat.zero_add]; exact this)
 refine ⟨g',⟨h.ok.bel,JV.le_trans h.ok.jle hJ,fun b o hlt=>?_,fun b o v hv=>?_,fun q b cap hq=>?_,fun q q' b c1 c2 e1 e2=>h.ok.inj q q' b c1 c2 (gs _ _ _ e1).2 (gs _ _ _ e2).2⟩,?_,?_,?_,?_,?_,?_,h.defers,h.size⟩
 ·show (if am b then _ else _)=_
  rw[if_neg fun ⟨q,_,cap,e⟩=>by
   rcases (h.ok.own q b cap e).1 with e | e
   ·exact absurd hlt (Nat.not_lt.2 e)
   ·cases e]
  exact h.ok.jold b o hlt
 ·have hv:(if am b then w.cell? ⟨b,o,none⟩ else g.J b o)=some v:=hv
  by_cases e:am b
  ·rw[if_pos e] at hv; exact hv
  ·rw[if_neg e] at hv; exact h.ok.im b o v hv
 ·obtain ⟨hne,hq⟩:=gs _ _ _ hq
  obtain ⟨q1,q2,q3⟩:=h.ok.own q b cap hq
  refine ⟨q1,q2,fun o=>?_⟩
  show (if am b then _ else _)=_
  rw[if_neg fun ⟨q',hq',cap',e⟩=>hne (by rw[h.ok.inj _ _ _ _ _ hq e]; exact hq')]
  exact q3 o
 ·intro q b k' hlk
  simp only[look] at hlk
  cases hb:Nat.beq s q with
  | true =>
   rw[hb] at hlk
   simp only[cond_true,Option.some.injEq,Prod.mk.injEq] at hlk
   obtain ⟨rfl,rfl⟩:=hlk
   rw[<- Nat.eq_of_beq_eq_true hb]
   refine ⟨fun _=>?_,fun hf=>by cases hf⟩
   have hk:=(h.slots s _ _ hl).1 rfl
   obtain ⟨bu,u1,u2,u3⟩:=h.conts _ hu.mem
   simp only at u1 u2 u3
   rcases hk with ⟨k1,k2,k3⟩ | ⟨bb,cap,k1,k2⟩
   ·have e0:rows=[]:=List.eq_nil_of_length_eq_zero zo
    refine ⟨[.slice none 0 0],⟨none,0,by rw[e0]; rfl,⟨by rw[e0]; exact Nat.zero_le _,by rw[e0]; exact Nat.zero_le _⟩,.inl e0⟩,k3⟩
   ·rw[k1] at u1; cases u1
    obtain ⟨_,cs,c1,c2,c3,c4,c5⟩:=u3
    have el:rows.length=len:=by omega
    refine ⟨[.slice (some ⟨bb,0,none⟩) rows.length cap],⟨_,_,rfl,⟨by simp only[p6]; omega,by omega⟩,.inr ⟨bb,0,rfl,fun i y hy=>?_⟩⟩,by rw[el]; exact k2⟩
    have hil:i<rows.length:=(List.getElem?_eq_some_iff.1 hy).1
    have ey:y=b6 rows i:=by simp[b6,hy]
    subst ey
    refine ⟨[b6 hs i],row i zo,fun q v hq=>?_⟩
    match q with
    | 0 =>
     simp at hq; subst hq
     obtain ⟨ds,d1,d2⟩:=c5 i (b6 hs i) (F5 zo)
     have d1:ds=[b6 hs i]:=d1.1
     subst d1
     have:=d2 0 _ rfl
     exact inJ List.mem_cons_self k1 c1 _ _ (by rw[Nat.zero_add]; exact this)
    | q+1=>simp at hq
  | false =>
   rw[hb] at hlk
   obtain ⟨k0,f1,f2⟩:=PV hlk
   obtain ⟨f3,f4⟩:=h.slots q b k0 f1
   refine ⟨fun hb=>?_,f4⟩
   rcases f2 with rfl | ⟨rfl,e,he,rfl,hnu⟩
   ·trivial
   ·exact (h.sdep e he).1.dep (g:=g) (g':=g') hJ (fun q hq=>gn q (hnu q hq)) (f3 hb)
 ·intro e he
  obtain ⟨he,hne⟩:=AM.1 he
  obtain ⟨bk,f1,f2⟩:=h.conts e he
  exact ⟨bk,(gn _ hne).trans f1,(h.cdep e he).1.dep (g:=g) (g':=g') hJ (fun q hq=>gn q (hoffS e he q hq)) f2⟩
 ·intro q hq
  by_cases e:q∈T
  ·simp only[g',if_pos e] at hq; exact absurd rfl hq
  ·rw[gn q e] at hq
   obtain ⟨y,hy,rfl⟩:=List.mem_map.1 (h.dom q hq)
   exact List.mem_map.2 ⟨y,AM.2 ⟨hy,e⟩,rfl⟩
 ·exact List.Nodup.sublist OZ h.nodup
 ·intro e he
  rcases List.mem_cons.1 he with rfl | he
  ·exact ⟨inferInstance,fun _ h=>by cases h⟩
  ·rcases eV he with ⟨f1,f2⟩ | ⟨f1,f2⟩
   ·refine ⟨(h.sdep e f1).1,fun q hq=>?_⟩
    obtain ⟨y,hy,rfl⟩:=List.mem_map.1 ((h.sdep e f1).2 q hq)
    exact List.mem_map.2 ⟨y,AM.2 ⟨hy,f2 _ hq⟩,rfl⟩
   ·rw[f1,f2]; exact ⟨inferInstance,fun _ h=>by cases h⟩
 ·intro e he
  obtain ⟨he,_⟩:=AM.1 he
  refine ⟨(h.cdep e he).1,fun q hq=>?_⟩
  obtain ⟨y,hy,rfl⟩:=List.mem_map.1 ((h.cdep e he).2 q hq)
  exact List.mem_map.2 ⟨y,AM.2 ⟨hy,hoffS e he _ hq⟩,rfl⟩
theorem Tr.frzM (s u t:Nat) {len:Nat} {z:Bool} {oty ity:TypeId} {hs:List Value} {rows:List (List Int)} (hl:look S s=some (true,o5 u len)) [hu:p9 M u (l3 z oty M8 hs len) []] (_hfam:p9 M t (s5 ity hs rows 0) []) [hsub:U5 (Fl.fam t ity hs rows) M] (h8:hs.length<=8)
  (hr:rows.length=hs.length) (hlen:∀i,(b6 rows i).length<=p6) (hoff:MH (u::H4 t) M=true) (K:Tr P ⟨w0,J0,[],n,rd,mrk,om⟩ (⟨s,true,[],b7 (eL (eL eI)) rows⟩::GU (u::H4 t) S) (BM (u::H4 t) M) x Q):Tr P ⟨w0,J0,[],n,rd,mrk,om⟩ S M x Q:=fun a _ w h=>let ⟨g',h'⟩:=h.frzM hl hu hsub h8 hr hlen hoff; K a g' w h'
end
end Go.Fl

/- Functions that are gone through in place, with endings of many kinds; drawn regions over rows of the family. -/
namespace Go.Fl
open Go Go.RowKit
section
variable {P:Program} {c:m9} {S:i5} {M:i1} {Sp:World->Prop} {d:Option Tmp} {ty:TypeId} {pos:String} {af:Array Edge} {gd:Option (Nat×Bool)} {x y:Operand}
theorem SS {t et:TypeId} [ht:B7 P t et] {sz by':Nat} {zz:Value} [hz:o8 P et sz by' zz] {t0 k len:Nat} {ik:IntKind} {i:Int} (hx:j2 S x=some (true,JE t0 k len)) (hy:j2 S y=some (true,y8 ik i)) (h:0<=i/\i<len) :
  X4 P c S M Sp ⟨d,.indexAddr t x y,ty,pos,af,gd⟩ (JB t0 k sz i.toNat len):=fun a g _ hs _=>by
 have hi:a.eval y=_:=A8 hs.slots hy rfl
 obtain ⟨h8,hr⟩:=A8 hs.slots hx rfl
 rcases hr with ⟨_,h0,_⟩ | ⟨bk,cap,h1,h2⟩
 ·omega
 ·exact ⟨.pointer (some ⟨bk,0+i.toNat*sz,none⟩),fun _ _=>by simp only[execOp,h2,hi,Sem.run_bind,GT (P:=P) h,Result.andThen_ok,Sem.run_pure],h8,by omega,bk,cap,h1,by simp⟩
end
def NP {σ:Type} (c:m9) (keep:List Nat) (bks:Nat->Bk) (M:σ->i1) (res:σ->d5) (R:σ->Prop):Ending->World->Prop:=fun e w'=>∃s,R s/\ZA c keep bks (M s) (res s) e w'
section
variable {P:Program} {ops:Array Oper} {S:i5} {M:i1} {rest:List Oper} {Q:Exit->Act->World->Prop}
variable {d:Nat} {ty:TypeId} {pos:String} {af:Array Edge} {w0:World} {J0:JV} {bor om:List Nat} {n:Nat} {rd:Option Nat} {mrk:Bool}
theorem b8.inlX {σ:Type} {f:FuncId} [hf:d8 P f] {fn:Func} {code:Code} {n':Nat} {args:List Operand} {tys:Array TypeId} {ks:List d5} {ds:List (List Nat)} {dep:List Nat} (keep:List Nat)
  (hfn:P.funcs[f]?=some fn) (hb:fn.body=some code) (hn':fn.ntmps=n') (hlen:Nat.ble ks.length n'=true)
  (ha:EO S true args ks) [hds:GB ks ds] (hdt:ds.all (fun d=>u4 d (tags M))=true) (hkt:u4 keep (tags M)=true)
  (M':σ->i1) (res:σ->d5) (R:σ->Prop) (hkt':∀s,u4 keep (tags (M' s))=true) (hkr:∀s,o7 (res s) dep) (X9:∀s,u4 dep (tags (M' s))=true) (hn:Nat.blt d n=true)
  (h:∀(J:JV) (bks:Nat->Bk) (om':List Nat),Tr P ⟨w0,J,bor,n',none,false,om'⟩ (EI 0 ds ks++L0 n' bks keep) M code (bodyPost P fn (NP ⟨w0,J,bor,n',none,false,om'⟩ keep bks M' res R)))
  (K:∀s,R s->b8 P ⟨w0,J0,bor,n,rd,mrk,om⟩ ops (⟨d,true,dep,res s⟩::JF keep S) (M' s) rest Q):b8 P ⟨w0,J0,bor,n,rd,mrk,om⟩ ops S M (⟨some d,.call { callee:=.value (.func f),args:=args.toArray,argTypes:=tys },ty,pos,af,none⟩::rest) Q:=by
 intro a g w hsat
 have hdn:d<n:=by simpa [Nat.blt_eq] using hn
 have hall:=ha.eval (g:=g) (ρ:=a.eval) rfl (fun y _ b k hk hb=>A8 hsat.slots hk hb)
 have hall_len:=K3 hall
 have hle:ks.length<=n':=Nat.le_of_ble_eq_true hlen
 have hM:∀t∈tags M,∃bk,g.M t=some bk:=fun t ht=>by
  obtain ⟨e,he,rfl⟩:=List.mem_map.1 ht
  obtain ⟨bk,h1,_⟩:=hsat.conts e he
  exact ⟨bk,h1⟩
 have hkeep:∀t∈keep,g.M t=some ((g.M t).getD .nil):=fun t ht=>by
  obtain ⟨bk,h1⟩:=hM t (C3 hkt t ht)
  rw[h1]; rfl
 have hr:Calls P f (args.map a.eval).toArray w (NP ⟨w0,g.J,bor,n',none,false,om++MB a.defers⟩ keep (fun t=>(g.M t).getD .nil) M' res R):=by
  refine calls_of_wp hfn hb<|wpIn_wide.1 (h g.J (fun t=>(g.M t).getD .nil) (om++MB a.defers) _ g w ⟨⟨hsat.ok.bel,JV.le_refl _,fun _ _ _=>rfl,hsat.ok.im,hsat.ok.own,hsat.ok.inj⟩,?_,hsat.conts,hsat.dom,hsat.nodup,?_,hsat.cdep,⟨rfl,wB hsat.defers⟩,?_⟩)
  ·intro t b k hk
   rcases VV hk with hk | hk
   ·obtain ⟨_,h2,rfl,v,hv,hkv⟩:=XF hall hk
    refine ⟨fun _=>?_,fun hf=>(by cases hf)⟩
    have ht:t<(args.map a.eval).length:=(List.getElem?_eq_some_iff.1 (by simpa using hv)).1
    have:((args.map a.eval).toArray++Array.replicate (fn.ntmps-(args.map a.eval).toArray.size) undef).getD t undef=v:=by
     rw[Array.getD_eq_getD_getElem?,Array.getElem?_append_left (by simpa using ht),List.getElem?_toArray]
     rw[show (args.map a.eval)[t]?=some v by simpa using hv]
     rfl
    rw[this]; exact hkv
   ·obtain ⟨rfl,_,h3,rfl⟩:=SH hk
    exact ⟨fun _=>hkeep _ h3,fun hf=>(by cases hf)⟩
  ·intro e he
   rcases List.mem_append.1 he with he | he
   ·obtain ⟨h1,h2⟩:=XG hds.h he
    exact ⟨h1,fun t ht=>C3 (List.all_eq_true.1 hdt _ h2) t ht⟩
   ·obtain ⟨t,h1,h2,h3⟩:=SI he
    rw[h2,h3]
    exact ⟨inferInstance,fun q hq=>by simp at hq; subst hq; exact C3 hkt _ h1⟩
  ·simp only[Array.size_append,List.size_toArray,Array.size_replicate]; omega
 refine wpList_plain rfl fun K' hK'=>?_
 unfold Oper.wp
 simp only[execOp,resolve,Act.eval,Deferred.ofValue,Sem.run_bind,Sem.run_pure,Result.andThen_ok,invoke,List.map_toArray,Array.append_empty,Array.empty_append]
 rw[hf.run]
 simp only[Oper.upon]
 refine hr.mono fun e w' he=>?_
 obtain ⟨s,hR,r,g',rfl,h1,h2,h3,h4,h5,h6,h7,h8⟩:=he
 refine hK' _ _ (K s hR _ g' _ ⟨⟨h1.bel,JV.le_trans hsat.ok.jle h1.jle,fun b o hb=>(h1.jold b o hb).trans (hsat.ok.jold b o hb),h1.im,h1.own,h1.inj⟩,?_,h2,h3,h4,?_,h5,wA hsat.defers h8,by simp[Act.put,hsat.size]⟩)
 ·refine U2.put (fun t b k hk=>?_) (by rw[hsat.size]; exact hdn) ⟨fun _=>h7,fun hf=>by cases hf⟩
  obtain ⟨k0,q1,q2⟩:=VR hk
  obtain ⟨q3,q4⟩:=hsat.slots t b k0 q1
  refine ⟨fun hb=>?_,q4⟩
  rcases q2 with rfl | ⟨rfl,e,he,rfl,hq⟩
  ·trivial
  ·exact (hsat.sdep e he).1.dep (g:=g) h1.jle (fun t ht=>by rw[h6 t (hq t ht),hkeep t (hq t ht)]) (q3 hb)
 ·intro e he
  rcases List.mem_cons.1 he with rfl | he
  ·exact ⟨hkr s,C3 (X9 s)⟩
  ·rcases fH he with ⟨q1,q2⟩ | ⟨q1,q2⟩
   ·exact ⟨(hsat.sdep e q1).1,fun t ht=>C3 (hkt' s) t (q2 t ht)⟩
   ·rw[q1,q2]; exact ⟨inferInstance,fun _ h=>by cases h⟩
end
section
variable {P:Program} {w0:World} {J0:JV} {bor om:List Nat} {n0:Nat} {S:i5} {M:i1} {fn:Func} {keep:List Nat} {bks:Nat->Bk} {n:Nat} {σ:Type} {M':σ->i1} {res:σ->d5} {R:σ->Prop}
theorem g6.inlX (s:σ) (hR:R s) (hr:fn.results=#[]) (he:d6 ⟨w0,J0,bor,n0,none,false,om⟩ S M (L0 n bks keep) (M' s)) (hk:EU (L0 n bks keep) n bks keep) (hres:res s=i9 (.tuple #[])):g6 ⟨w0,J0,bor,n0,none,false,om⟩ S M (bodyPost P fn (NP ⟨w0,J0,bor,n0,none,false,om⟩ keep bks M' res R)):=by
 intro a g w hs
 obtain ⟨g',hs'⟩:=he a g w hs
 exact ⟨hs'.defers.1,.tuple #[],by simp[results,hr],s,hR,eS hs' hk (by rw[hres]; rfl)⟩
theorem d9.inlX (s:σ) (hR:R s) {t:Nat} {k:d5} {dep:List Nat} (hr:fn.results=#[.tmp t]) (he:d6 ⟨w0,J0,bor,n0,none,false,om⟩ S M (⟨t,true,dep,k⟩::L0 n bks keep) (M' s)) (hk:EU (⟨t,true,dep,k⟩::L0 n bks keep) n bks keep) (hc:∀(g:Gh) (v:Value),k g v->res s g v):d9 ⟨w0,J0,bor,n0,none,false,om⟩ S M (bodyPost P fn (NP ⟨w0,J0,bor,n0,none,false,om⟩ keep bks M' res R)):=by
 intro a g w hs
 obtain ⟨g',hs'⟩:=he a g w hs
 exact ⟨hs'.defers.1,_,results_tmp hr _ _ _,s,hR,eS hs' hk (hc _ _ ((hs'.slots t true _ (by simp[look])).1 rfl))⟩
end
end Go.Fl

/- slices.Insert at []int, one value: a step of a walk. -/
namespace Go.Fl
open Go Go.RowKit
theorem KC {b:Nat}:∀(vs:List Value) (o:Nat) (w:World) {cs:Array Value} {ty:TypeId} {fz:Nat×Nat},w.heap[b]?=some (.cells cs ty fz) ->
  ∃cs',(w.setCells b o vs).heap[b]?=some (.cells cs' ty fz)/\cs'.size=cs.size/\∀k,k<cs.size->cs'[k]?=if o<=k/\k<o+vs.length then vs[k-o]? else cs[k]?
 | [],o,w,cs,ty,fz,h=>⟨cs,h,rfl,fun k _=>by rw[if_neg (by simp only[List.length_nil]; omega)]⟩
 | v::vs,o,w,cs,ty,fz,h=>by
  have h1:(w.setCell ⟨b,o,none⟩ v).heap[b]?=some (.cells (cs.setIfInBounds o v) ty fz):=by
   simp only[World.setCell,Array.getElem?_modify,if_true,h]
   rfl
  obtain ⟨cs',h2,h3,h4⟩:=KC vs (o+1) (w.setCell ⟨b,o,none⟩ v) h1
  refine ⟨cs',h2,by rw[h3]; simp,fun k hk=>?_⟩
  rw[h4 k (by simpa using hk)]
  simp only[List.length_cons]
  by_cases e:k=o
  ·subst e
   rw[if_neg zo,if_pos zo,Nat.sub_self]
   simp[hk]
  ·by_cases q:o+1<=k/\k<o+1+vs.length
   ·rw[if_pos q,if_pos zo,show k-o=k-(o+1)+1 by omega]; rfl
   ·rw[if_neg q,if_neg zo]
    rw[Array.getElem?_setIfInBounds_ne (Ne.symm e)]
theorem KD {b:Nat}:∀(vs:List Value) (o:Nat) (w:World),(w.setCells b o vs).os=w.os/\(w.setCells b o vs).tape=w.tape/\(w.setCells b o vs).output=w.output/\(w.setCells b o vs).heap.size=w.heap.size/\(w.setCells b o vs).drawn=w.drawn/\∀k,k≠b->(w.setCells b o vs).heap[k]?=w.heap[k]?
 | [],_,_=>⟨rfl,rfl,rfl,rfl,rfl,fun _ _=>rfl⟩
 | v::vs,o,w=>by
  obtain ⟨h1,h2,h3,h4,h5,h6⟩:=KD vs (o+1) (w.setCell ⟨b,o,none⟩ v)
  refine ⟨h1,h2,h3,h4.trans (by simp[World.setCell]),h5,fun k hk=>(h6 k hk).trans ?_⟩
  simp[World.setCell,Array.getElem?_modify,Ne.symm hk]
theorem TK {z:Bool} {ty:TypeId} {xs:List Int} {n b cap:Nat} {g:Gh} {cs:Array Value} (hl:xs.length=n) (hz:z=true->n≠0) (hs:cs.size=cap) (h1:n<=cap) (h2:cap<=maxLen) (h:∀k,k<n->cs[k]?=some (.int .i64 (b6 xs k))):l3 z ty eI xs n g (.blk b cap) (some (.cells cs ty (0,0))):=by
 refine ⟨hl,hz,cs,rfl,by rw[hs]; exact (Nat.mul_one _).symm,h1,h2,fun k x hx=>⟨[.int .i64 x],rfl,fun j v hj=>?_⟩⟩
 have hk:=(List.getElem?_eq_some_iff.1 hx).1
 have e:x=b6 xs k:=by simp[b6,hx]
 match j with
 | 0 =>
  simp at hj; subst hj
  show cs[k*1+0]?=_
  rw[Nat.mul_one,Nat.add_zero,h k zo,e]
 | j+1=>simp at hj
theorem ZW {xs:List Int} {n:Nat} {g:Gh} {cs:Array Value} (hl:xs.length=n) (h:∀i x,xs[i]?=some x->∃ds,eI.rd g.J ds x/\∀j v,ds[j]?=some v->cs[i*eI.n+j]?=some v):∀k,k<n->cs[k]?=some (.int .i64 (b6 xs k)):=fun k hk=>by
 obtain ⟨ds,k1,k2⟩:=h k _ (F5 zo)
 have k1:ds=[.int .i64 (b6 xs k)]:=k1
 subst k1
 have:=k2 0 _ rfl
 simpa [eI,DV] using this
def DA (xs:List Int) (i:Nat) (v:Int):List Int:=xs.take i++[v]++xs.drop i
theorem VI {xs:List Int} {i:Nat} {v:Int} (h:i<=xs.length):(DA xs i v).length=xs.length+1:=by simp[DA]; omega
theorem QN {xs:List Int} {i k:Nat} {v:Int} (h:i<=xs.length):b6 (DA xs i v) k=if k<i then b6 xs k else if k=i then v else b6 xs (k-1):=by
 unfold DA b6
 simp only[List.getD_eq_getElem?_getD]
 have hl:(xs.take i).length=i:=by rw[List.length_take]; omega
 by_cases h1:k<i
 ·rw[if_pos h1,List.append_assoc,List.getElem?_append_left zo,List.getElem?_take,if_pos h1]
 ·rw[if_neg h1]
  by_cases h2:k=i
  ·subst h2
   rw[if_pos rfl,List.append_assoc,List.getElem?_append_right zo,hl,Nat.sub_self]; rfl
  ·rw[if_neg h2,List.getElem?_append_right (by simp; omega),List.getElem?_drop]
   congr 2
   simp; omega
theorem PP {w:World} {b o:Nat} {cs:Array Value} {ty:TypeId} (h:w.heap[b]?=some (.cells cs ty (0,0))):w.frozen? ⟨b,o,none⟩=false:=by simp[World.frozen?,h]
theorem vY {xs:List Int} {j:Nat} {v:Value} (h:(xs.map (Value.int .i64))[j]?=some v):j<xs.length/\v=.int .i64 (b6 xs j):=by
 rw[List.getElem?_map] at h
 cases e:xs[j]? with
 | none=>rw[e] at h; cases h
 | some x =>
  rw[e] at h
  simp only[Option.map_some,Option.some.injEq] at h
  exact ⟨(List.getElem?_eq_some_iff.1 e).1,by subst h; simp[b6,e]⟩
section
variable {P:Program} {c:m9} {ops:Array Oper} {S:i5} {M:i1} {rest:List Oper} {Q:Exit->Act->World->Prop}
variable {d:Nat} {ty:TypeId} {pos:String} {af:Array Edge} {x y z:Operand}
set_option maxHeartbeats 1000000 in
theorem b8.insI {ρ:Go.Shelf.Ren} (L:Go.Proofs.Lays2.n21 P ρ) {f:FuncId} (hf:ρ.f 21=f) [hfn:d8 P f] {tys:Array TypeId} {zb zb':Bool} {et et':TypeId} {xs:List Int} {v:Int} {u r n i:Nat} {dep dep':List Nat} {M':i1} (hty:ρ.t 3=et)
  (hx:j2 S x=some (true,o5 u n)) [hl:p9 M u (l3 zb et eI xs n) dep] (hy:j2 S y=some (true,kI (i:Int))) (hi:i<=n) (hz:j2 S z=some (true,o5 r 1)) [hr:p9 M r (l3 zb' et' eI [v] 1) dep'] (hru:Nat.beq r u=false) (hbig:n<=1000)
  [hup:D4 M u (l3 zb et eI (DA xs i v) (n+1)) [] M'] (hnd:K0 u M=true) (hn:Nat.blt d c.n=true) (K:b8 P c ops (⟨d,true,[u],o5 u (n+1)⟩::G6 u S) M' rest Q) :
  b8 P c ops S M (⟨some d,.call { callee:=.value (.func f),args:=#[x,y,z],argTypes:=tys },ty,pos,af,none⟩::rest) Q:=by
 intro a g w hsat
 have hne:r≠u:=Nat.ne_of_beq_eq_false hru
 have hdn:d<c.n:=by simpa [Nat.blt_eq] using hn
 have ey:a.eval y=.int .i64 (i:Int):=A8 hsat.slots hy rfl
 obtain ⟨br,cr,mr,ez,csr,hcr,ccr⟩:∃br cr,g.M r=some (.blk br cr)/\a.eval z=.slice (some ⟨br,0,none⟩) 1 cr/\∃csr:Array Value,w.heap[br]?=some (.cells csr et' (0,0))/\csr[0]?=some (.int .i64 v):=by
  rcases A8 hsat.slots hz rfl with ⟨_,h0,_⟩ | ⟨b,cap,h1,h2⟩
  ·cases h0
  ·obtain ⟨_,_,cs,h3,_,_,_,h4⟩:=DO (xs:=[v]) hsat.conts h1
   have:=ZW (g:=g) (xs:=[v]) rfl h4 0 zo
   exact ⟨b,cap,h1,h2,cs,h3,this⟩
 have hvs:∀(j:Nat) (q:Value),([Value.int .i64 v]:List Value)[j]?=some q->w.cell? ⟨br,0+j,none⟩=some q:=fun j q hj=>by
  match j with
  | 0=>simp at hj; subst hj; exact L1 hcr ccr
  | j+1=>simp at hj
 have h1v:∀q∈([Value.int .i64 v]:List Value),q.oneCell'=true:=fun q hq=>by rw[List.mem_singleton.1 hq]; rfl
 have h1c:∀q∈xs.map (Value.int .i64),q.oneCell'=true:=fun q hq=>by obtain ⟨_,_,rfl⟩:=List.mem_map.1 hq; rfl
 refine wpList_plain rfl fun K' hK'=>?_
 unfold Oper.wp
 simp only[execOp,resolve,Act.eval,Deferred.ofValue,Sem.run_bind,Sem.run_pure,Result.andThen_ok,invoke,List.map_toArray,List.map_cons,List.map_nil,Array.append_empty,Array.empty_append]
 rw[hfn.run]
 simp only[Oper.upon]
 have finish:∀{bk bk':Bk} {w':World} {v':Value},g.M u=some bk->EP bk w w'->(∀b cap,bk'=.blk b cap->(∃cap0,bk=.blk b cap0)\/(w.heap.size<=b/\b<w'.heap.size)) ->
   l3 zb et eI (DA xs i v) (n+1) ⟨g.J,fun t=>if t=u then some bk' else g.M t⟩ bk' (World.objAt w' bk')->o5 u (n+1) ⟨g.J,fun t=>if t=u then some bk' else g.M t⟩ v' ->
   K' (a.put (some d) v') w':=by
  intro bk bk' w' v' hm hbut hbk hct hkk
  exact hK' _ _ (K _ _ _ (hsat.rebind hm (hsat.nomark hl hm) hbut hup hnd inferInstance hbk hct hdn hkk))
 have grown:∀{bk:Bk} {cp:Nat} {w1:World} {cs:Array Value},g.M u=some bk->xs.length=n->cp<=n->w1.os=w.os->w1.tape=w.tape->w1.output=w.output->w1.heap.size=w.heap.size+1->dz w.drawn<=dz w1.drawn->(∀k,k<w.heap.size->w1.heap[k]?=w.heap[k]?) ->
   w1.heap[w.heap.size]?=some (.cells cs et (0,0))->cs.size=grownCap w (n+1) cp et->(∀k,k<n+1->cs[k]?=some (.int .i64 (b6 (DA xs i v) k)))->K' (a.put (some d) (.slice (some ⟨w.heap.size,0,none⟩) (n+1) (grownCap w (n+1) cp et))) w1:=by
  intro bk cp w1 cs hm hxl hcp e1 e2 e3 e4 e5 e6 e7 e8 e9
  refine finish (bk':=.blk w.heap.size (grownCap w (n+1) cp et)) hm ⟨e1,e2,e3,by omega,fun q hq _=>e6 q hq,e5⟩ (fun b cap hb=>by cases hb; exact .inr ⟨Nat.le_refl _,by omega⟩) ?_ (.inr ⟨_,_,if_pos rfl,rfl⟩)
  show l3 zb et eI _ _ _ _ (w1.heap[w.heap.size]?)
  rw[e7]
  exact TK (by rw[VI zo,hxl]) (fun _=>zo) e8 (grownCap_ge _ _ _ _) (grownCap_le_maxLen _ _ _ _ (by simp only[maxLen]; omega)) e9
 show Calls P f #[a.eval x,a.eval y,a.eval z] w _
 rw[<- hf,ey,ez]
 rcases A8 hsat.slots hx rfl with ⟨hm,h0,ex⟩ | ⟨b,cap,hm,ex⟩
 ·-- nowhere yet
  subst h0
  obtain ⟨bk,q1,q2,_⟩:=hsat.conts _ hl.mem
  have hxs:xs=[]:=List.eq_nil_of_length_eq_zero q2
  subst hxs
  obtain rfl:i=0:=by omega
  rw[ex]
  refine (Go.Proofs.Any2.slices_Insert_int_end_grow L none 0 0 br 0 1 cr [] [.int .i64 v] w zo zo zo zo rfl rfl (fun _=>rfl) (fun a h=>by cases h) hvs h1v).mono fun e w' he=>?_
  obtain ⟨rfl,rfl⟩:=he
  rw[hty]
  refine grown (cp:=0) hm rfl zo rfl rfl rfl (by simp) (DU _) (fun k hk=>Below.heap_alloc w.drew _ k hk) (heap_alloc_new w.drew _) ?_ ?_
  ·have hge:=grownCap_ge w (0+1) 0 et
   generalize grownCap w (0+1) 0 et=G at *
   have hv:(Value.int .i64 0).cells.size=1:=rfl
   simp only[Array.size_append,List.size_toArray,size_zeroCells,hv,List.nil_append,List.length_singleton]
   omega
  ·intro k hk
   obtain rfl:k=0:=by omega
   rw[Array.getElem?_append_left (by simp)]
   rfl
 ·obtain ⟨h0,hzl,cs,h3,h4,h5,h6,h7⟩:=DO (xs:=xs) hsat.conts hm
  have h4:cs.size=cap:=by rw[h4]; exact Nat.mul_one _
  have hc:=ZW h0 h7
  have hbb:br≠b:=fun e=>hne (hsat.ok.inj _ _ _ _ _ mr (e▸hm))
  have hcs:∀(j:Nat) (q:Value),(xs.map (Value.int .i64))[j]?=some q->w.cell? ⟨b,0+j,none⟩=some q:=fun j q hj=>by
   obtain ⟨hj1,rfl⟩:=vY hj
   rw[Nat.zero_add]; exact L1 h3 (hc j zo)
  have hml:(xs.map (Value.int .i64)).length=n:=by rw[List.length_map,h0]
  have hmg:∀j,j<n->(xs.map (Value.int .i64))[j]?=some (.int .i64 (b6 xs j)):=fun j hj=>by
   rw[List.getElem?_map,F5 zo]; rfl
  have hsp:∀j,j<cap->(w.cell? ⟨b,0+j,none⟩).isSome=true:=fun j hj=>by
   rw[Nat.zero_add,L1 (v:=cs[j]'zo) h3 (by simp)]; rfl
  rw[ex]
  by_cases room:n+1<=cap
  ·by_cases hin:i=n
   ·subst hin
    refine (Go.Proofs.Any2.slices_Insert_int_end_room L b 0 i cap br 0 1 cr [.int .i64 v] w zo zo (by simp only[maxLen] at h6; omega) rfl (fun j hj=>by
     have:=hsp (i+j) zo
     rw[show 0+i+j=0+(i+j) by omega]; exact this) (fun j hj=>PP h3) hvs h1v).mono fun e w' he=>?_
    obtain ⟨rfl,rfl⟩:=he
    obtain ⟨c1,c2,c3,c4,c5,c6⟩:=KD (b:=b) [Value.int .i64 v] (0+i) w
    obtain ⟨cs',d1,d2,d3⟩:=KC (b:=b) [Value.int .i64 v] (0+i) w h3
    refine finish (bk':=.blk b cap) hm ⟨c1,c2,c3,by omega,fun k _ hk=>c6 k (fun e'=>hk cap (by rw[e'])),by rw[c5]; exact Nat.le_refl _⟩ (fun b' cap' hb=>by cases hb; exact .inl ⟨_,rfl⟩) ?_ (.inr ⟨_,_,if_pos rfl,rfl⟩)
    show l3 zb et eI _ _ _ _ ((w.setCells b (0+i) [Value.int .i64 v]).heap[b]?)
    rw[d1]
    refine TK (by rw[VI zo,h0]) (fun _=>zo) zo room h6 fun k hk=>?_
    rw[d3 k zo,QN zo]
    by_cases hk':k<i
    ·rw[if_neg zo,if_pos hk',hc k hk']
    ·obtain rfl:k=i:=by omega
     rw[if_pos (by simp),if_neg hk',if_pos rfl]
     simp
   ·have hin:i<n:=by omega
    refine (Go.Proofs.Any2.slices_Insert_int_shift L b 0 n cap i br 0 1 cr (xs.map (Value.int .i64)) [.int .i64 v] w hin zo zo (by simp only[maxLen] at h6; omega) hbb hml rfl hcs (fun j hj=>hsp j zo) (fun j hj=>PP h3) hvs h1c h1v et' et csr.size cs.size (by simp[World.shape?,hcr]) (by simp[World.shape?,h3]) zo (PP hcr) (PP hcr)).mono fun e w' he=>?_
    obtain ⟨rfl,rfl⟩:=he
    have h3':w.drew.heap[b]?=some (.cells cs et (0,0)):=h3
    obtain ⟨c1,c2,c3,c4,c5,c6⟩:=KD (b:=b) ((xs.map (Value.int .i64)).drop i) (0+(i+1)) w.drew
    obtain ⟨cs1,d1,d2,d3⟩:=KC (b:=b) ((xs.map (Value.int .i64)).drop i) (0+(i+1)) w.drew h3'
    obtain ⟨f1,f2,f3,f4,f5,f6⟩:=KD (b:=b) [Value.int .i64 v] (0+i) (w.drew.setCells b (0+(i+1)) ((xs.map (Value.int .i64)).drop i))
    obtain ⟨cs2,g1,g2,g3⟩:=KC (b:=b) [Value.int .i64 v] (0+i) (w.drew.setCells b (0+(i+1)) ((xs.map (Value.int .i64)).drop i)) d1
    refine finish (bk':=.blk b cap) hm ⟨f1.trans c1,f2.trans c2,f3.trans c3,by rw[f4,c4]; exact Nat.le_refl _,fun k _ hk=>(f6 k (fun e'=>hk cap (by rw[e']))).trans (c6 k (fun e'=>hk cap (by rw[e']))),by rw[f5,c5]; exact DU _⟩ (fun b' cap' hb=>by cases hb; exact .inl ⟨_,rfl⟩) ?_ (.inr ⟨_,_,if_pos rfl,rfl⟩)
    show l3 zb et eI _ _ _ _ ((World.setCells _ b (0+i) [Value.int .i64 v]).heap[b]?)
    rw[g1]
    refine TK (by rw[VI zo,h0]) (fun _=>zo) zo room h6 fun k hk=>?_
    rw[g3 k zo,QN zo]
    by_cases k1:k<i
    ·rw[if_neg zo,if_pos k1,d3 k zo,if_neg zo,hc k zo]
    ·by_cases k2:k=i
     ·subst k2
      rw[if_pos (by simp),if_neg k1,if_pos rfl]; simp
     ·rw[if_neg (by simp; omega),if_neg k1,if_neg k2,d3 k zo,if_pos (by rw[List.length_drop,hml]; omega),List.getElem?_drop,show i+(k-(0+(i+1)))=k-1 by omega,hmg (k-1) zo]
  ·obtain rfl:cap=n:=by omega
   by_cases hin:i=cap
   ·subst hin
    refine (Go.Proofs.Any2.slices_Insert_int_end_grow L (some ⟨b,0,none⟩) i i br 0 1 cr (xs.map (Value.int .i64)) [.int .i64 v] w zo zo zo zo hml rfl (fun h=>by cases h) (fun a h=>by cases h; intro j q hj; rw[Addr.add_lit]; exact hcs j q hj) hvs h1v).mono fun e w' he=>?_
    obtain ⟨rfl,rfl⟩:=he
    rw[hty]
    have hge:=grownCap_ge w (i+1) i et
    refine grown hm h0 zo rfl rfl rfl (by simp) (DU _) (fun k hk=>Below.heap_alloc w.drew _ k hk) (heap_alloc_new w.drew _) ?_ ?_
    ·simp only[Array.size_append,List.size_toArray,size_zeroCells,List.length_append,hml]
     simp[Value.cells]; omega
    ·intro k hk
     rw[QN zo]
     rw[Array.getElem?_append_left (by simp; omega)]
     by_cases k1:k<i
     ·rw[if_pos k1]
      rw[List.getElem?_toArray,List.getElem?_append_left zo]
      exact hmg k k1
     ·obtain rfl:k=i:=by omega
      rw[if_neg k1,if_pos rfl,List.getElem?_toArray,List.getElem?_append_right zo,hml,Nat.sub_self]; rfl
   ·have hin:i<cap:=by omega
    refine (Go.Proofs.Any2.slices_Insert_int_grow L b 0 cap cap i br 0 1 cr (xs.map (Value.int .i64)) [.int .i64 v] w hin zo zo zo zo hml rfl hcs hvs h1c h1v).mono fun e w' he=>?_
    obtain ⟨rfl,rfl⟩:=he
    rw[hty]
    have hge:=grownCap_ge w (cap+1) cap et
    generalize hA:((List.take i (xs.map (Value.int .i64))).toArray++Builtin.zeroCells (Value.int .i64 0).cells (cap+1-i)++Builtin.zeroCells (Value.int .i64 0).cells (grownCap w (cap+1) cap et-(cap+1)))=A0
    have hAs:A0.size=grownCap w (cap+1) cap et:=by
     rw[<- hA]
     simp only[Array.size_append,List.size_toArray,size_zeroCells,List.length_take,hml]
     simp[Value.cells]; omega
    have hAg:∀k,k<i->A0[k]?=some (.int .i64 (b6 xs k)):=fun k hk=>by
     rw[<- hA,Array.append_assoc,Array.getElem?_append_left (by simp; omega),List.getElem?_toArray,List.getElem?_take,if_pos hk]
     exact hmg k zo
    have e1:((w.alloc (.cells A0 et)).drew).heap[w.heap.size]?=some (.cells A0 et (0,0)):=heap_alloc_new w _
    obtain ⟨c1,c2,c3,c4,c5,c6⟩:=KD (b:=w.heap.size) [Value.int .i64 v] i (w.alloc (.cells A0 et)).drew
    obtain ⟨cs1,d1,d2,d3⟩:=KC (b:=w.heap.size) [Value.int .i64 v] i (w.alloc (.cells A0 et)).drew e1
    have e2:((w.alloc (.cells A0 et)).drew.setCells w.heap.size i [Value.int .i64 v]).drew.heap[w.heap.size]?=some (.cells cs1 et (0,0)):=d1
    obtain ⟨f1,f2,f3,f4,f5,f6⟩:=KD (b:=w.heap.size) ((xs.map (Value.int .i64)).drop i) (i+1) ((w.alloc (.cells A0 et)).drew.setCells w.heap.size i [Value.int .i64 v]).drew
    obtain ⟨cs2,g1,g2,g3⟩:=KC (b:=w.heap.size) ((xs.map (Value.int .i64)).drop i) (i+1) ((w.alloc (.cells A0 et)).drew.setCells w.heap.size i [Value.int .i64 v]).drew e2
    refine grown hm h0 zo (f1.trans c1) (f2.trans c2) (f3.trans c3) (f4.trans (c4.trans (by simp))) ?_ (fun k hk=>(f6 k zo).trans ((c6 k zo).trans (Below.heap_alloc w _ k hk))) g1 zo fun k hk=>?_
    ·rw[f5]
     refine Nat.le_trans ?_ (DU _)
     rw[c5]
     exact DU _
    ·rw[g3 k zo,QN zo]
     by_cases k1:k<i
     ·rw[if_neg zo,if_pos k1,d3 k zo,if_neg zo,hAg k k1]
     ·by_cases k2:k=i
      ·subst k2
       rw[if_neg zo,if_neg k1,if_pos rfl,d3 k zo,if_pos (by simp)]; simp
      ·rw[if_pos (by rw[List.length_drop,hml]; omega),if_neg k1,if_neg k2,List.getElem?_drop,show i+(k-(i+1))=k-1 by omega,hmg (k-1) zo]
end
end Go.Fl

/- Pointers into immutable memory, in any order. -/
namespace Go.Fl
open Go Go.RowKit
section
variable {P:Program} {c:m9} {S:i5} {M:i1} {Sp:World->Prop} {d:Option Tmp} {ty:TypeId} {pos:String} {af:Array Edge} {gd:Option (Nat×Bool)} {x y:Operand}
theorem ST {α:Type} {e:i8 α} {v:α} (hx:j2 S x=some (true,s6 e v)):X4 P c S M Sp ⟨d,.nilCheck x,ty,pos,af,gd⟩ (s6 e v):=fun a g _ hs _=>by
 have hk:=A8 hs.slots hx rfl
 obtain ⟨b,o,ds,h1,h2⟩:=id hk
 exact ⟨a.eval x,fun _ _=>by simp[execOp,h1],hk⟩
theorem SR {s:TypeId} {f off:Nat} [ht:t6 P s f off] {α β:Type} {e:i8 α} {v:α} {e':i8 β} {v':β} {off':Nat} [hf:v7 e v f e' v' off'] (hx:j2 S x=some (true,s6 e v)) (ho:off=off') :
  X4 P c S M Sp ⟨d,.fieldAddr s x f,ty,pos,af,gd⟩ (s6 e' v'):=fun a g _ hs _=>by
 obtain ⟨bl,o,ds,h1,h2,h3⟩:=A8 hs.slots hx rfl
 obtain ⟨es,k1,k2⟩:=hf.imp h2
 refine ⟨.pointer (some ⟨bl,o+off,none⟩),fun _ _=>by simp[execOp,h1,ht.run,Addr.add_lit],bl,o+off',es,by rw[ho],k1,fun j u hj=>?_⟩
 rw[Nat.add_assoc]
 exact h3 _ _ (k2 j u hj)
end
end Go.Fl

/- Immutable rows in drawn regions: elements and parts, in any order. -/
namespace Go.Fl
open Go Go.RowKit
section
variable {P:Program} {c:m9} {S:i5} {M:i1} {Sp:World->Prop} {d:Option Tmp} {ty:TypeId} {pos:String} {af:Array Edge} {gd:Option (Nat×Bool)} {x y:Operand}
theorem ai3 {t et:TypeId} [ht:B7 P t et] {sz by':Nat} {zz:Value} [hz:o8 P et sz by' zz] {α:Type} [Inhabited α] {e:i8 α} {xs:List α} {ik:IntKind} {i0:Int} (hx:j2 S x=some (true,b7 (eL e) xs)) (hy:j2 S y=some (true,y8 ik i0)) (hs:sz=e.n) (h:0<=i0/\i0<xs.length) :
  X4 P c S M Sp ⟨d,.indexAddr t x y,ty,pos,af,gd⟩ (s6 e (b6 xs i0.toNat)):=fun a g _ hsat _=>by
 have hi:a.eval y=_:=A8 hsat.slots hy rfl
 obtain ⟨cs,⟨ad,cap,rfl,⟨hl1,hl2⟩,hr⟩,h2⟩:=A8 hsat.slots hx rfl
 simp only[eL,Bool.false_eq_true,if_false,List.headD_cons] at h2
 rcases hr with rfl | ⟨bl,o,rfl,hrow⟩
 ·simp at h; omega
 obtain ⟨ds,k1,k2⟩:=hrow i0.toNat (b6 xs i0.toNat) (F5 zo)
 exact ⟨.pointer (some ⟨bl,o+i0.toNat*sz,none⟩),fun _ _=>by simp only[execOp,h2,hi,Sem.run_bind,GT (P:=P) h,Result.andThen_ok,Sem.run_pure],bl,o+i0.toNat*sz,ds,rfl,k1,by rw[hs]; exact k2⟩
theorem ai4 {t et:TypeId} [ht:B7 P t et] {sz by':Nat} {zz:Value} [hz:o8 P et sz by' zz] {α:Type} {e:i8 α} {xs:List α} {ik:IntKind} {i0:Int} (hx:j2 S x=some (true,b7 (eL e) xs)) (hy:j2 S y=some (true,y8 ik i0)) (h:0<=i0/\i0<=xs.length) :
  X4 P c S M Sp ⟨d,.slice t x none (some y) none,ty,pos,af,gd⟩ (b7 (eL e) (xs.take i0.toNat)):=fun a g _ hsat _=>by
 have hi:a.eval y=_:=A8 hsat.slots hy rfl
 obtain ⟨i,rfl⟩:∃i:Nat,i0=i:=⟨i0.toNat,by omega⟩
 rw[Int.toNat_natCast]
 have hlt:i<=xs.length:=by omega
 obtain ⟨cs,⟨ad,cap,rfl,⟨hl1,hl2⟩,hr⟩,h2⟩:=A8 hsat.slots hx rfl
 simp only[eL,Bool.false_eq_true,if_false,List.headD_cons] at h2
 obtain ⟨j,hj,rfl,rfl,_⟩:=hz.h
 have hun:P.underlying t=some (.slice (P.elem t)):=by rw[ht.h]; simp[Program.elem,ht.h]
 have hel:P.elem t=et:=by simp[Program.elem,ht.h]
 have hsz:∀w,(sizeOf et).run P w=.ok j.size w:=fun w=>by simp[sizeOf,typeInfo,hj]
 refine ⟨sliced ad 0 i cap j.size,fun w _=>?_,?_⟩
 ·simp only[execOp,h2,hi,Option.map]
  rw[Sem.run_bind,run_sliceAt_slice w t _ _ _ _ hun,run_slice_h w t _ xs.length cap hun ik i zo zo,hel]
  simp only[Result.andThen_ok,Sem.run_pure,hsz,Int.toNat_natCast]
 ·have hmin:(xs.take i).length=i:=by rw[List.length_take]; omega
  rcases hr with rfl | ⟨bl,o,rfl,hrow⟩
  ·obtain rfl:i=0:=by simpa using hlt
   exact ⟨[sliced ad 0 0 cap j.size],⟨if cap=0 then ad else ad.map (·.add (0*j.size)),cap-0,rfl,⟨by simp,by simp⟩,.inl (by simp)⟩,rfl⟩
  ·refine ⟨[sliced (some ⟨bl,o,none⟩) 0 i cap j.size],⟨if cap=0 then some ⟨bl,o,none⟩ else (some ⟨bl,o,none⟩:Option Addr).map (·.add (0*j.size)),cap-0,?_,⟨by rw[hmin]; omega,by rw[hmin,Nat.sub_zero]; omega⟩,.inr ⟨bl,o,?_,hrow.take⟩⟩,rfl⟩
   ·simp only[sliced,hmin,Nat.sub_zero]
   ·split<;>simp[Addr.add]
theorem ai5 {t et:TypeId} [ht:B7 P t et] {sz by':Nat} {zz:Value} [hz:o8 P et sz by' zz] {α:Type} {e:i8 α} {xs:List α} {ik:IntKind} {i0:Int} (hx:j2 S x=some (true,b7 (eL e) xs)) (hy:j2 S y=some (true,y8 ik i0)) (hs:sz=e.n) (h:0<=i0/\i0<=xs.length) :
  X4 P c S M Sp ⟨d,.slice t x (some y) none none,ty,pos,af,gd⟩ (b7 (eL e) (xs.drop i0.toNat)):=fun a g _ hsat _=>by
 have hi:a.eval y=_:=A8 hsat.slots hy rfl
 obtain ⟨i,rfl⟩:∃i:Nat,i0=i:=⟨i0.toNat,by omega⟩
 rw[Int.toNat_natCast]
 have hlt:i<=xs.length:=by omega
 obtain ⟨cs,⟨ad,cap,rfl,⟨hl1,hl2⟩,hr⟩,h2⟩:=A8 hsat.slots hx rfl
 simp only[eL,Bool.false_eq_true,if_false,List.headD_cons] at h2
 obtain ⟨j,hj,rfl,rfl,_⟩:=hz.h
 have hun:P.underlying t=some (.slice (P.elem t)):=by rw[ht.h]; simp[Program.elem,ht.h]
 have hel:P.elem t=et:=by simp[Program.elem,ht.h]
 have hsz:∀w,(sizeOf et).run P w=.ok j.size w:=fun w=>by simp[sizeOf,typeInfo,hj]
 refine ⟨sliced ad i xs.length cap j.size,fun w _=>?_,?_⟩
 ·simp only[execOp,h2,hi,Option.map]
  rw[Sem.run_bind,run_sliceAt_slice w t _ _ _ _ hun,run_slice_l w t _ xs.length cap hun ik i zo zo,hel]
  simp only[Result.andThen_ok,Sem.run_pure,hsz,Int.toNat_natCast]
 ·have hmin:(xs.drop i).length=xs.length-i:=List.length_drop
  refine ⟨[sliced ad i xs.length cap j.size],⟨if cap=i then ad else ad.map (·.add (i*j.size)),cap-i,?_,⟨by rw[hmin]; omega,by rw[hmin]; omega⟩,?_⟩,rfl⟩
  ·simp only[sliced,hmin]
  ·by_cases h0:xs.drop i=[]
   ·exact .inl h0
   ·have hne:i<xs.length:=by
     rcases Nat.lt_or_ge i xs.length with h | h
     ·exact h
     ·exact absurd (List.drop_eq_nil_of_le h) h0
    rcases hr with rfl | ⟨bl,o,rfl,hrow⟩
    ·simp at hne
    ·exact .inr ⟨bl,o+i*j.size,by rw[if_neg zo]; simp[Addr.add],by rw[hs]; exact hrow.drop⟩
end

def iQ (l:List Oper) (m:Nat):Bool:=(l.take m).all fun o=>o.guard.isNone
theorem nN {P:Program} {l:List Oper} {m:Nat} {Q:Exit->Act->World->Prop} (hd:ER l m) (hml:m<=l.length) (hg:iQ l m=true) :
  ∀(f:Nat) (listed listed':Array Bool) (a:Act) (w:World),listed.size=l.length->listed'.size=m->(∀i,Ld listed i↔Ld listed' i)->DL l listed ->
   wpAny P .any (l.take m).toArray (W7 fun _ a w=>wpList P l.toArray Q (l.drop m) a w) f listed' a w->wpAny P .any l.toArray Q (f+(l.length-m)) listed a w:=by
 have hpl:(l.take m).length=m:=by rw[List.length_take]; omega
 have tail:∀(F:Nat) (listed:Array Bool) (a:Act) (w:World) (listed':Array Bool),listed.size=l.length->listed'.size=m->(∀i,Ld listed i↔Ld listed' i)->(∀i,i<m->Ld listed i)->l.length-m<=F->wpList P l.toArray Q (l.drop m) a w->wpAny P .any l.toArray Q F listed a w :=
  fun F listed a w listed' h1 h2 h3 h4 h5 h6=>NH (Nat.zero_le m) hd F m listed a w h1 (fun i=>⟨fun h=>by have:=((h3 i).1 h).lt; omega,h4 i⟩) (Nat.le_refl _) hml h5 h6
 have allOf:∀(listed':Array Bool),listed'.size=m->Region.ready .any (l.take m).toArray listed'=[]->∀i,i<m->Ld listed' i:=by
  intro listed' hs h i
  induction i using Nat.strongRecOn with
  | _ i ih =>
   intro hi
   apply Classical.byContradiction
   intro hn
   have ho:=List.getElem?_eq_getElem (l:=l.take m) (i:=i) zo
   have ho2:l[i]?=some (l.take m)[i]:=by rw[<- ho,List.getElem?_take,if_pos hi]
   have:i∈Region.ready .any (l.take m).toArray listed':=(AS (by rw[hs,hpl])).2 ⟨hn,_,ho,fun e he hb=>ih e.on (hd.edge i _ ho2 e he hb) (by have:=hd.edge i _ ho2 e he hb; omega)⟩
   rw[h] at this; cases this
 intro f
 induction f with
 | zero =>
  intro listed listed' a w h1 h2 h3 _ h
  exact tail _ _ _ _ _ h1 h2 h3 (fun i hi=>(h3 i).2 (allOf _ h2 h.1 i hi)) zo h.2.2
 | succ f ih =>
  intro listed listed' a w h1 h2 h3 hc h
  by_cases hall:∀i,i<m->Ld listed i
  ·have hr:Region.ready .any (l.take m).toArray listed'=[]:=by
    rw[List.eq_nil_iff_forall_not_mem]
    intro i hi
    obtain ⟨q1,o,q2,_⟩:=(AS (by rw[h2,hpl])).1 hi
    have:=(List.getElem?_eq_some_iff.1 q2).1
    exact q1 ((h3 i).1 (hall i zo))
   exact tail _ _ _ _ _ h1 h2 h3 hall zo (h.1 hr).2
  ·obtain ⟨q,hq⟩:=Classical.not_forall.1 hall
   have hqm:q<m:=Classical.byContradiction fun h=>hq (fun h'=>absurd h' h)
   have hql:¬Ld listed q:=fun h=>hq (fun _=>h)
   rw[show f+1+(l.length-m)=f+(l.length-m)+1 by omega]
   refine ⟨fun hr=>absurd (MU hd h1 hr q zo) hql,fun i hi=>?_⟩
   obtain ⟨hnl,o,ho,hr⟩:=(AS h1).1 hi
   have hil:=(List.getElem?_eq_some_iff.1 ho).1
   have him:i<m:=Classical.byContradiction fun hge=>hql (hc.ready ho hr (hd.tail q i zo hil zo (Nat.zero_le _)))
   have hop:(l.take m)[i]?=some o:=by rw[List.getElem?_take,if_pos him]; exact ho
   have hip:i∈Region.ready .any (l.take m).toArray listed':=(AS (by rw[h2,hpl])).2 ⟨fun h=>hnl ((h3 i).2 h),o,hop,fun e he hb=>(h3 _).1 (hr e he hb)⟩
   have hgo:o.guard=none:=by
    have:=List.all_eq_true.1 hg o (List.mem_of_getElem? hop)
    simpa using this
   have hk:=h.2 i hip
   unfold wpOp at hk ⊢
   rw[List.getElem?_toArray,hop] at hk
   rw[List.getElem?_toArray,ho]
   have hwn:∀y,Region.wanted o y=true:=fun y=>by unfold Region.wanted; rw[hgo]
   simp only[hwn,if_true] at hk ⊢
   rcases hk with hk | ⟨_,hk⟩
   ·refine .inl (Oper.wp_onN (K':=fun a w=>wpList P l.toArray Q (l.drop m) a w) (Oper.wp_mono (fun a' w' h'=>ih (listed.setIfInBounds i true) (listed'.setIfInBounds i true) a' w' (by simpa using h1) (by simpa using h2) (fun j=>?_) (hc.set zo ho hr) h') hk))
    rw[Ld.set zo,Ld.set zo,h3 j]
   ·exact absurd hk LY
section
variable {P:Program} {c:m9} {l:List Oper} {S:i5} {M:i1} {Q:Exit->Act->World->Prop}
theorem Tr.drawR {id:Nat} (m:Nat) (pt ot:i1) (hsp:M=pt++ot) (hm:P.follows .mixedOrders=true) (chk:LL l m=true) (hml:Nat.ble m l.length=true) (hg:iQ l m=true) (pre:Array Oper) (hpre:(l.take m).toArray=pre) (listed':Array Bool) (hl:Array.replicate m false=listed')
  (h:∀f,f0 P c pre (fun _ a w=>wpList P l.toArray Q (l.drop m) a w) (MQ f pt) m listed' S (A2 f pt++ot)) (hr:IA c.rd l Q:=by first | exact .inl rfl | exact .inr ⟨rfl,fun ⟨_,_,h⟩=>(show False from h)⟩):Tr P c S M (.region id l.toArray true) Q:=by
 intro a g w hs
 subst hl hpre hsp
 obtain ⟨f,hf⟩:=hs.drew.pinA
 have hml:=Nat.le_of_ble_eq_true hml
 refine KJ hr hm ?_
 have:=nN (Q:=Q) (ER.of chk) hml hg m (Array.replicate l.toArray.size false) (Array.replicate m false) a w.drew (by simp) (by simp) (fun i=>⟨fun h=>?_,fun h=>?_⟩) (fun i j h=>?_) (wpAny_of_held _ _ _ _ (h f _ _ _ hf (D9 (fun _ h=>List.mem_append_left _ h) _ _ _ hf)))
 ·rw[show m+(l.length-m)=l.toArray.size by simp; omega] at this
  exact this
 all_goals
  unfold Ld at h
  rw[Array.getElem?_eq_some_iff] at h
  obtain ⟨_,h⟩:=h
  simp at h
inductive BH:i1->i1->Prop
 | nil:BH [] []
 | k {e:CE} {M1 M2:i1}:BH M1 M2->BH (e::M1) (e::M2)
 | p {t:Nat} {dep:List Nat} {ct:t8} {q:Bk×Option Obj} {M1 M2:i1} [hc:A9 ct dep]:BH M1 M2->BH (⟨t,dep,OF ct q⟩::M1) (⟨t,dep,ct⟩::M2)
theorem BH.tags {M1 M2:i1} (h:BH M1 M2):Go.Fl.tags M1=Go.Fl.tags M2:=by
 induction h with
 | nil=>rfl
 | k _ ih=>simp only[Go.Fl.tags,List.map_cons] at ih ⊢; rw[ih]
 | p _ ih=>simp only[Go.Fl.tags,List.map_cons] at ih ⊢; rw[ih]
theorem BH.mem {M1 M2:i1} (h:BH M1 M2):∀e'∈M2,∃e∈M1,e.t=e'.t/\e.dep=e'.dep/\(∀g bk o,e.c g bk o->e'.c g bk o)/\(A9 e.c e.dep->A9 e'.c e'.dep):=by
 induction h with
 | nil=>intro _ h; cases h
 | @k e _ _ _ ih =>
  intro e' he
  rcases List.mem_cons.1 he with rfl | he
  ·exact ⟨_,List.mem_cons_self,rfl,rfl,fun _ _ _ h=>h,fun h=>h⟩
  ·obtain ⟨x,hx,q⟩:=ih e' he
   exact ⟨x,List.mem_cons_of_mem _ hx,q⟩
 | @p t dep ct q _ _ hc _ ih =>
  intro e' he
  rcases List.mem_cons.1 he with rfl | he
  ·exact ⟨_,List.mem_cons_self,rfl,rfl,fun _ _ _ h=>h.1,fun _=>hc⟩
  ·obtain ⟨x,hx,q⟩:=ih e' he
   exact ⟨x,List.mem_cons_of_mem _ hx,q⟩
theorem l7.unp {a:Act} {g:Gh} {w:World} {M':i1} (hu:BH M M') (h:l7 c S M a g w):l7 c S M' a g w:=by
 refine ⟨h.ok,h.slots,fun e he=>?_,fun t ht=>by show t∈tags M'; rw[<- hu.tags]; exact h.dom t ht,by show (tags M').Nodup; rw[<- hu.tags]; exact h.nodup,fun e he=>⟨(h.sdep e he).1,fun t ht=>by show t∈tags M'; rw[<- hu.tags]; exact (h.sdep e he).2 t ht⟩,fun e he=>?_,h.defers,h.size⟩
 ·obtain ⟨e0,h0,h1,_,h3,_⟩:=hu.mem e he
  obtain ⟨bk,k1,k2⟩:=h.conts e0 h0
  exact ⟨bk,by rw[<- h1]; exact k1,h3 _ _ _ k2⟩
 ·obtain ⟨e0,h0,_,h2,_,h4⟩:=hu.mem e he
  exact ⟨h4 (h.cdep e0 h0).1,fun t ht=>by show t∈tags M'; rw[<- hu.tags]; exact (h.cdep e0 h0).2 t (by rw[h2]; exact ht)⟩
theorem f0.doneR {pre:Array Oper} {Sp:World->Prop} {n m:Nat} {listed:Array Bool} {M':i1} (hr:Region.ready .any pre listed=[]) (hu:BH M M') {rest:List Oper} (hrest:l.drop m=rest) (h:b8 P c l.toArray S M' rest Q):f0 P c pre (fun _ a w=>wpList P l.toArray Q (l.drop m) a w) Sp n listed S M :=
 f0.done hr (fun a g w hs=>by subst hrest; exact h a g w (hs.unp hu))
end
end Go.Fl
