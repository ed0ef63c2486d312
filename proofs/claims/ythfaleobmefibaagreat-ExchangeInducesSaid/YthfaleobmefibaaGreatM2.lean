/- Laws on walking typed knowledge through code, and contracts. -/
import Derived.Test.YthfaleobmefibaaGreatM1
import Derived.ProofKit
import Derived.LaidMore
import Derived.OpenShut
import Derived.Lay
import Derived.LaidOnce
import Derived.SevenTiedAt
import Derived.Stop.Joined
import Derived.Laws.CopyRow
import Derived.Laws.StructEq
import Derived.OrdersHeld
import Derived.WideLaws
import Derived.IntWalk
import Derived.Lib.SplitLaws
import Derived.Lib.Join
import Derived.Lib.AtoiAll
import Derived.Lib.ItoaNum
import Derived.Laws.BytesArg
import Derived.Shelf.Spec.SlicesInsert
import Derived.Shelf.Spec.SlicesInsertGrow

/- From the row's reading of the arguments to ours, and from a contract to the row's last step. -/
namespace Go.Fl
open Go Go.RowKit Go.ChangeShapes Go.WideShapes Go.ChangeAt
def DA (W:World):JV:=fun b o=>W.cell? ⟨b,o,none⟩
theorem tJ (W:World):Im (DA W) W:=fun _ _ _ h=>h
structure A9 (P:Program) (t:TypeId) {α:Type} (e:i7 α) (φ:α->Prop):Prop where
 imp:∀{H:Type} {enc:TypeId×Value->H} {W:World} {n:Nat} {cs:List Value} {x:DataW H×List MemPlace},
 DataW.trod enc P W 0 (fun _=>true) true n t cs=some x->(∀m∈x.1.weights P t,m<=reachBytes)->∃a,e.rd (DA W) cs a/\φ a
def AH {α β:Type} (φ:α->Prop) (ψ:β->Prop):α×β->Prop:=fun x=>φ x.1/\ψ x.2
def JP:Unit->Prop:=fun _=>True
def P2 {α:Type} [Inhabited α] (φ:α->Prop):List α->Prop:=fun xs=>xs.length<=reachBytes/\∀i,i<xs.length->φ (b6 xs i)
def Q8 (k:IntKind) (n:Int):Prop:=(Lit.int k n).wf=true
theorem uL {n:Int} (h:Q8 .i64 n):-9223372036854775808<=n/\n<=9223372036854775807:=by simpa [Q8,Lit.wf,IntKind.min,IntKind.max,IntKind.signed,IntKind.bits] using h
theorem A9.int {P:Program} {t:TypeId} {k:IntKind} [h:GW P t k]:A9 P t (EC k) (Q8 k):=⟨fun hx _=>by
 obtain ⟨n,rfl,rfl,hw⟩:=DataW.trod_int h.h hx
 exact ⟨n,rfl,hw⟩⟩
theorem jW {H:Type} {P:Program} {e:TypeId} {m:Nat} {d:DataW H}:∀{l:List (DataW H)},d∈l->m∈d.weights P e->m∈DataW.weightsAll P e l
 | x::r,hd,hm=>by
  simp only[DataW.weightsAll,List.mem_append]
  rcases List.mem_cons.1 hd with rfl | hd
  ·exact .inl hm
  ·exact .inr (jW hd hm)
theorem A9.slice {P:Program} {t et:TypeId} [ht:C5 P t et] {size bytes:Nat} {zz:Value} [hz:q7 P et size bytes zz] {α:Type} [Inhabited α] {e:i7 α} {φ:α->Prop} (h:A9 P et e φ) (hs:e.n=size) (hp:Nat.blt 0 size=true) (hb:Nat.blt 0 bytes=true) :
  A9 P t (eL e) (P2 φ):=⟨fun {H enc W n cs x} hx hw=>by
 obtain ⟨ti,hi,h1,h2,_⟩:=hz.h
 have hp':0<size:=by simpa [Nat.blt_eq] using hp
 have hb':0<bytes:=by simpa [Nat.blt_eq] using hb
 have hc:P.cellsOf et=size:=by simp[Program.cellsOf,hi,h1]
 have hby:P.bytesOf et=bytes:=by simp[Program.bytesOf,hi,h2]
 rcases DataW.trod_slice ht.h hx with ⟨rfl,rfl⟩ | ⟨a,len,cap,elems,rest,m,rfl,rfl,rfl,_,hlc,hcm,hl,hel,_,_⟩
 ·exact ⟨[],V0,Nat.zero_le _,fun i hi=>by simp at hi⟩
 ·simp only[DataW.weights,ht.h,List.mem_cons,List.mem_append] at hw
  have hlen:len<=reachBytes:=by
   have:=hw _ (.inl rfl)
   rw[hby] at this
   simp only[List.length_map] at this
   have h3:elems.length+rest.length<=(elems.length+rest.length)*bytes:=Nat.le_mul_of_pos_right _ hb'
   omega
  have one:∀i,i<len->∃ds y,W.cells? 0 (a.add (i*size)) size=some ds/\e.rd (DA W) ds y/\φ y:=fun i hi=>by
   have h4:=hel i hi
   rw[hc,List.getElem?_eq_getElem zo] at h4
   cases hcs:W.cells? 0 (a.add (i*size)) size with
   | none=>rw[hcs] at h4; simp at h4
   | some ds =>
    rw[hcs] at h4
    simp only[Option.bind_some] at h4
    obtain ⟨y,hy1,hy2⟩:=h.imp h4 (fun q hq=>hw q (.inr (.inl (jW (List.mem_map.2 ⟨_,List.getElem_mem _,rfl⟩) hq))))
    exact ⟨ds,y,rfl,hy1,hy2⟩
  let f:Nat->α:=fun i=>if hi:i<len then (one i hi).choose_spec.choose else default
  have hf:∀i (hi:i<len),∃ds,W.cells? 0 (a.add (i*size)) size=some ds/\e.rd (DA W) ds (f i)/\φ (f i):=fun i hi=>by
   refine ⟨(one i hi).choose,?_⟩
   simp only[f,dif_pos hi]
   exact (one i hi).choose_spec.choose_spec
  have hxl:((List.range len).map f).length=len:=by simp
  refine ⟨(List.range len).map f,⟨some a,cap,by rw[hxl],⟨by rw[hxl]; simp only[t6]; simp only[reachBytes] at hlen; omega,by rw[hxl]; exact hlc⟩,?_⟩,by rw[hxl]; exact hlen,fun i hi=>?_⟩
  ·by_cases h0:len=0
   ·subst h0; exact .inl rfl
   ·have hspot:a=⟨a.block,a.off,none⟩:=by
     obtain ⟨ds,h5,_⟩:=hf 0 zo
     obtain ⟨_,h6,h7⟩:=World.cells?_some h5
     have h8:=h7 0 hp'
     have h9:ds[0]?=some (ds[0]'zo):=List.getElem?_eq_getElem zo
     rw[h9,Nat.zero_mul] at h8
     have ha:(a.add 0).add 0=a:=by simp[Addr.add]
     rw[ha] at h8
     unfold World.cell? at h8
     cases hsp:a.spot with
     | none=>cases a; simp_all
     | some q=>rw[hsp] at h8; simp at h8; split at h8<;>simp at h8
    refine .inr ⟨a.block,a.off,by rw[<- hspot],fun i y hy=>?_⟩
    have hi:i<len:=by have:=(List.getElem?_eq_some_iff.1 hy).1; omega
    rw[List.getElem?_map,List.getElem?_range hi] at hy
    simp only[Option.map_some,Option.some.injEq] at hy
    subst hy
    obtain ⟨ds,h5,h6,_⟩:=hf i hi
    refine ⟨ds,h6,fun j v hj=>?_⟩
    obtain ⟨_,h7,h8⟩:=World.cells?_some h5
    have hjl:j<size:=by have:=(List.getElem?_eq_some_iff.1 hj).1; omega
    have h9:=h8 j hjl
    rw[hj,hspot,Addr.add_lit,Addr.add_lit] at h9
    rw[hs]
    exact h9
  ·rw[hxl] at hi
   obtain ⟨_,_,_,h6⟩:=hf i hi
   have h7:=G0 (xs:=(List.range len).map f) (i:=i) (by rw[hxl]; exact hi)
   rw[List.getElem?_map,List.getElem?_range hi] at h7
   rw[<- Option.some.inj h7]
   exact h6⟩
structure L9 (P:Program) (fs:List Field) (o:Nat) {α:Type} (e:i7 α) (φ:α->Prop):Prop where
 imp:∀{H:Type} {enc:TypeId×Value->H} {W:World} {n:Nat} {cs:List Value} {xs:List (DataW H×List MemPlace)},
 (∀(i:Nat) (f:Field),fs[i]?=some f->DataW.trod enc P W 0 (fun _=>true) true n f.type ((cs.drop (f.offset-o)).take (P.cellsOf f.type))=xs[i]?)->xs.length=fs.length->cs.length=(fs.map fun f:Field=>P.cellsOf f.type).sum ->
  (∀m∈DataW.weightsEach P (fs.map fun f:Field=>f.type) (xs.map (·.1)),m<=reachBytes)->∃a,e.rd (DA W) cs a/\φ a
theorem L9.nil {P:Program} {o:Nat}:L9 P [] o eU JP:=⟨fun {H enc W n cs xs} _ _ hc _=>by
 simp at hc
 subst hc
 exact ⟨(),rfl,trivial⟩⟩
theorem L9.cons {P:Program} {f:Field} {fs:List Field} {o size bytes:Nat} {zz:Value} {ft:TypeId} [hz:q7 P ft size bytes zz] {α β:Type} {e:i7 α} {e':i7 β} {φ:α->Prop} {ψ:β->Prop} (h:A9 P ft e φ) (hft:f.type=ft) (ho:f.offset=o) (hge:(fs.all fun g=>Nat.ble (o+size) g.offset)=true)
  (r:L9 P fs (o+size) e' ψ):L9 P (f::fs) o (eP e e') (AH φ ψ):=⟨fun {H enc W n cs xs} hx hl hc hw=>by
 subst hft
 obtain ⟨ti,hi,h1,h2,_⟩:=hz.h
 have hcs:P.cellsOf f.type=size:=by simp[Program.cellsOf,hi,h1]
 cases xs with
 | nil=>simp at hl
 | cons x xs =>
  have h0:=hx 0 f rfl
  rw[ho,Nat.sub_self,List.drop_zero,hcs] at h0
  simp only[List.getElem?_cons_zero] at h0
  simp only[List.map_cons,DataW.weightsEach,List.mem_append] at hw
  simp only[List.map_cons,List.sum_cons,hcs] at hc
  obtain ⟨a,k1,k2⟩:=h.imp h0 (fun m hm=>hw m (.inl hm))
  obtain ⟨b,k3,k4⟩:=r.imp (H:=H) (enc:=enc) (W:=W) (n:=n) (cs:=cs.drop size) (xs:=xs) (fun i g hg=>by
   have:=hx (i+1) g (by simpa using hg)
   simp only[List.getElem?_cons_succ] at this
   rw[<- this,List.drop_drop]
   have hb:=Nat.le_of_ble_eq_true (List.all_eq_true.1 hge g (List.mem_of_getElem? hg))
   rw[show size+(g.offset-(o+size))=g.offset-o by omega]) (by simpa using hl) (by rw[List.length_drop]; omega) (fun m hm=>hw m (.inr hm))
  exact ⟨(a,b),⟨cs.take size,cs.drop size,(List.take_append_drop _ _).symm,k1,k3⟩,k2,k4⟩⟩
theorem A9.struct {P:Program} {t:TypeId} {fs:Array Field} {l:List Field} (hu:P.underlying t=some (.struct fs)) (hl:fs.toList=l) {α:Type} {e:i7 α} {φ:α->Prop} (hsz:P.cellsOf t=(l.map fun f:Field=>P.cellsOf f.type).sum) (F:L9 P l 0 e φ):A9 P t e φ:=⟨fun {H enc W n cs x} hx hw=>by
 subst hl
 obtain ⟨xs,m,rfl,rfl,hc,hn,hf⟩:=DataW.trod_struct hu hx
 simp only[DataW.weights,hu] at hw
 exact F.imp (fun i f hf'=>by rw[Nat.sub_zero]; exact hf i f (by simpa using hf')) (by simpa using hn) (hc.trans hsz) hw⟩
theorem A9.conv {P:Program} {t:TypeId} {α β:Type} {e:i7 α} {φ:α->Prop} (h:A9 P t e φ) {e':i7 β} (f:α->β) (hf:∀J cs a,e.rd J cs a->e'.rd J cs (f a)) {ψ:β->Prop} (hψ:∀a,φ a->ψ (f a)):A9 P t e' ψ:=⟨fun hx hw=>by
 obtain ⟨a,h1,h2⟩:=h.imp hx hw
 exact ⟨f a,hf _ _ _ h1,hψ _ h2⟩⟩
structure XW (P:Program) (et:TypeId) (k:Nat) {α:Type} (e:i7 α) (φ:α->Prop):Prop where
 imp:∀{H:Type} {enc:TypeId×Value->H} {W:World} {n:Nat} {cs:List Value} {xs:List (DataW H×List MemPlace)},
 (∀i,i<k->DataW.trod enc P W 0 (fun _=>true) true n et ((cs.drop (i*P.cellsOf et)).take (P.cellsOf et))=xs[i]?)->xs.length=k->cs.length=k*P.cellsOf et->(∀m∈DataW.weightsAll P et (xs.map (·.1)),m<=reachBytes)->∃a,e.rd (DA W) cs a/\φ a
theorem XW.nil {P:Program} {et:TypeId}:XW P et 0 eU JP:=⟨fun {H enc W n cs xs} _ _ hc _=>by
 simp at hc
 subst hc
 exact ⟨(),rfl,trivial⟩⟩
theorem uG {P:Program} {W:World} {r:Reach} {base:Nat} {t:TypeId} {cs:Array Value} (h:Cell.ok P W r base t (.agg cs)):False:=by
 unfold Cell.ok at h
 revert h
 split<;>simp_all
theorem A9.val {P:Program} {t:TypeId} {α:Type} {e:i7 α} {φ:α->Prop} (h:A9 P t e φ) (hag:(match P.underlying t with | some (.struct _) | some (.array _ _)=>true | _=>false)=e.agg) {H:Type} {enc:TypeId×Value->H} {W:World} {base:Nat} {v:Value} {d:DataW H} {ps:List MemPlace}
  (hv:Value.okWide P W .any base t v) (ht:DataW.Trod enc P W 0 (fun _=>true) true t v d ps) (hw:∀m∈d.weights P t,m<=reachBytes):∃a,b7 e a ⟨DA W,w4⟩ v/\φ a:=by
 obtain ⟨n,hn⟩:=ht
 obtain ⟨a,h1,h2⟩:=h.imp hn hw
 refine ⟨a,⟨_,h1,?_⟩,h2⟩
 cases hb:e.agg with
 | true =>
  rw[hb] at hag
  unfold Value.okWide at hv
  split at hv
  ·obtain ⟨cs,rfl,_⟩:=hv; simp[Value.cells]
  ·obtain ⟨cs,rfl,_⟩:=hv; simp[Value.cells]
  ·rename_i h3 h4
   exfalso
   revert hag
   split
   ·rename_i fs hq; exact fun _=>h3 _ hq
   ·rename_i q r hq; exact fun _=>h4 _ _ hq
   ·intro hf; cases hf
 | false =>
  obtain ⟨h3,h4⟩:=e.one hb
  have hl:=e.len h1
  rw[h3] at hl
  simp only[Bool.false_eq_true,if_false]
  cases v with
  | agg cs =>
   exfalso
   rw[hb] at hag
   unfold Value.okWide at hv
   split at hv
   ·rename_i fs hq; rw[hq] at hag; cases hag
   ·rename_i q r hq; rw[hq] at hag; cases hag
   ·have:Cell.ok P W .any base t (.agg cs):=by
     unfold Cell.okWide at hv
     split at hv<;>first | (rename_i hq; cases hq; done) | exact hv
    exact uG this
  | _=>simp[Value.cells]
end Go.Fl

/- The last step of a law's row. -/
namespace Go.Fl
open Go Go.RowKit Go.ChangeShapes Go.WideShapes Go.ChangeAt
def XD (P:Program):Bool:=(List.range P.types.size).all fun t=>match P.underlying t with | some (.slice e)=>Nat.blt 0 (P.cellsOf e) | _=>true
theorem yR {P:Program} (h:XD P=true) {t e:TypeId} (ht:t<P.types.size) (hu:P.underlying t=some (.slice e)):0<P.cellsOf e:=by
 have:=List.all_eq_true.1 h t (List.mem_range.2 ht)
 rw[hu] at this
 simpa [Nat.blt_eq] using this
section
variable {H:Type} {enc:TypeId×Value->H} {P:Program}
theorem jH (hl:laidOutB P=true) (hm:mapsRowed P=true) (hz:XD P=true) {W W':World} {sp:Nat->Bool}:∀{ts:List TypeId} {vs:List Value} {ds:List (DataW H)} {ps:List MemPlace},(∀t∈ts,t<P.types.size)->DataW.TrodAll enc P W 0 (fun _=>true) true ts vs ds ps ->
  (∀p∈ps,W.sameAt W' p)->(∀p∈ps,sp p.block=true)->DataW.TrodAll enc P W' 0 sp true ts vs ds ps
 | [],[],[],ps,_,h,_,_=>h
 | t::ts,v::vs,d::ds,ps,ht,h,hs,hp=>by
  obtain ⟨p,q,⟨n,hn⟩,h2,rfl⟩:=h
  refine ⟨p,q,⟨n,?_⟩,jH hl hm hz (fun u hu=>ht u (List.mem_cons_of_mem _ hu)) h2 (fun x hx=>hs x (List.mem_append.2 (.inr hx))) (fun x hx=>hp x (List.mem_append.2 (.inr hx))),rfl⟩
  exact DataW.trod_stays (kids_rows hl hm) (fun ht hu=>yR hz ht hu) (fun h=>by cases h) (ht t List.mem_cons_self) hn (fun x hx=>hs x (List.mem_append.2 (.inl hx))) (fun x hx=>hp x (List.mem_append.2 (.inl hx)))
 | [],_::_,_,_,_,h,_,_=>h.elim
 | [],[],_::_,_,_,h,_,_=>h.elim
 | _::_,[],_,_,_,h,_,_=>h.elim
 | _::_,_::_,[],_,_,h,_,_=>h.elim
theorem sL {f:Func} {s:ChangeSpec} {W W':World} {args:Array Value} {ds gs:List (DataW H)} {before:List MemPlace} {tb:TypeId} (hl:laidOutB P=true) (hm:mapsRowed P=true) (hz:XD P=true) (hW:DataW.Whole enc P f.params.toList s.vars false W args.toList ds gs before)
  (hts:(f.params.toList.all fun t=>Nat.blt t P.types.size)=true) (hv:s.vars=[]) (hfn:gs=[]->s.fn H (ds++gs)={ results:=[.lit (.bool true)],args:=ds }) (hr:f.resultTypes=#[tb]) (hb:P.underlying tb=some .bool) (hbel:Below W.heap.size W W') :
  s.post enc P f false true false false W args (.bool true) W':=by
 have hW':=hW
 obtain ⟨p,q,hA,hV,rfl,_,_⟩:=hW
 rw[hv] at hV
 obtain ⟨rfl,rfl⟩:=trodVars_none hV
 simp only[List.append_nil] at hW'
 have hfn':=hfn rfl
 have hlt:∀x∈p,x.block<W.heap.size:=fun x hx=>hW'.lt x hx
 refine ⟨ds,[],p,[],p,[],hW',?_,?_,?_,hbel.frame _,fun h=>by cases h⟩
 ·rw[hfn',hr]
  exact trodAll_mk1 (shut_bool hb _)
 ·rw[hfn']
  refine jH hl hm hz (fun t ht=>?_) hA (fun x hx=>?_) (fun x hx=>by simpa using hlt x hx)
  ·have:=List.all_eq_true.1 hts t ht
   simpa [Nat.blt_eq] using this
  ·cases x with
   | cell b o=>exact hbel.cell (p:=⟨b,o,none⟩) (hlt _ hx)
   | map b=>exact hbel.block b (hlt _ hx)
 ·rw[hfn',hv]; exact rfl
theorem jX {t:TypeId} {ts:List TypeId} {d:DataW H} {ds:List (DataW H)} (h:(DataW.weightsEach P (t::ts) (d::ds)).all (·<=reachBytes)=true):(∀m∈d.weights P t,m<=reachBytes)/\(DataW.weightsEach P ts ds).all (·<=reachBytes)=true:=by
 simp only[DataW.weightsEach,List.all_append,Bool.and_eq_true] at h
 exact ⟨fun m hm=>by simpa using List.all_eq_true.1 h.1 m hm,h.2⟩
end
theorem Ct.law {P:Program} {f:FuncId} {args:List b8} (h:Ct P f args (kB true)) {W:World} {vs:Array Value} (hv:o6 ⟨DA W,w4⟩ args vs.toList) {Q:Ending->World->Prop} (hq:∀W',Below W.heap.size W W'->Q (.returned (.bool true)) W'):Calls P f vs W Q:=by
 have:=h W (DA W) (tJ W) vs.toList hv
 refine this.mono fun e W' ⟨r,J',he,hb,_,_,_,hr⟩=>?_
 subst he
 rw[show r=.bool true from hr]
 exact hq W' hb
end Go.Fl

/- Function values as arguments: what is known of what they answer. Shorter words for the walks. -/
namespace Go.Fl
open Go Go.RowKit
theorem rr {p:Prop}:p->true=true:=fun _=>rfl
section
variable {P:Program} {c:l8} {S:g9} {M:f0} {p:Bool} {d:Option Tmp} {ty:TypeId} {pos:String} {af:Array Edge} {gd:Option (Nat×Bool)} {x:Operand} {b:Bool}
end
end Go.Fl

/- Slices of the call's own that begin behind the head of their row: queues. -/
namespace Go.Fl
open Go Go.RowKit
def B7 (t n off len:Nat):b8:=fun g v=>∃b cap o,g.M t=some (.blk b cap)/\off+len<=cap/\(off<cap->o=off*n)/\v=.slice (some ⟨b,o,none⟩) len (cap-off)
instance (t n o l:Nat):o4 (B7 t n o l) [t]:=⟨fun _ hd ⟨b,cap,a,h1,h2⟩=>⟨b,cap,a,(hd t (by simp)).trans h1,h2⟩⟩
section
variable {P:Program} {c:l8} {S:g9} {M:f0} {p:Bool} {d:Option Tmp} {ty:TypeId} {pos:String} {af:Array Edge} {gd:Option (Nat×Bool)} {x y:Operand} {b b':Bool}
theorem DE {t:TypeId} {e':TypeId} [ht:C5 P t e'] {u n off len:Nat} (hx:j1 S x=some (b,B7 u n off len)) (hb:p=true->b=true):l3 P c S M ⟨d,.call { callee:=.builtin .len,args:=#[x],argTypes:=#[t] },ty,pos,af,gd⟩ p (kI len) none :=
 l3.pure fun hp a g w _ _ ho=>by
  obtain ⟨_,_,_,_,_,_,h2⟩:=ho x (by simp[Op.operands,Call.operands]) b _ hx (hb hp)
  exact ⟨_,by simp[execOp,resolve,invoke,builtin,Builtin.len_,h2,run_underlying ht.h,goInt],rfl⟩
variable {ops:Array Oper} {rest:List Oper} {Q:Exit->Act->World->Prop} {dd:Nat}
theorem d5.appQ {t et:TypeId} [ht:C5 P t et] {size bytes:Nat} {zz:Value} [hsz:q7 P et size bytes zz] {α:Type} {e:i7 α} {xs ys:List α} {u off len len' m:Nat} {dep:List Nat} {k:b8} {M':List α->Nat->f0}
  (hx:j1 S x=some (true,B7 u size off len)) [hl:p8 M u (m9 false et e xs len') dep] (hle:off+len=len') (hy:j1 S y=some (true,k)) [hsrc:MB M k e ys] (hm:ys.length=m) (hup:∀L n,A7 M u (m9 false et e L n) [] (M' L n))
  (hs:size=e.n) (hzz:zz.cells.size=size) (hpos:0<size) (hnd:H9 u M=true) (hn:Nat.blt dd c.n=true) (h63:len'+m<=9223372036854775807) (hb:(len'+m)*bytes<=140737488355328)
  (K:∀(L:List α) (o:Nat),(o=off/\L=xs++ys)\/(o=0/\L=xs.drop off++ys)->d5 P c ops (⟨dd,true,[u],B7 u size o (len+m)⟩::inv u S) (M' L (o+(len+m))) rest Q) :
  d5 P c ops S M (⟨some dd,.call { callee:=.builtin .append,args:=#[x,y],argTypes:=#[t,t] },ty,pos,af,none⟩::rest) Q:=by
 intro a g w hsat
 subst hle hm
 obtain ⟨i,hi,rfl,rfl,hz⟩:=hsz.h
 have hdn:dd<c.n:=by simpa [Nat.blt_eq] using hn
 obtain ⟨b,cap,ad0,hm,hoc,had,ex⟩:=B5 hsat.slots hx rfl
 have hk2:=hsrc.imp hsat.ok hsat.conts (B5 hsat.slots hy rfl)
 obtain ⟨news,ad,c2,e2,n1,n2,n3,n4⟩:=iG (P:=P) hk2
 rw[<- hs] at n1 n4
 obtain ⟨h0,_,cs,h3,h4,h5,h6,h7⟩:=CQ (xs:=xs) hsat.conts hm
 refine wpList_plain rfl fun K' hK'=>?_
 unfold Oper.wp
 simp only[execOp,resolve,invoke,builtin,Sem.run_bind,Sem.run_pure,Result.andThen_ok,List.map_toArray,List.map_cons,List.map_nil]
 have finish:∀{bk':Bk} {w':World} {v':Value} (L:List α) (o:Nat),(o=off/\L=xs++ys)\/(o=0/\L=xs.drop off++ys)->DO (.blk b cap) w w'->(∀b2 cap2,bk'=.blk b2 cap2->(∃cap0,Bk.blk b cap=.blk b2 cap0)\/(w.heap.size<=b2/\b2<w'.heap.size)) ->
   m9 false et e L (o+(len+ys.length)) ⟨g.J,fun t=>if t=u then some bk' else g.M t⟩ bk' (World.objAt w' bk')->B7 u i.size o (len+ys.length) ⟨g.J,fun t=>if t=u then some bk' else g.M t⟩ v' ->
   (Builtin.append_ #[t,t] ty #[a.eval x,a.eval y]).run P w=.ok v' w' ->
   Oper.upon P ⟨some dd,.call { callee:=.builtin .append,args:=#[x,y],argTypes:=#[t,t] },ty,pos,af,none⟩ a K' Q (((Builtin.append_ #[t,t] ty #[a.eval x,a.eval y]).run P w).andThen fun v w=>.ok (.value v) w):=by
  intro bk' w' v' L o hLo hbut hbk hct hkk hr
  rw[hr]
  simp only[Result.andThen_ok,Oper.upon]
  exact hK' _ _ (K L o hLo _ _ _ (hsat.rebind hm (hsat.nomark hl hm) hbut (hup L _) hnd inferInstance hbk hct hdn hkk))
 have hcl:(off+len)*e.n<=cs.size:=by rw[h4]; exact Nat.mul_le_mul_right _ h5
 by_cases hroom:off+len+ys.length<=cap
 ·by_cases hzero:off<cap
  ·have hst:=run_storeCells_at P b ((off+len)*e.n) et news 0 cs w h3 (by rw[n1,hs,Nat.add_zero,<- Nat.add_mul,h4]; exact Nat.mul_le_mul_right _ hroom) n2
   simp only[Nat.add_zero] at hst
   have holdl:(cs.toList.take ((off+len)*e.n)).length=(off+len)*e.n:=by simp; omega
   have hold:∀i x,xs[i]?=some x->∃ds,e.rd g.J ds x/\∀j v,ds[j]?=some v->(cs.toList.take ((off+len)*e.n))[i*e.n+j]?=some v:=fun i x hx=>by
    obtain ⟨ds,q1,q2⟩:=h7 i x hx
    refine ⟨ds,q1,fun j v hj=>?_⟩
    have hil:=(List.getElem?_eq_some_iff.1 hx).1
    have hjl:=(List.getElem?_eq_some_iff.1 hj).1
    rw[e.len q1] at hjl
    have:(i+1)*e.n<=(off+len)*e.n:=Nat.mul_le_mul_right _ zo
    rw[Nat.succ_mul] at this
    rw[List.getElem?_take,if_pos zo]
    simpa using q2 j v hj
   refine finish (bk':=.blk b cap) (w':=w.setRow b (cs.toList.take ((off+len)*e.n)++news++cs.toList.drop ((off+len)*e.n+news.length)).toArray) (v':=.slice (some ⟨b,ad0,none⟩) (len+ys.length) (cap-off)) (xs++ys) off (.inl ⟨rfl,rfl⟩) ⟨rfl,rfl,rfl,by simp,fun k _ hk=>setRow_other w b k _ (fun e'=>hk cap (by rw[e'])),Nat.le_refl _⟩ (fun b' cap' hb=>by cases hb; exact .inl ⟨_,rfl⟩) ?_ ⟨_,_,_,if_pos rfl,by omega,had,rfl⟩ ?_
   ·refine ⟨by simp[h0]; omega,(fun hz0=>by cases hz0),_,setRow_heap w b cs _ et (0,0) h3,?_,by omega,h6,fun i' x' hx'=>?_⟩
    ·simp[n1,hs]; rw[Nat.min_eq_left hcl]; have:(off+len)*e.n+ys.length*e.n<=cs.size:=by rw[<- Nat.add_mul,h4]; exact Nat.mul_le_mul_right _ hroom
     omega
    ·obtain ⟨ds,q1,q2⟩:=MN (cs:=cs.toList.take ((off+len)*e.n)++news++cs.toList.drop ((off+len)*e.n+news.length)) (by rw[holdl,h0]) (fun j v hj=>by rw[List.getElem?_append_left (List.getElem?_eq_some_iff.1 hj).1]; exact hj) hold n3 i' x' hx'
     exact ⟨ds,q1,fun j v hj=>by have:=q2 j v hj; simpa using this⟩
   ·rw[ex,e2,QD ht.h hi (e2▸n4 w rfl) zo]
    simp only[Addr.add_lit,hs]
    rw[had hzero,hs,<- Nat.add_mul,hst]
    rfl
  ·have hy0:ys=[]:=List.eq_nil_of_length_eq_zero zo
   subst hy0
   have hnews:news=[]:=List.eq_nil_of_length_eq_zero (by simpa using n1)
   subst hnews
   refine finish (bk':=.blk b cap) (w':=w) (v':=.slice (some ⟨b,ad0,none⟩) len (cap-off)) (xs++[]) off (.inl ⟨rfl,rfl⟩) ⟨rfl,rfl,rfl,Nat.le_refl _,fun _ _ _=>rfl,Nat.le_refl _⟩ (fun b' cap' hb=>by cases hb; exact .inl ⟨_,rfl⟩) ?_ ⟨_,_,_,if_pos rfl,by simpa using hoc,had,rfl⟩ ?_
   ·rw[List.append_nil]
    exact ⟨by simpa using h0,(fun hz0=>by cases hz0),cs,h3,h4,h5,h6,h7⟩
   ·rw[ex,e2,QD ht.h hi (e2▸n4 w rfl) (by simp; omega)]
    rfl
 ·have hcells:∀j v,((cs.toList.take ((off+len)*e.n)).drop (off*e.n))[j]?=some v->w.cell? ⟨b,off*e.n+j,none⟩=some v:=fun j v hj=>by
   rw[List.getElem?_drop,List.getElem?_take] at hj
   split at hj
   ·exact J6 h3 (by simpa using hj)
   ·cases hj
  have hol:((cs.toList.take ((off+len)*e.n)).drop (off*e.n)).length=len*e.n:=by
   rw[List.length_drop,List.length_take,Array.length_toList,Nat.min_eq_left hcl,Nat.add_mul]; omega
  have holds:∀i x,(xs.drop off)[i]?=some x->∃ds,e.rd g.J ds x/\∀j v,ds[j]?=some v->((cs.toList.take ((off+len)*e.n)).drop (off*e.n))[i*e.n+j]?=some v:=fun i x hx=>by
   rw[List.getElem?_drop] at hx
   obtain ⟨ds,q1,q2⟩:=h7 _ x hx
   refine ⟨ds,q1,fun j v hj=>?_⟩
   have hil:=(List.getElem?_eq_some_iff.1 hx).1
   have hjl:=(List.getElem?_eq_some_iff.1 hj).1
   rw[e.len q1] at hjl
   have:(off+i+1)*e.n<=(off+len)*e.n:=Nat.mul_le_mul_right _ zo
   rw[Nat.succ_mul,Nat.add_mul] at this
   have q3:=q2 j v hj
   rw[Nat.add_mul] at q3
   rw[List.getElem?_drop,List.getElem?_take,if_pos zo,show off*e.n+(i*e.n+j)=off*e.n+i*e.n+j by omega]
   simpa using q3
  have hfo:(Builtin.firstCells i.size len (.slice (some ⟨b,ad0,none⟩) len (cap-off))).run P w.drew=.ok ((cs.toList.take ((off+len)*e.n)).drop (off*e.n)).toArray w.drew:=by
   refine WV (by rw[hol,hs]) fun j v hj=>?_
   rw[World.cell?_drew]
   by_cases hz0:off<cap
   ·rw[had hz0,hs]; exact hcells j v hj
   ·have hl0:len=0:=by omega
    have:=(List.getElem?_eq_some_iff.1 hj).1
    rw[hol,hl0] at this; omega
  have hr:=gR (ty:=ty) ht.h hi hz hfo (e2▸n4 w.drew rfl) (cap:=cap-off) zo zo (growslice_fits zo (Nat.le_trans (Nat.mul_le_mul_right _ zo) hb))
  have hge:=grownCap_ge w (len+ys.length) (cap-off) et
  have hcm:=grownCap_le_maxLen w (len+ys.length) (cap-off) et (by simp only[maxLen]; omega)
  have hobj:=heap_alloc_new w.drew (.cells (((cs.toList.take ((off+len)*e.n)).drop (off*e.n)).toArray++news.toArray++Builtin.zeroCells zz.cells (grownCap w (len+ys.length) (cap-off) et-(len+ys.length))) et)
  refine finish (bk':=.blk w.heap.size (grownCap w (len+ys.length) (cap-off) et)) (w':=w.drew.alloc (.cells (((cs.toList.take ((off+len)*e.n)).drop (off*e.n)).toArray++news.toArray++Builtin.zeroCells zz.cells (grownCap w (len+ys.length) (cap-off) et-(len+ys.length))) et)) (xs.drop off++ys) 0 (.inr ⟨rfl,rfl⟩) ⟨rfl,rfl,rfl,by simp,fun q hq _=>Below.heap_alloc w.drew _ q hq,CU _⟩ (fun b cap hb=>by cases hb; exact .inr ⟨Nat.le_refl _,by simp⟩) ?_ ⟨_,_,0,if_pos rfl,by omega,fun _=>by omega,by rw[Nat.sub_zero]⟩ (by rw[ex,e2]; exact hr)
  refine ⟨by simp[h0],(fun hz0=>by cases hz0),_,hobj,?_,by omega,hcm,fun i' x' hx'=>?_⟩
  ·simp only[Array.size_append,List.size_toArray,size_zeroCells,hol,n1,hzz,hs,<- Nat.add_mul]
   congr 1; omega
  ·obtain ⟨ds,q1,q2⟩:=MN (cs:=(cs.toList.take ((off+len)*e.n)).drop (off*e.n)++news++(Builtin.zeroCells zz.cells (grownCap w (len+ys.length) (cap-off) et-(len+ys.length))).toList) (by rw[hol,List.length_drop,h0]; congr 1; omega) (fun j v hj=>by rw[List.getElem?_append_left (List.getElem?_eq_some_iff.1 hj).1]; exact hj) holds n3 i' x' hx'
   refine ⟨ds,q1,fun j v hj=>?_⟩
   have:=q2 j v hj
   rw[<- Array.getElem?_toList]
   simpa [List.append_assoc] using this
end
theorem C4.q {S:g9} {M M':f0} {S':g9} {s t n o o' l l':Nat} (hl:look S s=some (true,B7 t n o l)) (ho:o=o') (hn:l=l') (hs:s5 [t] (tags M')=true) (r:C4 S M S' M'):C4 S M (⟨s,true,[t],B7 t n o' l'⟩::S') M' :=
 r.conv hl rfl (fun _ _ h=>by subst ho; subst hn; exact h) hs
end Go.Fl

/- Calls that change one block of the caller's own: the block is handed on (a pointer to it, or a slice of it, is the first argument) and holds something else behind the call. No program in sight. -/
namespace Go.Fl
open Go Go.RowKit

def g1 (J:JV) (b cap:Nat):Gh:=⟨J,fun t=>if t=0 then some (.blk b cap) else none⟩
def DQ (P:Program) (f:FuncId) (k0:b8) (ks:List b8) (ct ct':s9) (res:b8):Prop :=
 ∀w J b cap,Im J w->(∀o,J b o=none)->b<w.heap.size->ct (g1 J b cap) (.blk b cap) w.heap[b]?->∀v vs,k0 (g1 J b cap) v->o6 ⟨J,w4⟩ ks vs ->
  Calls P f (v::vs).toArray w fun e w'=>∃r J',e=.returned r/\DO (.blk b cap) w w'/\J.le J'/\(∀b' o,b'<w.heap.size->J' b' o=J b' o)/\Im J' w'/\res ⟨J',w4⟩ r/\ct' (g1 J' b cap) (.blk b cap) w'.heap[b]?
theorem l4.mut {c:l8} {S:g9} {M M':f0} {a:Act} {g:Gh} {w w':World} (h:l4 c S M a g w) {u b cap:Nat} (hm:g.M u=some (.blk b cap)) (hnm:w.heap[b]?≠some (Obj.deferred (some []))) (hbut:DO (.blk b cap) w w') {J':JV} (hJ:g.J.le J') (hJo:∀b' o,b'<w.heap.size->J' b' o=g.J b' o) (him:Im J' w')
  {ct':s9} (hup:A7 M u ct' [] M') (hd:z7 ct' []) (hct:ct' ⟨J',g.M⟩ (.blk b cap) w'.heap[b]?) {d:Nat} (hn:d<c.n) {k:b8} {v:Value} (hk:k ⟨J',g.M⟩ v) [hkd:o4 k []] :
  l4 c (⟨d,true,[],k⟩::S) M' (a.put (some d) v) ⟨J',g.M⟩ w':=by
 have htag:=hup.tags
 obtain ⟨hob,hlt,hJn⟩:=h.ok.own u b cap hm
 have hle:g.le ⟨J',g.M⟩:=⟨hJ,fun _ _ e=>e⟩
 refine ⟨⟨⟨hbut.os.trans h.ok.bel.os,hbut.tape.trans h.ok.bel.tape,hbut.output.trans h.ok.bel.output,Nat.le_trans h.ok.bel.size hbut.size,fun q hq hnb=>?_,Nat.le_trans h.ok.bel.drawn hbut.drawn⟩,JV.le_trans h.ok.jle hJ,fun b' o hb=>?_,him,fun t b' cap' ht=>?_,h.ok.inj⟩,?_,?_,?_,?_,?_,?_,h.defers.on fun D hD=>hbut.block D (Array.getElem?_eq_some_iff.1 hD).1 (fun cap' e=>by cases e; exact hnm hD),by simp[Act.put,h.size]⟩
 ·rw[hbut.block q (Nat.lt_of_lt_of_le hq h.ok.bel.size) (fun cap' e=>by cases e; rcases hob with h1 | h1; omega; exact hnb h1)]
  exact h.ok.bel.block q hq hnb
 ·show J' b' o=c.J0 b' o
  rw[hJo b' o (Nat.lt_of_lt_of_le hb h.ok.bel.size)]; exact h.ok.jold b' o hb
 ·obtain ⟨h1,h2,h3⟩:=h.ok.own t b' cap' ht
  exact ⟨h1,Nat.lt_of_lt_of_le h2 hbut.size,fun o=>by show J' b' o=none; rw[hJo b' o h2]; exact h3 o⟩
 ·exact (h.slots.on h.sdep h.conts hle).put (by rw[h.size]; exact hn) ⟨fun _=>hk,fun hf=>by cases hf⟩
 ·intro e he
  rcases hup.mem h.nodup e he with rfl | ⟨he,hne⟩
  ·exact ⟨_,hm,hct⟩
  ·obtain ⟨bk,h1,h2⟩:=h.conts e he
   refine ⟨bk,h1,?_⟩
   have:World.objAt w' bk=World.objAt w bk:=by
    cases bk with
    | nil=>rfl
    | blk b' cap'=>exact hbut.block b' (h.ok.own _ _ _ h1).2.1 (fun cap'' e'=>by cases e'; exact hne (h.ok.inj _ _ _ _ _ h1 hm))
   rw[this]
   exact (h.cdep e he).1.dep hJ (fun _ _=>rfl) h2
 ·intro t ht
  have:=h.dom t ht
  show t∈tags M'
  rw[htag]; exact this
 ·show (tags M').Nodup
  rw[htag]; exact h.nodup
 ·intro e he
  rcases List.mem_cons.1 he with rfl | he
  ·exact ⟨hkd,fun _ h=>by cases h⟩
  ·exact ⟨(h.sdep e he).1,fun t ht=>by show t∈tags M'; rw[htag]; exact (h.sdep e he).2 t ht⟩
 ·intro e he
  rcases hup.mem h.nodup e he with rfl | ⟨he,_⟩
  ·exact ⟨hd,fun _ h=>by cases h⟩
  ·exact ⟨(h.cdep e he).1,fun t ht=>by show t∈tags M'; rw[htag]; exact (h.cdep e he).2 t ht⟩
class XZ (k:b8) (u:outParam Nat) (k0:outParam b8):Prop where
 imp:∀{g:Gh} {v:Value} {b cap:Nat} {J:JV},g.M u=some (.blk b cap)->k g v->k0 (g1 J b cap) v
 blk:∀{g:Gh} {v:Value},k g v->∃bk,g.M u=some bk
instance {u o:Nat}:XZ (w6 u o) u (w6 0 o):=⟨fun hm ⟨b,cap,h1,h2⟩=>⟨b,cap,by rw[hm] at h1; simpa [g1] using h1,h2⟩,fun ⟨_,_,h1,_⟩=>⟨_,h1⟩⟩
section
variable {P:Program} {c:l8} {ops:Array Oper} {S:g9} {M:f0} {rest:List Oper} {Q:Exit->Act->World->Prop}
variable {d:Nat} {ty:TypeId} {pos:String} {af:Array Edge}
end

end Go.Fl

/- A region that draws its order and changes a thing of the call's own by an operation that hands back a value ('copy'). -/
namespace Go.Fl
open Go Go.RowKit
def kK (P:Program) (c:l8) (S:g9) (M:f0) (o:Oper) (u:Nat) (ct':s9) (d:Nat) (v:Value):Prop :=
 ∀(a:Act) (g:Gh) (w:World),Ok c g w->D9 M g w->FC S o a g->o.wp P a w (fun a' w'=>a'=a.put (some d) v/\DV u ct' g w w') (fun _ _ _=>False)
section
variable {P:Program} {c:l8} {Q:Exit->Act->World->Prop} {l:List Oper} {m:Nat} {S:g9} {M Mx:f0} {MI:Nat->f0} {rs:List A3} {a0:Act} {g0:Gh} {w1:World}
def LZ (P:Program) (c:l8) (l:List Oper) (Q:Exit->Act->World->Prop) (u:Nat) (M MA:f0) (q:Nat):List Oper->Nat->g9->f0->Prop
 | [],_,_,_=>False
 | o::rest,0,S,Mc=>∃ct' dep' Mc' d v,(o.dst=some d/\look S d=none/\d<c.n)/\o.guard=none/\kK P c S M o u ct' d v/\A7 Mc u ct' dep' Mc'/\z7 ct' dep'/\(∀t∈dep',t∈tags M)/\d5 P c l.toArray (⟨d,true,[],j8 v⟩::S) Mc' rest Q
 | o::rest,k+1,S,Mc=>∃r M0,(M0=MA\/(M0=M/\Q5 l q (q-(k+1))=true))/\Q3 P c l.toArray M0 S Mc o r/\LZ P c l Q u M MA q rest k (r.se::S) (P4 r.new Mc)
variable {M0 MA Mc:f0} {rest:List Oper} {d:Nat} {oop:Op} {ty:TypeId} {pos:String} {af:Array Edge} {q u k':Nat} {x y:Operand}
theorem LZ.op {k:b8} {dep:List Nat} (h:l3 P c S MA ⟨some d,oop,ty,pos,af,none⟩ true k none) [hk:o4 k dep] (hs:s5 dep (tags MA)=true) (hn:Nat.blt d c.n=true)
  (K:LZ P c l Q u M MA q rest k' (⟨d,true,dep,k⟩::S) Mc):LZ P c l Q u M MA q (⟨some d,oop,ty,pos,af,none⟩::rest) (k'+1) S Mc :=
 ⟨⟨d,true,dep,k,none⟩,MA,.inl rfl,⟨rfl,h,hk,fun t ht=>.inl (A1 hs t ht),fun _ h=>(by cases h),by simpa [Nat.blt_eq] using hn,.inl ⟨rfl,rfl⟩⟩,K⟩
end
end Go.Fl

/- Slices of one's own row and 'copy' into it (elements: integers). No program in sight. -/
namespace Go.Fl
open Go Go.RowKit
section
variable {P:Program} {c:l8} {S:g9} {M:f0} {p:Bool} {d:Option Tmp} {ty:TypeId} {pos:String} {af:Array Edge} {gd:Option (Nat×Bool)} {x y:Operand} {b b':Bool}
theorem vH {u len:Nat} {g:Gh} {v:Value} (h:q8 u len g v) (h0:0<len):∃b cap,g.M u=some (.blk b cap)/\v=.slice (some ⟨b,0,none⟩) len cap:=by
 rcases h with ⟨_,h1,_⟩ | h
 ·omega
 ·exact h
end
section
variable {P:Program} {c:l8} {S:g9} {M:f0} {ty:TypeId} {pos:String} {af:Array Edge} {x y:Operand} {d:Nat}
variable {ops:Array Oper} {rest:List Oper} {Q:Exit->Act->World->Prop}
end
end Go.Fl

/- Slices that are nil just if they are empty. No program in sight. -/
namespace Go.Fl
open Go Go.RowKit
section
variable {P:Program} {c:l8} {S:g9} {M:f0} {p:Bool} {d:Option Tmp} {ty:TypeId} {pos:String} {af:Array Edge} {gd:Option (Nat×Bool)} {x y:Operand} {b b':Bool} {Q:Exit->Act->World->Prop}
end
section
variable {P:Program} {c:l8} {Q:Exit->Act->World->Prop} {S:g9} {M M0:f0} {ops:Array Oper} {rest:List Oper} {d:Nat} {oop:Op} {ty:TypeId} {pos:String} {af:Array Edge} {m:Nat}
end
end Go.Fl

/- max, min. No program in sight. -/
namespace Go.Fl
open Go Go.RowKit
section
variable {P:Program} {c:l8} {S:g9} {M:f0} {p:Bool} {d:Option Tmp} {ty:TypeId} {pos:String} {af:Array Edge} {gd:Option (Nat×Bool)} {x y:Operand} {b b':Bool}
theorem fG {ts:Array TypeId} {m n:Int} (hx:j1 S x=some (b,kI m)) (hb:p=true->b=true) (hy:j1 S y=some (b',kI n)) (hb':p=true->b'=true):l3 P c S M ⟨d,.call { callee:=.builtin .max,args:=#[x,y],argTypes:=ts },ty,pos,af,gd⟩ p (kI (if n>m then n else m)) none :=
 l3.pure fun hp a g w _ _ ho=>by
  have h1:a.eval x=_:=ho x (by simp[Op.operands,Call.operands]) b _ hx (hb hp)
  have h2:a.eval y=_:=ho y (by simp[Op.operands,Call.operands]) b' _ hy (hb' hp)
  exact ⟨_,by simp[execOp,resolve,invoke,builtin,h1,h2,run_max_int2],rfl⟩
theorem fH {ts:Array TypeId} {m n:Int} (hx:j1 S x=some (b,kI m)) (hb:p=true->b=true) (hy:j1 S y=some (b',kI n)) (hb':p=true->b'=true):l3 P c S M ⟨d,.call { callee:=.builtin .min,args:=#[x,y],argTypes:=ts },ty,pos,af,gd⟩ p (kI (if n<m then n else m)) none :=
 l3.pure fun hp a g w _ _ ho=>by
  have h1:a.eval x=_:=ho x (by simp[Op.operands,Call.operands]) b _ hx (hb hp)
  have h2:a.eval y=_:=ho y (by simp[Op.operands,Call.operands]) b' _ hy (hb' hp)
  exact ⟨_,by simp[execOp,resolve,invoke,builtin,h1,h2,Builtin.min_,Builtin.min2],rfl⟩
end
end Go.Fl

/- Elements of an array of the call's own. No program in sight. -/
namespace Go.Fl
open Go Go.RowKit
section
variable {P:Program} {c:l8} {S:g9} {M:f0} {p:Bool} {d:Option Tmp} {ty:TypeId} {pos:String} {af:Array Edge} {gd:Option (Nat×Bool)} {x y:Operand} {b b':Bool}
theorem CF {t et:TypeId} {n:Nat} [ht:BS P t n et] {sz by':Nat} {zz:Value} [hz:q7 P et sz by' zz] {u o:Nat} {ik:IntKind} {i:Int} (hx:j1 S x=some (b,w6 u o)) (hb:p=true->b=true) (hy:j1 S y=some (b',y3 ik i)) (hb':p=true->b'=true) (h:p=true->0<=i/\i<n) :
  l3 P c S M ⟨d,.indexAddr t x y,ty,pos,af,gd⟩ p (w6 u (o+i.toNat*sz)) none :=
 l3.pure fun hp a g w _ _ ho=>by
  obtain ⟨bl,cap,h1,h2⟩:=ho x (by simp[Op.operands]) b _ hx (hb hp)
  have h3:a.eval y=_:=ho y (by simp[Op.operands]) b' _ hy (hb' hp)
  have hlt:=h hp
  obtain ⟨ti,hi,rfl,_,_⟩:=hz.h
  refine ⟨.pointer (some ⟨bl,o+i.toNat*ti.size,none⟩),?_,bl,cap,h1,rfl⟩
  simp[execOp,h2,h3,Instr.indexAt,run_underlying ht.h,asIntOf,hlt,sizeOf,typeInfo,hi,Instr.sureAddr,Addr.add_lit]
end
end Go.Fl

/- Rows that a struct of the call's own holds: they begin as nil, and are appended to; maps of integers. No program in sight. -/
namespace Go.Fl
open Go Go.RowKit

instance {ks kx out:List b8} [h:R7 ks 0 kx out]:R7 ks (0+0) kx out:=h
inductive Wk:List b8->List b8->Prop
 | nil:Wk [] []
 | k {k:b8} {ks ls:List b8} (r:Wk ks ls):Wk (k::ks) (k::ls)
 | any {k:b8} {ks ls:List b8} (r:Wk ks ls):Wk (k::ks) (U3::ls)
theorem Wk.imp {ks ls:List b8} (h:Wk ks ls) {g:Gh}:∀{vs:List Value},o6 g ks vs->o6 g ls vs:=by
 induction h with
 | nil=>intro vs h; exact h
 | k _ ih=>intro vs h; cases vs with
  | nil=>exact h.elim
  | cons v vs=>exact ⟨h.1,ih h.2⟩
 | any _ ih=>intro vs h; cases vs with
  | nil=>exact h.elim
  | cons v vs=>exact ⟨trivial,ih h.2⟩
theorem l4.conC {c:l8} {S:g9} {M M':f0} {a:Act} {g:Gh} {w:World} (h:l4 c S M a g w) {v:Nat} {ct ct':s9} {dep dep':List Nat} [hl:p8 M v ct dep] (hc:∀g b o,ct g b o->ct' g b o) (hd:z7 ct' dep') (hup:A7 M v ct' dep' M') (hs:∀t∈dep',t∈tags M):l4 c S M' a g w:=by
 have htag:=hup.tags
 refine ⟨h.ok,h.slots,fun e he=>?_,fun t ht=>?_,?_,fun e he=>?_,fun e he=>?_,h.defers,h.size⟩
 ·rcases hup.mem h.nodup e he with rfl | ⟨he,_⟩
  ·obtain ⟨b,h1,h2⟩:=h.conts _ hl.mem
   exact ⟨b,h1,hc _ _ _ h2⟩
  ·exact h.conts e he
 ·have:=h.dom t ht
  show t∈tags M'
  rw[htag]; exact this
 ·show (tags M').Nodup
  rw[htag]; exact h.nodup
 ·exact ⟨(h.sdep e he).1,fun t ht=>by show t∈tags M'; rw[htag]; exact (h.sdep e he).2 t ht⟩
 ·rcases hup.mem h.nodup e he with rfl | ⟨he,_⟩
  ·exact ⟨hd,fun t ht=>by show t∈tags M'; rw[htag]; exact hs t ht⟩
  ·exact ⟨(h.cdep e he).1,fun t ht=>by show t∈tags M'; rw[htag]; exact (h.cdep e he).2 t ht⟩
theorem l4.growC {c:l8} {S:g9} {M M1:f0} {a:Act} {g:Gh} {w:World} (h:l4 c S M a g w) (v o u:Nat) {ks ks':List b8} {dep dep':List Nat} [hl:p8 M v (j3 ks) dep] (ho:ks[o]?=some (j8 (.slice none 0 0))) (he:ks'=ks.set o (q8 u 0)) (hd:z7 (j3 ks') dep') (hup:A7 M v (j3 ks') dep' M1)
  (hf:s5 [u] (tags M)=false) {α:Type} (et:TypeId) (e:i7 α) (hs:s5 dep' (u::tags M)=true) (hdk:∀k∈ks,∃d,o4 k d/\∀t∈d,t∈tags M):∃g',l4 c S (⟨u,[],m9 true et e [] 0⟩::M1) a g' w:=by
 have hfresh:u∉tags M:=by
  intro ht
  have:s5 [u] (tags M)=true:=by
   simp only[s5,Bool.and_true]
   exact List.any_eq_true.2 ⟨u,ht,Nat.beq_refl u⟩
  rw[hf] at this; cases this
 have hnone:g.M u=none:=by
  cases hm:g.M u with
  | none=>rfl
  | some b=>exact absurd (h.dom u (by rw[hm]; simp)) hfresh
 have hle:g.le (g.add u .nil):=⟨JV.le_refl _,fun t b hb=>by
  simp only[Gh.add]
  by_cases ht:t=u
  ·subst ht; rw[hnone] at hb; cases hb
  ·rw[if_neg ht]; exact hb⟩
 have hblk:∀t b cap,(g.add u .nil).M t=some (.blk b cap)->g.M t=some (.blk b cap):=fun t b cap ht=>by
  simp only[Gh.add] at ht
  by_cases e:t=u
  ·rw[if_pos e] at ht; cases ht
  ·rw[if_neg e] at ht; exact ht
 have htag:=hup.tags
 refine ⟨g.add u .nil,⟨⟨h.ok.bel,h.ok.jle,h.ok.jold,h.ok.im,fun t b cap ht=>h.ok.own t b cap (hblk _ _ _ ht),fun t t' b c1 c2 h1 h2=>h.ok.inj t t' b c1 c2 (hblk _ _ _ h1) (hblk _ _ _ h2)⟩,h.slots.on h.sdep h.conts hle,fun x hx=>?_,fun t ht=>?_,?_,fun x hx=>?_,fun x hx=>?_,h.defers,h.size⟩⟩
 ·rcases List.mem_cons.1 hx with rfl | hx
  ·exact ⟨_,Gh.add_same _ _ _,rfl,rfl⟩
  ·rcases hup.mem h.nodup x hx with rfl | ⟨hx,_⟩
   ·obtain ⟨b,h1,cs,ty,h2,h3⟩:=h.conts _ hl.mem
    refine ⟨b,hle.2 _ _ h1,cs,ty,h2,?_⟩
    have hmono:o6 (g.add u .nil) ks cs.toList:=by
     have:∀{ls:List b8} {vs:List Value},(∀k∈ls,∃d,o4 k d/\∀t∈d,t∈tags M)->o6 g ls vs->o6 (g.add u .nil) ls vs:=by
      intro ls
      induction ls with
      | nil=>intro vs _ h; cases vs<;>exact h
      | cons k ls ih =>
       intro vs hk hh
       cases vs with
       | nil=>exact hh.elim
       | cons x vs =>
        obtain ⟨d,q1,q2⟩:=hk k List.mem_cons_self
        exact ⟨dM h.conts hle q1 q2 hh.1,ih (fun z hz=>hk z (List.mem_cons_of_mem _ hz)) hh.2⟩
     exact this hdk h3
    obtain ⟨x,hx1,hx2⟩:=FI h3 ho
    have hx2:x=.slice none 0 0:=hx2
    have:=YK hmono o (k:=q8 u 0) (v:=x) (.inl ⟨Gh.add_same _ _ _,rfl,hx2⟩)
    rw[he]
    have hcs:cs.toList.set o x=cs.toList:=by
     refine List.ext_getElem? fun j=>?_
     by_cases e:o=j
     ·subst e
      rw[List.getElem?_set_self (List.getElem?_eq_some_iff.1 hx1).1,hx1]
     ·rw[List.getElem?_set_ne e]
    rwa [hcs] at this
   ·obtain ⟨b,h1,h2⟩:=h.conts x hx
    exact ⟨b,hle.2 _ _ h1,(h.cdep x hx).1.dep hle.1 (fun t ht=>by obtain ⟨b,hb⟩:=h.conts.tag ((h.cdep x hx).2 t ht); rw[hb]; exact hle.2 t b hb) h2⟩
 ·by_cases e':t=u
  ·subst e'; exact List.mem_cons_self
  ·have:g.M t≠none:=by simpa [Gh.add,e'] using ht
   have:=h.dom t this
   exact List.mem_cons_of_mem _ (by show t∈tags M1; rw[htag]; exact this)
 ·refine List.nodup_cons.2 ⟨?_,?_⟩
  ·show u∉tags M1
   rw[htag]; exact hfresh
  ·show (tags M1).Nodup
   rw[htag]; exact h.nodup
 ·exact ⟨(h.sdep x hx).1,fun t ht=>List.mem_cons_of_mem _ (by show t∈tags M1; rw[htag]; exact (h.sdep x hx).2 t ht)⟩
 ·rcases List.mem_cons.1 hx with rfl | hx
  ·exact ⟨inferInstance,fun _ h=>by cases h⟩
  ·rcases hup.mem h.nodup x hx with rfl | ⟨hx,_⟩
   ·refine ⟨hd,fun t ht=>?_⟩
    have:=A1 hs t ht
    rcases List.mem_cons.1 this with rfl | this
    ·exact List.mem_cons_self
    ·exact List.mem_cons_of_mem _ (by show t∈tags M1; rw[htag]; exact this)
   ·exact ⟨(h.cdep x hx).1,fun t ht=>List.mem_cons_of_mem _ (by show t∈tags M1; rw[htag]; exact (h.cdep x hx).2 t ht)⟩
class JI (ks:List b8) (L:List Nat):Prop where
 all:∀k∈ks,∃d,o4 k d/\∀t∈d,t∈L
instance {L:List Nat}:JI [] L:=⟨fun _ h=>by cases h⟩
theorem JI.cons {k:b8} {ks:List b8} {L d:List Nat} (h:o4 k d) (hd:s5 d L=true) (r:JI ks L):JI (k::ks) L:=⟨fun x hx=>by
 rcases List.mem_cons.1 hx with rfl | hx
 ·exact ⟨d,h,A1 hd⟩
 ·exact r.all x hx⟩
section
variable {P:Program} {c:l8} {ops:Array Oper} {S:g9} {M M':f0} {rest:List Oper} {Q:Exit->Act->World->Prop}
variable {p:Bool} {d:Option Tmp} {ty:TypeId} {pos:String} {af:Array Edge} {gd:Option (Nat×Bool)} {x y z:Operand} {b b':Bool} {code:Code}
theorem d5.wkC (v:Nat) {ks ls:List b8} {dep dep':List Nat} [hl:p8 M v (j3 ks) dep] (hw:Wk ks ls) [hd:A6 ls dep'] [hup:A7 M v (j3 ls) dep' M'] (hs:s5 dep' (tags M)=true) (K:d5 P c ops S M' rest Q):d5 P c ops S M rest Q :=
 fun a g w h=>K a g w (h.conC (ct:=j3 ks) (fun _ _ _ ⟨cs,ty,h1,h2⟩=>⟨cs,ty,h1,hw.imp h2⟩) inferInstance hup (A1 hs))
theorem Tr.growC (v o u:Nat) {ks:List b8} {dep dep':List Nat} [hl:p8 M v (j3 ks) dep] (ho:ks[o]?=some (j8 (.slice none 0 0))) {ks':List b8} (he:ks'=ks.set o (q8 u 0)) [hd:A6 ks' dep'] [hup:A7 M v (j3 ks') dep' M']
  (hf:s5 [u] (tags M)=false) {α:Type} (et:TypeId) (e:i7 α) (hs:s5 dep' (u::tags M)=true) (hk:JI ks (tags M)) (K:Tr P c S (⟨u,[],m9 true et e [] 0⟩::M') code Q):Tr P c S M code Q :=
 fun a _ w h=>let ⟨g',h'⟩:=h.growC v o u ho he inferInstance hup hf et e hs hk.all; K a g' w h'
end
end Go.Fl

/- Equal structs; how many keys a map has. No program in sight. -/
namespace Go.Fl
open Go Go.RowKit
section
variable {P:Program} {c:l8} {S:g9} {M:f0} {p:Bool} {d:Option Tmp} {ty:TypeId} {pos:String} {af:Array Edge} {gd:Option (Nat×Bool)} {x y:Operand} {b b':Bool}
end
end Go.Fl

/- A row of the call's own may be lent to a call that only reads; regions that draw their order, some of whose operations write: what yields the same in any world may come first, the rest is gone through as it may come up. No program in sight. -/
namespace Go.Fl
open Go Go.RowKit

class RJ (k:b8):Prop where
 go:∀{g g':Gh} {v:Value},k g v->k g' v
theorem MJ {J J':JV} (hJ:J.le J'):∀{ks:List b8} {vs:List Value},(∀k∈ks,o4 k [])->o6 ⟨J,w4⟩ ks vs->o6 ⟨J',w4⟩ ks vs
 | [],[],_,_=>trivial
 | [],_::_,_,h=>h.elim
 | _::_,[],_,h=>h.elim
 | k::ks,v::vs,hk,h=>⟨(hk k List.mem_cons_self).dep (g:=⟨J,w4⟩) hJ (fun _ h=>by cases h) h.1,MJ hJ (fun x hx=>hk x (List.mem_cons_of_mem _ hx)) h.2⟩
section
variable {P:Program} {c:l8} {S:g9} {M:f0} {p:Bool} {d:Option Tmp} {ty:TypeId} {pos:String} {af:Array Edge} {gd:Option (Nat×Bool)}
variable {x y z:Operand} {b b' b'':Bool}
theorem uW {f:FuncId} [hf:d8 P f] {args:List Operand} {tys:Array TypeId} {ks:List b8} {res:b8} {u len:Nat} {α:Type} {zb:Bool} {et:TypeId} {e:i7 α} {xs:List α} {dep:List Nat} [hl:p8 M u (m9 zb et e xs len) dep]
  (hct:p=true->Ct P f (b7 (eL e) xs::ks) res) (hx:j1 S x=some (b,q8 u len)) (hb:p=true->b=true) (hlen:p=true->len<=t6) (ha:D8 S p args ks) [hj:V5 ks] [hk:o4 res []] [hfr:RJ res] :
  l3 P c S M ⟨d,.call { callee:=.value (.func f),args:=(x::args).toArray,argTypes:=tys },ty,pos,af,gd⟩ p res none:=by
 intro hp a g w hok hc ho _
 have hargs:=ha.eval (g:=g) (ρ:=a.eval) hp (fun y hy b k hk hb=>ho y (by simp[Op.operands,Call.operands,hy]) b k hk hb)
 have hxv:q8 u len g (a.eval x):=ho x (by simp[Op.operands,Call.operands]) b _ hx (hb hp)
 obtain ⟨bk,hm,h0,h1⟩:=hc _ hl.mem
 simp only at hm h0
 have key:∃J':JV,g.J.le J'/\Im J' w/\(b7 (eL e) xs) ⟨J',w4⟩ (a.eval x)/\∀J2:JV,J'.le J2->(∀b o,b<w.heap.size->J2 b o=J' b o)->∃J3:JV,g.J.le J3/\(∀b o,b<w.heap.size->J3 b o=g.J b o)/\∀w',Im J2 w'->Im J3 w':=by
  cases bk with
  | nil =>
   subst h1
   have hxs:xs=[]:=List.eq_nil_of_length_eq_zero h0
   subst hxs
   refine ⟨g.J,JV.le_refl _,hok.im,?_,fun J2 h2 h3=>⟨J2,h2,h3,fun _ h=>h⟩⟩
   rcases hxv with ⟨_,_,hv⟩ | ⟨b,cap,hb,_⟩
   ·exact ⟨_,V0,hv⟩
   ·rw[hm] at hb; cases hb
  | blk bl cap =>
   obtain ⟨_,cs,h3,h4,h5,h6,h7⟩:=h1
   have hnone:=(hok.own u bl cap hm).2.2
   have hJ:g.J.le (g.J.with bl cs):=JV.le_with hnone
   refine ⟨g.J.with bl cs,hJ,fun b o v hv=>?_,?_,fun J2 h2 h3'=>⟨fun b o=>if b=bl then none else J2 b o,fun b o v hv=>?_,fun b o hlt=>?_,fun w' him b o v hv=>?_⟩⟩
   ·unfold JV.with at hv
    by_cases e:b=bl
    ·rw[if_pos e] at hv; subst e; exact J6 h3 hv
    ·rw[if_neg e] at hv; exact hok.im b o v hv
   ·rcases hxv with ⟨hb,_⟩ | ⟨b',cap',hb,hv⟩
    ·rw[hm] at hb; cases hb
    ·rw[hm] at hb; cases hb
     refine ⟨_,⟨some ⟨bl,0,none⟩,cap,rfl,⟨by rw[h0]; exact hlen hp,by rw[h0]; exact h5⟩,.inr ⟨bl,0,rfl,fun i x hx=>?_⟩⟩,by rw[h0]; exact hv⟩
     obtain ⟨ds,q1,q2⟩:=h7 i x hx
     refine ⟨ds,e.mono hJ q1,fun j v hj=>?_⟩
     show (g.J.with bl cs) bl (0+i*e.n+j)=some v
     unfold JV.with
     rw[if_pos rfl,Nat.zero_add]
     exact q2 j v hj
   ·have hne:b≠bl:=fun e=>by subst e; rw[hnone o] at hv; cases hv
    simp only[if_neg hne]
    exact h2 _ _ _ (hJ _ _ _ hv)
   ·by_cases e:b=bl
    ·subst e; simp only[if_true]; exact (hnone o).symm
    ·simp only[if_neg e]
     rw[h3' b o hlt]
     unfold JV.with
     rw[if_neg e]
   ·by_cases e:b=bl
    ·simp only[if_pos e] at hv; cases hv
    ·simp only[if_neg e] at hv; exact him b o v hv
 obtain ⟨J',hJ,him,hrd,hback⟩:=key
 have hr:=hct hp w J' him (a.eval x::args.map a.eval) ⟨hrd,MJ hJ hj.all hargs⟩
 unfold Oper.wp
 simp only[execOp,resolve,Act.eval,Deferred.ofValue,Sem.run_bind,Sem.run_pure,Result.andThen_ok,invoke,List.map_toArray,List.map_cons,Array.append_empty,Array.empty_append]
 rw[hf.run]
 simp only[Oper.upon]
 refine hr.mono fun e' w' he=>?_
 obtain ⟨r,J2,rfl,hbel,hJ2,hold,him2,hres⟩:=he
 obtain ⟨J3,q1,q2,q3⟩:=hback J2 hJ2 hold
 exact ⟨r,_,rfl,F8.call hok hbel q1 q2 (q3 _ him2) (hfr.go (g':=⟨J3,w4⟩) hres)⟩
end

def X6 (Q:Exit->Act->World->Prop):Exit->Act->World->Prop:=fun e a w=>e=.normal/\Q .normal a w
def Nx (K:Act->World->Prop):Exit->Act->World->Prop:=fun e a w=>e=.normal/\K a w
def g6 (P:Program) (c:l8) (ops:Array Oper) (Q:Exit->Act->World->Prop) (Sp:World->Prop) (n:Nat) (listed:Array Bool) (S:g9) (M:f0):Prop :=
 ∀a g w,l4 c S M a g w->Sp w->wpAnyH P .any ops (X6 Q) Sp n listed a w
def CP (P:Program) (c:l8) (S:g9) (M:f0) (Sp:World->Prop) (o:Oper) (k:b8):Prop :=
 ∀a g w,l4 c S M a g w->Sp w->∃v,(∀w',Sp w'->(execOp a.eval o).run P w'=.ok (.value v) w')/\k g v
theorem OO {Q:Exit->Act->World->Prop}:¬LetsOut (X6 Q):=fun ⟨_,_,h⟩=>by cases h.1
theorem Oper.wp_onN {P:Program} {o:Oper} {a:Act} {w:World} {K K':Act->World->Prop} {Q:Exit->Act->World->Prop}
  (h:o.wp P a w K (Nx K')):o.wp P a w K Q:=by
 unfold Oper.wp at *
 generalize (execOp a.eval o).run P w=r at *
 cases r with
 | ok n w' =>
  cases n<;>simp only[Oper.upon] at h ⊢ <;>
   first
    | exact h
    | exact Calls.mono h (fun e w'' he=>by
      cases e with
      | returned v=>exact he
      | panicked ch=>exact absurd he.1 (by simp)
      | outgrown=>obtain ⟨_,_,hf⟩:=he; exact absurd hf.1 (by simp))
    | exact Rows.mono h (fun _ _ he=>he)
    | exact absurd h.1 (by simp)
 | halt x w' =>
  cases x<;>simp only[Oper.upon] at h ⊢<;>first | exact absurd h.1 (by simp) | exact h
section
variable {P:Program} {c:l8} {ops:Array Oper} {S:g9} {M:f0} {Q:Exit->Act->World->Prop} {Sp:World->Prop} {n:Nat} {listed:Array Bool}
variable {d:Nat} {oop:Op} {ty:TypeId} {pos:String} {af:Array Edge}
theorem g6.take (i:Nat) (listed':Array Bool) {k:b8} {dep:List Nat} (hs:Region.noSelect ops=true) (hf:Region.free .any ops listed i=true) (hr:(Region.ready .any ops listed).contains i=true) (hset:listed.setIfInBounds i true=listed')
  (hi:ops[i]?=some ⟨some d,oop,ty,pos,af,none⟩) (hy:CP P c S M Sp ⟨some d,oop,ty,pos,af,none⟩ k) [hk:o4 k dep] (hsub:s5 dep (tags M)=true) (hn:Nat.blt d c.n=true)
  (K:g6 P c ops Q Sp n listed' (⟨d,true,dep,k⟩::S) M):g6 P c ops Q Sp (n+1) listed S M:=by
 intro a g w hsat hsp
 obtain ⟨v,h1,h2⟩:=hy a g w hsat hsp
 refine wpAnyH_take hi hs hf hr (fun _ _ _ h=>absurd h.1 (by simp)) (.inl ⟨rfl,h1⟩) hsp ?_
 rw[hset]
 exact K _ g _ (hsat.did (F8.same hsat.ok h2) (fun _ h=>by cases h) hk (A1 hsub) (by simpa [Nat.blt_eq] using hn)) hsp
theorem g6.all (rs:List Nat) (hr:Region.ready .any ops listed=rs) (hne:rs≠[])
  (h:∀i∈rs,∃o,ops[i]?=some o/\d5 P c ops S M [o] (Nx fun a w=>Sp w/\wpAnyH P .any ops (X6 Q) Sp n (listed.setIfInBounds i true) a w)):g6 P c ops Q Sp (n+1) listed S M:=by
 intro a g w hsat _
 refine wpAnyH_all hr hne fun i hi=>?_
 obtain ⟨o,ho,ht⟩:=h i hi
 have h1:=ht a g w hsat
 unfold wpOp
 rw[ho]
 simp only[wpList] at h1
 simp only
 split
 ·rename_i hw
  rw[if_pos hw] at h1
  rcases h1 with h1 | ⟨_,_,_,h1⟩
  ·exact .inl (Oper.wp_mono (fun _ _ h=>h.2) (Oper.wp_onN h1))
  ·exact absurd h1.1 (by simp)
 ·rename_i hw
  rw[if_neg hw] at h1
  exact h1.2
theorem g6.one (i:Nat) (hr:Region.ready .any ops listed=[i]) {o:Oper} (ho:ops[i]?=some o)
  (h:d5 P c ops S M [o] (Nx fun a w=>Sp w/\wpAnyH P .any ops (X6 Q) Sp n (listed.setIfInBounds i true) a w)):g6 P c ops Q Sp (n+1) listed S M :=
 g6.all [i] hr (by simp) (fun j hj=>by rw[List.mem_singleton] at hj; subst hj; exact ⟨o,ho,h⟩)
theorem g6.k {listed0:Array Bool} (listed':Array Bool) (hl:listed0=listed') (hSp:∀a g w,l4 c S M a g w->Sp w) (K:g6 P c ops Q Sp n listed' S M):d5 P c ops S M [] (Nx fun a w=>Sp w/\wpAnyH P .any ops (X6 Q) Sp n listed0 a w) :=
 fun a g w hs=>wpList_nil ⟨rfl,hSp a g w hs,by rw[hl]; exact K a g w hs (hSp a g w hs)⟩
theorem g6.done (hr:Region.ready .any ops listed=[]) (h:g8 c S M Q):g6 P c ops Q Sp n listed S M:=fun a g w hs _=>wpAnyH_done hr ⟨rfl,h a g w hs⟩ n
theorem Tr.drawA {l:List Oper} {id:Nat} (hm:P.follows .mixedOrders=true) (listed':Array Bool) (hl:Array.replicate l.length false=listed') (h:g6 P c l.toArray Q (fun _=>True) l.length listed' S M) (hr:c.rd=none\/DB l=true:=by first | exact .inl rfl | exact .inr rfl):Tr P c S M (.region id l.toArray true) Q:=by
 intro a g w hs
 subst hl
 exact Code.wpIn_mono (Q:=X6 Q) (fun e _ _ q=>by obtain ⟨he,h⟩:=q; subst he; exact h) (LQ (hr.imp (fun h=>h) fun h=>⟨h,OO⟩) hm (wpAny_of_held _ _ _ _ (by simpa using h _ _ _ hs.drew trivial)))
def YU (ct:s9) (q:Bk×Option Obj):s9:=fun g bk o=>ct g bk o/\bk=q.1/\o=q.2
def L5 (f:Nat->Bk×Option Obj) (M:f0):f0:=M.map fun e=>⟨e.t,e.dep,YU e.c (f e.t)⟩
def WI (f:Nat->Bk×Option Obj) (M:f0):World->Prop:=fun w=>∀e∈M,World.objAt w (f e.t).1=(f e.t).2
end

section
variable {P:Program} {c:l8} {S:g9} {M:f0} {Sp:World->Prop} {d:Option Tmp} {ty:TypeId} {pos:String} {af:Array Edge} {gd:Option (Nat×Bool)} {x y:Operand}
theorem BN {k:b8} (hx:j1 S x=some (true,k)):CP P c S M Sp ⟨d,.move x,ty,pos,af,gd⟩ k :=
 fun a g _ hs _=>⟨a.eval x,fun _ _=>by simp[execOp],B5 hs.slots hx rfl⟩
theorem zR {op:BinOp} {t t':TypeId} {u v r:Value} (hr:∀w,(do eqGuard op t x y u v; binOp op t u v:Sem Value).run P w=.ok r w) (hx:j1 S x=some (true,j8 u)) (hy:j1 S y=some (true,j8 v)) :
  CP P c S M Sp ⟨d,.binOp op t x y t',ty,pos,af,gd⟩ (j8 r):=fun a g _ hs _=>by
 have h1:a.eval x=u:=B5 hs.slots hx rfl
 have h2:a.eval y=v:=B5 hs.slots hy rfl
 refine ⟨r,fun w _=>?_,rfl⟩
 have:=hr w
 simp only[Sem.run_bind] at this
 simp only[execOp,h1,h2,Sem.run_bind,this,Result.andThen_ok,Sem.run_pure]
theorem kG {t t':TypeId} {m n:Int} (hx:j1 S x=some (true,kI m)) (hy:j1 S y=some (true,kI n)) (h:-9223372036854775808<=m+n/\m+n<=9223372036854775807):CP P c S M Sp ⟨d,.binOp .add t x y t',ty,pos,af,gd⟩ (kI (m+n)) :=
 zR (fun w=>by simp[go_sem,IntWalk.i64_in _ h]) hx hy
theorem EY {s:TypeId} {f off:Nat} [ht:u7 P s f off] {t o:Nat} (hx:j1 S x=some (true,w6 t o)):CP P c S M Sp ⟨d,.fieldAddr s x f,ty,pos,af,gd⟩ (w6 t (o+off)):=fun a g _ hs _=>by
 obtain ⟨bl,cap,h1,h2⟩:=B5 hs.slots hx rfl
 exact ⟨.pointer (some ⟨bl,o+off,none⟩),fun _ _=>by simp[execOp,h2,ht.run,Addr.add_lit],bl,cap,h1,rfl⟩
theorem JE {t:TypeId} [ht:E0 P t] {u o:Nat} {ks:List b8} {dep:List Nat} {f:Nat->Bk×Option Obj} {M0:f0} [hl0:p8 M0 u (j3 ks) dep] [hl:p8 M u (YU (j3 ks) (f u)) dep] {k:b8} (hx:j1 S x=some (true,w6 u o)) (hk:ks[o]?=some k) :
  CP P c S M (WI f M0) ⟨d,.load t x,ty,pos,af,gd⟩ k:=fun a g w hs hsp=>by
 obtain ⟨bl,cap,h1,h2⟩:=B5 hs.slots hx rfl
 obtain ⟨bk,q1,⟨cs,tt,q2,q3⟩,q4,q5⟩:=hs.conts _ hl.mem
 simp only at q1 q4 q5
 rw[h1] at q1; cases q1
 obtain ⟨v,hv,hkv⟩:=FI q3 hk
 refine ⟨v,fun w' hw'=>?_,hkv⟩
 have hob:w'.heap[bl]?=some (.cells cs tt (0,0)):=by
  have:=hw' _ hl0.mem
  simp only at this
  rw[<- q4,<- q5,q2] at this
  exact this
 simp only[execOp,h2,Sem.run_bind,LI (P:=P) (t:=t) (J6 hob (by simpa using hv)),Result.andThen_ok,Sem.run_pure]
end
end Go.Fl

/- Functions that change a block which the caller lends by a pointer: their walk. No program in sight. -/
namespace Go.Fl
open Go Go.RowKit

def CX (t o bl:Nat):b8:=fun g v=>(∃cap,g.M t=some (.blk bl cap))/\v=.pointer (some ⟨bl,o,none⟩)
instance (t o bl:Nat):o4 (CX t o bl) [t]:=⟨fun _ hd ⟨⟨cap,h1⟩,h2⟩=>⟨⟨cap,(hd t (by simp)).trans h1⟩,h2⟩⟩
theorem CX.own {t o bl:Nat} {g:Gh} {v:Value} (h:CX t o bl g v):w6 t o g v:=let ⟨⟨cap,h1⟩,h2⟩:=h; ⟨bl,cap,h1,h2⟩
section
variable {P:Program} {c:l8} {S:g9} {M:f0} {p:Bool} {d:Option Tmp} {ty:TypeId} {pos:String} {af:Array Edge} {gd:Option (Nat×Bool)} {x:Operand} {b:Bool} {Sp:World->Prop}
theorem L4 {t o bl:Nat} (hx:j1 S x=some (b,CX t o bl)) (hb:p=true->b=true):l3 P c S M ⟨d,.nilCheck x,ty,pos,af,gd⟩ p (w6 t o) none :=
 l3.pure fun hp a g w _ _ ho=>by
  have hk:=ho x (by simp[Op.operands]) b _ hx (hb hp)
  exact ⟨a.eval x,by simp[execOp,hk.2],hk.own⟩
end
def AL (w:World) (J:JV) (b cap:Nat) (res:b8) (ct':s9):Ending->World->Prop:=fun e w'=>∃r J',e=.returned r/\DO (.blk b cap) w w'/\J.le J'/\(∀b' o,b'<w.heap.size->J' b' o=J b' o)/\Im J' w'/\res ⟨J',w4⟩ r/\ct' (g1 J' b cap) (.blk b cap) w'.heap[b]?
theorem JS {g g':Gh} (hJ:g.J.le g'.J):∀{ks:List b8} {vs:List Value},(∀k∈ks,o4 k [])->o6 g ks vs->o6 g' ks vs
 | [],[],_,_=>trivial
 | [],_::_,_,h=>h.elim
 | _::_,[],_,h=>h.elim
 | k::ks,v::vs,hk,h=>⟨(hk k List.mem_cons_self).dep hJ (fun _ h=>by cases h) h.1,JS hJ (fun x hx=>hk x (List.mem_cons_of_mem _ hx)) h.2⟩
theorem DQ.mk {P:Program} {f:FuncId} {fn:Func} {code:Code} {args:List b8} {res:b8} {ct ct':s9} {n:Nat} (hf:P.funcs[f]?=some fn) (hb:fn.body=some code) (hn:fn.ntmps=n) (hl:Nat.ble (args.length+1) n=true) [hj:V5 args] [hcd:z7 ct []]
  (h:∀w J b cap,Tr P ⟨w,J,[b],n,none,false,[]⟩ (⟨0,true,[0],CX 0 0 b⟩::params 1 args) [⟨0,[],ct⟩] code (bodyPost P fn (AL w J b cap res ct'))):DQ P f (w6 0 0) args ct ct' res:=by
 intro w J b cap him hJ hlt hct v vs hv hvs
 have hlen:=I2 hvs
 have hle:args.length+1<=n:=Nat.le_of_ble_eq_true hl
 have hM:∀t bk,(g1 J b cap).M t=some bk->t=0/\bk=.blk b cap:=fun t bk ht=>by
  simp only[g1] at ht
  split at ht
  ·rename_i e; cases ht; exact ⟨e,rfl⟩
  ·cases ht
 refine calls_of_wp hf hb<|wpIn_wide.1 (h w J b cap _ (g1 J b cap) w ⟨⟨⟨rfl,rfl,rfl,Nat.le_refl _,fun _ _ _=>rfl,Nat.le_refl _⟩,JV.le_refl _,fun _ _ _=>rfl,him,fun t b' cap' ht=>?_,fun t t' b1 c1 c2 h1 h2=>?_⟩,?_,?_,?_,by simp,?_,?_,⟨rfl,fun _ h=>(by cases h)⟩,?_⟩)
 ·obtain ⟨_,e⟩:=hM _ _ ht
  cases e
  exact ⟨.inr (by simp),hlt,hJ⟩
 ·rw[(hM _ _ h1).1,(hM _ _ h2).1]
 ·intro t bb k hk
  simp only[look] at hk
  cases hb0:Nat.beq 0 t with
  | true =>
   rw[hb0] at hk
   simp only[cond_true,Option.some.injEq,Prod.mk.injEq] at hk
   obtain ⟨rfl,rfl⟩:=hk
   have:=Nat.eq_of_beq_eq_true hb0
   subst this
   refine ⟨fun _=>?_,fun hf=>(by cases hf)⟩
   obtain ⟨b',cap',h1,h2⟩:=hv
   obtain ⟨_,e⟩:=hM _ _ h1
   cases e
   have:((v::vs).toArray++Array.replicate (fn.ntmps-(v::vs).toArray.size) undef).getD 0 undef=v:=by
    rw[Array.getD_eq_getD_getElem?,Array.getElem?_append_left (by simp)]
    simp
   rw[this]
   exact ⟨⟨cap,by simp[g1]⟩,h2⟩
  | false =>
   rw[hb0] at hk
   obtain ⟨h1,rfl,u,hu,hku⟩:=GC (g:=g1 J b cap) (JS (g:=⟨J,w4⟩) (g':=g1 J b cap) (JV.le_refl _) hj.all hvs) hk
   refine ⟨fun _=>?_,fun hf=>(by cases hf)⟩
   have hu':(v::vs)[t]?=some u:=by
    rw[show t=(t-1)+1 by omega]; simpa using hu
   have ht:t<(v::vs).length:=(List.getElem?_eq_some_iff.1 hu').1
   have:((v::vs).toArray++Array.replicate (fn.ntmps-(v::vs).toArray.size) undef).getD t undef=u:=by
    rw[Array.getD_eq_getD_getElem?,Array.getElem?_append_left (by simpa using ht)]
    simp only[List.getElem?_toArray]
    rw[hu']; rfl
   rw[this]; exact hku
 ·intro e he
  simp only[List.mem_singleton] at he
  subst he
  exact ⟨_,by simp[g1],hct⟩
 ·intro t ht
  cases hm:(g1 J b cap).M t with
  | none=>exact absurd hm ht
  | some bk=>simp[(hM _ _ hm).1]
 ·intro e he
  rcases List.mem_cons.1 he with rfl | he
  ·exact ⟨inferInstance,fun t ht=>by simpa using ht⟩
  ·obtain ⟨h1,h2⟩:=GB hj.all he
   exact ⟨h1,fun t ht=>by rw[h2] at ht; cases ht⟩
 ·intro e he
  simp only[List.mem_singleton] at he
  subst he
  exact ⟨hcd,fun t ht=>by cases ht⟩
 ·simp only[Array.size_append,List.size_toArray,Array.size_replicate,List.length_cons]; omega
section
variable {P:Program} {n:Nat} {w0:World} {J0:JV} {S:g9} {M:f0} {fn:Func} {b cap t:Nat} {ct ct':s9} {dep:List Nat}
theorem tR {e:Exit} (he:e=.normal\/e=.ret) (hr:fn.results=#[]) (hl:look S t=some (true,CX 0 0 b)) [hm:p8 M 0 ct dep] (hc:∀g bk o,ct g bk o->ct' (g1 g.J b cap) (.blk b cap) o) (a:Act) (g:Gh) (w:World) (hs:l4 ⟨w0,J0,[b],n,none,false,[]⟩ S M a g w) :
  bodyPost P fn (AL w0 J0 b cap (j8 (.tuple #[])) ct') e a w:=by
 obtain ⟨⟨cap',h1⟩,_⟩:=(hs.slots t _ _ hl).1 rfl
 obtain ⟨bk,h2,h3⟩:=hs.conts _ hm.mem
 simp only at h2 h3
 rw[h1] at h2; cases h2
 have key:a.defers=[]/\∃v,(results fn a.tmps).run P w=.ok v w/\AL w0 J0 b cap (j8 (.tuple #[])) ct' (.returned v) w :=
  ⟨hs.defers.1,.tuple #[],by simp[results,hr],_,g.J,rfl,⟨hs.ok.bel.os,hs.ok.bel.tape,hs.ok.bel.output,hs.ok.bel.size,fun k hk hne=>hs.ok.bel.block k hk (by simp only[List.mem_singleton]; rintro rfl; exact hne cap rfl),hs.ok.bel.drawn⟩,hs.ok.jle,hs.ok.jold,hs.ok.im,rfl,hc _ _ _ h3⟩
 rcases he with rfl | rfl<;>exact key
theorem g8.mutB (hr:fn.results=#[]) (hl:look S t=some (true,CX 0 0 b)) [hm:p8 M 0 ct dep] (hc:∀g bk o,ct g bk o->ct' (g1 g.J b cap) (.blk b cap) o):g8 ⟨w0,J0,[b],n,none,false,[]⟩ S M (bodyPost P fn (AL w0 J0 b cap (j8 (.tuple #[])) ct')) :=
 fun a g w hs=>tR (.inl rfl) hr hl hc a g w hs
end
end Go.Fl

/- Elements of an array of the call's own at a place that is not written out; parts of the elements of a row of the call's own. No program in sight. -/
namespace Go.Fl
open Go Go.RowKit
section
variable {P:Program} {c:l8} {S:g9} {M:f0} {p:Bool} {d:Option Tmp} {ty:TypeId} {pos:String} {af:Array Edge} {gd:Option (Nat×Bool)} {x y:Operand} {b b':Bool}
end
section
variable {P:Program} {c:l8} {ops:Array Oper} {S:g9} {M:f0} {rest:List Oper} {Q:Exit->Act->World->Prop} {x y:Operand}
variable {ty:TypeId} {pos:String} {af:Array Edge}
end
section
variable {P:Program} {c:l8} {ops:Array Oper} {S:g9} {M:f0} {rest:List Oper} {Q:Exit->Act->World->Prop}
variable {d:Nat} {ty:TypeId} {pos:String} {af:Array Edge}
theorem d5.mutP {f:FuncId} [hf:d8 P f] {x:Operand} {args:List Operand} {tys:Array TypeId} {ks:List b8} {res:b8} {u:Nat} {ct ct0 ct':s9} {dep:List Nat} {M':f0} (hct:DQ P f (w6 0 0) ks ct ct' res) (hx:j1 S x=some (true,w6 u 0)) (ha:D8 S true args ks)
  [hl:p8 M u ct0 dep] [hnk:JM ct0] (hc:∀g b cap o,ct0 g (.blk b cap) o->ct (g1 g.J b cap) (.blk b cap) o) (hc':∀{J b cap o} {g:Gh},ct' (g1 J b cap) (.blk b cap) o->ct' ⟨J,g.M⟩ (.blk b cap) o) [hcd:z7 ct' []] [hup:A7 M u ct' [] M'] [hkd:o4 res []] (hn:Nat.blt d c.n=true)
  (K:d5 P c ops (⟨d,true,[],res⟩::S) M' rest Q):d5 P c ops S M (⟨some d,.call { callee:=.value (.func f),args:=(x::args).toArray,argTypes:=tys },ty,pos,af,none⟩::rest) Q:=by
 intro a g w hsat
 have hdn:d<c.n:=by simpa [Nat.blt_eq] using hn
 have hk:=B5 hsat.slots hx rfl
 obtain ⟨b,cap,hm,hv⟩:=hk
 obtain ⟨bk2,hm2,hobj⟩:=hsat.conts _ hl.mem
 simp only at hm2 hobj
 rw[hm] at hm2; cases hm2
 obtain ⟨_,hlt,hJn⟩:=hsat.ok.own u b cap hm
 have hargs:=ha.eval (g:=g) (ρ:=a.eval) rfl (fun y _ b k hk hb=>B5 hsat.slots hk hb)
 have hr:=hct w g.J b cap hsat.ok.im hJn hlt (hc _ _ _ _ hobj) _ _ ((inferInstance:XZ (w6 u 0) u (w6 0 0)).imp hm ⟨b,cap,hm,hv⟩) hargs
 refine wpList_plain rfl fun K' hK'=>?_
 unfold Oper.wp
 simp only[execOp,resolve,Act.eval,Deferred.ofValue,Sem.run_bind,Sem.run_pure,Result.andThen_ok,invoke,List.map_toArray,List.map_cons,Array.append_empty,Array.empty_append]
 rw[hf.run]
 simp only[Oper.upon]
 refine hr.mono fun e w' he=>?_
 obtain ⟨r,J',rfl,h1,h2,h3,h4,h5,h6⟩:=he
 exact hK' _ _ (K _ _ _ (hsat.mut hm (hsat.nomark hl hm _ _ rfl) h1 h2 h3 h4 hup hcd (hc' h6) hdn (hkd.dep (g:=⟨J',w4⟩) (JV.le_refl _) (fun _ h=>by cases h) h5)))
end
end Go.Fl

/- Structs of integers that are equal. No program in sight. -/
namespace Go.Fl
open Go Go.RowKit
section
variable {P:Program} {c:l8} {S:g9} {M:f0} {p:Bool} {d:Option Tmp} {ty:TypeId} {pos:String} {af:Array Edge} {gd:Option (Nat×Bool)} {x y:Operand} {b b':Bool}
end
end Go.Fl

/- Parts of rows that are immutable; functions that return a part of their argument; calls that take one of the caller's own rows for good. No program in sight. -/
namespace Go.Fl
open Go Go.RowKit
theorem BE.take {α:Type} {e:i7 α} {J:JV} {b o n:Nat} {xs:List α} (h:BE e J b o xs):BE e J b o (xs.take n):=fun i x hx=>by
 rw[List.getElem?_take] at hx
 split at hx
 ·exact h i x hx
 ·cases hx
theorem BE.drop {α:Type} {e:i7 α} {J:JV} {b o n:Nat} {xs:List α} (h:BE e J b o xs):BE e J b (o+n*e.n) (xs.drop n):=fun i x hx=>by
 rw[List.getElem?_drop] at hx
 obtain ⟨ds,h1,h2⟩:=h _ x hx
 refine ⟨ds,h1,fun j v hj=>?_⟩
 have:=h2 j v hj
 rwa [show o+(n+i)*e.n+j=o+n*e.n+i*e.n+j by rw[Nat.add_mul]; omega] at this
section
variable {P:Program} {c:l8} {S:g9} {M:f0} {p:Bool} {d:Option Tmp} {ty:TypeId} {pos:String} {af:Array Edge} {gd:Option (Nat×Bool)} {x y z:Operand} {b b' b'':Bool}
theorem FX {t et:TypeId} [ht:C5 P t et] {sz by':Nat} {zz:Value} [hz:q7 P et sz by' zz] {α:Type} {e:i7 α} {xs:List α} {ik:IntKind} {i0:Int} (hx:j1 S x=some (b,b7 (eL e) xs)) (hb:p=true->b=true) (hy:j1 S y=some (b',y3 ik i0)) (hb':p=true->b'=true) (h:p=true->0<=i0/\i0<=xs.length) :
  l3 P c S M ⟨d,.slice t x none (some y) none,ty,pos,af,gd⟩ p (b7 (eL e) (xs.take i0.toNat)) none :=
 l3.pure fun hp a g w _ _ ho=>by
  have hi:a.eval y=_:=ho y (by simp[Op.operands]) b' _ hy (hb' hp)
  have hlt0:=h hp
  obtain ⟨i,rfl⟩:∃i:Nat,i0=i:=⟨i0.toNat,by omega⟩
  rw[Int.toNat_natCast]
  have hlt:i<=xs.length:=by omega
  obtain ⟨cs,⟨ad,cap,rfl,⟨hl1,hl2⟩,hr⟩,h2⟩:=ho x (by simp[Op.operands]) b _ hx (hb hp)
  simp only[eL,Bool.false_eq_true,if_false,List.headD_cons] at h2
  obtain ⟨j,hj,rfl,rfl,_⟩:=hz.h
  have hun:P.underlying t=some (.slice (P.elem t)):=by rw[ht.h]; simp[Program.elem,ht.h]
  have hel:P.elem t=et:=by simp[Program.elem,ht.h]
  have hsz:(sizeOf et).run P w=.ok j.size w:=by simp[sizeOf,typeInfo,hj]
  refine ⟨sliced ad 0 i cap j.size,?_,?_⟩
  ·simp only[execOp,h2,hi,Option.map]
   rw[Sem.run_bind,run_sliceAt_slice w t _ _ _ _ hun,run_slice_h w t _ xs.length cap hun ik i zo zo,hel]
   simp only[Result.andThen_ok,Sem.run_pure,hsz,Int.toNat_natCast]
  ·have hmin:(xs.take i).length=i:=by rw[List.length_take]; omega
   rcases hr with rfl | ⟨bl,o,rfl,hrow⟩
   ·obtain rfl:i=0:=by simpa using hlt
    exact ⟨[sliced ad 0 0 cap j.size],⟨if cap=0 then ad else ad.map (·.add (0*j.size)),cap-0,rfl,⟨by simp,by simp⟩,.inl (by simp)⟩,rfl⟩
   ·refine ⟨[sliced (some ⟨bl,o,none⟩) 0 i cap j.size],⟨if cap=0 then some ⟨bl,o,none⟩ else (some ⟨bl,o,none⟩:Option Addr).map (·.add (0*j.size)),cap-0,?_,⟨by rw[hmin]; omega,by rw[hmin,Nat.sub_zero]; omega⟩,.inr ⟨bl,o,?_,hrow.take⟩⟩,rfl⟩
    ·simp only[sliced,hmin,Nat.sub_zero]
    ·split<;>simp[Addr.add]
theorem vB {t et:TypeId} [ht:C5 P t et] {sz by':Nat} {zz:Value} [hz:q7 P et sz by' zz] {α:Type} {e:i7 α} {xs:List α} {ik:IntKind} {i0:Int} (hx:j1 S x=some (b,b7 (eL e) xs)) (hb:p=true->b=true) (hy:j1 S y=some (b',y3 ik i0)) (hb':p=true->b'=true) (h:p=true->0<=i0/\i0<=xs.length) (hs:sz=e.n) :
  l3 P c S M ⟨d,.slice t x (some y) none none,ty,pos,af,gd⟩ p (b7 (eL e) (xs.drop i0.toNat)) none :=
 l3.pure fun hp a g w _ _ ho=>by
  have hi:a.eval y=_:=ho y (by simp[Op.operands]) b' _ hy (hb' hp)
  have hlt0:=h hp
  obtain ⟨i,rfl⟩:∃i:Nat,i0=i:=⟨i0.toNat,by omega⟩
  rw[Int.toNat_natCast]
  have hlt:i<=xs.length:=by omega
  obtain ⟨cs,⟨ad,cap,rfl,⟨hl1,hl2⟩,hr⟩,h2⟩:=ho x (by simp[Op.operands]) b _ hx (hb hp)
  simp only[eL,Bool.false_eq_true,if_false,List.headD_cons] at h2
  obtain ⟨j,hj,rfl,rfl,_⟩:=hz.h
  have hun:P.underlying t=some (.slice (P.elem t)):=by rw[ht.h]; simp[Program.elem,ht.h]
  have hel:P.elem t=et:=by simp[Program.elem,ht.h]
  have hsz:(sizeOf et).run P w=.ok j.size w:=by simp[sizeOf,typeInfo,hj]
  refine ⟨sliced ad i xs.length cap j.size,?_,?_⟩
  ·simp only[execOp,h2,hi,Option.map]
   rw[Sem.run_bind,run_sliceAt_slice w t _ _ _ _ hun,run_slice_l w t _ xs.length cap hun ik i zo zo,hel]
   simp only[Result.andThen_ok,Sem.run_pure,hsz,Int.toNat_natCast]
  ·have hmin:(xs.drop i).length=xs.length-i:=List.length_drop
   refine ⟨[sliced ad i xs.length cap j.size],⟨if cap=i then ad else ad.map (·.add (i*j.size)),cap-i,?_,⟨by rw[hmin]; omega,by rw[hmin]; omega⟩,?_⟩,rfl⟩
   ·simp only[sliced,hmin]
   ·by_cases h0:xs.drop i=[]
    ·exact .inl h0
    ·have hne:i<xs.length:=by
      rcases Nat.lt_or_ge i xs.length with h | h
      ·exact h
      ·exact absurd (List.drop_eq_nil_of_le h) h0
     rcases hr with rfl | ⟨bl,o,rfl,hrow⟩
     ·simp at hne
     ·exact .inr ⟨bl,o+i*j.size,by rw[if_neg zo]; simp[Addr.add],by rw[hs]; exact hrow.drop⟩
end
end Go.Fl

/- Functions that return a part of their argument; calls that change a lent row and return a part of it; queues that become immutable. No program in sight. -/
namespace Go.Fl
open Go Go.RowKit
instance {t n o l:Nat}:Y8 (B7 t n o l):=⟨fun ⟨_,_,_,_,_,_,h⟩=>by subst h; rfl⟩
def H8 {α:Type} (e:i7 α) (ad:Option Addr) (cap:Nat) (xs:List α):b8:=fun g v=>v=.slice ad xs.length cap/\b7 (eL e) xs g v
instance {α:Type} (e:i7 α) (ad:Option Addr) (cap:Nat) (xs:List α):o4 (H8 e ad cap xs) []:=⟨fun hJ hd h=>⟨h.1,(inferInstance:o4 (b7 (eL e) xs) []).dep hJ hd h.2⟩⟩
theorem H8.cast {α:Type} {e:i7 α} {ad:Option Addr} {cap:Nat} {xs ys:List α} (h:xs=ys) {g:Gh} {v:Value} (k:H8 e ad cap xs g v):H8 e ad cap ys g v:=h▸k
section
variable {P:Program} {c:l8} {S:g9} {M:f0} {p:Bool} {d:Option Tmp} {ty:TypeId} {pos:String} {af:Array Edge} {gd:Option (Nat×Bool)} {x y z:Operand} {b b' b'':Bool}
theorem WB {t:TypeId} {e':TypeId} [ht:C5 P t e'] {α:Type} {e:i7 α} {ad:Option Addr} {cap:Nat} {xs:List α} (hx:j1 S x=some (b,H8 e ad cap xs)) (hb:p=true->b=true):l3 P c S M ⟨d,.call { callee:=.builtin .len,args:=#[x],argTypes:=#[t] },ty,pos,af,gd⟩ p (kI xs.length) none :=
 l3.pure fun hp a g w _ _ ho=>by
  have h2:a.eval x=_:=(ho x (by simp[Op.operands,Call.operands]) b _ hx (hb hp)).1
  exact ⟨_,by simp[execOp,resolve,invoke,builtin,Builtin.len_,h2,run_underlying ht.h,goInt],rfl⟩
theorem uU {t et:TypeId} [ht:C5 P t et] {sz by':Nat} {zz:Value} [hz:q7 P et sz by' zz] {α:Type} [Inhabited α] {e:i7 α} {ad:Option Addr} {cap:Nat} {xs:List α} {ik:IntKind} {i:Int} (hx:j1 S x=some (b,H8 e ad cap xs)) (hb:p=true->b=true) (hy:j1 S y=some (b',y3 ik i)) (hb':p=true->b'=true)
  (hs:sz=e.n) (h:p=true->0<=i/\i<xs.length):l3 P c S M ⟨d,.indexAddr t x y,ty,pos,af,gd⟩ p (r5 e (b6 xs i.toNat)) none :=
 l3.pure fun hp a g w _ _ ho=>by
  obtain ⟨cs,⟨ad,cap,rfl,_,hr⟩,h2⟩:=(ho x (by simp[Op.operands]) b _ hx (hb hp)).2
  have hi:a.eval y=_:=ho y (by simp[Op.operands]) b' _ hy (hb' hp)
  simp only[eL,Bool.false_eq_true,if_false,List.headD_cons] at h2
  have hlt:=h hp
  rcases hr with rfl | ⟨bl,o,rfl,hrow⟩
  ·simp at hlt; omega
  obtain ⟨ds,k1,k2⟩:=hrow i.toNat (b6 xs i.toNat) (G0 zo)
  exact ⟨.pointer (some ⟨bl,o+i.toNat*sz,none⟩),by simp only[execOp,h2,hi,Sem.run_bind,KL (P:=P) hlt,Result.andThen_ok,Sem.run_pure],bl,o+i.toNat*sz,ds,rfl,k1,by rw[hs]; exact k2⟩
theorem vD {t et:TypeId} [ht:C5 P t et] {sz by':Nat} {zz:Value} [hz:q7 P et sz by' zz] {α:Type} {e:i7 α} {ad:Option Addr} {cap:Nat} {xs:List α} {ik:IntKind} {i:Int} (hx:j1 S x=some (b,H8 e ad cap xs)) (hb:p=true->b=true) (hy:j1 S y=some (b',y3 ik i)) (hb':p=true->b'=true) (h:p=true->0<=i/\i<=xs.length) :
  l3 P c S M ⟨d,.slice t x none (some y) none,ty,pos,af,gd⟩ p (H8 e ad cap (xs.take i.toNat)) none :=
 l3.pure fun hp a g w _ _ ho=>by
  have hi:a.eval y=_:=ho y (by simp[Op.operands]) b' _ hy (hb' hp)
  have hlt:=h hp
  obtain ⟨hv,cs,⟨ad',cap',rfl,⟨hl1,hl2⟩,hr⟩,h2⟩:=ho x (by simp[Op.operands]) b _ hx (hb hp)
  simp only[eL,Bool.false_eq_true,if_false,List.headD_cons] at h2
  rw[h2] at hv
  cases hv
  obtain ⟨j,hj,rfl,rfl,_⟩:=hz.h
  have hun:P.underlying t=some (.slice (P.elem t)):=by rw[ht.h]; simp[Program.elem,ht.h]
  have hel:P.elem t=et:=by simp[Program.elem,ht.h]
  have hsz:(sizeOf et).run P w=.ok j.size w:=by simp[sizeOf,typeInfo,hj]
  have hmin:(xs.take i.toNat).length=i.toNat:=by rw[List.length_take]; omega
  have hadd:∀q:Option Addr,q.map (·.add (0*j.size))=q:=fun q=>by cases q<;>simp[Addr.add]
  have hsl:sliced ad 0 i.toNat cap j.size=.slice ad i.toNat cap:=by
   unfold sliced
   rw[hadd,Nat.sub_zero,Nat.sub_zero]
   split<;>rfl
  refine ⟨.slice ad i.toNat cap,?_,by rw[hmin],?_⟩
  ·simp only[execOp,h2,hi,Option.map]
   rw[Sem.run_bind,run_sliceAt_slice w t _ _ _ _ hun,run_slice_h w t _ xs.length cap hun ik i hlt.1 zo,hel]
   simp only[Result.andThen_ok,Sem.run_pure,hsz,hsl]
  ·refine ⟨[.slice ad i.toNat cap],⟨_,_,by rw[hmin],⟨by rw[hmin]; omega,by rw[hmin]; omega⟩,?_⟩,rfl⟩
   rcases hr with rfl | ⟨bl,o,rfl,hrow⟩
   ·exact .inl (by simp)
   ·exact .inr ⟨bl,o,rfl,hrow.take⟩
theorem Ct.ofSlv {f:FuncId} {α:Type} {e:i7 α} {xs ys:List α} (h:∀ad cap,Ct P f [H8 e ad cap xs] (H8 e ad cap ys)):Ct P f [b7 (eL e) xs] (b7 (eL e) ys):=by
 intro w J him vs hvs
 match vs,hvs with
 | [v],⟨hv,_⟩ =>
  obtain ⟨cs,⟨ad,cap,rfl,h1,h2⟩,h3⟩:=hv
  refine (h ad cap w J him [v] ⟨⟨h3,_,⟨ad,cap,rfl,h1,h2⟩,h3⟩,trivial⟩).mono fun e' w' he=>?_
  obtain ⟨r,J',q1,q2,q3,q4,q5,q6⟩:=he
  exact ⟨r,J',q1,q2,q3,q4,q5,q6.2⟩
theorem WC {f:FuncId} [hf:d8 P f] {tys:Array TypeId} {u len n:Nat} {α:Type} {zb:Bool} {et:TypeId} {e:i7 α} {xs ys:List α} {dep:List Nat} [hl:p8 M u (m9 zb et e xs len) dep]
  (hct:∀ad cap,Ct P f [H8 e ad cap xs] (H8 e ad cap ys)) (hx:j1 S x=some (b,q8 u len)) (hb:p=true->b=true) (hlen:p=true->0<len/\len<=t6/\ys.length<=len) :
  l3 P c S M ⟨d,.call { callee:=.value (.func f),args:=#[x],argTypes:=tys },ty,pos,af,gd⟩ p (B7 u n 0 ys.length) none:=by
 intro hp a g w hok hc ho _
 obtain ⟨hl0,hl1,hl2⟩:=hlen hp
 have hxv:q8 u len g (a.eval x):=ho x (by simp[Op.operands,Call.operands]) b _ hx (hb hp)
 obtain ⟨bk,hm,h0,h1⟩:=hc _ hl.mem
 simp only at hm h0
 cases bk with
 | nil=>omega
 | blk bl cap =>
  obtain ⟨_,cs,h3,h4,h5,h6,h7⟩:=h1
  have hnone:=(hok.own u bl cap hm).2.2
  have hJ:g.J.le (g.J.with bl cs):=JV.le_with hnone
  have him:Im (g.J.with bl cs) w:=fun b o v hv=>by
   unfold JV.with at hv
   by_cases e:b=bl
   ·rw[if_pos e] at hv; subst e; exact J6 h3 hv
   ·rw[if_neg e] at hv; exact hok.im b o v hv
  have hev:a.eval x=.slice (some ⟨bl,0,none⟩) len cap:=by
   rcases hxv with ⟨hb,_⟩ | ⟨b',cap',hb,hv⟩
   ·rw[hm] at hb; cases hb
   ·rw[hm] at hb; cases hb; exact hv
  have hrd:H8 e (some ⟨bl,0,none⟩) cap xs ⟨g.J.with bl cs,w4⟩ (a.eval x):=by
   refine ⟨by rw[hev,h0],_,⟨some ⟨bl,0,none⟩,cap,rfl,⟨by rw[h0]; exact hl1,by rw[h0]; exact h5⟩,.inr ⟨bl,0,rfl,fun i x hx=>?_⟩⟩,by rw[h0]; exact hev⟩
   obtain ⟨ds,q1,q2⟩:=h7 i x hx
   refine ⟨ds,e.mono hJ q1,fun j v hj=>?_⟩
   show (g.J.with bl cs) bl (0+i*e.n+j)=some v
   unfold JV.with
   rw[if_pos rfl,Nat.zero_add]
   exact q2 j v hj
  have hr:=hct _ _ w _ him [a.eval x] ⟨hrd,trivial⟩
  unfold Oper.wp
  simp only[execOp,resolve,Act.eval,Deferred.ofValue,Sem.run_bind,Sem.run_pure,Result.andThen_ok,invoke,List.map_toArray,List.map_cons,List.map_nil,Array.append_empty,Array.empty_append]
  rw[hf.run]
  simp only[Oper.upon]
  refine hr.mono fun e' w' he=>?_
  obtain ⟨r,J2,rfl,hbel,hJ2,hold,him2,hres⟩:=he
  refine ⟨r,⟨fun b o=>if b=bl then none else J2 b o,g.M⟩,rfl,?_⟩
  have hle:g.J.le (fun b o=>if b=bl then none else J2 b o):=fun b o v hv=>by
   have hne:b≠bl:=fun e=>by subst e; rw[hnone o] at hv; cases hv
   show (if b=bl then none else J2 b o)=some v
   rw[if_neg hne]
   exact hJ2 _ _ _ (hJ _ _ _ hv)
  have hq:∀b o,b<w.heap.size->(if b=bl then none else J2 b o)=g.J b o:=fun b o hlt=>by
   by_cases e:b=bl
   ·subst e; rw[if_pos rfl]; exact (hnone o).symm
   ·rw[if_neg e,hold b o hlt]
    unfold JV.with
    rw[if_neg e]
  refine ⟨⟨bl,cap,0,hm,by omega,fun _=>by omega,by rw[Nat.sub_zero]; exact hres.1⟩,⟨hle,fun _ _ h=>h⟩,⟨hok.bel.then hbel,JV.le_trans hok.jle hle,fun b o hb=>?_,fun b o v hv=>?_,fun t b cap ht=>?_,hok.inj⟩,hbel,fun _ h=>(by cases h),fun _ _=>rfl⟩
  ·show (if b=bl then none else J2 b o)=c.J0 b o
   rw[hq b o (Nat.lt_of_lt_of_le hb hok.bel.size)]; exact hok.jold b o hb
  ·have hv':(if b=bl then none else J2 b o)=some v:=hv
   by_cases e:b=bl
   ·rw[if_pos e] at hv'; cases hv'
   ·rw[if_neg e] at hv'; exact him2 b o v hv'
  ·obtain ⟨q1,q2,q3⟩:=hok.own t b cap ht
   exact ⟨q1,Nat.lt_of_lt_of_le q2 hbel.size,fun o=>by show (if b=bl then none else J2 b o)=none; rw[hq b o q2]; exact q3 o⟩
end
def JT (S:g9) (u n off len:Nat):List Nat->Prop
 | []=>True
 | s::r=>look S s=some (true,B7 u n off len)/\JT S u n off len r
theorem RW {S:g9} {u n off len:Nat}:∀{ss:List Nat},JT S u n off len ss->∀s∈ss,look S s=some (true,B7 u n off len)
 | s::r,h,t,ht=>by
  rcases List.mem_cons.1 ht with rfl | ht
  ·exact h.1
  ·exact RW h.2 t ht
theorem l4.frzQ {n:Nat} {rd:Option Nat} {mrk:Bool} {om:List Nat} {w0:World} {J0:JV} {S:g9} {M M':f0} {a:Act} {g:Gh} {w:World} (h:l4 ⟨w0,J0,[],n,rd,mrk,om⟩ S M a g w) {u sz m len:Nat} {α:Type} {zb:Bool} {et:TypeId} {e:i7 α} {xs:List α} {dep:List Nat} {ss:List Nat} [hl:p8 M u (m9 zb et e xs len) dep]
  (hss:JT S u sz 0 m ss) (hm0:m<=len/\len<=t6) [hdel:K3 M u M'] (hnd:H9 u M=true):∃g',l4 ⟨w0,J0,[],n,rd,mrk,om⟩ (g9.setAll ss (b7 (eL e) (xs.take m)) (inv u S)) M' a g' w:=by
 obtain ⟨bk,hm,h0,h1⟩:=h.conts _ hl.mem
 simp only at hm h0
 have hml:(xs.take m).length=m:=by rw[List.length_take]; omega
 cases bk with
 | nil =>
  subst h1
  have hxs:xs=[]:=List.eq_nil_of_length_eq_zero h0
  subst hxs
  refine ⟨_,h.freeze (cs:=#[]) (ty:=0) hm (fun _ _ h=>by cases h) hdel hnd inferInstance (fun s hs=>?_)⟩
  obtain ⟨b,cap,o,hb,_⟩:=(h.slots s _ _ (RW hss s hs)).1 rfl
  rw[hm] at hb; cases hb
 | blk b cap =>
  obtain ⟨_,cs,h3,h4,h5,h6,h7⟩:=h1
  refine ⟨_,h.freeze (cs:=cs) (ty:=et) hm (fun b' cap' hb=>by cases hb; exact h3) hdel hnd inferInstance (fun s hs=>?_)⟩
  have hJ:g.J.le (g.J.with b cs):=JV.le_with (h.ok.own u b cap hm).2.2
  obtain ⟨b',cap',o,hb,q1,q2,hv⟩:=(h.slots s _ _ (RW hss s hs)).1 rfl
  rw[hm] at hb; cases hb
  rw[Nat.sub_zero] at hv
  refine ⟨[.slice (some ⟨b,o,none⟩) m cap],⟨some ⟨b,o,none⟩,cap,by rw[hml],⟨by rw[hml]; omega,by rw[hml]; omega⟩,?_⟩,hv⟩
  by_cases hz:m=0
  ·subst hz; exact .inl (by simp)
  ·obtain rfl:o=0:=by have:=q2 zo; omega
   refine .inr ⟨b,0,rfl,(BE.take (n:=m) fun i x hx=>?_)⟩
   obtain ⟨ds,k1,k2⟩:=h7 i x hx
   refine ⟨ds,e.mono hJ k1,fun j v hj=>?_⟩
   show (g.J.with b cs) b (0+i*e.n+j)=some v
   unfold JV.with
   rw[if_pos rfl,Nat.zero_add]
   exact k2 j v hj
section
variable {P:Program} {n:Nat} {rd:Option Nat} {mrk:Bool} {om:List Nat} {w0:World} {J0:JV} {S:g9} {M M':f0} {Q:Exit->Act->World->Prop} {ops:Array Oper} {rest:List Oper}
theorem Tr.frzQ {code:Code} (u:Nat) (ss:List Nat) {sz m len:Nat} {α:Type} {zb:Bool} {et:TypeId} {e:i7 α} {xs:List α} {dep:List Nat} [hl:p8 M u (m9 zb et e xs len) dep] (hss:JT S u sz 0 m ss) (hlen:m<=len/\len<=t6) [hdel:K3 M u M'] (hnd:H9 u M=true)
  (K:Tr P ⟨w0,J0,[],n,rd,mrk,om⟩ (g9.setAll ss (b7 (eL e) (xs.take m)) (inv u S)) M' code Q):Tr P ⟨w0,J0,[],n,rd,mrk,om⟩ S M code Q:=fun a _ w hs=>let ⟨g',hs'⟩:=hs.frzQ (ss:=ss) (u:=u) hss hlen hnd; K a g' w hs'
theorem d5.frzQ (u:Nat) (ss:List Nat) {sz m len:Nat} {α:Type} {zb:Bool} {et:TypeId} {e:i7 α} {xs:List α} {dep:List Nat} [hl:p8 M u (m9 zb et e xs len) dep] (hss:JT S u sz 0 m ss) (hlen:m<=len/\len<=t6) [hdel:K3 M u M'] (hnd:H9 u M=true)
  (K:d5 P ⟨w0,J0,[],n,rd,mrk,om⟩ ops (g9.setAll ss (b7 (eL e) (xs.take m)) (inv u S)) M' rest Q):d5 P ⟨w0,J0,[],n,rd,mrk,om⟩ ops S M rest Q:=fun a _ w hs=>let ⟨g',hs'⟩:=hs.frzQ (ss:=ss) (u:=u) hss hlen hnd; K a g' w hs'
end
def HS (t len bl cap:Nat):b8:=fun g v=>g.M t=some (.blk bl cap)/\v=.slice (some ⟨bl,0,none⟩) len cap
instance (t len bl cap:Nat):o4 (HS t len bl cap) [t]:=⟨fun _ hd ⟨h1,h2⟩=>⟨(hd t (by simp)).trans h1,h2⟩⟩
theorem HS.osl {t len bl cap:Nat} {g:Gh} {v:Value} (h:HS t len bl cap g v):q8 t len g v:=.inr ⟨bl,cap,h.1,h.2⟩
def GV (w:World) (J:JV) (b cap:Nat) (res:b8) (ct':s9):Ending->World->Prop:=fun e w'=>∃r J',e=.returned r/\DO (.blk b cap) w w'/\J.le J'/\(∀b' o,b'<w.heap.size->J' b' o=J b' o)/\Im J' w'/\res (g1 J' b cap) r/\ct' (g1 J' b cap) (.blk b cap) w'.heap[b]?
def JG (P:Program) (f:FuncId) (len:Nat) (ks:List b8) (ct ct':s9) (res:b8):Prop :=
 ∀w J b cap,Im J w->(∀o,J b o=none)->b<w.heap.size->ct (g1 J b cap) (.blk b cap) w.heap[b]?->∀v vs,v=.slice (some ⟨b,0,none⟩) len cap->o6 ⟨J,w4⟩ ks vs->Calls P f (v::vs).toArray w (GV w J b cap res ct')
section
variable {P:Program} {c:l8} {S:g9} {M:f0} {p:Bool} {d:Option Tmp} {ty:TypeId} {pos:String} {af:Array Edge} {gd:Option (Nat×Bool)} {x:Operand} {b:Bool}
theorem IH {t len bl cap:Nat} (hx:j1 S x=some (b,HS t len bl cap)) (hb:p=true->b=true):l3 P c S M ⟨d,.move x,ty,pos,af,gd⟩ p (q8 t len) none :=
 l3.pure fun hp a g w _ _ ho=>by
  have hk:=ho x (by simp[Op.operands]) b _ hx (hb hp)
  exact ⟨a.eval x,by simp[execOp],hk.osl⟩
end
theorem JG.mk {P:Program} {f:FuncId} {fn:Func} {code:Code} {args:List b8} {res:b8} {ct ct':s9} {n len:Nat} (hf:P.funcs[f]?=some fn) (hb:fn.body=some code) (hn:fn.ntmps=n) (hl:Nat.ble (args.length+1) n=true) [hj:V5 args] [hcd:z7 ct []]
  (h:∀w J b cap,Tr P ⟨w,J,[b],n,none,false,[]⟩ (⟨0,true,[0],HS 0 len b cap⟩::params 1 args) [⟨0,[],ct⟩] code (bodyPost P fn (GV w J b cap res ct'))):JG P f len args ct ct' res:=by
 intro w J b cap him hJ hlt hct v vs hv hvs
 have hlen:=I2 hvs
 have hle:args.length+1<=n:=Nat.le_of_ble_eq_true hl
 have hM:∀t bk,(g1 J b cap).M t=some bk->t=0/\bk=.blk b cap:=fun t bk ht=>by
  simp only[g1] at ht
  split at ht
  ·rename_i e; cases ht; exact ⟨e,rfl⟩
  ·cases ht
 refine calls_of_wp hf hb<|wpIn_wide.1 (h w J b cap _ (g1 J b cap) w ⟨⟨⟨rfl,rfl,rfl,Nat.le_refl _,fun _ _ _=>rfl,Nat.le_refl _⟩,JV.le_refl _,fun _ _ _=>rfl,him,fun t b' cap' ht=>?_,fun t t' b1 c1 c2 h1 h2=>?_⟩,?_,?_,?_,by simp,?_,?_,⟨rfl,fun _ h=>(by cases h)⟩,?_⟩)
 ·obtain ⟨_,e⟩:=hM _ _ ht
  cases e
  exact ⟨.inr (by simp),hlt,hJ⟩
 ·rw[(hM _ _ h1).1,(hM _ _ h2).1]
 ·intro t bb k hk
  simp only[look] at hk
  cases hb0:Nat.beq 0 t with
  | true =>
   rw[hb0] at hk
   simp only[cond_true,Option.some.injEq,Prod.mk.injEq] at hk
   obtain ⟨rfl,rfl⟩:=hk
   have:=Nat.eq_of_beq_eq_true hb0
   subst this
   refine ⟨fun _=>?_,fun hf=>(by cases hf)⟩
   have:((v::vs).toArray++Array.replicate (fn.ntmps-(v::vs).toArray.size) undef).getD 0 undef=v:=by
    rw[Array.getD_eq_getD_getElem?,Array.getElem?_append_left (by simp)]
    simp
   rw[this]
   exact ⟨by simp[g1],hv⟩
  | false =>
   rw[hb0] at hk
   obtain ⟨h1,rfl,u,hu,hku⟩:=GC (g:=g1 J b cap) (JS (g:=⟨J,w4⟩) (g':=g1 J b cap) (JV.le_refl _) hj.all hvs) hk
   refine ⟨fun _=>?_,fun hf=>(by cases hf)⟩
   have hu':(v::vs)[t]?=some u:=by
    rw[show t=(t-1)+1 by omega]; simpa using hu
   have ht:t<(v::vs).length:=(List.getElem?_eq_some_iff.1 hu').1
   have:((v::vs).toArray++Array.replicate (fn.ntmps-(v::vs).toArray.size) undef).getD t undef=u:=by
    rw[Array.getD_eq_getD_getElem?,Array.getElem?_append_left (by simpa using ht)]
    simp only[List.getElem?_toArray]
    rw[hu']; rfl
   rw[this]; exact hku
 ·intro e he
  simp only[List.mem_singleton] at he
  subst he
  exact ⟨_,by simp[g1],hct⟩
 ·intro t ht
  cases hm:(g1 J b cap).M t with
  | none=>exact absurd hm ht
  | some bk=>simp[(hM _ _ hm).1]
 ·intro e he
  rcases List.mem_cons.1 he with rfl | he
  ·exact ⟨inferInstance,fun t ht=>by simpa using ht⟩
  ·obtain ⟨h1,h2⟩:=GB hj.all he
   exact ⟨h1,fun t ht=>by rw[h2] at ht; cases ht⟩
 ·intro e he
  simp only[List.mem_singleton] at he
  subst he
  exact ⟨hcd,fun t ht=>by cases ht⟩
 ·simp only[Array.size_append,List.size_toArray,Array.size_replicate,List.length_cons]; omega
section
variable {P:Program} {n:Nat} {rd:Option Nat} {mrk:Bool} {om:List Nat} {w0:World} {J0:JV} {S:g9} {M:f0} {fn:Func} {b cap s t len:Nat} {ct ct':s9} {dep:List Nat} {k res:b8}
theorem d9.mutR (hr:fn.results=#[.tmp t]) (hs0:look S s=some (true,HS 0 len b cap)) (hl:look S t=some (true,k)) [hm:p8 M 0 ct dep] (hc:∀(g:Gh) (o:Option Obj),ct g (.blk b cap) o->ct' (g1 g.J b cap) (.blk b cap) o) (hk:∀(g:Gh) (v:Value),g.M 0=some (.blk b cap)->k g v->res (g1 g.J b cap) v) :
  d9 ⟨w0,J0,[b],n,none,false,[]⟩ S M (bodyPost P fn (GV w0 J0 b cap res ct')):=by
 intro a g w hs
 obtain ⟨h1,_⟩:=(hs.slots s _ _ hs0).1 rfl
 obtain ⟨bk,h2,h3⟩:=hs.conts _ hm.mem
 simp only at h2 h3
 rw[h1] at h2; cases h2
 exact ⟨hs.defers.1,_,results_tmp hr _ _ _,_,g.J,rfl,⟨hs.ok.bel.os,hs.ok.bel.tape,hs.ok.bel.output,hs.ok.bel.size,fun k hk hne=>hs.ok.bel.block k hk (by simp only[List.mem_singleton]; rintro rfl; exact hne cap rfl),hs.ok.bel.drawn⟩,hs.ok.jle,hs.ok.jold,hs.ok.im,hk g _ h1 ((hs.slots t _ _ hl).1 rfl),hc _ _ h3⟩
end
theorem fM {m n off:Nat} {b cap:Nat} {g:Gh} {v:Value} (hm:g.M 0=some (.blk b cap)) (h:B7 0 n off m g v):B7 0 n off m (g1 g.J b cap) v:=by
 obtain ⟨b',cap',o,h1,h2,h3,h4⟩:=h
 rw[hm] at h1; cases h1
 exact ⟨b,cap,o,by simp[g1],h2,h3,h4⟩
section
variable {P:Program} {c:l8} {ops:Array Oper} {S:g9} {M:f0} {rest:List Oper} {Q:Exit->Act->World->Prop}
variable {d:Nat} {ty:TypeId} {pos:String} {af:Array Edge}
theorem d5.mutR {f:FuncId} [hf:d8 P f] {x:Operand} {args:List Operand} {tys:Array TypeId} {ks:List b8} {u len n m:Nat} {ct ct0 ct':s9} {dep:List Nat} {M':f0} (hct:JG P f len ks ct ct' (B7 0 n 0 m)) (hx:j1 S x=some (true,q8 u len)) (hlen:0<len) (ha:D8 S true args ks)
  [hl:p8 M u ct0 dep] [hnk:JM ct0] (hnd:H9 u M=true) (hc:∀g b cap o,ct0 g (.blk b cap) o->ct (g1 g.J b cap) (.blk b cap) o) (hc':∀{J b cap o} {g:Gh},ct' (g1 J b cap) (.blk b cap) o->ct' ⟨J,g.M⟩ (.blk b cap) o) [hcd:z7 ct' []] [hup:A7 M u ct' [] M'] (hn:Nat.blt d c.n=true)
  (K:d5 P c ops (⟨d,true,[u],B7 u n 0 m⟩::inv u S) M' rest Q):d5 P c ops S M (⟨some d,.call { callee:=.value (.func f),args:=(x::args).toArray,argTypes:=tys },ty,pos,af,none⟩::rest) Q:=by
 intro a g w hsat
 have hdn:d<c.n:=by simpa [Nat.blt_eq] using hn
 have hk:=B5 hsat.slots hx rfl
 rcases hk with ⟨_,h0,_⟩ | ⟨b,cap,hm,hv⟩
 ·omega
 obtain ⟨bk2,hm2,hobj⟩:=hsat.conts _ hl.mem
 simp only at hm2 hobj
 rw[hm] at hm2; cases hm2
 obtain ⟨hob,hlt,hJn⟩:=hsat.ok.own u b cap hm
 have hargs:=ha.eval (g:=g) (ρ:=a.eval) rfl (fun y _ b k hk hb=>B5 hsat.slots hk hb)
 have hr:=hct w g.J b cap hsat.ok.im hJn hlt (hc _ _ _ _ hobj) _ _ hv hargs
 refine wpList_plain rfl fun K' hK'=>?_
 unfold Oper.wp
 simp only[execOp,resolve,Act.eval,Deferred.ofValue,Sem.run_bind,Sem.run_pure,Result.andThen_ok,invoke,List.map_toArray,List.map_cons,Array.append_empty,Array.empty_append]
 rw[hf.run]
 simp only[Oper.upon]
 refine hr.mono fun e w' he=>?_
 obtain ⟨r,J',rfl,h1,h2,h3,h4,h5,h6⟩:=he
 have hko:B7 u n 0 m ⟨J',g.M⟩ r:=by
  obtain ⟨b',cap',o,q1,q2,q3,q4⟩:=h5
  simp only[g1,if_true,Option.some.injEq,Bk.blk.injEq] at q1
  obtain ⟨rfl,rfl⟩:=q1
  exact ⟨b,cap,o,hm,q2,q3,q4⟩
 have hs:=hsat.mut hm (hsat.nomark hl hm _ _ rfl) h1 h2 h3 h4 hup hcd (hc' h6) hdn (k:=U3) trivial (v:=r)
 have htag:=hup.tags
 refine hK' _ _ (K _ _ _ ⟨hs.ok,fun t bb k' hl'=>?_,hs.conts,hs.dom,hs.nodup,fun e he=>?_,hs.cdep,hs.defers,hs.size⟩)
 ·simp only[look] at hl'
  cases hb0:Nat.beq d t with
  | true =>
   rw[hb0] at hl'
   simp only[cond_true,Option.some.injEq,Prod.mk.injEq] at hl'
   obtain ⟨rfl,rfl⟩:=hl'
   have:=Nat.eq_of_beq_eq_true hb0
   subst this
   refine ⟨fun _=>?_,fun hf=>(by cases hf)⟩
   have hsz:d<a.tmps.size:=by have:=hsat.size; omega
   simpa [Act.put,Array.getD_eq_getD_getElem?,hsz] using hko
  | false =>
   rw[hb0] at hl'
   obtain ⟨k0,q1,q2⟩:=KO hl'
   have hh:=hs.slots t bb k0 (by simp only[look,hb0]; exact q1)
   refine ⟨fun hb=>?_,hh.2⟩
   rcases q2 with rfl | ⟨rfl,_⟩
   ·trivial
   ·exact hh.1 hb
 ·rcases List.mem_cons.1 he with rfl | he
  ·exact ⟨inferInstance,fun t ht=>by
    have:t=u:=by simpa using ht
    subst this
    show t∈tags M'
    rw[htag]; exact List.mem_map.2 ⟨_,hl.mem,rfl⟩⟩
  ·rcases OF he with ⟨q1,_⟩ | ⟨q1,q2⟩
   ·exact hs.sdep e (List.mem_cons_of_mem _ q1)
   ·rw[q1,q2]; exact ⟨inferInstance,fun _ h=>by cases h⟩
end
section
variable {P:Program} {n0:Nat} {w0:World} {J0:JV} {S:g9} {M:f0} {fn:Func}
theorem d9.resNC {a u o n q by':Nat} {ty:TypeId} {zz:Value} {kc kc':List b8} {dep dep2:List Nat} {res:Nat->b8} {ct ct':s9} [hlk:p8 M q (j3 kc) dep2] [ht:D0 P ty] [hz:q7 P ty n by' zz] [hs:N7 kc o n kc'] [hlu:p8 M u ct' dep] [H5 dep] (hr:fn.results=#[.cell a ty]) (hx:look S a=some (true,w6 q o))
  (hv:∀g bk o,ct' g bk o->ct g bk o) (hc:∀(g:Gh) (v:Value) (bk:Bk),g.M u=some bk->G6 kc' g v->∀t,res t ⟨g.J,fun q=>if q=t then some bk else none⟩ v) (hcd:z7 ct []) :
  d9 ⟨w0,J0,[],n0,none,false,[]⟩ S M (bodyPost P fn (LX w0 J0 res ct)):=by
 intro act g w hst
 obtain ⟨ad,v,h1,h2,h3⟩:=JY (ty:=ty) (P:=P) hx hst
 obtain ⟨bk,h4,h5⟩:=hst.conts _ hlu.mem
 simp only at h4 h5
 refine ⟨hst.defers.1,_,WS hr h1 h2,_,g.J,bk,rfl,⟨hst.ok.bel.os,hst.ok.bel.tape,hst.ok.bel.output,hst.ok.bel.size,fun k hk=>hst.ok.bel.block k hk (by simp),hst.ok.bel.drawn⟩,hst.ok.jle,hst.ok.jold,hst.ok.im,?_,hcd.dep (g:=g) (JV.le_refl _) (fun _ h=>by cases h) (hv _ _ _ h5),fun t=>hc g _ bk h4 h3 t⟩
 rintro b cap rfl
 obtain ⟨o1,o2,o3⟩:=hst.ok.own _ _ _ h4
 refine ⟨?_,o2,o3⟩
 rcases o1 with o1 | o1
 ·exact o1
 ·cases o1
end
end Go.Fl

/- Closures: values that hold pointers to things of the call's own; their calls are gone through in place, with the caller's own things. No program in sight. -/
namespace Go.Fl
open Go Go.RowKit
def Z8 (f:FuncId) (ks:List b8):b8:=fun g v=>∃vs:List Value,v=.func (.func f) #[] vs.toArray/\o6 g ks vs
instance {f:FuncId} {ks:List b8} {ds:List Nat} [h:A6 ks ds]:o4 (Z8 f ks) ds:=⟨fun hl hd ⟨vs,h1,h2⟩=>⟨vs,h1,h.dep hl hd h2⟩⟩
inductive DN (S:g9) (p:Bool):List Operand->List b8->Prop
 | nil:DN S p [] []
 | cons {x:Operand} {xs:List Operand} {k:b8} {ks:List b8} {b:Bool} (hx:j1 S x=some (b,k)) (hb:p=true->b=true) (r:DN S p xs ks):DN S p (x::xs) (k::ks)
theorem DN.eval {S:g9} {p:Bool} {g:Gh} {ρ:Operand->Value} (hp:p=true):∀{xs:List Operand} {ks:List b8},DN S p xs ks->(∀x∈xs,∀b k,j1 S x=some (b,k)->b=true->k g (ρ x))->o6 g ks (xs.map ρ)
 | [],[],_,_=>trivial
 | x::_,_::_,.cons hx hb r,h=>⟨h x List.mem_cons_self _ _ hx (hb hp),DN.eval hp r fun y hy=>h y (List.mem_cons_of_mem _ hy)⟩
section
variable {P:Program} {c:l8} {S:g9} {M:f0} {p:Bool} {d:Option Tmp} {ty:TypeId} {pos:String} {af:Array Edge} {gd:Option (Nat×Bool)} {x:Operand} {b:Bool}
theorem EK {f:FuncId} {caps:List Operand} {ks:List b8} (ha:DN S p caps ks):l3 P c S M ⟨d,.makeFunc (.func f) #[] caps.toArray,ty,pos,af,gd⟩ p (Z8 f ks) none :=
 l3.pure fun hp a g w _ _ ho=>by
  have hk:=ha.eval (g:=g) (ρ:=a.eval) hp (fun y hy b k hk hb=>ho y (by simp[Op.operands,hy]) b k hk hb)
  exact ⟨_,by simp[execOp,Instr.makeFunc],_,rfl,hk⟩
end
def AV (t:Nat) (bk:Bk):b8:=fun g _=>g.M t=some bk
instance (t:Nat) (bk:Bk):o4 (AV t bk) [t]:=⟨fun _ hd h=>(hd t (by simp)).trans h⟩
def I1 (n:Nat) (bks:Nat->Bk):List Nat->g9
 | []=>[]
 | t::ts=>⟨n+t,true,[t],AV t (bks t)⟩::I1 n bks ts
def DH:Nat->List (List Nat)->List b8->g9
 | i,d::ds,k::ks=>⟨i,true,d,k⟩::DH (i+1) ds ks
 | _,_,_=>[]
inductive GR:List b8->List (List Nat)->Prop
 | nil:GR [] []
 | cons {k:b8} {ks:List b8} {d:List Nat} {ds:List (List Nat)} (h:o4 k d) (r:GR ks ds):GR (k::ks) (d::ds)
class FA (ks:List b8) (ds:outParam (List (List Nat))):Prop where
 h:GR ks ds
instance:FA [] []:=⟨.nil⟩
instance {k:b8} {ks:List b8} {d:List Nat} {ds:List (List Nat)} [h:o4 k d] [r:FA ks ds]:FA (k::ks) (d::ds):=⟨.cons h r.h⟩
theorem WG {g:Gh}:∀{ks:List b8} {ds:List (List Nat)} {vs:List Value} {i t:Nat} {b:Bool} {k:b8},o6 g ks vs->look (DH i ds ks) t=some (b,k)->i<=t/\t<i+ks.length/\b=true/\∃v,vs[t-i]?=some v/\k g v
 | [],ds,_,_,_,_,_,_,h=>by cases ds<;>cases h
 | _::_,[],_,_,_,_,_,_,h=>by cases h
 | k0::ks,d::ds,v::vs,i,t,b,k,hh,h=>by
  simp only[DH,look] at h
  cases hb:Nat.beq i t with
  | true =>
   rw[hb] at h
   simp only[cond_true,Option.some.injEq,Prod.mk.injEq] at h
   obtain ⟨rfl,rfl⟩:=h
   have:=Nat.eq_of_beq_eq_true hb
   subst this
   exact ⟨Nat.le_refl _,by simp,rfl,v,by simp,hh.1⟩
  | false =>
   rw[hb] at h
   obtain ⟨h1,h2,h3,u,h4,h5⟩:=WG hh.2 h
   refine ⟨by omega,by simp only[List.length_cons]; omega,h3,u,?_,h5⟩
   rw[show t-i=(t-(i+1))+1 by omega]; simpa using h4
theorem WH:∀{ks:List b8} {ds:List (List Nat)} {i:Nat} {e:SE},GR ks ds->e∈DH i ds ks->o4 e.k e.dep/\e.dep∈ds
 | [],ds,_,_,_,h=>by cases ds<;>cases h
 | _::_,[],_,_,h,_=>by cases h
 | k::ks,d::ds,i,e,.cons hk r,h=>by
  rcases List.mem_cons.1 h with rfl | h
  ·exact ⟨hk,List.mem_cons_self⟩
  ·obtain ⟨h1,h2⟩:=WH r h
   exact ⟨h1,List.mem_cons_of_mem _ h2⟩
theorem VA {S1 S2:g9} {t:Nat} {b:Bool} {k:b8}:look (S1++S2) t=some (b,k)->look S1 t=some (b,k)\/look S2 t=some (b,k):=by
 induction S1 with
 | nil=>exact .inr
 | cons e S1 ih =>
  intro h
  simp only[List.cons_append,look] at h ⊢
  cases hb:Nat.beq e.s t with
  | true=>rw[hb] at h; exact .inl h
  | false=>rw[hb] at h; exact ih h
theorem QQ {n:Nat} {bks:Nat->Bk}:∀{ts:List Nat} {t:Nat} {b:Bool} {k:b8},look (I1 n bks ts) t=some (b,k)->b=true/\n<=t/\(t-n)∈ts/\k=AV (t-n) (bks (t-n))
 | [],_,_,_,h=>by cases h
 | u::ts,t,b,k,h=>by
  simp only[I1,look] at h
  cases hb:Nat.beq (n+u) t with
  | true =>
   rw[hb] at h
   simp only[cond_true,Option.some.injEq,Prod.mk.injEq] at h
   have:=Nat.eq_of_beq_eq_true hb
   subst this
   rw[Nat.add_sub_cancel_left]
   exact ⟨h.1.symm,by omega,List.mem_cons_self,h.2.symm⟩
  | false =>
   rw[hb] at h
   obtain ⟨h1,h2,h3,h4⟩:=QQ h
   exact ⟨h1,h2,List.mem_cons_of_mem _ h3,h4⟩
theorem QR {n:Nat} {bks:Nat->Bk}:∀{ts:List Nat} {e:SE},e∈I1 n bks ts->∃t∈ts,e.dep=[t]/\e.k=AV t (bks t)
 | [],_,h=>by cases h
 | u::ts,e,h=>by
  rcases List.mem_cons.1 h with rfl | h
  ·exact ⟨u,List.mem_cons_self,rfl,rfl⟩
  ·obtain ⟨t,h1,h2⟩:=QR h
   exact ⟨t,List.mem_cons_of_mem _ h1,h2⟩
def YB (c:l8) (keep:List Nat) (bks:Nat->Bk) (M:f0) (res:b8):Ending->World->Prop:=fun e w'=>∃r g',e=.returned r/\Ok c g' w'/\D9 M g' w'/\(∀t,g'.M t≠none->t∈tags M)/\(tags M).Nodup/\GQ M M/\(∀t∈keep,g'.M t=some (bks t))/\res g' r/\∀D∈c.om,w'.heap[D]?=some (Obj.deferred (some []))
def KU (ds:List Deferred):List Nat:=ds.flatMap fun d=>match d.target with | .collected D=>[D] | _=>[]
theorem tG {ds:List Deferred} {D:Nat} (h:({ target:=.collected D,args:=#[] }:Deferred)∈ds):D∈KU ds:=List.mem_flatMap.2 ⟨_,h,by simp⟩
theorem tI {m:Bool} {B:Nat} {om:List Nat} {ds:List Deferred} {w:World} (h:N6 m B om ds w):∀D∈om++KU ds,w.heap[D]?=some (Obj.deferred (some [])):=by
 intro D hD
 rcases List.mem_append.1 hD with hD | hD
 ·exact h.2 D hD
 obtain ⟨d,hd,he⟩:=List.mem_flatMap.1 hD
 have h:=h.1
 cases m with
 | false=>simp only at h; subst h; cases hd
 | true =>
  obtain ⟨D',h1,_,h3⟩:=h.2 d hd
  subst h1
  simp only[List.mem_singleton] at he
  subst he; exact h3
theorem tH {m:Bool} {B:Nat} {om:List Nat} {ds:List Deferred} {w w':World} (h:N6 m B om ds w) (h':∀D∈om++KU ds,w'.heap[D]?=some (Obj.deferred (some []))):N6 m B om ds w':=by
 refine ⟨?_,fun D hD=>h' D (List.mem_append_left _ hD)⟩
 have h:=h.1
 cases m with
 | false=>exact h
 | true =>
  refine ⟨h.1,fun d hd=>?_⟩
  obtain ⟨D,h1,h2,_⟩:=h.2 d hd
  subst h1
  exact ⟨D,rfl,h2,h' D (List.mem_append_right _ (tG hd))⟩
def HT (keep:List Nat):g9->g9
 | []=>[]
 | e::S=>(cond (s5 e.dep keep) e ⟨e.s,e.b,[],U3⟩)::HT keep S
theorem UW {keep:List Nat}:∀{S:g9} {t:Nat} {b:Bool} {k:b8},look (HT keep S) t=some (b,k)->∃k0,look S t=some (b,k0)/\(k=U3\/(k=k0/\∃e∈S,e.k=k/\∀q∈e.dep,q∈keep))
 | [],_,_,_,h=>by cases h
 | e::S,t,b,k,h=>by
  simp only[HT] at h
  cases hs:s5 e.dep keep with
  | true =>
   rw[hs] at h
   simp only[cond_true,look] at h ⊢
   cases hb:Nat.beq e.s t with
   | true =>
    rw[hb] at h
    simp only[cond_true,Option.some.injEq,Prod.mk.injEq] at h ⊢
    exact ⟨e.k,⟨h.1,rfl⟩,.inr ⟨h.2.symm,e,List.mem_cons_self,h.2,A1 hs⟩⟩
   | false =>
    rw[hb] at h
    obtain ⟨k0,h1,h2⟩:=UW h
    exact ⟨k0,h1,h2.imp id fun ⟨q1,e',q2,q3⟩=>⟨q1,e',List.mem_cons_of_mem _ q2,q3⟩⟩
  | false =>
   rw[hs] at h
   simp only[cond_false,look] at h ⊢
   cases hb:Nat.beq e.s t with
   | true =>
    rw[hb] at h
    simp only[cond_true,Option.some.injEq,Prod.mk.injEq] at h ⊢
    exact ⟨e.k,⟨h.1,rfl⟩,.inl h.2.symm⟩
   | false =>
    rw[hb] at h
    obtain ⟨k0,h1,h2⟩:=UW h
    exact ⟨k0,h1,h2.imp id fun ⟨q1,e',q2,q3⟩=>⟨q1,e',List.mem_cons_of_mem _ q2,q3⟩⟩
theorem dL {keep:List Nat}:∀{S:g9} {e:SE},e∈HT keep S->(e∈S/\∀q∈e.dep,q∈keep)\/(e.dep=[]/\e.k=U3)
 | [],_,h=>by cases h
 | x::S,e,h=>by
  simp only[HT] at h
  rcases List.mem_cons.1 h with h | h
  ·cases hs:s5 x.dep keep with
   | true=>rw[hs] at h; subst h; exact .inl ⟨List.mem_cons_self,A1 hs⟩
   | false=>rw[hs] at h; subst h; exact .inr ⟨rfl,rfl⟩
  ·exact (dL h).imp (fun ⟨h1,h2⟩=>⟨List.mem_cons_of_mem _ h1,h2⟩) id
section
variable {P:Program} {ops:Array Oper} {S:g9} {M M':f0} {rest:List Oper} {Q:Exit->Act->World->Prop}
variable {d:Nat} {ty:TypeId} {pos:String} {af:Array Edge} {w0:World} {J0:JV} {bor om:List Nat} {n:Nat} {rd:Option Nat} {mrk:Bool}
end
inductive DS (S:g9) (n:Nat) (bks:Nat->Bk):List Nat->Prop
 | nil:DS S n bks []
 | cons {t:Nat} {ts:List Nat} (h:look S (n+t)=some (true,AV t (bks t))) (r:DS S n bks ts):DS S n bks (t::ts)
theorem DS.holds {S:g9} {n:Nat} {bks:Nat->Bk} {a:Act} {g:Gh} (hs:R8 S a g):∀{ts:List Nat},DS S n bks ts->∀t∈ts,g.M t=some (bks t)
 | _::_,.cons h r,t,ht=>by
  rcases List.mem_cons.1 ht with rfl | ht
  ·exact (hs _ _ _ h).1 rfl
  ·exact r.holds hs t ht
section
variable {P:Program} {w0:World} {J0:JV} {bor om:List Nat} {n0:Nat} {S:g9} {M:f0} {fn:Func} {keep:List Nat} {bks:Nat->Bk} {n t:Nat} {k res:b8}
theorem dA {c:l8} {a:Act} {g:Gh} {w:World} (hs:l4 c S M a g w) (hk:DS S n bks keep) {r:Value} (hr:res g r):YB c keep bks M res (.returned r) w :=
 ⟨r,g,rfl,hs.ok,hs.conts,hs.dom,hs.nodup,hs.cdep,hk.holds hs.slots,hr,hs.defers.2⟩
end
end Go.Fl

/- Parts of a row with their address: in states and results. No program in sight. -/
namespace Go.Fl
open Go Go.RowKit
theorem H8.down {α:Type} {e:i7 α} {ad:Option Addr} {cap:Nat} {xs:List α} {g:Gh} {v:Value} (k:H8 e ad cap xs g v):H8 e ad cap xs ⟨g.J,w4⟩ v :=
 (inferInstance:o4 (H8 e ad cap xs) []).dep (g:=g) (g':=⟨g.J,w4⟩) (JV.le_refl _) (fun _ h=>by cases h) k
theorem C8.v {S:g9} {t:Nat} {ts:List Nat} {ks:List b8} {α:Type} {e:i7 α} {ad:Option Addr} {cap:Nat} {xs ys:List α} (hl:look S t=some (true,H8 e ad cap xs)) (he:xs=ys) (r:C8 S ts ks):C8 S (t::ts) (H8 e ad cap ys::ks) :=
 .cons hl (fun _ _ h=>(h.cast he).down) r
theorem C4.v {S S':g9} {M M':f0} {s:Nat} {α:Type} {e:i7 α} {ad:Option Addr} {cap:Nat} {xs ys:List α} (hl:look S s=some (true,H8 e ad cap xs)) (he:xs=ys) (r:C4 S M S' M'):C4 S M (⟨s,true,[],H8 e ad cap ys⟩::S') M' :=
 C4.conv hl rfl (fun _ _ h=>h.cast he) rfl r
section
variable {P:Program} {c:l8} {S:g9} {M:f0} {p:Bool} {d:Option Tmp} {ty:TypeId} {pos:String} {af:Array Edge} {gd:Option (Nat×Bool)} {x y:Operand} {b b':Bool}
theorem uY {t et:TypeId} [ht:C5 P t et] {size bytes:Nat} {zz:Value} [hsz:q7 P et size bytes zz] {α:Type} (e:i7 α) {n:Int} (u:Nat) (hx:j1 S x=some (b,kI 0)) (hb:p=true->b=true) (hy:j1 S y=some (b',kI n)) (hb':p=true->b'=true)
  (hs:size=e.n) (h:p=true->0<=n/\bytes*n<=281474976710656/\n<=281474976710656) :
  l3 P c S M ⟨d,.makeSlice t x y,ty,pos,af,gd⟩ p (q8 u 0) (some ⟨u,[],m9 false et e [] 0⟩):=by
 intro hp a g w hok hc ho hf
 have hf':=hf _ rfl
 obtain ⟨i,hi,rfl,rfl,hzz⟩:=hsz.h
 obtain ⟨h0,h1,h2⟩:=h hp
 have e1:a.eval x=_:=ho x (by simp[Op.operands]) b _ hx (hb hp)
 have e2:a.eval y=_:=ho y (by simp[Op.operands]) b' _ hy (hb' hp)
 have hr:=run_make (P:=P) w t et i zz ht.h hi hzz .i64 .i64 0 n (Int.le_refl _) h0 h1 zo
 unfold Oper.wp
 simp only[execOp,e1,e2,Sem.run_bind,hr,Result.andThen_ok,Sem.run_pure,Oper.upon]
 exact ⟨_,_,rfl,F8.alloc (cap:=n.toNat) hok hf' (.inl rfl) (.inr ⟨_,_,Gh.add_same _ _ _,rfl⟩) ⟨rfl,fun h=>(by cases h),_,rfl,by rw[size_madeCells,hs],Nat.zero_le _,by simp only[maxLen]; omega,fun i x hx=>by simp at hx⟩⟩
end
section
variable {P:Program} {c:l8} {S:g9} {M1 M2 M:f0} {Q:Exit->Act->World->Prop} {a:Act} {g:Gh} {w:World}
theorem LN {f:Nat->Bk×Option Obj}:tags (L5 f M1++M2)=tags (M1++M2):=by simp[tags,L5]
theorem l4.pinA (h:l4 c S (M1++M2) a g w):∃f,l4 c S (L5 f M1++M2) a g w:=by
 refine ⟨fun t=>((g.M t).getD .nil,World.objAt w ((g.M t).getD .nil)),h.ok,h.slots,fun e he=>?_,fun t ht=>?_,?_,fun e he=>?_,fun e he=>?_,h.defers,h.size⟩
 ·rcases List.mem_append.1 he with he | he
  ·obtain ⟨e0,he0,rfl⟩:=List.mem_map.1 he
   obtain ⟨bk,h1,h2⟩:=h.conts e0 (List.mem_append_left _ he0)
   refine ⟨bk,h1,h2,?_,?_⟩
   ·show bk=(g.M e0.t).getD .nil
    rw[h1]; rfl
   ·show _=World.objAt w ((g.M e0.t).getD .nil)
    rw[h1]; rfl
  ·exact h.conts e (List.mem_append_right _ he)
 ·show t∈tags (L5 _ M1++M2)
  rw[LN]; exact h.dom t ht
 ·show (tags (L5 _ M1++M2)).Nodup
  rw[LN]; exact h.nodup
 ·refine ⟨(h.sdep e he).1,fun t ht=>?_⟩
  show t∈tags (L5 _ M1++M2)
  rw[LN]; exact (h.sdep e he).2 t ht
 ·rcases List.mem_append.1 he with he | he
  ·obtain ⟨e0,he0,rfl⟩:=List.mem_map.1 he
   refine ⟨⟨fun hl hd ⟨h1,h2⟩=>⟨(h.cdep e0 (List.mem_append_left _ he0)).1.dep hl hd h1,h2⟩⟩,fun t ht=>?_⟩
   show t∈tags (L5 _ M1++M2)
   rw[LN]; exact (h.cdep e0 (List.mem_append_left _ he0)).2 t ht
  ·refine ⟨(h.cdep e (List.mem_append_right _ he)).1,fun t ht=>?_⟩
   show t∈tags (L5 _ M1++M2)
   rw[LN]; exact (h.cdep e (List.mem_append_right _ he)).2 t ht
theorem DI {f:Nat->Bk×Option Obj} {N:f0} (h:∀e∈L5 f M1,e∈N):∀a g w,l4 c S N a g w->WI f M1 w:=by
 intro a g w hs e he
 obtain ⟨bk,_,_,h2,h3⟩:=hs.conts _ (h _ (List.mem_map.2 ⟨e,he,rfl⟩))
 rw[<- h2]; exact h3
theorem Tr.drawQ {l:List Oper} {id:Nat} (M1 M2:f0) (hM:M=M1++M2) (hm:P.follows .mixedOrders=true) (listed':Array Bool) (hl:Array.replicate l.length false=listed') (h:∀f,g6 P c l.toArray Q (WI f M1) l.length listed' S (L5 f M1++M2)) (hr:c.rd=none\/DB l=true:=by first | exact .inl rfl | exact .inr rfl):Tr P c S M (.region id l.toArray true) Q:=by
 intro a g w hs
 subst hl
 subst hM
 obtain ⟨f,hf⟩:=hs.drew.pinA
 exact Code.wpIn_mono (Q:=X6 Q) (fun e _ _ q=>by obtain ⟨he,h⟩:=q; subst he; exact h) (LQ (hr.imp (fun h=>h) fun h=>⟨h,OO⟩) hm (wpAny_of_held _ _ _ _ (by simpa using h f _ _ _ hf (DI (fun _ h=>List.mem_append_left _ h) _ _ _ hf))))
end
end Go.Fl

/- Structs that come back with a row of one's own, of which a part is wanted. No program in sight. -/
namespace Go.Fl
open Go Go.RowKit
theorem sK {t n len:Nat} (h0:0<len) {g:Gh} {v:Value} (h:B7 t n 0 len g v):q8 t len g v:=by
 obtain ⟨b,cap,o,h1,h2,h3,h4⟩:=h
 have:=h3 zo
 rw[Nat.zero_mul] at this
 subst this
 exact .inr ⟨b,cap,h1,h4⟩
theorem lH {α:Type} {et:TypeId} {e:i7 α} {xs ys:List α} {len m:Nat} (hm:m<=len) (he:xs.take m=ys) {g:Gh} {bk:Bk} {o:Option Obj} (h:m9 false et e xs len g bk o):m9 false et e ys m g bk o:=by
 subst he
 obtain ⟨h0,h1⟩:=h
 refine ⟨by rw[List.length_take]; omega,?_⟩
 cases bk with
 | nil=>have:len=0:=h1; show m=0; omega
 | blk b cap =>
  obtain ⟨_,cs,h3,h4,h5,h6,h7⟩:=h1
  refine ⟨fun h=>(by cases h),cs,h3,h4,by omega,h6,fun i x hx=>h7 i x ?_⟩
  rw[List.getElem?_take] at hx
  split at hx
  ·exact hx
  ·cases hx
theorem lA {x y:Bool} {u n m m':Nat} (hx:x=y) (hm:m=m') (g:Gh) (v:Value) (bk:Bk) (hb:g.M u=some bk) (h:G6 [kB x,B7 u n 0 m] g v) (t:Nat):G6 [kB y,B7 t n 0 m'] ⟨g.J,fun q=>if q=t then some bk else none⟩ v:=by
 subst hx hm
 obtain ⟨cs,h1,h2⟩:=h
 match cs,h2 with
 | [c1,c2],⟨k1,k2,_⟩ =>
  refine ⟨_,h1,k1,?_,trivial⟩
  obtain ⟨b,cap,o,q1,q2⟩:=k2
  rw[hb] at q1
  exact ⟨b,cap,o,by rw[<- q1]; simp,q2⟩
instance {x:Bool} {u n m:Nat}:o4 (G6 [kB x,B7 u n 0 m]) [u]:=(inferInstance:o4 (G6 [kB x,B7 u n 0 m]) _)
theorem D8.se {S:g9} {p b:Bool} {x:Operand} {xs:List Operand} {kl:List b8} {α:Type} {e:i7 α} {v v':α} {ks:List b8} (hx:j1 S x=some (b,G6 kl)) (hb:p=true->b=true) [hr:v5 kl e v []] (ha:e.agg=true) (he:v=v') (r:D8 S p xs ks):D8 S p (x::xs) (b7 e v'::ks):=by
 subst he; exact D8.s hx hb ha r
section
variable {P:Program} {c:l8} {S:g9} {M:f0} {p:Bool} {d:Option Tmp} {ty:TypeId} {pos:String} {af:Array Edge} {gd:Option (Nat×Bool)} {x:Operand} {b:Bool}
theorem gT {s f:Nat} {fs:Array Field} {fl:Field} (hu:P.underlying s=some (.struct fs)) (hf:fs[f]?=some fl) {ft off:Nat} (hft:fl.type=ft) (ho:fl.offset=off) [hl:E0 P ft] {cs:List Value} {v:Value} (hv:cs[off]?=some v) (w:World) :
  (Instr.field s (.agg cs.toArray) f).run P w=.ok v w:=by
 subst hft ho
 have hv':cs.toArray[fl.offset]?=some v:=by simpa using hv
 simp[Instr.field,run_underlying hu,hf,asAgg,part,hl.run,hv]
theorem uR {s f:Nat} {fs:Array Field} {fl:Field} (hu:P.underlying s=some (.struct fs)) (hf:fs[f]?=some fl) {ft off:Nat} (hft:fl.type=ft) (ho:fl.offset=off) [hl:E0 P ft] {ks:List b8} {k:b8} (hx:j1 S x=some (b,G6 ks)) (hb:p=true->b=true) (hk:ks[off]?=some k) :
  l3 P c S M ⟨d,.field s x f,ty,pos,af,gd⟩ p k none :=
 l3.pure fun hp a g w _ _ ho'=>by
  obtain ⟨cs,h1,h2⟩:=ho' x (by simp[Op.operands]) b _ hx (hb hp)
  obtain ⟨v,hv,hkv⟩:=FI h2 hk
  exact ⟨v,by simp only[execOp,h1,Sem.run_bind,gT hu hf hft ho hv,Result.andThen_ok,Sem.run_pure],hkv⟩
theorem uS {s f:Nat} {fs:Array Field} {fl:Field} (hu:P.underlying s=some (.struct fs)) (hf:fs[f]?=some fl) {ft off:Nat} (hft:fl.type=ft) (ho:fl.offset=off) [hl:E0 P ft] {α β:Type} {e:i7 α} {e':i7 β} {v:α} {v':β} {k:b8} [h1:u6 e v f e' v' off] [h2:P3 e' v' k]
  (hx:j1 S x=some (b,b7 e v)) (hb:p=true->b=true) (ha:e.agg=true) (ha':e'.agg=false):l3 P c S M ⟨d,.field s x f,ty,pos,af,gd⟩ p k none :=
 l3.pure fun hp a g w _ _ ho'=>by
  obtain ⟨cs,q1,q2⟩:=ho' x (by simp[Op.operands]) b _ hx (hb hp)
  rw[ha] at q2
  obtain ⟨ds,q3,q4⟩:=h1.imp q1
  have hlen:=e'.len q3
  rw[(e'.one ha').1] at hlen
  match ds,hlen with
  | [u],_ =>
   have hc:=q4 0 u rfl
   rw[Nat.add_zero] at hc
   exact ⟨u,by simp only[execOp,q2,if_true,Sem.run_bind,gT hu hf hft ho hc,Result.andThen_ok,Sem.run_pure],h2.imp ⟨_,q3,by rw[ha']; rfl⟩⟩
end
end Go.Fl

/- Two structs that come back out of cells; a struct with a nil row. No program in sight. -/
namespace Go.Fl
open Go Go.RowKit
section
variable {P:Program} {n0:Nat} {w0:World} {J0:JV} {S:g9} {M:f0} {fn:Func}
theorem wR {fn:Func} {a b ty ty2:Nat} (h:fn.results=#[.cell a ty,.cell b ty2]) {tmps:Array Value} {w:World} {ad ad2:Addr} {v v2:Value} (ha:tmps.getD a undef=.pointer (some ad)) (hr:(loadVar ty ad).run P w=.ok v w) (hb:tmps.getD b undef=.pointer (some ad2)) (hr2:(loadVar ty2 ad2).run P w=.ok v2 w) :
  (results fn tmps).run P w=.ok (.tuple #[v,v2]) w:=by
 rw[Array.getD_eq_getD_getElem?] at ha hb
 have hs:(asAddr (tmps[a]?.getD undef)).run P w=.ok ad w:=by rw[ha]; rfl
 have hs2:(asAddr (tmps[b]?.getD undef)).run P w=.ok ad2 w:=by rw[hb]; rfl
 simp[results,h,hs,hr,hs2,hr2]
theorem d9.resC2 {a b u v o o2 n n2 by' by2:Nat} {ty ty2:TypeId} {zz zz2:Value} {kc kc' kc2 kc2':List b8} {dep dep2:List Nat} [hlk:p8 M u (j3 kc) dep] [ht:D0 P ty] [hz:q7 P ty n by' zz] [hs:N7 kc o n kc'] [hlk2:p8 M v (j3 kc2) dep2] [ht2:D0 P ty2] [hz2:q7 P ty2 n2 by2 zz2] [hs2:N7 kc2 o2 n2 kc2'] {k k2:b8}
  (hr:fn.results=#[.cell a ty,.cell b ty2]) (hx:look S a=some (true,w6 u o)) (hy:look S b=some (true,w6 v o2)) (hc:∀(g:Gh) (v:Value),G6 kc' g v->k ⟨g.J,w4⟩ v) (hc2:∀(g:Gh) (v:Value),G6 kc2' g v->k2 ⟨g.J,w4⟩ v):d9 ⟨w0,J0,[],n0,none,false,[]⟩ S M (bodyPost P fn (Y9 w0 J0 (y4 [k,k2]))):=by
 intro act g w hst
 obtain ⟨ad,v,h1,h2,h3⟩:=JY (ty:=ty) (P:=P) hx hst
 obtain ⟨ad2,v2,h4,h5,h6⟩:=JY (ty:=ty2) (P:=P) hy hst
 exact ⟨hst.defers.1,_,wR hr h1 h2 h4 h5,_,g.J,rfl,⟨hst.ok.bel.os,hst.ok.bel.tape,hst.ok.bel.output,hst.ok.bel.size,fun k hk=>hst.ok.bel.block k hk (by simp),hst.ok.bel.drawn⟩,hst.ok.jle,hst.ok.jold,hst.ok.im,_,rfl,hc _ _ h3,hc2 _ _ h6,trivial⟩
end
theorem JX {x y:Bool} {α:Type} {e:i7 α} {xs ys:List α} (hx:x=y) (he:xs=ys) {g:Gh} {bk:Bk} {o:Option Obj} (h:j3 [kB x,b7 (eL e) xs] g bk o):j3 [kB y,b7 (eL e) ys] g bk o:=by subst hx he; exact h
theorem lI {x y:Bool} {α:Type} {e:i7 α} {cp:Nat} {ys:List α} (hx:x=y) (he:[]=ys) {g:Gh} {bk:Bk} {o:Option Obj} (h:j3 [kB x,j8 (.slice none 0 cp)] g bk o):j3 [kB y,b7 (eL e) ys] g bk o:=by
 subst hx he
 obtain ⟨cs,ty,h1,h2⟩:=h
 refine ⟨cs,ty,h1,?_⟩
 match hcs:cs.toList,h2 with
 | [c1,c2],⟨k1,k2,_⟩=>exact ⟨k1,⟨_,V0 (c:=cp),k2⟩,trivial⟩
section
variable {P:Program} {c:l8} {S:g9} {M:f0} {Sp:World->Prop} {d:Option Tmp} {ty:TypeId} {pos:String} {af:Array Edge} {gd:Option (Nat×Bool)} {x:Operand}
end
theorem C4.n {S S':g9} {M M':f0} {s cp:Nat} {α:Type} {e:i7 α} {y:List α} (hl:look S s=some (true,j8 (.slice none 0 cp))) (he:[]=y) (r:C4 S M S' M'):C4 S M (⟨s,true,[],b7 (eL e) y⟩::S') M' :=
 C4.conv hl rfl (fun _ _ h=>by subst he; exact ⟨_,V0 (c:=cp),h⟩) rfl r
end Go.Fl

/- Closures whose captured values are immutable: their calls are calls by contract. No program in sight. -/
namespace Go.Fl
open Go Go.RowKit
def HR {α:Type} (P:Program) (φ:α->Prop) (ks:α->List b8) (res:α->b8):b8:=fun g v=>∃(f:FuncId) (caps:Array Value),v=.func (.func f) #[] caps/\d8 P f/\∀a,φ a->∀w J,g.J.le J->Im J w->∀vs,o6 ⟨J,w4⟩ (ks a) vs->Calls P f (vs.toArray++caps) w (Y9 w J (res a))
instance {α:Type} {P:Program} {φ:α->Prop} {ks:α->List b8} {res:α->b8}:o4 (HR P φ ks res) []:=⟨fun hl _ ⟨f,caps,h1,h2,h3⟩=>⟨f,caps,h1,h2,fun a ha w J hJ=>h3 a ha w J (JV.le_trans hl hJ)⟩⟩
theorem RU {g:Gh}:∀{ks ks':List b8} {vs vs':List Value},o6 g ks vs->o6 g ks' vs'->o6 g (ks++ks') (vs++vs')
 | [],_,[],_,_,h=>h
 | [],_,_::_,_,h,_=>h.elim
 | _::_,_,[],_,h,_=>h.elim
 | _::_,_,_::_,_,h,h'=>⟨h.1,RU h.2 h'⟩
theorem OL {α:Type} {P:Program} {f:FuncId} [hf:d8 P f] {φ:α->Prop} {ks:α->List b8} {res:α->b8} {cks:List b8} [hj:V5 cks] (h:∀a,φ a->Ct P f (ks a++cks) (res a)) (g:Gh) (v:Value) (hv:Z8 f cks g v):HR P φ ks res g v:=by
 obtain ⟨cvs,rfl,hc⟩:=hv
 refine ⟨f,cvs.toArray,rfl,hf,fun a ha w J hJ him vs hvs=>?_⟩
 have h1:o6 ⟨J,w4⟩ cks cvs:=MJ (J:=g.J) hJ hj.all (JS (g:=g) (g':=⟨g.J,w4⟩) (JV.le_refl _) hj.all hc)
 have:=h a ha w J him (vs++cvs) (RU hvs h1)
 rwa [List.append_toArray]
section
variable {P:Program} {c:l8} {S:g9} {M:f0} {p:Bool} {d:Option Tmp} {ty:TypeId} {pos:String} {af:Array Edge} {gd:Option (Nat×Bool)} {x:Operand} {b:Bool}
theorem VZ {α:Type} (a:α) {φ:α->Prop} {ks:α->List b8} {res:α->b8} {args:List Operand} {tys:Array TypeId} (hx:j1 S x=some (b,HR P φ ks res)) (hb:p=true->b=true) (ha:p=true->φ a) (hargs:D8 S p args (ks a)) [hk:o4 (res a) []] :
  l3 P c S M ⟨d,.call { callee:=.value x,args:=args.toArray,argTypes:=tys },ty,pos,af,gd⟩ p (res a) none:=by
 intro hp q g w hok hc ho _
 obtain ⟨f,caps,hfv,hf,hct⟩:=ho x (by simp[Op.operands,Call.operands]) b _ hx (hb hp)
 have hvs:=hargs.eval (g:=g) (ρ:=q.eval) hp (fun y hy b k hk hb=>ho y (by simp[Op.operands,Call.operands,hy]) b k hk hb)
 have hr:=hct a (ha hp) w g.J (JV.le_refl _) hok.im _ hvs
 unfold Oper.wp
 simp only[execOp,resolve,hfv,Deferred.ofValue,Sem.run_bind,Sem.run_pure,Result.andThen_ok,invoke,List.map_toArray,Array.empty_append]
 rw[hf.run]
 simp only[Oper.upon]
 refine hr.mono fun e w' he=>?_
 obtain ⟨r,J',rfl,hbel,hJ,hold,him,hres⟩:=he
 exact ⟨r,_,rfl,F8.call hok hbel hJ hold him hres⟩
end
end Go.Fl

/- The end of a call that is gone through in place, with what the caller wants to know. No program in sight. -/
namespace Go.Fl
open Go Go.RowKit
section
variable {P:Program} {c:l8} {w0:World} {J0:JV} {bor om:List Nat} {n0:Nat} {S:g9} {M M':f0} {fn:Func} {keep:List Nat} {bks:Nat->Bk} {n:Nat}
variable {p:Bool} {d:Option Tmp} {ty:TypeId} {pos:String} {af:Array Edge} {gd:Option (Nat×Bool)} {x:Operand} {b:Bool}
theorem fF {f:FuncId} [hf:d8 P f] {ks cks:List b8} {res:b8} {args:List Operand} {tys:Array TypeId} (hx:j1 S x=some (b,Z8 f cks)) (hb:p=true->b=true) [hj:V5 cks] (hct:p=true->Ct P f (ks++cks) res) (hargs:D8 S p args ks) [hk:o4 res []] :
  l3 P c S M ⟨d,.call { callee:=.value x,args:=args.toArray,argTypes:=tys },ty,pos,af,gd⟩ p res none:=by
 intro hp q g w hok hc ho _
 obtain ⟨cvs,hfv,hcs⟩:=ho x (by simp[Op.operands,Call.operands]) b _ hx (hb hp)
 have hvs:=hargs.eval (g:=g) (ρ:=q.eval) hp (fun y hy b k hk hb=>ho y (by simp[Op.operands,Call.operands,hy]) b k hk hb)
 have h1:o6 ⟨g.J,w4⟩ cks cvs:=JS (g:=g) (g':=⟨g.J,w4⟩) (JV.le_refl _) hj.all hcs
 have hr:=hct hp w g.J hok.im _ (RU hvs h1)
 unfold Oper.wp
 simp only[execOp,resolve,hfv,Deferred.ofValue,Sem.run_bind,Sem.run_pure,Result.andThen_ok,invoke,List.map_toArray,List.append_toArray]
 rw[hf.run]
 simp only[Oper.upon]
 refine hr.mono fun e w' he=>?_
 obtain ⟨r,J',rfl,hbel,hJ,hold,him,hres⟩:=he
 exact ⟨r,_,rfl,F8.call hok hbel hJ hold him hres⟩
end
end Go.Fl

/- Loops over what slices.Backward hands back: the body is a round with the frame's temporaries; what the rounds write are things of the call's own, which stay where they are. No program in sight. -/
namespace Go.Fl
open Go Go.RowKit
class RH (ct:s9):Prop where
  is:∀{g:Gh} {b cap:Nat} {o:Option Obj},ct g (.blk b cap) o->∃cs ty fr,o=some (Obj.cells cs ty fr)
instance {ks:List b8}:RH (j3 ks):=⟨fun ⟨cs,ty,h,_⟩=>⟨cs,ty,_,h⟩⟩
class Y4 (M:f0):Prop where
  is:∀e∈M,RH e.c
instance:Y4 []:=⟨fun _ h=>by cases h⟩
instance {t:Nat} {d:List Nat} {ct:s9} {M:f0} [h:RH ct] [hs:Y4 M]:Y4 (⟨t,d,ct⟩::M):=⟨fun e he=>by
  rcases List.mem_cons.1 he with rfl | he
  · exact h
  · exact hs.is e he⟩
def BC (g:Gh) (M:f0):List Nat:=(tags M).filterMap fun t=>match g.M t with | some (.blk b _)=>some b | _=>none
theorem PN {g:Gh} {M:f0} {b:Nat}:b∈BC g M↔∃t∈tags M,∃cap,g.M t=some (.blk b cap):=by
  unfold BC
  rw[List.mem_filterMap]
  constructor
  · rintro ⟨t,ht,h⟩
    refine ⟨t,ht,?_⟩
    cases hg:g.M t with
    | none=>rw[hg] at h; cases h
    | some bk =>
      cases bk with
      | nil=>rw[hg] at h; cases h
      | blk b' cap=>rw[hg] at h; simp only[Option.some.injEq] at h; subst h; exact ⟨cap,rfl⟩
  · rintro ⟨t,ht,cap,h⟩
    exact ⟨t,ht,by rw[h]⟩
section
variable {c:l8} {S S':g9} {M M':f0} {a a':Act} {g g':Gh} {W W':World}
theorem lL {W:World} {b off:Nat} {o:Obj} (hl:W.heap[b]?=some o) (ho:o.isCells=false):W.cell? ⟨b,off,none⟩=none:=by
  cases o<;>first | (simp[World.cell?,hl]; done) | (simp[Obj.isCells] at ho)
theorem l4.notOwn (h:l4 c S M a g W) (hM:Y4 M) {k:Nat} {o:Obj} (hk:W.heap[k]?=some o) (ho:o.isCells=false):k∉BC g M:=by
  intro hm
  obtain ⟨t,ht,cap,hg⟩:=PN.1 hm
  obtain ⟨e,he,rfl⟩:=List.mem_map.1 ht
  obtain ⟨bk,h1,h2⟩:=h.conts e he
  rw[hg] at h1; cases h1
  obtain ⟨cs,ty,fr,h3⟩:=(hM.is e he).is h2
  have h3:W.heap[k]?=some (Obj.cells cs ty fr):=h3
  rw[hk] at h3; cases h3; cases ho
theorem l4.rebase (h:l4 c S M a g W) (rd:Option Nat) (mrk:Bool) (om:List Nat) (hm:N6 mrk W.heap.size om a.defers W):l4 ⟨W,g.J,BC g M,c.n,rd,mrk,om⟩ S M a g W :=
  ⟨⟨⟨rfl,rfl,rfl,Nat.le_refl _,fun _ _ _=>rfl,Nat.le_refl _⟩,JV.le_refl _,fun _ _ _=>rfl,h.ok.im,fun t b cap ht=>⟨.inr (PN.2 ⟨t,h.dom t (by rw[ht]; simp),cap,ht⟩),(h.ok.own t b cap ht).2⟩,h.ok.inj⟩,
    h.slots,h.conts,h.dom,h.nodup,h.sdep,h.cdep,hm,h.size⟩
theorem l4.unbase {c0:l8} {rd:Option Nat} {mrk:Bool} {om:List Nat} (h0:l4 c0 S M a g W) (h:l4 ⟨W,g.J,BC g M,c0.n,rd,mrk,om⟩ S' M' a' g' W') (hw:c.w0=c0.w0) (hJ:c.J0=c0.J0) (hb:c.bor=c0.bor) (hn:c.n=c0.n)
    (hm:N6 c.mrk c.w0.heap.size c.om a'.defers W'):l4 c S' M' a' g' W':=by
  have hown:∀b,b∈BC g M->c0.w0.heap.size<=b\/b∈c0.bor:=fun b hb=>by
    obtain ⟨t,_,cap,hg⟩:=PN.1 hb
    exact (h0.ok.own t b cap hg).1
  have b0:=h0.ok.bel
  have b1:=h.ok.bel
  refine ⟨⟨⟨b1.os.trans (hw▸b0.os),b1.tape.trans (hw▸b0.tape),b1.output.trans (hw▸b0.output),Nat.le_trans (hw▸b0.size) b1.size,fun k hk hnb=>?_,Nat.le_trans (hw▸b0.drawn) b1.drawn⟩,JV.le_trans (hJ▸h0.ok.jle) h.ok.jle,fun b o hlt=>?_,h.ok.im,fun t b cap ht=>?_,h.ok.inj⟩,h.slots,h.conts,h.dom,h.nodup,h.sdep,h.cdep,hm,hn▸h.size⟩
  · rw[hw] at hk
    rw[hb] at hnb
    have h1:=b1.block k (Nat.lt_of_lt_of_le hk b0.size) (fun hk'=>by
      rcases hown k hk' with h2 | h2
      · omega
      · exact hnb h2)
    rw[h1,hw]
    exact b0.block k hk hnb
  · rw[hw] at hlt
    rw[h.ok.jold b o (Nat.lt_of_lt_of_le hlt b0.size),hJ]
    exact h0.ok.jold b o hlt
  · obtain ⟨h1,h2,h3⟩:=h.ok.own t b cap ht
    refine ⟨?_,h2,h3⟩
    rw[hw,hb]
    rcases h1 with h1 | h1
    · exact .inl (Nat.le_trans b0.size h1)
    · exact hown b h1
theorem l4.turn (h:l4 c S M a g W) (hM:Y4 M) {l:Nat} {o o':Obj} (hl:W.heap[l]?=some o) (ho:o.isCells=false) (hB:c.w0.heap.size<=l) (hmk:N6 c.mrk c.w0.heap.size c.om a.defers (W.putObj l o')):l4 c S M a g (W.putObj l o'):=by
  have hno:=h.notOwn hM hl ho
  have hoth:∀k,k≠l->(W.putObj l o').heap[k]?=W.heap[k]?:=fun k hk=>World.putObj_heap_other hk
  refine ⟨⟨⟨h.ok.bel.os,h.ok.bel.tape,h.ok.bel.output,by simpa using h.ok.bel.size,fun k hk hnb=>?_,h.ok.bel.drawn⟩,h.ok.jle,h.ok.jold,fun b off v hv=>?_,fun t b cap ht=>?_,h.ok.inj⟩,h.slots,fun e he=>?_,h.dom,h.nodup,h.sdep,h.cdep,hmk,h.size⟩
  · rw[hoth k zo]; exact h.ok.bel.block k hk hnb
  · have h1:=h.ok.im b off v hv
    rw[World.cell?_of_block (w:=W) (hoth b (fun e=>by
      subst e
      rw[lL hl ho] at h1; cases h1))]
    exact h1
  · obtain ⟨h1,h2,h3⟩:=h.ok.own t b cap ht
    exact ⟨h1,by simpa using h2,h3⟩
  · obtain ⟨bk,h1,h2⟩:=h.conts e he
    refine ⟨bk,h1,?_⟩
    have:World.objAt (W.putObj l o') bk=World.objAt W bk:=by
      cases bk with
      | nil=>rfl
      | blk b cap=>exact hoth b (fun e'=>by subst e'; exact hno (PN.2 ⟨e.t,List.mem_map.2 ⟨e,he,rfl⟩,cap,h1⟩))
    rw[this]; exact h2
end
def LS (P:Program) (f:FuncId) {α:Type} [Inhabited α] (e:i7 α):Prop :=
  ∀(J:JV) (W:World) (xs:List α) (ptr:Value),Im J W->r5 (eL e) xs ⟨J,w4⟩ ptr->∃val:Nat->Value,(∀i,i<xs.length->e.val J (val i) (b6 xs i)) /\
    ∀(l:Nat) (Iv Ix:Nat->World->Prop),(∀k W1,k<xs.length->Im J W1->Iv k W1->YieldAt Fence.wide 2 P l #[.int .i64 ((xs.length-1-k:Nat):Int),val (xs.length-1-k)] W1 fun e W' =>
        (e=.returned (.bool true)/\Iv (k+1) W'/\Im J W')\/(e=.returned (.bool false)/\Ix (k+1) W'))->Iv 0 W ->
      Calls P f #[.func (.yield l) #[] #[],ptr] W fun e W'=>(∃v,e=.returned v)/\(Iv xs.length W'\/∃k,k<xs.length/\Ix (k+1) W')
def XX (P:Program) (n l:Nat) (body:Code) (Q:l8->Exit->Act->World->Prop) (c:l8) (a:Act) (W:World):Prop :=
  ∃S M g,l4 c S M a g W/\Y4 M/\∀(w2:World) (J2:JV) (b2:List Nat),Tr P ⟨w2,J2,b2,n,some l,false,[]⟩ S M body (Q ⟨w2,J2,b2,n,some l,false,[]⟩)
def RK (n:Nat) (bks:Nat->Bk) (keep:List Nat) (N:f0) (R:Prop) (NX:f0) (RX:Prop) (c:l8):Exit->Act->World->Prop
  | .normal,a,W=>R/\∃g,l4 c (I1 n bks keep) N a g W
  | .ret,a,W=>RX/\∃g,l4 c (I1 n bks keep) NX a g W
  | _,_,_=>False
section
variable {P:Program} {c:l8} {S:g9} {M N NX:f0} {n l:Nat} {body:Code} {Q:l8->Exit->Act->World->Prop} {bks:Nat->Bk} {keep:List Nat} {R RX:Prop}
theorem g8.asg [hM:Y4 M] (h:∀(w2:World) (J2:JV) (b2:List Nat),Tr P ⟨w2,J2,b2,n,some l,false,[]⟩ S M body (Q ⟨w2,J2,b2,n,some l,false,[]⟩)):g8 c S M (Exit.then (XX P n l body Q c) (fun _ _ _=>False)) :=
  fun _ g _ hs=>⟨S,M,g,hs,hM,h⟩
theorem g8.rnd (hR:R) (h:d7 c S M (I1 n bks keep) N):g8 c S M (RK n bks keep N R NX RX c):=fun a g w hs=>⟨hR,h a g w hs⟩
theorem d9.rnd (hR:RX) (h:d7 c S M (I1 n bks keep) NX):d9 c S M (RK n bks keep N R NX RX c):=fun a g w hs=>⟨hR,h a g w hs⟩
theorem yT {n:Nat} {bks:Nat->Bk} {keep:List Nat} {a:Act} {g:Gh} (h:R8 (I1 n bks keep) a g):∀t∈keep,g.M t=some (bks t):=by
  intro t ht
  have hl:∀(ts:List Nat),t∈ts->look (I1 n bks ts) (n+t)=some (true,AV t (bks t)):=by
    intro ts
    induction ts with
    | nil=>intro h; cases h
    | cons u ts ih =>
      intro h
      simp only[I1,look]
      cases hb:Nat.beq (n+u) (n+t) with
      | true =>
        have:=Nat.eq_of_beq_eq_true hb
        have:u=t:=by omega
        subst this; rfl
      | false =>
        rcases List.mem_cons.1 h with rfl | h
        · rw[Nat.beq_refl] at hb; cases hb
        · exact ih h
  exact (h _ _ _ (hl keep ht)).1 rfl
end
section
variable {P:Program} {w0:World} {J0:JV} {bor om:List Nat} {n:Nat} {S S0:g9} {M:f0} {Q:Exit->Act->World->Prop}
theorem Tr.back {f:FuncId} [hf:d8 P f] {α:Type} [Inhabited α] {e:i7 α} {xs:List α} {s p1 p2:Nat} {assign body:Code} (hback:LS P f e) (S0:g9) (keep:List Nat) (N NX:Nat->f0) (R RX:Nat->Prop)
    (he:d7 ⟨w0,J0,bor,n,none,true,om⟩ S M S0 (N 0)) (hx:look S0 s=some (true,Z8 f [r5 (eL e) xs])) (hkeep:S0.all (fun e=>s5 e.dep keep)=true) (hkt:∀k,s5 keep (tags (N k))=true) (hkx:∀k,s5 keep (tags (NX k))=true)
    (hN:∀k,Y4 (N k)) (hNX:∀k,Y4 (NX k)) (hp:(Nat.blt p1 n&&Nat.blt p2 n&&!Nat.beq p1 p2)=true) (h0:R 0) {kE:Nat->b8} [hE:∀i,P3 e (b6 xs i) (kE i)] [hEd:∀i,o4 (kE i) []]
    (round:∀k,k<xs.length->R k->∀(l:Nat) (w1:World) (J1:JV) (b1:List Nat) (bks:Nat->Bk),
      Tr P ⟨w1,J1,b1,n,some l,false,[]⟩ (⟨p2,true,[],kE (xs.length-1-k)⟩::⟨p1,true,[],kI ((xs.length-1-k:Nat):Int)⟩::(S0++I1 n bks keep)) (N k) assign
        (Exit.then (XX P n l body (RK n bks keep (N (k+1)) (R (k+1)) (NX (k+1)) (RX (k+1))) ⟨w1,J1,b1,n,some l,false,[]⟩) (fun _ _ _=>False)))
    (done:R xs.length->g8 ⟨w0,J0,bor,n,none,true,om⟩ S0 (N xs.length) Q) (ret:∀k,k<xs.length->RX (k+1)->d9 ⟨w0,J0,bor,n,none,true,om⟩ S0 (NX (k+1)) Q) :
    Tr P ⟨w0,J0,bor,n,none,true,om⟩ S M (.rangeFunc (.tmp s) #[p1,p2] assign body) Q:=by
  intro a g00 w hs00
  obtain ⟨g,hs0⟩:=he a g00 w hs00
  simp only[Bool.and_eq_true,Bool.not_eq_true'] at hp
  obtain ⟨⟨hp1,hp2⟩,hp12⟩:=hp
  have hp1:p1<n:=by simpa [Nat.blt_eq] using hp1
  have hp2:p2<n:=by simpa [Nat.blt_eq] using hp2
  have hp12:p1≠p2:=Nat.ne_of_beq_eq_false hp12
  obtain ⟨cvs,hfv,hcl⟩:=(hs0.slots s _ _ hx).1 rfl
  obtain ⟨ptr,rfl,hptr⟩:∃ptr,cvs=[ptr]/\r5 (eL e) xs g ptr:=by
    match cvs,hcl with
    | [ptr],h=>exact ⟨ptr,rfl,h.1⟩
  have hn:=hs0.size
  simp only at hn
  have hkm:∀t∈keep,∃bk,g.M t=some bk:=fun t ht=>hs0.tagM (A1 (hkt 0) t ht)
  refine wpIn_rangeFunc fun fn _=>?_
  obtain ⟨rec,hrec⟩:∃rec:LoopState->Option Code->Loop,rec=fun st pe=>{ state:=st,pending:=pe,fn,tmps:=a.tmps,params:=#[p1,p2],assign,body,defers:=w.heap.size }:=⟨_,rfl⟩
  obtain ⟨D,hD⟩:∃D,D=w.heap.size:=⟨_,rfl⟩
  obtain ⟨W1,hW1⟩:∃W1,(w.alloc (.deferred (some []))).alloc (.loop (rec .ready none))=W1:=⟨_,rfl⟩
  have hL1:W1.heap[D+1]?=some (.loop (rec .ready none)):=by
    rw[<- hW1,hD]; have:=World.alloc_heap_new (w.alloc (.deferred (some []))) (.loop (rec .ready none)); rwa [World.size_alloc] at this
  have hD1:W1.heap[D]?=some (Obj.deferred (some [])):=by
    rw[<- hW1,hD]; exact (Below.heap_alloc _ _ _ (by simp)).trans (World.alloc_heap_new w _)
  have hbel:Below w.heap.size w W1:=by rw[<- hW1]; exact ((Below.refl _ w).alloc (Nat.le_refl _) _).alloc (by simp) _
  have hB:w0.heap.size<=D:=by rw[hD]; exact hs0.ok.bel.size
  have hs1:l4 ⟨w0,J0,bor,n,none,true,om⟩ S0 (N 0) a g W1:=by
    have hob:∀bk,(∀b cap,bk=Bk.blk b cap->b<w.heap.size)->World.objAt W1 bk=World.objAt w bk:=fun bk hb=>OZ hbel hb
    refine ⟨⟨hs0.ok.bel.then hbel,hs0.ok.jle,hs0.ok.jold,fun b o v hv=>?_,fun t b cap ht=>?_,hs0.ok.inj⟩,hs0.slots,fun x hx=>?_,hs0.dom,hs0.nodup,hs0.sdep,hs0.cdep,hs0.defers.below hbel,hs0.size⟩
    · have h1:=hs0.ok.im b o v hv
      rw[World.cell?_of_block (w:=w) (hbel.block b (World.block_lt_of_cell? _ _ h1))]; exact h1
    · obtain ⟨q1,q2,q3⟩:=hs0.ok.own t b cap ht
      exact ⟨q1,Nat.lt_of_lt_of_le q2 hbel.size,q3⟩
    · obtain ⟨bk,q1,q2⟩:=hs0.conts x hx
      exact ⟨bk,q1,by rw[hob bk (fun b cap e=>by subst e; exact (hs0.ok.own _ _ _ q1).2.1)]; exact q2⟩
  have him1:Im g.J W1:=hs1.ok.im
  obtain ⟨val,hval,hcall⟩:=hback g.J W1 xs ptr him1 (by obtain ⟨b,o,ds,q⟩:=hptr; exact ⟨b,o,ds,q⟩)
  let St (Nk:f0) (W:World):Prop:=∃g':Gh,g.J.le g'.J/\(∀t∈keep,g'.M t=g.M t)/\l4 ⟨w0,J0,bor,n,none,true,om⟩ S0 Nk a g' W
  have hfin:Calls P f #[.func (.yield (D+1)) #[] #[],ptr] W1 fun e W'=>(∃v,e=.returned v) /\
      (((R xs.length/\St (N xs.length) W')/\W'.heap[D+1]?=some (.loop (rec .ready none))/\W'.heap[D]?=some (Obj.deferred (some []))) \/
       ∃k,k<xs.length/\(RX (k+1)/\St (NX (k+1)) W')/\W'.heap[D+1]?=some (.loop (rec .done (some .ret)))/\W'.heap[D]?=some (Obj.deferred (some []))):=by
    refine hcall (D+1) (fun k W=>(R k/\St (N k) W)/\W.heap[D+1]?=some (.loop (rec .ready none))/\W.heap[D]?=some (Obj.deferred (some [])))
      (fun k W=>(RX k/\St (NX k) W)/\W.heap[D+1]?=some (.loop (rec .done (some .ret)))/\W.heap[D]?=some (Obj.deferred (some []))) ?_ ⟨⟨h0,g,JV.le_refl _,fun _ _=>rfl,hs1⟩,hL1,hD1⟩
    rintro k W hk _ ⟨⟨hR,g',hJ',hM',hsW⟩,hLW,hDW⟩
    have hy:=run_yield (P:=P) (args:=#[.int .i64 ((xs.length-1-k:Nat):Int),val (xs.length-1-k)]) hLW (by rw[hrec]; rfl)
    rw[hrec] at hy
    refine ⟨fn,_,assign,body,hy,roundIn_of_wpIn trivial ?_⟩
    obtain ⟨a1,ha1⟩:∃a1:Act,a1={ tmps:=(a.tmps.setIfInBounds p1 (.int .i64 ((xs.length-1-k:Nat):Int))).setIfInBounds p2 (val (xs.length-1-k)),defers:=[] }:=⟨_,rfl⟩
    have hfold:({ tmps:=((#[p1,p2]:Array Tmp).zip #[.int .i64 ((xs.length-1-k:Nat):Int),val (xs.length-1-k)]).foldl (fun t (p,v)=>t.setIfInBounds p v) a.tmps,defers:=[] }:Act)=a1:=by
      rw[ha1]; simp
    have hbks:∀t∈keep,g'.M t=some ((g.M t).getD .nil):=fun t ht=>by
      obtain ⟨bk,q⟩:=hkm t ht
      rw[hM' t ht,q]; rfl
    have hsr:l4 ⟨w0,J0,bor,n,some (D+1),false,[]⟩ (⟨p2,true,[],kE (xs.length-1-k)⟩::⟨p1,true,[],kI ((xs.length-1-k:Nat):Int)⟩::(S0++I1 n (fun t=>(g.M t).getD .nil) keep)) (N k) a1 g' W:=by
      have hv:=hval (xs.length-1-k) zo
      have hoth:∀t,t≠p1->t≠p2->a1.tmps.getD t undef=a.tmps.getD t undef:=fun t h1 h2=>by
        rw[ha1]; simp[Array.getElem?_setIfInBounds_ne (Ne.symm h1),Array.getElem?_setIfInBounds_ne (Ne.symm h2)]
      refine ⟨⟨hsW.ok.bel,hsW.ok.jle,hsW.ok.jold,hsW.ok.im,hsW.ok.own,hsW.ok.inj⟩,fun t b k0 hl=>?_,hsW.conts,hsW.dom,hsW.nodup,fun x hx=>?_,hsW.cdep,⟨by rw[ha1],fun _ h=>by cases h⟩,by rw[ha1]; simpa using hn⟩
      · simp only[look] at hl
        cases hb2:Nat.beq p2 t with
        | true =>
          rw[hb2] at hl
          simp only[cond_true,Option.some.injEq,Prod.mk.injEq] at hl
          obtain ⟨rfl,rfl⟩:=hl
          rw[<- Nat.eq_of_beq_eq_true hb2]
          refine ⟨fun _=>?_,fun h=>by cases h⟩
          rw[show a1.tmps.getD p2 undef=val (xs.length-1-k) by rw[ha1]; simp[hn,hp2]]
          exact (hE _).imp (hv.mono hJ')
        | false =>
          rw[hb2] at hl
          simp only[cond_false] at hl
          cases hb1:Nat.beq p1 t with
          | true =>
            rw[hb1] at hl
            simp only[cond_true,Option.some.injEq,Prod.mk.injEq] at hl
            obtain ⟨rfl,rfl⟩:=hl
            rw[<- Nat.eq_of_beq_eq_true hb1]
            refine ⟨fun _=>?_,fun h=>by cases h⟩
            show a1.tmps.getD p1 undef=_
            rw[ha1]
            simp only[Array.getD_eq_getD_getElem?]
            rw[Array.getElem?_setIfInBounds_ne (Ne.symm hp12),Array.getElem?_setIfInBounds_self_of_lt zo]
            rfl
          | false =>
            rw[hb1] at hl
            simp only[cond_false] at hl
            rcases VA hl with hl | hl
            · rw[hoth t (fun e=>Nat.ne_of_beq_eq_false hb1 e.symm) (fun e=>Nat.ne_of_beq_eq_false hb2 e.symm)]
              exact hsW.slots t b k0 hl
            · obtain ⟨rfl,_,h3,rfl⟩:=QQ hl
              exact ⟨fun _=>hbks _ h3,fun hf=>(by cases hf)⟩
      · rcases List.mem_cons.1 hx with rfl | hx
        · exact ⟨hEd _,fun _ h=>by cases h⟩
        rcases List.mem_cons.1 hx with rfl | hx
        · exact ⟨inferInstance,fun _ h=>by cases h⟩
        rcases List.mem_append.1 hx with hx | hx
        · exact hsW.sdep x hx
        · obtain ⟨t,h1,h2,h3⟩:=QR hx
          rw[h2,h3]
          exact ⟨inferInstance,fun q hq=>by simp at hq; subst hq; exact A1 (hkt k) _ h1⟩
    have hNk:=hN k
    have nW:∀{q:Nat} {o:Obj},W.heap[q]?=some o->o.isCells=false->q∉BC g' (N k):=fun h1 h2=>hsW.notOwn hNk h1 h2
    have hr1:=hsr.rebase (some (D+1)) false [] ⟨by rw[ha1],fun _ h=>by cases h⟩
    refine wpIn_mono (by
      have:=round k hk hR (D+1) W g'.J (BC g' (N k)) (fun t=>(g.M t).getD .nil) a1 g' W hr1
      rw[<- hfold] at this
      exact this) ?_
    rintro e2 a2 W2 hq
    cases e2 with
    | normal =>
      obtain ⟨S1,M1,g1,hs2,hM1,hbody⟩:=hq
      have keep2:∀{q:Nat} {o:Obj},W.heap[q]?=some o->o.isCells=false->W2.heap[q]?=some o:=fun h1 h2 =>
        (hs2.ok.bel.block _ (Array.getElem?_eq_some_iff.1 h1).1 (nW h1 h2)).trans h1
      have hL2:=keep2 hLW rfl
      have hD2:=keep2 hDW rfl
      have hs2':l4 ⟨w0,J0,bor,n,some (D+1),false,[]⟩ S1 M1 a2 g1 W2:=hsr.unbase hs2 rfl rfl rfl rfl ⟨hs2.defers.1,fun _ h=>by cases h⟩
      obtain ⟨busy,hbusy⟩:∃busy:Obj,busy=.loop { rec .ready none with state:=.busy }:=⟨_,rfl⟩
      refine ⟨W2.putObj (D+1) busy,by rw[hbusy]; exact run_beginRound hL2 (by rw[hrec]),?_⟩
      have hs3:=hs2'.turn (o':=busy) hM1 hL2 rfl (Nat.le_trans hB (Nat.le_succ _)) ⟨hs2.defers.1,fun _ h=>by cases h⟩
      have hL3:(W2.putObj (D+1) busy).heap[D+1]?=some busy:=World.putObj_heap_same (Array.getElem?_eq_some_iff.1 hL2).1
      have hoth3:∀q,q≠D+1->(W2.putObj (D+1) busy).heap[q]?=W2.heap[q]?:=fun q hq=>World.putObj_heap_other hq
      have hD3:(W2.putObj (D+1) busy).heap[D]?=some (Obj.deferred (some [])):=(hoth3 D zo).trans hD2
      generalize hW3:W2.putObj (D+1) busy=W3 at hs3 hL3 hoth3 hD3 ⊢
      have nW3:∀{q:Nat} {o:Obj},W3.heap[q]?=some o->o.isCells=false->q∉BC g1 M1:=fun h1 h2=>hs3.notOwn hM1 h1 h2
      have hr3:=hs3.rebase (some (D+1)) false [] ⟨hs2.defers.1,fun _ h=>by cases h⟩
      refine wpIn_mono (hbody W3 g1.J (BC g1 M1) a2 g1 W3 hr3) ?_
      have fin:∀(jump:Option Code) (N':f0) (a4:Act) (g4:Gh) (W4:World),Y4 N'->s5 keep (tags N')=true->l4 ⟨W3,g1.J,BC g1 M1,n,some (D+1),false,[]⟩ (I1 n (fun t=>(g.M t).getD .nil) keep) N' a4 g4 W4 ->
          ∃W5,(Instr.endRound (D+1) jump).run P W4=.ok (.bool jump.isNone) W5/\St N' W5/\Im g.J W5/\W5.heap[D+1]?=some (.loop (rec (if jump.isNone then .ready else .done) jump))/\W5.heap[D]?=some (Obj.deferred (some [])):=by
        intro jump N' a4 g4 W4 hN' hkN hs4
        have keep4:∀{q:Nat} {o:Obj},W3.heap[q]?=some o->o.isCells=false->W4.heap[q]?=some o:=fun h1 h2 =>
          (hs4.ok.bel.block _ (Array.getElem?_eq_some_iff.1 h1).1 (nW3 h1 h2)).trans h1
        have hL4:=keep4 hL3 (by rw[hbusy]; rfl)
        have hD4:=keep4 hD3 rfl
        have hs4':l4 ⟨w0,J0,bor,n,some (D+1),false,[]⟩ (I1 n (fun t=>(g.M t).getD .nil) keep) N' a4 g4 W4:=hs3.unbase hs4 rfl rfl rfl rfl ⟨hs4.defers.1,fun _ h=>by cases h⟩
        have hJ4:g'.J.le g4.J:=JV.le_trans hs2.ok.jle hs4.ok.jle
        have hM4:∀t∈keep,g4.M t=g.M t:=fun t ht=>by
          obtain ⟨bk,q⟩:=hkm t ht
          rw[yT hs4.slots t ht,q]; rfl
        have hmk:∀(o':Obj),N6 true w0.heap.size om a.defers (W4.putObj (D+1) o'):=fun o'=>by
          refine hsW.defers.on fun q hq=>?_
          have hne:q≠D+1:=fun e=>by subst e; rw[hLW] at hq; cases hq
          rw[World.putObj_heap_other hne]
          have h3:W3.heap[q]?=some (Obj.deferred (some [])):=(hoth3 q hne).trans (keep2 hq rfl)
          exact (keep4 h3 rfl).trans hq.symm
        have hmk4:N6 true w0.heap.size om a.defers W4:=by
          refine hsW.defers.on fun q hq=>?_
          have hne:q≠D+1:=fun e=>by subst e; rw[hLW] at hq; cases hq
          have h3:W3.heap[q]?=some (Obj.deferred (some [])):=(hoth3 q hne).trans (keep2 hq rfl)
          exact (keep4 h3 rfl).trans hq.symm
        have hsO:l4 ⟨w0,J0,bor,n,none,true,om⟩ S0 N' a g4 W4:=by
          refine ⟨⟨hs4'.ok.bel,hs4'.ok.jle,hs4'.ok.jold,hs4'.ok.im,hs4'.ok.own,hs4'.ok.inj⟩,fun t b k0 hl=>?_,hs4'.conts,hs4'.dom,hs4'.nodup,fun x hx=>⟨(hsW.sdep x hx).1,fun t ht=>A1 hkN t (A1 (List.all_eq_true.1 hkeep x hx) t ht)⟩,hs4'.cdep,hmk4,hn⟩
          obtain ⟨x,hx,_,_,rfl⟩:=CY hl
          obtain ⟨q1,q2⟩:=hsW.slots t b _ hl
          exact ⟨fun hb=>(hsW.sdep x hx).1.dep (g:=g') hJ4 (fun u hu=>by rw[hM4 u (A1 (List.all_eq_true.1 hkeep x hx) u hu),hM' u (A1 (List.all_eq_true.1 hkeep x hx) u hu)]) (q1 hb),q2⟩
        rw[hbusy] at hL4
        have hsT:=hsO.turn (o':=.loop (rec (if jump.isNone then .ready else .done) jump)) hN' hL4 rfl (Nat.le_trans hB (Nat.le_succ _)) (hmk _)
        have hrun:=run_endRound (P:=P) jump hL4
        refine ⟨_,?_,⟨g4,JV.le_trans hJ' hJ4,hM4,hsT⟩,fun b o v hv=>hsT.ok.im b o v (JV.le_trans hJ' hJ4 b o v hv),World.putObj_heap_same (Array.getElem?_eq_some_iff.1 hL4).1,(World.putObj_heap_other zo).trans hD4⟩
        rw[hrun,hrec]
      rintro e4 a4 W4 hp
      cases e4 with
      | normal =>
        obtain ⟨hR',g4,hs4⟩:=hp
        obtain ⟨W5,q1,q2,q3,q4,q5⟩:=fin none _ a4 g4 W4 (hN _) (hkt _) hs4
        exact ⟨_,W5,q1,.inl ⟨rfl,⟨⟨hR',q2⟩,q4,q5⟩,q3⟩⟩
      | ret =>
        obtain ⟨hR',g4,hs4⟩:=hp
        obtain ⟨W5,q1,q2,_,q4,q5⟩:=fin (some .ret) _ a4 g4 W4 (hNX _) (hkx _) hs4
        exact ⟨_,W5,q1,.inr ⟨rfl,⟨hR',q2⟩,q4,q5⟩⟩
      | exit id=>exact hp.elim
      | goto t=>exact hp.elim
      | panic ch=>exact hp.elim
      | outgrown=>exact hp.elim
    | exit id=>exact hq.elim
    | goto t=>exact hq.elim
    | ret=>exact hq.elim
    | panic ch=>exact hq.elim
    | outgrown=>exact hq.elim
  have hout:∀(Nk:f0) (W:World) (o:Loop) (o':Obj),Y4 Nk->St Nk W->W.heap[D+1]?=some (.loop o)->W.heap[D]?=some (Obj.deferred (some [])) ->
      ∃g',l4 ⟨w0,J0,bor,n,none,true,om⟩ S0 Nk { a with defers:=[{ target:=.collected D,args:=#[] }]++a.defers } g' (W.putObj (D+1) o'):=by
    rintro Nk W o o' hc ⟨g',_,_,hsW⟩ hl hd
    have hk:∀q,W.heap[q]?=some (Obj.deferred (some []))->(W.putObj (D+1) o').heap[q]?=W.heap[q]?:=fun q hq=>World.putObj_heap_other (fun e=>by subst e; rw[hl] at hq; cases hq)
    have hm:=hsW.defers.on hk
    have hs:=hsW.turn (o':=o') hc hl rfl (Nat.le_trans hB (Nat.le_succ _)) hm
    refine ⟨g',hs.ok,hs.slots,hs.conts,hs.dom,hs.nodup,hs.sdep,hs.cdep,⟨⟨List.nodup_cons.2 ⟨fun hmem=>?_,hm.1.1⟩,fun d hd'=>?_⟩,hm.2⟩,hs.size⟩
    · obtain ⟨D',q1,_,q3⟩:=hs0.defers.1.2 _ hmem
      simp only[Deferred.mk.injEq,Target.collected.injEq,and_true] at q1
      rw[<- q1,hD] at q3
      have:=(Array.getElem?_eq_some_iff.1 q3).1
      omega
    · rcases List.mem_cons.1 hd' with rfl | hd'
      · exact ⟨D,rfl,hB,(hk D hd).trans hd⟩
      · exact hm.1.2 d hd'
  refine ⟨D+1,[{ target:=.collected D,args:=#[] }],W1,{ target:=.fn (.func f) #[ptr],args:=#[.func (.yield (D+1)) #[] #[]] },W1,f,#[.func (.yield (D+1)) #[] #[],ptr],W1,?_,?_,fun _ _=>trivial,?_,fun _=>by omega,?_⟩
  · rw[<- hW1,hrec,hD]; exact run_enterLoop_outer _ _ _ _ _
  · have hev:a.eval (.tmp s)=.func (.func f) #[] #[ptr]:=hfv
    simp only[resolve,hev]
    simp[go_sem]
  · simp only[invoke]
    exact hf.run _ _
  · refine callsIn_wide.2 (hfin.mono ?_)
    rintro e W2 ⟨⟨v,rfl⟩,h⟩
    rcases h with ⟨⟨hR,hst⟩,hl,hd⟩ | ⟨k,hk,⟨hR,hst⟩,hl,hd⟩
    · obtain ⟨g',hs⟩:=hout _ W2 _ (.loop { rec .ready none with state:=.exhausted }) (hN _) hst hl hd
      exact ⟨none,_,by have:=run_endLoop (P:=P) hl (by rw[hrec]; simp); rw[hrec] at this ⊢; exact this,done hR _ g' _ hs⟩
    · obtain ⟨g',hs⟩:=hout _ W2 _ (.loop { rec .done (some .ret) with state:=.exhausted }) (hNX _) hst hl hd
      exact ⟨some .ret,_,by have:=run_endLoop (P:=P) hl (by rw[hrec]; simp); rw[hrec] at this ⊢; exact this,wpIn_ret (ret k hk hR _ g' _ hs)⟩
end
end Go.Fl

/- Functions that hold a loop over a function: their contracts. No program in sight. -/
namespace Go.Fl
open Go Go.RowKit
abbrev RG (P:Program) (fn:Func) (R:Ending->World->Prop):Exit->Act->World->Prop:=bodyPostM Fence.wide 2 P fn R
theorem CtM.mk {P:Program} {f:FuncId} {fn:Func} {code:Code} {args:List b8} {res:b8} {n:Nat} (hf:P.funcs[f]?=some fn) (hb:fn.body=some code) (hn:fn.ntmps=n) (hl:Nat.ble args.length n=true) [hj:V5 args]
  (h:∀w J,Tr P ⟨w,J,[],n,none,true,[]⟩ (params 0 args) [] code (RG P fn (Y9 w J res))):Ct P f args res:=by
 intro w J him vs hvs
 have hlen:=I2 hvs
 have hle:args.length<=n:=Nat.le_of_ble_eq_true hl
 refine callsIn_wide.1 (callsIn_of_wp_marks (n:=2) hf hb trivial (h w J _ ⟨J,w4⟩ w ⟨⟨⟨rfl,rfl,rfl,Nat.le_refl _,fun _ _ _=>rfl,Nat.le_refl _⟩,JV.le_refl _,fun _ _ _=>rfl,him,fun _ _ _ h=>(by cases h),fun _ _ _ _ _ h=>(by cases h)⟩,?_,fun _ h=>(by cases h),fun _ h=>absurd rfl h,List.nodup_nil,?_,fun _ h=>(by cases h),⟨⟨List.nodup_nil,fun _ h=>(by cases h)⟩,fun _ h=>(by cases h)⟩,?_⟩))
 ·intro t b k hk
  obtain ⟨_,rfl,v,hv,hkv⟩:=GC hvs hk
  refine ⟨fun _=>?_,fun hf=>(by cases hf)⟩
  have ht:t<vs.length:=(List.getElem?_eq_some_iff.1 (by simpa using hv)).1
  have:(vs.toArray++Array.replicate (fn.ntmps-vs.toArray.size) undef).getD t undef=v:=by
   rw[Array.getD_eq_getD_getElem?,Array.getElem?_append_left (by simpa using ht)]
   simp only[List.getElem?_toArray]
   rw[show vs[t]?=some v by simpa using hv]
   rfl
  rw[this]; exact hkv
 ·intro e he
  obtain ⟨h1,h2⟩:=GB hj.all he
  exact ⟨h1,fun t ht=>by rw[h2] at ht; cases ht⟩
 ·simp only[Array.size_append,List.size_toArray,Array.size_replicate]; omega
theorem d9.mk {P:Program} {w0:World} {J0:JV} {bor:List Nat} {n:Nat} {S:g9} {M:f0} {fn:Func} {R:Ending->World->Prop} [hM:Y4 M] (h:d9 ⟨w0,J0,bor,n,none,false,[]⟩ S M (bodyPost P fn R)):d9 ⟨w0,J0,bor,n,none,true,[]⟩ S M (RG P fn R):=by
 have key:∀(ds:List Deferred) (a:Act) (g:Gh) (w:World),a.defers=ds->l4 ⟨w0,J0,bor,n,none,true,[]⟩ S M a g w->LeavesInM Fence.wide 2 P fn a.tmps R ds .returning w:=by
  intro ds
  induction ds with
  | nil =>
   intro a g w hd hs
   have h1:=h a g w ⟨⟨hs.ok.bel,hs.ok.jle,hs.ok.jold,hs.ok.im,hs.ok.own,hs.ok.inj⟩,hs.slots,hs.conts,hs.dom,hs.nodup,hs.sdep,hs.cdep,⟨hd,hs.defers.2⟩,hs.size⟩
   exact h1.2
  | cons d ds ih =>
   intro a g w hd hs
   have hdf:=hs.defers
   rw[hd] at hdf
   obtain ⟨D,h1,h2,h3⟩:=hdf.1.2 d List.mem_cons_self
   have hnd:=List.nodup_cons.1 hdf.1.1
   refine ⟨by simp,.inl ⟨D,w.putObj D (.deferred none),by rw[h1],run_takeDeferred h3,?_⟩⟩
   have hoth:∀q,q≠D->(w.putObj D (.deferred none)).heap[q]?=w.heap[q]?:=fun q hq=>World.putObj_heap_other hq
   have hs':l4 ⟨w0,J0,bor,n,none,false,[]⟩ S M { a with defers:=[] } g w:=⟨⟨hs.ok.bel,hs.ok.jle,hs.ok.jold,hs.ok.im,hs.ok.own,hs.ok.inj⟩,hs.slots,hs.conts,hs.dom,hs.nodup,hs.sdep,hs.cdep,⟨rfl,fun _ h=>by cases h⟩,hs.size⟩
   have ht:=hs'.turn (o':=.deferred none) hM h3 rfl h2 ⟨rfl,fun _ h=>by cases h⟩
   refine ih { a with defers:=ds } g _ rfl ⟨⟨ht.ok.bel,ht.ok.jle,ht.ok.jold,ht.ok.im,ht.ok.own,ht.ok.inj⟩,ht.slots,ht.conts,ht.dom,ht.nodup,ht.sdep,ht.cdep,⟨⟨hnd.2,fun d' hd'=>?_⟩,fun _ h=>by cases h⟩,ht.size⟩
   ·obtain ⟨D',q1,q2,q3⟩:=hdf.1.2 d' (List.mem_cons_of_mem _ hd')
    exact ⟨D',q1,q2,(hoth D' (fun e=>by subst e; exact hnd.1 (by rw[h1,<- q1]; exact hd'))).trans q3⟩
 exact fun a g w hs=>key a.defers a g w rfl hs
end Go.Fl

/- Arrays that are immutable, as lists of one length: elements at any place, slices. No program in sight. -/
namespace Go.Fl
open Go Go.RowKit
def AB {α:Type} (e:i7 α) (J:JV):List Value->List α->Prop
 | cs,[]=>cs=[]
 | cs,x::xs=>∃c1 c2,cs=c1++c2/\e.rd J c1 x/\AB e J c2 xs
theorem PT {α:Type} {e:i7 α} {J:JV}:∀{xs:List α} {cs:List Value},AB e J cs xs->cs.length=xs.length*e.n
 | [],_,h=>by have h:_=[]:=h; subst h; simp
 | _::xs,_,⟨c1,c2,h,h1,h2⟩=>by subst h; rw[List.length_append,e.len h1,PT h2,List.length_cons,Nat.succ_mul]; omega
theorem gB {α:Type} {e:i7 α} {J J':JV} (hl:J.le J'):∀{xs:List α} {cs:List Value},AB e J cs xs->AB e J' cs xs
 | [],_,h=>h
 | _::_,_,⟨c1,c2,h,h1,h2⟩=>⟨c1,c2,h,e.mono hl h1,gB hl h2⟩
theorem WQ {α:Type} {e:i7 α} {J:JV}:∀{xs:List α} {cs:List Value},AB e J cs xs->∀v∈cs,v.oneCell'=true
 | [],_,h,v,hv=>by have h:_=[]:=h; subst h; cases hv
 | _::_,_,⟨c1,c2,h,h1,h2⟩,v,hv=>by
  subst h
  rcases List.mem_append.1 hv with hv | hv
  ·exact e.all1 h1 v hv
  ·exact WQ h2 v hv
theorem PS {α:Type} {e:i7 α} {J:JV}:∀{xs:List α} {cs:List Value},AB e J cs xs->∀{i:Nat} {x:α},xs[i]?=some x->∃ds,e.rd J ds x/\∀j v,ds[j]?=some v->cs[i*e.n+j]?=some v
 | [],_,_,_,_,hx=>by simp at hx
 | y::xs,_,⟨c1,c2,h,h1,h2⟩,0,x,hx=>by
  subst h
  simp only[List.getElem?_cons_zero,Option.some.injEq] at hx
  subst hx
  exact ⟨c1,h1,fun j v hj=>by rw[Nat.zero_mul,Nat.zero_add,List.getElem?_append_left (List.getElem?_eq_some_iff.1 hj).1]; exact hj⟩
 | y::xs,_,⟨c1,c2,h,h1,h2⟩,i+1,x,hx=>by
  subst h
  obtain ⟨ds,q1,q2⟩:=PS h2 (i:=i) (by simpa using hx)
  refine ⟨ds,q1,fun j v hj=>?_⟩
  rw[Nat.succ_mul,List.getElem?_append_right (by rw[e.len h1]; omega),e.len h1,show i*e.n+e.n+j-e.n=i*e.n+j by omega]
  exact q2 j v hj
def AR {α:Type} (k:Nat) (e:i7 α):i7 (List α) where
 n:=k*e.n
 agg:=true
 rd J cs xs:=xs.length=k/\AB e J cs xs
 len h:=by rw[PT h.2,h.1]
 one h:=by cases h
 all1 h:=WQ h.2
 mono hl h:=⟨h.1,gB hl h.2⟩
section
variable {P:Program} {c:l8} {S:g9} {M:f0} {p:Bool} {d:Option Tmp} {ty:TypeId} {pos:String} {af:Array Edge} {gd:Option (Nat×Bool)} {x y:Operand} {b b':Bool}
theorem iE {t et:TypeId} {n:Nat} [ht:BS P t n et] {sz by':Nat} {zz:Value} [hz:q7 P et sz by' zz] {α:Type} {e:i7 α} {xs:List α} {g:Gh} {v:Value} {w:World} (hv:r5 (AR n e) xs g v) (hs:sz=e.n) (hlm:n<=t6) {lo hi:Option Value} {l h:Nat} (hlh:l<=h) (hn:h<=n)
  (hlo:(lo=none/\l=0)\/∃ik,lo=some (.int ik (l:Int))) (hhi:(hi=none/\h=n)\/∃ik,hi=some (.int ik (h:Int))):∃u,(Instr.sliceAt t v lo hi none).run P w=.ok u w/\b7 (eL e) ((xs.take h).drop l) g u:=by
 obtain ⟨bl,o,ds,rfl,⟨h2,h3⟩,h4⟩:=hv
 obtain ⟨ti,hti,rfl,_,_⟩:=hz.h
 have hlen:((xs.take h).drop l).length=h-l:=by rw[List.length_drop,List.length_take]; omega
 have hb:(Instr.sliceBounds false n n lo hi none).run P w=.ok (l,h,n) w:=by
  rcases hlo with ⟨rfl,rfl⟩ | ⟨ik,rfl⟩<;>rcases hhi with ⟨rfl,rfl⟩ | ⟨ik',rfl⟩
  ·simp[Instr.sliceBounds]
  ·simp[Instr.sliceBounds,Instr.sliceBound,asIntOf]; omega
  ·simp[Instr.sliceBounds,Instr.sliceBound,asIntOf]; omega
  ·simp[Instr.sliceBounds,Instr.sliceBound,asIntOf]
   rw[if_pos zo]
   simp
   omega
 refine ⟨.slice (some (if n=l then ⟨bl,o,none⟩ else (⟨bl,o,none⟩:Addr).add (l*ti.size))) (h-l) (n-l),?_,?_⟩
 ·unfold Instr.sliceAt
  simp only[Sem.run_bind,run_underlying ht.h,Result.andThen_ok,Instr.sureAddr,Sem.run_pure,hb]
  simp[sizeOf,typeInfo,hti]
 ·refine ⟨[.slice (some (if n=l then ⟨bl,o,none⟩ else (⟨bl,o,none⟩:Addr).add (l*ti.size))) (h-l) (n-l)],⟨_,_,by rw[hlen],⟨by rw[hlen]; omega,by rw[hlen]; omega⟩,?_⟩,rfl⟩
  by_cases hnl:n=l
  ·left
   exact List.eq_nil_of_length_eq_zero (by rw[hlen]; omega)
  ·right
   refine ⟨bl,o+l*ti.size,by rw[if_neg hnl]; simp[Addr.add_lit],fun i x hx=>?_⟩
   rw[List.getElem?_drop,List.getElem?_take] at hx
   split at hx
   ·obtain ⟨es,q1,q2⟩:=PS h3 hx
    refine ⟨es,q1,fun j v hj=>?_⟩
    have:=h4 _ _ (q2 j v hj)
    rwa [hs,show o+l*e.n+i*e.n+j=o+((l+i)*e.n+j) by rw[Nat.add_mul]; omega]
   ·cases hx
theorem fI {t et:TypeId} {n:Nat} [ht:BS P t n et] {sz by':Nat} {zz:Value} [hz:q7 P et sz by' zz] {α:Type} {e:i7 α} {xs:List α} {ik:IntKind} {i0:Int} (hx:j1 S x=some (b,r5 (AR n e) xs)) (hb:p=true->b=true) (hy:j1 S y=some (b',y3 ik i0)) (hb':p=true->b'=true)
  (hs:sz=e.n) (hlm:Nat.ble n t6=true) (h:p=true->0<=i0/\i0<=n):l3 P c S M ⟨d,.slice t x none (some y) none,ty,pos,af,gd⟩ p (b7 (eL e) (xs.take i0.toNat)) none :=
 l3.pure fun hp a g w _ _ ho=>by
  have hv:=ho x (by simp[Op.operands]) b _ hx (hb hp)
  have hi:a.eval y=_:=ho y (by simp[Op.operands]) b' _ hy (hb' hp)
  have hlt:=h hp
  obtain ⟨u,h1,h2⟩:=iE (P:=P) (t:=t) (w:=w) hv hs (Nat.le_of_ble_eq_true hlm) (lo:=none) (hi:=some (.int ik i0)) (l:=0) (h:=i0.toNat) (Nat.zero_le _) zo (.inl ⟨rfl,rfl⟩) (.inr ⟨ik,by rw[show ((i0.toNat:Nat):Int)=i0 by omega]⟩)
  exact ⟨u,by simp only[execOp,hi,Option.map,Sem.run_bind,h1,Result.andThen_ok,Sem.run_pure],by simpa using h2⟩
theorem vA {t et:TypeId} {n:Nat} [ht:BS P t n et] {sz by':Nat} {zz:Value} [hz:q7 P et sz by' zz] {α:Type} {e:i7 α} {xs:List α} {ik:IntKind} {i0:Int} (hx:j1 S x=some (b,r5 (AR n e) xs)) (hb:p=true->b=true) (hy:j1 S y=some (b',y3 ik i0)) (hb':p=true->b'=true)
  (hs:sz=e.n) (hlm:Nat.ble n t6=true) (h:p=true->0<=i0/\i0<=n):l3 P c S M ⟨d,.slice t x (some y) none none,ty,pos,af,gd⟩ p (b7 (eL e) ((xs.take n).drop i0.toNat)) none :=
 l3.pure fun hp a g w _ _ ho=>by
  have hv:=ho x (by simp[Op.operands]) b _ hx (hb hp)
  have hi:a.eval y=_:=ho y (by simp[Op.operands]) b' _ hy (hb' hp)
  have hlt:=h hp
  obtain ⟨u,h1,h2⟩:=iE (P:=P) (t:=t) (w:=w) hv hs (Nat.le_of_ble_eq_true hlm) (lo:=some (.int ik i0)) (hi:=none) (l:=i0.toNat) (h:=n) zo (Nat.le_refl _) (.inr ⟨ik,by rw[show ((i0.toNat:Nat):Int)=i0 by omega]⟩) (.inl ⟨rfl,rfl⟩)
  exact ⟨u,by simp only[execOp,hi,Option.map,Sem.run_bind,h1,Result.andThen_ok,Sem.run_pure],h2⟩
end
end Go.Fl

/- Pointers against nil. No program in sight. -/
namespace Go.Fl
open Go Go.RowKit
section
variable {P:Program} {c:l8} {S:g9} {M:f0} {p:Bool} {d:Option Tmp} {ty:TypeId} {pos:String} {af:Array Edge} {gd:Option (Nat×Bool)} {x y:Operand} {b b':Bool}
class YD (P:Program) (t:TypeId):Prop where
 h:∃e,P.underlying t=some (.pointer e)
theorem EL {t t':TypeId} [ht:YD P t] {α:Type} {e:i7 α} {v:α} (hx:j1 S x=some (b,r5 e v)) (hb:p=true->b=true):l3 P c S M ⟨d,.binOp .eql t x (.const (.pointer none)) t',ty,pos,af,gd⟩ p (kB false) none :=
 l3.pure fun hp a g w _ _ ho=>by
  obtain ⟨bl,o,ds,h1,_⟩:=ho x (by simp[Op.operands]) b _ hx (hb hp)
  have he:a.eval (.const (.pointer none))=.pointer none:=rfl
  obtain ⟨ee,hh⟩:=ht.h
  refine ⟨.bool false,?_,rfl⟩
  simp only[execOp,h1,he]
  simp[go_sem,hh]
end
end Go.Fl

/- A struct of the call's own is lent by a pointer: to a call that returns what hangs on no memory, and to one that leaves it as it was. No program in sight. -/
namespace Go.Fl
open Go Go.RowKit
section
variable {P:Program} {c:l8} {S:g9} {M:f0} {p:Bool} {d:Option Tmp} {ty:TypeId} {pos:String} {af:Array Edge} {gd:Option (Nat×Bool)} {x:Operand} {b:Bool}
instance {ik:IntKind} {n:Int}:RJ (y3 ik n):=⟨fun h=>h⟩
theorem uX {f:FuncId} [hf:d8 P f] {args:List Operand} {tys:Array TypeId} {ks:List b8} {res:b8} {u:Nat} {α:Type} {e:i7 α} {x0 x1:α} {kc:List b8} {dep dep2:List Nat} [hl:p8 M u (j3 kc) dep] [hr:v5 kc e x0 []] [hd:A6 kc dep2] [hdn:H5 dep2]
  (hct:p=true->Ct P f (r5 e x1::ks) res) (he:x0=x1) (hx:j1 S x=some (b,w6 u 0)) (hb:p=true->b=true) (ha:D8 S p args ks) [hj:V5 ks] [hk:o4 res []] [hfr:RJ res] :
  l3 P c S M ⟨d,.call { callee:=.value (.func f),args:=(x::args).toArray,argTypes:=tys },ty,pos,af,gd⟩ p res none:=by
 subst he
 intro hp a g w hok hc ho _
 have hargs:=ha.eval (g:=g) (ρ:=a.eval) hp (fun y hy b k hk hb=>ho y (by simp[Op.operands,Call.operands,hy]) b k hk hb)
 obtain ⟨bl,cap,hm,hxv⟩:=ho x (by simp[Op.operands,Call.operands]) b _ hx (hb hp)
 obtain ⟨bk,hm2,cs,tt,h3,h4⟩:=hc _ hl.mem
 simp only at hm2 h3
 rw[hm] at hm2; cases hm2
 have h3:w.heap[bl]?=some (.cells cs tt (0,0)):=h3
 have hnone:=(hok.own u bl cap hm).2.2
 have hJ:g.J.le (g.J.with bl cs):=JV.le_with hnone
 have him:Im (g.J.with bl cs) w:=fun b o v hv=>by
  unfold JV.with at hv
  by_cases e:b=bl
  ·rw[if_pos e] at hv; subst e; exact J6 h3 hv
  ·rw[if_neg e] at hv; exact hok.im b o v hv
 have hrd:r5 e x0 ⟨g.J.with bl cs,w4⟩ (a.eval x):=by
  have hk':=hd.dep (g:=g) (g':=⟨g.J.with bl cs,w4⟩) hJ (fun t ht=>by rw[hdn.eq] at ht; cases ht) h4
  refine ⟨bl,0,cs.toList,hxv,v5.whole (h:=hr) hk',fun j v hj=>?_⟩
  show (g.J.with bl cs) bl (0+j)=some v
  unfold JV.with
  rw[if_pos rfl,Nat.zero_add]
  simpa using hj
 have hr2:=hct hp w (g.J.with bl cs) him (a.eval x::args.map a.eval) ⟨hrd,MJ hJ hj.all hargs⟩
 unfold Oper.wp
 simp only[execOp,resolve,Act.eval,Deferred.ofValue,Sem.run_bind,Sem.run_pure,Result.andThen_ok,invoke,List.map_toArray,List.map_cons,Array.append_empty,Array.empty_append]
 rw[hf.run]
 simp only[Oper.upon]
 refine hr2.mono fun e' w' he=>?_
 obtain ⟨r,J2,rfl,hbel,hJ2,hold,him2,hres⟩:=he
 have q1:g.J.le (fun b o=>if b=bl then none else J2 b o):=fun b o v hv=>by
  have hne:b≠bl:=fun e=>by subst e; rw[hnone o] at hv; cases hv
  simp only[if_neg hne]
  exact hJ2 _ _ _ (hJ _ _ _ hv)
 refine ⟨r,_,rfl,F8.call hok hbel q1 (fun b o hlt=>?_) (fun b o v hv=>?_) (hfr.go (g':=⟨_,w4⟩) hres)⟩
 ·by_cases e:b=bl
  ·subst e; simp only[if_true]; exact (hnone o).symm
  ·simp only[if_neg e]
   rw[hold b o hlt]
   unfold JV.with
   rw[if_neg e]
 ·by_cases e:b=bl
  ·simp only[if_pos e] at hv; cases hv
  ·simp only[if_neg e] at hv; exact him2 b o v hv
end
theorem Z3 {ks:List b8} {dep:List Nat} [hd:A6 ks dep] [hn:H5 dep] {g g':Gh} {bk:Bk} {o:Option Obj} (hJ:g.J=g'.J) (h:j3 ks g bk o):j3 ks g' bk o :=
 let ⟨cs,ty,h1,h2⟩:=h; ⟨cs,ty,h1,hd.dep (by rw[hJ]; exact JV.le_refl _) (fun t ht=>by rw[hn.eq] at ht; cases ht) h2⟩
section
variable {P:Program} {n:Nat} {rd:Option Nat} {mrk:Bool} {om:List Nat} {w0:World} {J0:JV} {S:g9} {M M':f0} {Q:Exit->Act->World->Prop} {fn:Func} {bb cap:Nat}
theorem Tr.frzBo {code:Code} (u:Nat) (ss:List Nat) {len:Nat} {α:Type} {zb:Bool} {et:TypeId} {e:i7 α} {xs:List α} {dep:List Nat} [hl:p8 M u (m9 zb et e xs len) dep] (h0:look S 0=some (true,CX 0 0 bb)) (hu:Nat.beq u 0=false) (hss:FJ S u len ss) (hlen:len<=t6) [hdel:K3 M u M'] (hnd:H9 u M=true)
  (K:Tr P ⟨w0,J0,[bb],n,rd,mrk,om⟩ (g9.setAll ss (b7 (eL e) xs) (inv u S)) M' code Q):Tr P ⟨w0,J0,[bb],n,rd,mrk,om⟩ S M code Q:=fun a g w hs =>
 let ⟨g',hs'⟩:=hs.frzAB (ss:=ss) (u:=u) (fun b cap hm hbb=>by
  obtain ⟨⟨cap',h1⟩,_⟩:=(hs.slots 0 _ _ h0).1 rfl
  simp only[List.mem_singleton] at hbb
  subst hbb
  have:=hs.ok.inj _ _ _ _ _ hm h1
  subst this
  simp at hu) hss hlen hnd
 K a g' w hs'
theorem wS {fn:Func} {t a ty:Nat} (h:fn.results=#[.tmp t,.cell a ty]) {tmps:Array Value} {w:World} {ad:Addr} {v:Value} (ha:tmps.getD a undef=.pointer (some ad)) (hr:(loadVar ty ad).run P w=.ok v w) :
  (results fn tmps).run P w=.ok (.tuple #[tmps.getD t undef,v]) w:=by
 rw[Array.getD_eq_getD_getElem?] at ha
 have hs:(asAddr (tmps[a]?.getD undef)).run P w=.ok ad w:=by rw[ha]; rfl
 simp[results,h,hs,hr,Array.getD_eq_getD_getElem?]
theorem d9.mutTC {t a u o n2 by':Nat} {ty:TypeId} {zz:Value} {kc kc' kb kb':List b8} {dep dep2 dep3:List Nat} {r1 r2:b8} [hm:p8 M 0 (j3 kb) dep] [hkd:A6 kb dep3] [hkn:H5 dep3] [hlk:p8 M u (j3 kc) dep2] [ht:D0 P ty] [hz:q7 P ty n2 by' zz] [hsk:N7 kc o n2 kc'] (hr:fn.results=#[.tmp t,.cell a ty]) (hs0:look S 0=some (true,CX 0 0 bb))
  (h1:C8 S [t] [r1]) (hx:look S a=some (true,w6 u o)) (hkb:kb=kb') (h2:∀(g:Gh) (v:Value),G6 kc' g v->r2 ⟨g.J,w4⟩ v) :
  d9 ⟨w0,J0,[bb],n,none,false,[]⟩ S M (bodyPost P fn (AL w0 J0 bb cap (y4 [r1,r2]) (j3 kb'))):=by
 subst hkb
 intro act g w hs
 obtain ⟨⟨cap',q1⟩,_⟩:=(hs.slots 0 _ _ hs0).1 rfl
 obtain ⟨bk,q2,q3⟩:=hs.conts _ hm.mem
 simp only at q2 q3
 rw[q1] at q2; cases q2
 obtain ⟨bl,cap2,p1,p2⟩:=(hs.slots a _ _ hx).1 rfl
 obtain ⟨cs,ty',p3,p4⟩:=BT (ks:=kc) hs.conts p1
 have p5:=FH o n2 p4
 rw[hsk.eq] at p5
 have hld:=gU (P:=P) (t:=ty) (w:=w) (b:=bl) (o:=o) (ds:=(cs.toList.drop o).take n2) ((I2 p5).trans hsk.len) (fun j v hj=>by
  refine J6 p3 ?_
  rw[List.getElem?_take] at hj
  split at hj
  ·rw[List.getElem?_drop] at hj; simpa using hj
  ·cases hj)
 exact ⟨hs.defers.1,_,wS hr p2 hld,_,g.J,rfl,⟨hs.ok.bel.os,hs.ok.bel.tape,hs.ok.bel.output,hs.ok.bel.size,fun k hk hne=>hs.ok.bel.block k hk (by simp only[List.mem_singleton]; rintro rfl; exact hne cap rfl),hs.ok.bel.drawn⟩,hs.ok.jle,hs.ok.jold,hs.ok.im,
  ⟨_,rfl,(h1.holds hs.slots).1,h2 _ _ ⟨_,rfl,p5⟩,trivial⟩,Z3 (g:=g) (g':=g1 g.J bb cap) (bk:=.blk bb cap') (o:=w.heap[bb]?) rfl q3⟩
end
section
variable {P:Program} {c:l8} {ops:Array Oper} {S:g9} {M:f0} {rest:List Oper} {Q:Exit->Act->World->Prop}
variable {d:Nat} {ty:TypeId} {pos:String} {af:Array Edge}
theorem d5.mutQ {f:FuncId} [hf:d8 P f] {x:Operand} {args:List Operand} {tys:Array TypeId} {ks:List b8} {res:b8} {u:Nat} {kb0 kb kb':List b8} {dep dep0 dep1:List Nat} {M':f0} (hct:DQ P f (w6 0 0) ks (j3 kb) (j3 kb') res) (hx:j1 S x=some (true,w6 u 0)) (ha:D8 S true args ks)
  [hl:p8 M u (j3 kb0) dep] [hd0:A6 kb0 dep0] [hn0:H5 dep0] [hd1:A6 kb' dep1] [hn1:H5 dep1] (hkb:kb0=kb) [hup:A7 M u (j3 kb') [] M'] [hkd:o4 res []] (hn:Nat.blt d c.n=true)
  (K:d5 P c ops (⟨d,true,[],res⟩::S) M' rest Q):d5 P c ops S M (⟨some d,.call { callee:=.value (.func f),args:=(x::args).toArray,argTypes:=tys },ty,pos,af,none⟩::rest) Q:=by
 subst hkb
 have hcd:z7 (j3 kb') []:=⟨fun hJ _ h=>let ⟨cs,t,h1,h2⟩:=h; ⟨cs,t,h1,hd1.dep hJ (fun t ht=>by rw[hn1.eq] at ht; cases ht) h2⟩⟩
 exact d5.mutP hct hx ha (fun g b cap o h=>Z3 (g:=g) (g':=g1 g.J b cap) rfl h) (fun {J b cap o g} h=>Z3 (g:=g1 J b cap) (g':=⟨J,g.M⟩) rfl h) (hcd:=hcd) hn K
end
end Go.Fl

/- Parts of strings, errors against nil, contracts that lean on what package variables hold. -/
namespace Go.Fl
open Go Go.RowKit
section
variable {P:Program} {c:l8} {S:g9} {M:f0} {p:Bool} {d:Option Tmp} {ty:TypeId} {pos:String} {af:Array Edge} {gd:Option (Nat×Bool)} {x y z:Operand} {b b' b'':Bool}
end
def XY (G:JV->Prop) (P:Program) (f:FuncId) (args:List b8) (res:b8):Prop:=∀w J,G J->Im J w->∀vs,o6 ⟨J,w4⟩ args vs->Calls P f vs.toArray w (Y9 w J res)
theorem XY.mk {G:JV->Prop} {P:Program} {f:FuncId} {fn:Func} {code:Code} {args:List b8} {res:b8} {n:Nat} (hf:P.funcs[f]?=some fn) (hb:fn.body=some code) (hn:fn.ntmps=n) (hl:Nat.ble args.length n=true) [hj:V5 args]
  (h:∀w J,G J->Tr P ⟨w,J,[],n,none,false,[]⟩ (params 0 args) [] code (bodyPost P fn (Y9 w J res))):XY G P f args res:=by
 intro w J hG him vs hvs
 have hlen:=I2 hvs
 have hle:args.length<=n:=Nat.le_of_ble_eq_true hl
 refine calls_of_wp hf hb<|wpIn_wide.1 (h w J hG _ ⟨J,w4⟩ w ⟨⟨⟨rfl,rfl,rfl,Nat.le_refl _,fun _ _ _=>rfl,Nat.le_refl _⟩,JV.le_refl _,fun _ _ _=>rfl,him,fun _ _ _ h=>(by cases h),fun _ _ _ _ _ h=>(by cases h)⟩,?_,fun _ h=>(by cases h),fun _ h=>absurd rfl h,List.nodup_nil,?_,fun _ h=>(by cases h),⟨rfl,fun _ h=>(by cases h)⟩,?_⟩)
 ·intro t b k hk
  obtain ⟨_,rfl,v,hv,hkv⟩:=GC hvs hk
  refine ⟨fun _=>?_,fun hf=>(by cases hf)⟩
  have ht:t<vs.length:=(List.getElem?_eq_some_iff.1 (by simpa using hv)).1
  have:(vs.toArray++Array.replicate (fn.ntmps-vs.toArray.size) undef).getD t undef=v:=by
   rw[Array.getD_eq_getD_getElem?,Array.getElem?_append_left (by simpa using ht)]
   simp only[List.getElem?_toArray]
   rw[show vs[t]?=some v by simpa using hv]
   rfl
  rw[this]; exact hkv
 ·intro e he
  obtain ⟨h1,h2⟩:=GB hj.all he
  exact ⟨h1,fun t ht=>by rw[h2] at ht; cases ht⟩
 ·simp only[Array.size_append,List.size_toArray,Array.size_replicate]; omega
section
variable {P:Program} {c:l8} {S:g9} {M:f0} {p:Bool} {d:Option Tmp} {ty:TypeId} {pos:String} {af:Array Edge} {gd:Option (Nat×Bool)} {x:Operand} {b:Bool}
end
end Go.Fl

/- What the code computes, in plain Lean: origamis, cycles. No program in sight. -/
namespace Go.Fl
theorem F7 {α:Type} [Inhabited α] {xs:List α} {i:Nat} (h:i<xs.length):b6 xs i∈xs:=List.mem_of_getElem? (G0 h)
theorem AX {α:Type} [Inhabited α] {xs:List α} {i:Nat} {x:α} (h:xs[i]?=some x):b6 xs i=x:=by
 have hi:=(List.getElem?_eq_some_iff.1 h).1
 rw[G0 hi] at h; exact Option.some.inj h
theorem H2 {α:Type} [Inhabited α] {a b:List α} (h:a.length=b.length) (k:∀i,i<a.length->b6 a i=b6 b i):a=b:=by
 apply List.ext_getElem? ; intro i
 by_cases hi:i<a.length
 ·rw[G0 hi,G0 (h▸hi),k i hi]
 ·rw[List.getElem?_eq_none (Nat.le_of_not_lt hi),List.getElem?_eq_none (h▸Nat.le_of_not_lt hi)]
theorem Y1 {α:Type} [Inhabited α] {xs:List α} {k:Nat} (h:k<xs.length):xs.take (k+1)=xs.take k++[b6 xs k]:=by
 rw[List.take_add_one,G0 h]; rfl
theorem FS {α β:Type} [Inhabited α] [Inhabited β] {f:α->β} {xs:List α} {i:Nat} (h:i<xs.length):b6 (xs.map f) i=f (b6 xs i) :=
 AX (by rw[List.getElem?_map,G0 h]; rfl)
theorem eV {n i:Nat} (h:i<n):b6 (List.range n) i=i:=AX (by rw[List.getElem?_range h])
theorem L3 {α:Type} [Inhabited α] {xs:List α} {i j:Nat} {x:α} (h:j<xs.length):b6 (xs.set i x) j=if i=j then x else b6 xs j:=by
 apply AX
 rw[List.getElem?_set]
 by_cases e:i=j
 ·subst e; rw[if_pos rfl,if_pos rfl,if_pos h]
 ·rw[if_neg e,if_neg e,G0 h]
theorem OX {α:Type} [Inhabited α] {n i:Nat} {x:α} (h:i<n):b6 (List.replicate n x) i=x:=AX (by simp[h])
def EH (p:List Int) (n:Nat):Prop:=∀i,i<p.length->0<=b6 p i/\b6 p i<n
instance (p:List Int) (n:Nat):Decidable (EH p n):=by unfold EH; exact Nat.decidableBallLT _ _
abbrev p6:=List Int×List Int
def eO:i7 p6:=eC (fun o:p6=>(o.1,o.2,())) (eP (eL eI) (eP (eL eI) eU))
instance {o:p6}:F3 (b7 eO o) [b7 (eL eI) o.1,b7 (eL eI) o.2]:=inferInstanceAs (F3 (b7 (eC (fun o:p6=>(o.1,o.2,())) (eP (eL eI) (eP (eL eI) eU))) o) _)
instance {o:p6}:u6 eO o 0 (eL eI) o.1 0:=inferInstanceAs (u6 (eC (fun o:p6=>(o.1,o.2,())) (eP (eL eI) (eP (eL eI) eU))) o 0 _ _ _)
instance {o:p6}:u6 eO o 1 (eL eI) o.2 1:=inferInstanceAs (u6 (eC (fun o:p6=>(o.1,o.2,())) (eP (eL eI) (eP (eL eI) eU))) o 1 _ _ _)
instance {o:p6}:P3 eO o (b7 eO o):=⟨fun h=>h⟩
instance {ks r:List b8} {a b:List Int} [h:v5 ks (eP (eL eI) (eP (eL eI) eU)) (a,b,()) r]:v5 ks eO (a,b) r:=⟨fun h'=>h.imp h'⟩
instance {o:p6} {r:List b8}:v5 (b7 (eL eI) o.1::b7 (eL eI) o.2::r) eO o r:=inferInstanceAs (v5 (b7 (eL eI) o.1::b7 (eL eI) o.2::r) eO (o.1,o.2) r)
def BH (n:Nat) (S:List Int):List Bool:=(List.range n).map (fun j:Nat=>decide ((j:Int)∈S))
theorem OY {n:Nat} {S:List Int} {j:Nat} (h:j<n):b6 (BH n S) j=decide ((j:Int)∈S):=by
 unfold BH; rw[FS (by simpa using h),eV h]
theorem eY {n:Nat} {S:List Int} {x:Int} (h0:0<=x) (h:x<n):b6 (BH n S) x.toNat=decide (x∈S):=by
 rw[OY zo,Int.toNat_of_nonneg h0]
theorem xI {n:Nat}:List.replicate n false=BH n []:=by
 apply H2 (by simp[BH])
 intro i hi
 have hi':i<n:=by simpa using hi
 rw[OX hi',OY hi']; simp
theorem xJ {n:Nat} {S:List Int} {x:Int} (h0:0<=x):(BH n S).set x.toNat true=BH n (S++[x]):=by
 apply H2 (by simp[BH])
 intro i hi
 have hi':i<n:=by simpa [BH] using hi
 rw[L3 (by simpa [BH] using hi'),OY hi',OY hi']
 by_cases e:x.toNat=i
 ·rw[if_pos e]
  have:(i:Int)=x:=by omega
  simp[this]
 ·rw[if_neg e]
  have:(i:Int)≠x:=by omega
  simp[this]
structure BR (n:Nat) (S:List Int):Prop where
 nodup:S.Nodup
 rng:∀x∈S,0<=x/\x<n
theorem BR.nil {n:Nat}:BR n []:=⟨List.nodup_nil,fun _ h=>by cases h⟩
theorem BR.snoc {n:Nat} {S:List Int} {x:Int} (h:BR n S) (h0:0<=x) (h1:x<n) (hx:x∉S):BR n (S++[x]) :=
 ⟨List.nodup_append.2 ⟨h.nodup,by simp,fun a ha b hb=>by simp at hb; subst hb; exact fun e=>hx (e▸ha)⟩,fun y hy=>by
  rcases List.mem_append.1 hy with hy | hy
  ·exact h.rng y hy
  ·simp at hy; subst hy; exact ⟨h0,h1⟩⟩
theorem eS:∀{n:Nat} {l:List Nat},l.Nodup->(∀x∈l,x<n)->l.length<=n
 | 0,l,_,h=>by
  cases l with
  | nil=>simp
  | cons a l=>exact absurd (h a (by simp)) zo
 | n+1,l,hn,h=>by
  have:=eS (n:=n) (hn.erase n) (fun x hx=>by
   obtain ⟨h1,h2⟩:=(List.Nodup.mem_erase_iff hn).1 hx
   have:=h x h2; omega)
  rw[List.length_erase] at this
  split at this<;>omega
theorem BR.len {n:Nat} {S:List Int} (h:BR n S):S.length<=n:=by
 have h1:(S.map Int.toNat).Nodup:=by
  rw[List.nodup_iff_pairwise_ne,List.pairwise_map]
  exact (List.nodup_iff_pairwise_ne.1 h.nodup).imp_of_mem (fun {a b} ha hb hne e=>hne (by have:=h.rng a ha; have:=h.rng b hb; omega))
 have:=eS (n:=n) h1 (fun y hy=>by
  obtain ⟨x,hx,rfl⟩:=List.mem_map.1 hy
  have:=h.rng x hx
  omega)
 simpa using this
theorem BR.room {n:Nat} {S:List Int} {x:Int} (h:BR n S) (h0:0<=x) (h1:x<n) (hx:x∉S):S.length<n:=by
 have:=(h.snoc h0 h1 hx).len
 rw[List.length_append] at this
 exact this
end Go.Fl

/- Sums, tables, numbers up to multiples of 2 to the 64; what the functions of chapter 8 answer. Plain Lean, no program in sight. -/
namespace Go.Fl
open Go Go.RowKit

abbrev W (n:Int):Int:=IntKind.i64.wrap n
def s6 (f:Nat->Int):Nat->Int
 | 0=>0
 | k+1=>s6 f k+f k
theorem J4 (f:Nat->Int) (k:Nat):s6 f (k+1)=s6 f k+f k:=rfl
theorem Q0 {f g:Nat->Int}:∀{k:Nat},(∀i,i<k->f i=g i)->s6 f k=s6 g k
 | 0,_=>rfl
 | k+1,h=>by rw[s6,s6,Q0 (fun i hi=>h i zo),h k zo]
theorem QO {f g:Nat->Int}:∀{k:Nat},s6 (fun i=>f i+g i) k=s6 f k+s6 g k
 | 0=>rfl
 | k+1=>by rw[s6,s6,s6,QO]; omega
theorem iR {f g:Nat->Int}:∀{k:Nat},s6 (fun i=>f i-g i) k=s6 f k-s6 g k
 | 0=>rfl
 | k+1=>by rw[s6,s6,s6,iR]; omega
def n6 {α:Type} (n:Nat) (F:Nat->α):List α:=(List.range n).map F
theorem t7 {α:Type} {n:Nat} {F:Nat->α}:(n6 n F).length=n:=by simp[n6]
theorem s8 {α:Type} [Inhabited α] {n:Nat} {F:Nat->α} {i:Nat} (h:i<n):b6 (n6 n F) i=F i:=by
 unfold n6; rw[FS (by simpa using h),eV h]
theorem z8 {α:Type} {n:Nat} {F G:Nat->α} (h:∀i,i<n->F i=G i):n6 n F=n6 n G:=by
 unfold n6; exact List.map_congr_left fun i hi=>h i (List.mem_range.1 hi)
theorem GJ {α:Type} {n i:Nat} {F:Nat->α} {x:α}:(n6 n F).set i x=n6 n (fun j=>if j=i then x else F j):=by
 have:Inhabited α:=⟨x⟩
 refine H2 (by simp[t7]) (fun j hj=>?_)
 have hj':j<n:=by simpa [t7] using hj
 rw[L3 (by rw[t7]; exact hj'),s8 hj',s8 hj']
 by_cases e:i=j
 ·rw[if_pos e,if_pos e.symm]
 ·rw[if_neg e,if_neg (fun h=>e h.symm)]
theorem V2 {α:Type} [Inhabited α] {xs:List α} {n:Nat} (h:xs.length=n):xs=n6 n (b6 xs):=by
 refine H2 (by rw[t7,h]) (fun i hi=>?_)
 rw[s8 zo]
theorem H4 {α:Type} {n:Nat} {F:Nat->α}:n6 (n+1) F=n6 n F++[F n]:=by simp[n6,List.range_succ]
def EF {α:Type} (q:α->Bool) (xs:List α):Int:=if xs.any q then (xs.findIdx q:Int) else -1
theorem cU {α:Type} [Inhabited α] {q:α->Bool} {xs:List α} {k:Nat} (hk:k<xs.length) (h:∀i,i<k->q (b6 xs i)=false) (hq:q (b6 xs k)=true):(k:Int)=EF q xs:=by
 have h1:xs.any q=true:=List.any_eq_true.2 ⟨_,F7 hk,hq⟩
 have h2:xs.findIdx q=k:=by
  rw[List.findIdx_eq hk]
  have e:∀i (hi:i<xs.length),xs[i]=b6 xs i:=fun i hi=>by have:=G0 hi; rw[List.getElem?_eq_getElem hi] at this; exact Option.some.inj this
  exact ⟨by rw[e]; exact hq,fun j hj=>by rw[e]; exact h j hj⟩
 rw[EF,if_pos h1,h2]
theorem lC {α:Type} [Inhabited α] {q:α->Bool} {xs:List α}:xs.any q=false↔∀i,i<xs.length->q (b6 xs i)=false:=by
 constructor
 ·intro h i hi
  rw[List.any_eq_false] at h
  have:=h _ (F7 hi)
  simpa using this
 ·intro h
  rw[List.any_eq_false]
  intro x hx
  obtain ⟨i,hi,rfl⟩:=List.getElem_of_mem hx
  have:=h i hi
  have e:=G0 hi
  rw[List.getElem?_eq_getElem hi] at e
  rw[Option.some.inj e]; simp[this]
theorem cV {α:Type} [Inhabited α] {q:α->Bool} {xs:List α} (h:∀i,i<xs.length->q (b6 xs i)=false):-1=EF q xs:=by
 rw[EF,if_neg (by rw[lC.2 h]; simp)]
theorem cX {α:Type} {q:α->Bool} {xs:List α}:decide (0<=EF q xs)=xs.any q:=by
 unfold EF
 cases h:xs.any q with
 | true=>simp
 | false=>rfl
def nz (x:Int):Bool:=decide (x≠0)
end Go.Fl

/- Words that act on origamis and chains. Plain Lean, no program in sight. -/
namespace Go.Fl
open Go Go.RowKit
theorem DC {p:List Int} (h:p.Nodup) {i j:Nat} (hi:i<p.length) (hj:j<p.length) (e:b6 p i=b6 p j):i=j:=by
 have h1:=G0 hi
 have h2:=G0 hj
 rw[List.getElem?_eq_getElem hi] at h1
 rw[List.getElem?_eq_getElem hj] at h2
 have e1:=Option.some.inj h1
 have e2:=Option.some.inj h2
 rw[List.nodup_iff_pairwise_ne,List.pairwise_iff_getElem] at h
 rcases Nat.lt_trichotomy i j with hlt | heq | hgt
 ·exact absurd (by rw[e1,e2,e]) (h i j hi hj hlt)
 ·exact heq
 ·exact absurd (by rw[e1,e2,e]) (h j i hj hi hgt)
theorem GD {p:List Int} {n:Nat} (hn:p.Nodup) (hr:EH p n) (hl:p.length=n) {x:Int} (h0:0<=x) (h1:x<n):∃i,i<n/\b6 p i=x:=by
 by_cases hx:x∈p
 ·obtain ⟨i,hi,rfl⟩:=List.getElem_of_mem hx
  have h2:=G0 hi
  rw[List.getElem?_eq_getElem hi] at h2
  exact ⟨i,by omega,(Option.some.inj h2).symm⟩
 ·exfalso
  have g:BR n p:=⟨hn,fun y hy=>by
   obtain ⟨i,hi,rfl⟩:=List.getElem_of_mem hy
   have h2:=G0 hi
   rw[List.getElem?_eq_getElem hi] at h2
   rw[Option.some.inj h2]; exact hr i hi⟩
  have:=g.room h0 h1 hx
  omega
end Go.Fl

/- The references of chapters 6 and 8: places in lists, corners. Plain Lean, no program in sight. -/
namespace Go.Fl
open Go Go.RowKit
theorem rS {l:List Int}:∀{k:Nat},k<l.length->(∀i,i<k->b6 l i≠b6 l k)->l.idxOf (b6 l k)=k:=by
 induction l with
 | nil=>intro k hk; simp at hk
 | cons a r ih =>
  intro k hk h
  cases k with
  | zero=>show List.idxOf a (a::r)=0; simp
  | succ k =>
   have h0:a≠b6 r k:=h 0 zo
   show List.idxOf (b6 r k) (a::r)=k+1
   rw[List.idxOf_cons,show (a==b6 r k)=false by simpa using h0,cond_false,ih (by simpa using hk) (fun i hi=>h (i+1) zo)]
theorem AW {l:List Int} {x:Int} (h:x∈l):∃i,i<l.length/\b6 l i=x:=by
 obtain ⟨i,hi,rfl⟩:=List.getElem_of_mem h
 have h2:=G0 hi
 rw[List.getElem?_eq_getElem hi] at h2
 exact ⟨i,hi,(Option.some.inj h2).symm⟩
end Go.Fl

/- Permutations of 0 to n - 1, their cycles. Plain Lean, no program in sight. -/
namespace Go.Fl
open Go Go.RowKit
def ap (p:List Int) (x:Int):Int:=b6 p x.toNat
def it (p:List Int):Nat->Int->Int
 | 0,x=>x
 | m+1,x=>ap p (it p m x)
structure Perm (p:List Int) (n:Nat):Prop where
 nd:p.Nodup
 rg:EH p n
 ln:p.length=n
def Sq (n:Nat) (x:Int):Prop:=0<=x/\x<n
section
variable {p:List Int} {n:Nat} (P:Perm p n)
include P
end
def fQ (p:List Int) (x:Int):Nat->Nat->Nat
 | 0,m=>m
 | f+1,m=>if it p m x=x then m else fQ p x f (m+1)
def vQ (p:List Int) (x:Int):Nat:=fQ p x p.length 1
def vG (p:List Int) (x:Int):List Int:=n6 (vQ p x) (fun i=>it p i x)
section
variable {p:List Int} {n:Nat} (P:Perm p n) {x y z:Int} (h:Sq n x)
include P h
end
def low (p:List Int) (i:Nat):Bool:=(vG p i).all fun y=>decide ((i:Int)<=y)
section
variable {p:List Int} {n:Nat} (P:Perm p n)
include P
end
end Go.Fl

/- Texts of origamis, in plain Lean: numerals, words, lines, what is printed is read back. No program in sight. -/
namespace Go.Fl
abbrev Bt:=List UInt8
def num (n:Int):Bt:=if n<10 then [UInt8.ofNat (48+n.toNat)] else [UInt8.ofNat (48+n.toNat/10),UInt8.ofNat (48+n.toNat%10)]
theorem fC {n:Int}:1<=(num n).length/\(num n).length<=2:=by unfold num; split<;>simp
def GK (p:List Int):Bt:=p.flatMap fun x=>32::num x
theorem jV {p:List Int}:(GK p).length<=3*p.length:=by
 induction p with
 | nil=>simp[GK]
 | cons x p ih =>
  have:=fC (n:=x)
  simp only[GK,List.flatMap_cons,List.length_append,List.length_cons] at ih ⊢
  omega
theorem UL {p:List Int} {n:Nat} (h:EH p n) {x:Int} (hx:x∈p):0<=x/\x<n:=by
 obtain ⟨i,hi,rfl⟩:=List.mem_iff_getElem.1 hx
 have:=h i hi
 rwa [AX (List.getElem?_eq_getElem hi)] at this
end Go.Fl

/- Contracts of the library's over strings, told in ours. -/
namespace Go.Fl
open Go Go.RowKit
end Go.Fl

/- Bytes and strings: exclusive or, a row of bytes as a string, one string behind another. -/
namespace Go.Fl
open Go Go.RowKit
section
variable {P:Program} {c:l8} {S:g9} {M:f0} {p:Bool} {d:Option Tmp} {ty:TypeId} {pos:String} {af:Array Edge} {gd:Option (Nat×Bool)} {x y:Operand} {b b':Bool}
end
end Go.Fl

/- A region that draws its order, whose first operation only copies a value: it may be taken first. No program in sight. -/
namespace Go.Fl
open Go Go.RowKit
section
variable {P:Program} {c:l8} {S:g9} {M:f0} {Q:Exit->Act->World->Prop}
theorem Tr.drawM {id m d:Nat} {x:Operand} {ty:TypeId} {pos:String} {af:Array Edge} {rest:List Oper} (hm:P.follows .mixedOrders=true) (chk:TL (⟨some d,.move x,ty,pos,af,none⟩::rest) m=true) (h1m:Nat.ble 1 m=true)
  (hsel:Region.noSelect (⟨some d,.move x,ty,pos,af,none⟩::rest).toArray=true) (hfr:Region.free .any (⟨some d,.move x,ty,pos,af,none⟩::rest).toArray (Array.replicate (⟨some d,.move x,ty,pos,af,none⟩::rest).toArray.size false) 0=true)
  (hrd:(Region.ready .any (⟨some d,.move x,ty,pos,af,none⟩::rest).toArray (Array.replicate (⟨some d,.move x,ty,pos,af,none⟩::rest).toArray.size false)).contains 0=true)
  (h:i6 P c (⟨some d,.move x,ty,pos,af,none⟩::rest).toArray (X6 Q) M (⟨some d,.move x,ty,pos,af,none⟩::rest) m S M) (hr:c.rd=none\/DB (⟨some d,.move x,ty,pos,af,none⟩::rest)=true:=by first | exact .inl rfl | exact .inr rfl):Tr P c S M (.region id (⟨some d,.move x,ty,pos,af,none⟩::rest).toArray true) Q:=by
 intro a g w hs0
 have hs:=hs0.drew
 generalize hl:(⟨some d,.move x,ty,pos,af,none⟩::rest:List Oper)=l at *
 have hl0:l[0]?=some ⟨some d,.move x,ty,pos,af,none⟩:=by rw[<- hl]; rfl
 have hlp:0<l.length:=by rw[<- hl]; simp
 have hm1:1<=m:=Nat.le_of_ble_eq_true h1m
 obtain ⟨rs,hlen,hml,hst,htail⟩:=i6.recs h
 have hd:=DR.of1 chk
 have hI0:AJ l c M rs a g w.drew (Array.replicate l.toArray.size false) a g w.drew:=by
  refine ⟨by simp,hs.ok,Gh.le_refl _,Below.refl _ _,fun i j hi=>?_,fun i hi=>?_,rfl,hs.size,fun _ _=>rfl,fun i r hr hi=>?_,fun i r e hi=>?_,fun t ht=>.inl ht⟩
  all_goals
   unfold Ld at hi
   rw[Array.getElem?_eq_some_iff] at hi
   obtain ⟨_,hi⟩:=hi
   simp at hi
 have hmem:0∈Region.ready .any l.toArray (Array.replicate l.toArray.size false):=by simpa using hrd
 have hop:wpOp P l.toArray (X6 Q) 0 (fun a' w'=>∃g',AJ l c M rs a g w.drew ((Array.replicate l.toArray.size false).setIfInBounds 0 true) a' g' w') a w.drew :=
  hI0.step hst hlen hml hd (bT hst zo) hs hmem zo (fun a' g' w' h=>⟨g',h⟩)
 have hI1:∃g',AJ l c M rs a g w.drew ((Array.replicate l.toArray.size false).setIfInBounds 0 true) (a.put (some d) (a.eval x)) g' w.drew:=by
  unfold wpOp at hop
  rw[List.getElem?_toArray,hl0] at hop
  simp only at hop
  have hw:Region.wanted ⟨some d,.move x,ty,pos,af,none⟩ (yielded l.toArray a.tmps)=true:=rfl
  rw[if_pos hw] at hop
  rcases hop with hop | ⟨_,hop⟩
  ·simpa [Oper.wp,execOp,Oper.upon] using hop
  ·exact absurd hop OO
 obtain ⟨g1,hI1⟩:=hI1
 refine Code.wpIn_mono (Q:=X6 Q) (fun e _ _ q=>by obtain ⟨he,h⟩:=q; subst he; exact h) (LQ (hr.imp (fun h=>h) fun h=>⟨h,OO⟩) hm ?_)
 have hsz:l.toArray.size=(l.toArray.size-1)+1:=by simp; omega
 rw[hsz,<- hsz] 
 have hu:Q1 ((Array.replicate l.toArray.size false).setIfInBounds 0 true)<=l.toArray.size-1:=by
  have h1:=QV (listed:=Array.replicate l.toArray.size false) (i:=0) (by simpa using hlp) (fun h=>by unfold Ld at h; rw[Array.getElem?_eq_some_iff] at h; obtain ⟨_,h⟩:=h; simp at h)
  have h2:Q1 (Array.replicate l.toArray.size false)<=l.toArray.size:=by
   unfold Q1
   refine Nat.le_trans (List.countP_le_length) ?_
   simp
  omega
 have hrun:=bS (Q:=X6 Q) hd hm1 hlen hml hst htail hs (l.toArray.size-1) _ _ g1 w.drew hu (fun i hi=>by
  obtain rfl:i=0:=by omega
  exact (Ld.set (by simpa using hlp)).2 (.inl rfl)) hI1
 have:=wpAny_take (P:=P) (Q:=X6 Q) (ops:=l.toArray) (md:=.any) (i:=0) (oi:=⟨some d,.move x,ty,pos,af,none⟩) (v:=a.eval x) (fuel:=l.toArray.size-1) (listed:=Array.replicate l.toArray.size false) (a:=a) (w:=w.drew) (by rw[List.getElem?_toArray,hl0]) hsel hfr hrd (fun _ _ _ h=>absurd h.1 (by simp)) (.inl ⟨rfl,fun w=>by simp[execOp]⟩) hrun
 rw[<- hsz] at this
 exact this
theorem d9.norm {S':g9} {M':f0} (hS:S=S') (hM:M=M') (h:d9 c S' M' Q):d9 c S M Q:=by subst hS hM; exact h
theorem d5.finN {ops:Array Oper} (h:g8 c S M Q):d5 P c ops S M [] (X6 Q):=fun a g w hs=>wpList_nil ⟨rfl,h a g w hs⟩
end
section
variable {P:Program} {w0:World} {J0:JV} {n0:Nat} {S:g9} {M:f0} {fn:Func}
theorem wY {t:TypeId} [ht:E0 P t] {w:World} {a:Addr} {v:Value} (h:w.cell? a=some v):(loadVar t a).run P w=.ok v w:=by
 simp[loadVar,ht.run,h]
theorem d9.resL1 {a u o:Nat} {ty:TypeId} {kc:List b8} {dep:List Nat} {k0 k:b8} [hlk:p8 M u (j3 kc) dep] [ht:E0 P ty] (hr:fn.results=#[.cell a ty]) (hx:look S a=some (true,w6 u o)) (hk:kc[o]?=some k0)
  (hc:∀(g:Gh) (v:Value),k0 g v->k ⟨g.J,w4⟩ v):d9 ⟨w0,J0,[],n0,none,false,[]⟩ S M (bodyPost P fn (Y9 w0 J0 k)):=by
 intro act g w hst
 obtain ⟨bl,cap,h1,h2⟩:=(hst.slots a _ _ hx).1 rfl
 obtain ⟨cs,ty',h3,h4⟩:=BT (ks:=kc) hst.conts h1
 obtain ⟨v,hv,hkv⟩:=FI h4 hk
 have hcell:w.cell? ⟨bl,o,none⟩=some v:=J6 h3 (by simpa using hv)
 exact ⟨hst.defers.1,_,WS hr h2 (wY hcell),_,g.J,rfl,⟨hst.ok.bel.os,hst.ok.bel.tape,hst.ok.bel.output,hst.ok.bel.size,fun k hk=>hst.ok.bel.block k hk (by simp),hst.ok.bel.drawn⟩,hst.ok.jle,hst.ok.jold,hst.ok.im,hc _ _ hkv⟩
theorem dK {ik:IntKind} {x y:Int} (he:x=y) (g:Gh) (v:Value) (h:y3 ik x g v):y3 ik y ⟨g.J,w4⟩ v:=by subst he; exact h
end
instance {ks out:List b8} {n:Nat} [h:N7 ks 0 n out]:N7 ks (0+0) n out:=h
end Go.Fl

/- A block of the caller's own on loan, wherever the arguments speak of it: in a pointer, or in what a closure has captured. No program in sight. -/
namespace Go.Fl
open Go Go.RowKit
def BO (P:Program) (f:FuncId) (args:List b8) (ct ct':s9) (res:b8):Prop :=
 ∀w J b cap,Im J w->(∀o,J b o=none)->b<w.heap.size->ct (g1 J b cap) (.blk b cap) w.heap[b]?->∀vs,o6 (g1 J b cap) args vs->Calls P f vs.toArray w (AL w J b cap res ct')
theorem UZ {w:World} {J:JV} {b cap n m:Nat} {mrk:Bool} {ct:s9} {args:List b8} {ds:List (List Nat)} {vs:List Value} (him:Im J w) (hJ:∀o,J b o=none) (hlt:b<w.heap.size) (hct:ct (g1 J b cap) (.blk b cap) w.heap[b]?) (hvs:o6 (g1 J b cap) args vs) (hds:GR args ds) (hd0:ds.all (fun d=>s5 d [0])=true) (hle:args.length<=n) [hcd:z7 ct []] :
  l4 ⟨w,J,[b],n,none,mrk,[]⟩ (DH 0 ds args++I1 m (fun _=>.blk b cap) [0]) [⟨0,[],ct⟩] { tmps:=vs.toArray++Array.replicate (n-vs.toArray.size) undef,defers:=[] } (g1 J b cap) w:=by
 have hlen:=I2 hvs
 have hM:∀t bk,(g1 J b cap).M t=some bk->t=0/\bk=.blk b cap:=fun t bk ht=>by
  simp only[g1] at ht
  split at ht
  ·rename_i e; cases ht; exact ⟨e,rfl⟩
  ·cases ht
 refine ⟨⟨⟨rfl,rfl,rfl,Nat.le_refl _,fun _ _ _=>rfl,Nat.le_refl _⟩,JV.le_refl _,fun _ _ _=>rfl,him,fun t b' cap' ht=>?_,fun t t' b1 c1 c2 h1 h2=>?_⟩,?_,?_,?_,by simp,?_,?_,⟨?_,fun _ h=>(by cases h)⟩,?_⟩
 ·obtain ⟨_,e⟩:=hM _ _ ht
  cases e
  exact ⟨.inr (by simp),hlt,hJ⟩
 ·rw[(hM _ _ h1).1,(hM _ _ h2).1]
 ·intro t bb k hk
  rcases VA hk with hk | hk
  ·obtain ⟨_,ht,rfl,u,hu,hku⟩:=WG hvs hk
   refine ⟨fun _=>?_,fun hf=>(by cases hf)⟩
   have ht':t<vs.length:=by omega
   have:((vs.toArray++Array.replicate (n-vs.toArray.size) undef).getD t undef)=u:=by
    rw[Array.getD_eq_getD_getElem?,Array.getElem?_append_left (by simpa using ht')]
    simp only[List.getElem?_toArray]
    rw[show vs[t]?=some u by simpa using hu]; rfl
   show k _ ((vs.toArray++Array.replicate (n-vs.toArray.size) undef).getD t undef)
   rw[this]; exact hku
  ·obtain ⟨rfl,_,h3,rfl⟩:=QQ hk
   refine ⟨fun _=>?_,fun hf=>(by cases hf)⟩
   have h3:t-m=0:=by simpa using h3
   show (g1 J b cap).M (t-m)=some (.blk b cap)
   rw[h3]; simp[g1]
 ·intro e he
  simp only[List.mem_singleton] at he
  subst he
  exact ⟨_,by simp[g1],hct⟩
 ·intro t ht
  cases hm:(g1 J b cap).M t with
  | none=>exact absurd hm ht
  | some bk=>simp[(hM _ _ hm).1]
 ·intro e he
  rcases List.mem_append.1 he with he | he
  ·obtain ⟨h1,h2⟩:=WH hds he
   exact ⟨h1,fun t ht=>by simpa [Fl.tags] using A1 (List.all_eq_true.1 hd0 _ h2) t ht⟩
  ·obtain ⟨t,h1,h2,h3⟩:=QR he
   rw[h3,h2]
   exact ⟨inferInstance,fun u hu=>by simp at h1 hu; subst h1 hu; simp⟩
 ·intro e he
  simp only[List.mem_singleton] at he
  subst he
  exact ⟨hcd,fun t ht=>by cases ht⟩
 ·cases mrk
  ·rfl
  ·exact ⟨List.nodup_nil,fun _ h=>(by cases h)⟩
 ·simp only[Array.size_append,List.size_toArray,Array.size_replicate]; omega
theorem BO.mk {P:Program} {f:FuncId} {fn:Func} {code:Code} {args:List b8} {ds:List (List Nat)} {res:b8} {ct ct':s9} {n:Nat} (hf:P.funcs[f]?=some fn) (hb:fn.body=some code) (hn:fn.ntmps=n) (hl:Nat.ble args.length n=true) [hd:FA args ds] (hd0:ds.all (fun d=>s5 d [0])=true) [hcd:z7 ct []]
  (h:∀w J b cap,Tr P ⟨w,J,[b],n,none,false,[]⟩ (DH 0 ds args++I1 (n+500) (fun _=>.blk b cap) [0]) [⟨0,[],ct⟩] code (bodyPost P fn (AL w J b cap res ct'))):BO P f args ct ct' res:=by
 intro w J b cap him hJ hlt hct vs hvs
 refine calls_of_wp hf hb<|wpIn_wide.1 (h w J b cap _ (g1 J b cap) w ?_)
 rw[hn]
 exact UZ him hJ hlt hct hvs hd.h hd0 (Nat.le_of_ble_eq_true hl)
theorem BO.mkM {P:Program} {f:FuncId} {fn:Func} {code:Code} {args:List b8} {ds:List (List Nat)} {res:b8} {ct ct':s9} {n:Nat} (hf:P.funcs[f]?=some fn) (hb:fn.body=some code) (hn:fn.ntmps=n) (hl:Nat.ble args.length n=true) [hd:FA args ds] (hd0:ds.all (fun d=>s5 d [0])=true) [hcd:z7 ct []]
  (h:∀w J b cap,Tr P ⟨w,J,[b],n,none,true,[]⟩ (DH 0 ds args++I1 (n+500) (fun _=>.blk b cap) [0]) [⟨0,[],ct⟩] code (RG P fn (AL w J b cap res ct'))):BO P f args ct ct' res:=by
 intro w J b cap him hJ hlt hct vs hvs
 refine callsIn_wide.1 (callsIn_of_wp_marks (n:=2) hf hb trivial (h w J b cap _ (g1 J b cap) w ?_))
 rw[hn]
 exact UZ him hJ hlt hct hvs hd.h hd0 (Nat.le_of_ble_eq_true hl)
section
variable {P:Program} {n:Nat} {w0:World} {J0:JV} {S:g9} {M:f0} {fn:Func} {bb cap s:Nat} {kb kb':List b8} {dep dep3:List Nat}
theorem dW [hm:p8 M 0 (j3 kb) dep] [hkd:A6 kb dep3] [hkn:H5 dep3] (hkb:kb=kb') (hs0:look S s=some (true,AV 0 (.blk bb cap))) {a:Act} {g:Gh} {w:World} (hs:l4 ⟨w0,J0,[bb],n,none,false,[]⟩ S M a g w) {r:Value} {res:b8} (hr:res ⟨g.J,w4⟩ r) :
  AL w0 J0 bb cap res (j3 kb') (.returned r) w:=by
 subst hkb
 have q1:g.M 0=some (.blk bb cap):=(hs.slots s _ _ hs0).1 rfl
 obtain ⟨bk,q2,q3⟩:=hs.conts _ hm.mem
 simp only at q2 q3
 rw[q1] at q2; cases q2
 exact ⟨r,g.J,rfl,⟨hs.ok.bel.os,hs.ok.bel.tape,hs.ok.bel.output,hs.ok.bel.size,fun k hk hne=>hs.ok.bel.block k hk (by simp only[List.mem_singleton]; rintro rfl; exact hne cap rfl),hs.ok.bel.drawn⟩,hs.ok.jle,hs.ok.jold,hs.ok.im,hr,Z3 (g:=g) (g':=g1 g.J bb cap) (bk:=.blk bb cap) (o:=w.heap[bb]?) rfl q3⟩
theorem d9.loan1 {t:Nat} {k:b8} [hm:p8 M 0 (j3 kb) dep] [hkd:A6 kb dep3] [hkn:H5 dep3] (hr:fn.results=#[.tmp t]) (hs0:look S s=some (true,AV 0 (.blk bb cap))) (h:C8 S [t] [k]) (hkb:kb=kb') :
  d9 ⟨w0,J0,[bb],n,none,false,[]⟩ S M (bodyPost P fn (AL w0 J0 bb cap k (j3 kb'))):=fun _ _ _ hs =>
 ⟨hs.defers.1,_,results_tmp hr _ _ _,dW hkb hs0 hs (h.holds hs.slots).1⟩
theorem d9.loan0 [hm:p8 M 0 (j3 kb) dep] [hkd:A6 kb dep3] [hkn:H5 dep3] (hr:fn.results=#[]) (hs0:look S s=some (true,AV 0 (.blk bb cap))) (hkb:kb=kb') :
  d9 ⟨w0,J0,[bb],n,none,false,[]⟩ S M (bodyPost P fn (AL w0 J0 bb cap (j8 (.tuple #[])) (j3 kb'))):=fun _ _ _ hs =>
 ⟨hs.defers.1,_,results_none hr _ _ _,dW (res:=j8 (.tuple #[])) hkb hs0 hs rfl⟩
end
class GT (u:Nat) (k:b8) (k0:outParam b8):Prop where
 imp:∀{g:Gh} {v:Value} {b cap:Nat},g.M u=some (.blk b cap)->k g v->k0 (g1 g.J b cap) v
instance {u o:Nat}:GT u (w6 u o) (w6 0 o):=⟨fun hm ⟨b,cap,h1,h2⟩=>⟨b,cap,by rw[hm] at h1; simpa [g1] using h1,h2⟩⟩
instance (priority:=low) {u:Nat} {k:b8} [h:o4 k []]:GT u k k:=⟨fun {g v b cap} _ hk=>h.dep (g:=g) (g':=g1 g.J b cap) (JV.le_refl _) (fun _ h=>by cases h) hk⟩
class JK (u:Nat) (ks:List b8) (ks0:outParam (List b8)):Prop where
 imp:∀{g:Gh} {vs:List Value} {b cap:Nat},g.M u=some (.blk b cap)->o6 g ks vs->o6 (g1 g.J b cap) ks0 vs
instance {u:Nat}:JK u [] []:=⟨fun {g vs b cap} _ h=>by
 cases vs with
 | nil=>trivial
 | cons=>exact h.elim⟩
instance {u:Nat} {k k0:b8} {ks ks0:List b8} [h:GT u k k0] [hs:JK u ks ks0]:JK u (k::ks) (k0::ks0):=⟨fun {g vs b cap} hm h'=>by
 cases vs with
 | nil=>exact h'.elim
 | cons v vs=>exact ⟨h.imp hm h'.1,hs.imp hm h'.2⟩⟩
instance {u:Nat} {f:FuncId} {ks ks0:List b8} [h:JK u ks ks0]:GT u (Z8 f ks) (Z8 f ks0):=⟨fun hm ⟨vs,h1,h2⟩=>⟨vs,h1,h.imp hm h2⟩⟩
section
variable {P:Program} {c:l8} {ops:Array Oper} {S:g9} {M:f0} {rest:List Oper} {Q:Exit->Act->World->Prop}
variable {d:Nat} {ty:TypeId} {pos:String} {af:Array Edge}
end
end Go.Fl

/- Calls that hand on a loan: arguments that are put together, or read as something else. No program in sight. -/
namespace Go.Fl
open Go Go.RowKit
inductive T2 (S:g9) (u:Nat):List Operand->List b8->Prop
 | nil:T2 S u [] []
 | cons {x:Operand} {xs:List Operand} {k k1:b8} {ks:List b8} (hx:j1 S x=some (true,k)) (hc:∀(g:Gh) (v:Value) (b cap:Nat),g.M u=some (.blk b cap)->k g v->k1 (g1 g.J b cap) v) (r:T2 S u xs ks):T2 S u (x::xs) (k1::ks)
section
variable {S:g9} {u:Nat} {x:Operand} {xs:List Operand} {ks:List b8}
theorem T2.a {k k1:b8} (hx:j1 S x=some (true,k)) [hl:GT u k k1] (r:T2 S u xs ks):T2 S u (x::xs) (k1::ks):=.cons hx (fun _ _ _ _ hm hk=>hl.imp hm hk) r
theorem T2.se {kl:List b8} {α:Type} {e:i7 α} {v v':α} (hx:j1 S x=some (true,G6 kl)) [hr:v5 kl e v []] (ha:e.agg=true) (he:v=v') (r:T2 S u xs ks):T2 S u (x::xs) (b7 e v'::ks):=by
 subst he
 exact .cons hx (fun g _ _ _ _ ⟨cs,h1,h2⟩=>⟨cs,v5.whole (h:=hr) (g:=g) h2,by rw[ha]; exact h1⟩) r
theorem T2.eval {g:Gh} {ρ:Operand->Value} {b cap:Nat} (hm:g.M u=some (.blk b cap)) (h:T2 S u xs ks):(∀y∈xs,∀b k,j1 S y=some (b,k)->b=true->k g (ρ y))->o6 (g1 g.J b cap) ks (xs.map ρ):=by
 induction h with
 | nil=>intro _; trivial
 | cons hx hc _ ih=>intro hy; exact ⟨hc _ _ _ _ hm (hy _ List.mem_cons_self _ _ hx rfl),ih fun y h'=>hy y (List.mem_cons_of_mem _ h')⟩
end
section
variable {P:Program} {c:l8} {ops:Array Oper} {S:g9} {M:f0} {rest:List Oper} {Q:Exit->Act->World->Prop}
variable {d:Nat} {ty:TypeId} {pos:String} {af:Array Edge}
theorem d5.loanL {f:FuncId} [hf:d8 P f] {args:List Operand} {tys:Array TypeId} {ks1:List b8} {res:b8} {u:Nat} {kb0 kb kb':List b8} {dep dep0 dep1:List Nat} {M':f0} (hct:BO P f ks1 (j3 kb) (j3 kb') res) (ha:T2 S u args ks1)
  [hl:p8 M u (j3 kb0) dep] [hd0:A6 kb0 dep0] [hn0:H5 dep0] [hd1:A6 kb' dep1] [hn1:H5 dep1] (hkb:kb0=kb) [hup:A7 M u (j3 kb') [] M'] [hkd:o4 res []] (hn:Nat.blt d c.n=true)
  (K:d5 P c ops (⟨d,true,[],res⟩::S) M' rest Q):d5 P c ops S M (⟨some d,.call { callee:=.value (.func f),args:=args.toArray,argTypes:=tys },ty,pos,af,none⟩::rest) Q:=by
 subst hkb
 have hcd:z7 (j3 kb') []:=⟨fun hJ _ h=>let ⟨cs,t,h1,h2⟩:=h; ⟨cs,t,h1,hd1.dep hJ (fun t ht=>by rw[hn1.eq] at ht; cases ht) h2⟩⟩
 intro a g w hsat
 have hdn:d<c.n:=by simpa [Nat.blt_eq] using hn
 obtain ⟨bk2,hm2,hobj⟩:=hsat.conts _ hl.mem
 simp only at hm2 hobj
 cases bk2 with
 | nil=>obtain ⟨_,_,h,_⟩:=hobj; cases h
 | blk b cap =>
  obtain ⟨_,hlt,hJn⟩:=hsat.ok.own u b cap hm2
  have hargs:=ha.eval (g:=g) (ρ:=a.eval) hm2 (fun y _ b k hk hb=>B5 hsat.slots hk hb)
  have hr:=hct w g.J b cap hsat.ok.im hJn hlt (Z3 (g:=g) (g':=g1 g.J b cap) (bk:=.blk b cap) rfl hobj) _ hargs
  refine wpList_plain rfl fun K' hK'=>?_
  unfold Oper.wp
  simp only[execOp,resolve,Act.eval,Deferred.ofValue,Sem.run_bind,Sem.run_pure,Result.andThen_ok,invoke,List.map_toArray,Array.append_empty,Array.empty_append]
  rw[hf.run]
  simp only[Oper.upon]
  refine hr.mono fun e w' he=>?_
  obtain ⟨r,J',rfl,h1,h2,h3,h4,h5,h6⟩:=he
  exact hK' _ _ (K _ _ _ (hsat.mut hm2 (hsat.nomark hl hm2 _ _ rfl) h1 h2 h3 h4 hup hcd (Z3 (g:=g1 J' b cap) (g':=⟨J',g.M⟩) (bk:=.blk b cap) rfl h6) hdn (hkd.dep (g:=⟨J',w4⟩) (JV.le_refl _) (fun _ h=>by cases h) h5)))
theorem d5.loanLK {f:FuncId} [hf:d8 P f] {x:Operand} {cks cks1:List b8} {args:List Operand} {tys:Array TypeId} {ks1 ks2:List b8} {res:b8} {u:Nat} {kb0 kb kb':List b8} {dep dep0 dep1:List Nat} {M':f0} (hct:BO P f ks2 (j3 kb) (j3 kb') res) (hx:j1 S x=some (true,Z8 f cks)) (ha:T2 S u args ks1) [hln:JK u cks cks1] (hks:ks1++cks1=ks2)
  [hl:p8 M u (j3 kb0) dep] [hd0:A6 kb0 dep0] [hn0:H5 dep0] [hd1:A6 kb' dep1] [hn1:H5 dep1] (hkb:kb0=kb) [hup:A7 M u (j3 kb') [] M'] [hkd:o4 res []] (hn:Nat.blt d c.n=true)
  (K:d5 P c ops (⟨d,true,[],res⟩::S) M' rest Q):d5 P c ops S M (⟨some d,.call { callee:=.value x,args:=args.toArray,argTypes:=tys },ty,pos,af,none⟩::rest) Q:=by
 subst hkb hks
 have hcd:z7 (j3 kb') []:=⟨fun hJ _ h=>let ⟨cs,t,h1,h2⟩:=h; ⟨cs,t,h1,hd1.dep hJ (fun t ht=>by rw[hn1.eq] at ht; cases ht) h2⟩⟩
 intro a g w hsat
 have hdn:d<c.n:=by simpa [Nat.blt_eq] using hn
 obtain ⟨cvs,hfv,hcs⟩:=B5 hsat.slots hx rfl
 obtain ⟨bk2,hm2,hobj⟩:=hsat.conts _ hl.mem
 simp only at hm2 hobj
 cases bk2 with
 | nil=>obtain ⟨_,_,h,_⟩:=hobj; cases h
 | blk b cap =>
  obtain ⟨_,hlt,hJn⟩:=hsat.ok.own u b cap hm2
  have hargs:=MH (ha.eval (g:=g) (ρ:=a.eval) hm2 (fun y _ b k hk hb=>B5 hsat.slots hk hb)) (hln.imp hm2 hcs)
  have hr:=hct w g.J b cap hsat.ok.im hJn hlt (Z3 (g:=g) (g':=g1 g.J b cap) (bk:=.blk b cap) rfl hobj) _ hargs
  refine wpList_plain rfl fun K' hK'=>?_
  unfold Oper.wp
  simp only[execOp,resolve,hfv,Deferred.ofValue,Sem.run_bind,Sem.run_pure,Result.andThen_ok,invoke,List.map_toArray,List.append_toArray]
  rw[hf.run]
  simp only[Oper.upon]
  refine hr.mono fun e w' he=>?_
  obtain ⟨r,J',rfl,h1,h2,h3,h4,h5,h6⟩:=he
  exact hK' _ _ (K _ _ _ (hsat.mut hm2 (hsat.nomark hl hm2 _ _ rfl) h1 h2 h3 h4 hup hcd (Z3 (g:=g1 J' b cap) (g':=⟨J',g.M⟩) (bk:=.blk b cap) rfl h6) hdn (hkd.dep (g:=⟨J',w4⟩) (JV.le_refl _) (fun _ h=>by cases h) h5)))
end
theorem l4.frzBB {n:Nat} {bor:List Nat} {rd:Option Nat} {mrk:Bool} {om:List Nat} {w0:World} {J0:JV} {S:g9} {M M':f0} {a:Act} {g:Gh} {w:World} (h:l4 ⟨w0,J0,bor,n,rd,mrk,om⟩ S M a g w) {u:Nat} {α:Type} {e:i7 α} {x:α} {ks:List b8} {dep dep2:List Nat} {ss:List Nat} [hl:p8 M u (j3 ks) dep] [hr:v5 ks e x []] [hd:A6 ks dep2] [hdn:H5 dep2]
  (hbo:∀b cap,g.M u=some (.blk b cap)->b∉bor) (hss:HC S u ss) [hdel:K3 M u M'] (hnd:H9 u M=true):∃g',l4 ⟨w0,J0,bor,n,rd,mrk,om⟩ (g9.setAll ss (r5 e x) (inv u S)) M' a g' w:=by
 obtain ⟨bk,hm,cs,ty,ho,hk⟩:=h.conts _ hl.mem
 simp only at hm
 cases bk with
 | nil=>cases ho
 | blk b cap =>
  refine ⟨_,h.freezeB (cs:=cs) (ty:=ty) hm (fun b2 cap2 e=>by cases e; exact hbo _ _ hm) (fun b' cap' hb=>by cases hb; exact ho) hdel hnd inferInstance (fun s hs=>?_)⟩
  have hJ:g.J.le (g.J.with b cs):=JV.le_with (h.ok.own u b cap hm).2.2
  obtain ⟨b',cap',hb,hv⟩:=(h.slots s _ _ (RY hss s hs)).1 rfl
  rw[hm] at hb; cases hb
  have hk':=hd.dep (g:=g) (g':=g.frz u (.blk b cap) cs) hJ (fun t ht=>by rw[hdn.eq] at ht; cases ht) hk
  refine ⟨b,0,cs.toList,hv,v5.whole (h:=hr) hk',fun j v hj=>?_⟩
  show (g.J.with b cs) b (0+j)=some v
  unfold JV.with
  rw[if_pos rfl,Nat.zero_add]
  simpa using hj
section
variable {P:Program} {n:Nat} {rd:Option Nat} {mrk:Bool} {om:List Nat} {w0:World} {J0:JV} {S:g9} {M M':f0} {Q:Exit->Act->World->Prop} {bb cap s:Nat}
theorem Tr.frzBL {code:Code} (u:Nat) (ss:List Nat) {α:Type} (e:i7 α) {x:α} {ks:List b8} {dep dep2:List Nat} [hl:p8 M u (j3 ks) dep] [hr:v5 ks e x []] [hd:A6 ks dep2] [hdn:H5 dep2] (h0:look S s=some (true,AV 0 (.blk bb cap))) (hu:Nat.beq u 0=false) (hss:HC S u ss) [hdel:K3 M u M'] (hnd:H9 u M=true)
  (K:Tr P ⟨w0,J0,[bb],n,rd,mrk,om⟩ (g9.setAll ss (r5 e x) (inv u S)) M' code Q):Tr P ⟨w0,J0,[bb],n,rd,mrk,om⟩ S M code Q:=fun a g w hs =>
 let ⟨g',hs'⟩:=hs.frzBB (u:=u) (e:=e) (x:=x) (fun b cap hm hbb=>by
  have h1:g.M 0=some (.blk bb _):=(hs.slots s _ _ h0).1 rfl
  simp only[List.mem_singleton] at hbb
  subst hbb
  have:=hs.ok.inj _ _ _ _ _ hm h1
  subst this
  simp at hu) hss hnd
 K a g' w hs'
end
end Go.Fl

/- A row of the caller's own on loan, of which a part comes back. No program in sight. -/
namespace Go.Fl
open Go Go.RowKit
def JF (P:Program) (f:FuncId) (args:List b8) (ct ct':s9) (res:b8):Prop :=
 ∀w J b cap,Im J w->(∀o,J b o=none)->b<w.heap.size->ct (g1 J b cap) (.blk b cap) w.heap[b]?->∀vs,o6 (g1 J b cap) args vs->Calls P f vs.toArray w (GV w J b cap res ct')
theorem JF.mk {P:Program} {f:FuncId} {fn:Func} {code:Code} {args:List b8} {ds:List (List Nat)} {res:b8} {ct ct':s9} {n:Nat} (hf:P.funcs[f]?=some fn) (hb:fn.body=some code) (hn:fn.ntmps=n) (hl:Nat.ble args.length n=true) [hd:FA args ds] (hd0:ds.all (fun d=>s5 d [0])=true) [hcd:z7 ct []]
  (h:∀w J b cap,Tr P ⟨w,J,[b],n,none,false,[]⟩ (DH 0 ds args++I1 (n+500) (fun _=>.blk b cap) [0]) [⟨0,[],ct⟩] code (bodyPost P fn (GV w J b cap res ct'))):JF P f args ct ct' res:=by
 intro w J b cap him hJ hlt hct vs hvs
 refine calls_of_wp hf hb<|wpIn_wide.1 (h w J b cap _ (g1 J b cap) w ?_)
 rw[hn]
 exact UZ him hJ hlt hct hvs hd.h hd0 (Nat.le_of_ble_eq_true hl)
section
variable {P:Program} {n:Nat} {w0:World} {J0:JV} {S:g9} {M:f0} {fn:Func} {bb cap s t:Nat} {ct ct':s9} {dep:List Nat} {k res:b8}
theorem d9.loanR (hr:fn.results=#[.tmp t]) (hs0:look S s=some (true,AV 0 (.blk bb cap))) (hl:look S t=some (true,k)) [hm:p8 M 0 ct dep] (hc:∀(g:Gh) (o:Option Obj),ct g (.blk bb cap) o->ct' (g1 g.J bb cap) (.blk bb cap) o) (hk:∀(g:Gh) (v:Value),g.M 0=some (.blk bb cap)->k g v->res (g1 g.J bb cap) v) :
  d9 ⟨w0,J0,[bb],n,none,false,[]⟩ S M (bodyPost P fn (GV w0 J0 bb cap res ct')):=by
 intro a g w hs
 have h1:g.M 0=some (.blk bb cap):=(hs.slots s _ _ hs0).1 rfl
 obtain ⟨bk,h2,h3⟩:=hs.conts _ hm.mem
 simp only at h2 h3
 rw[h1] at h2; cases h2
 exact ⟨hs.defers.1,_,results_tmp hr _ _ _,_,g.J,rfl,⟨hs.ok.bel.os,hs.ok.bel.tape,hs.ok.bel.output,hs.ok.bel.size,fun k hk hne=>hs.ok.bel.block k hk (by simp only[List.mem_singleton]; rintro rfl; exact hne cap rfl),hs.ok.bel.drawn⟩,hs.ok.jle,hs.ok.jold,hs.ok.im,hk g _ h1 ((hs.slots t _ _ hl).1 rfl),hc _ _ h3⟩
end
theorem vJ {J:JV} {b cap n o m u:Nat} {g:Gh} {v:Value} (hm:g.M u=some (.blk b cap)) (h:B7 0 n o m (g1 J b cap) v):B7 u n o m ⟨J,g.M⟩ v:=by
 obtain ⟨b',cap',a,q1,q2,q3,q4⟩:=h
 simp only[g1,if_true,Option.some.injEq,Bk.blk.injEq] at q1
 obtain ⟨rfl,rfl⟩:=q1
 exact ⟨b,cap,a,hm,q2,q3,q4⟩
instance {u n o m:Nat}:GT u (B7 u n o m) (B7 0 n o m):=⟨fun {g v b cap} hm h=>by
 obtain ⟨b',cap',a,q1,q2,q3,q4⟩:=h
 rw[hm] at q1; cases q1
 exact ⟨b,cap,a,by simp[g1],q2,q3,q4⟩⟩
theorem SF {zb:Bool} {et:TypeId} {α:Type} {e:i7 α} {xs:List α} {len b cap:Nat} {o:Option Obj} {g g':Gh} (hJ:g'.J=g.J) (h:m9 zb et e xs len g (.blk b cap) o):m9 zb et e xs len g' (.blk b cap) o:=by
 obtain ⟨h1,h2⟩:=h
 exact ⟨h1,by simpa only [hJ] using h2⟩
section
variable {P:Program} {c:l8} {ops:Array Oper} {S:g9} {M:f0} {rest:List Oper} {Q:Exit->Act->World->Prop}
variable {d:Nat} {ty:TypeId} {pos:String} {af:Array Edge}
theorem d5.loanR {f:FuncId} [hf:d8 P f] {args:List Operand} {tys:Array TypeId} {ks1:List b8} {u n m len:Nat} {zb:Bool} {et:TypeId} {α:Type} {e:i7 α} {xs xs' ys:List α} {dep:List Nat} {M':f0} (hct:JF P f ks1 (m9 zb et e xs len) (m9 zb et e ys len) (B7 0 n 0 m)) (ha:T2 S u args ks1) (hlen:0<len)
  [hl:p8 M u (m9 zb et e xs' len) dep] (hxs:xs'=xs) [hup:A7 M u (m9 zb et e ys len) [] M'] (hn:Nat.blt d c.n=true)
  (K:d5 P c ops (⟨d,true,[u],B7 u n 0 m⟩::S) M' rest Q):d5 P c ops S M (⟨some d,.call { callee:=.value (.func f),args:=args.toArray,argTypes:=tys },ty,pos,af,none⟩::rest) Q:=by
 subst hxs
 intro a g w hsat
 have hdn:d<c.n:=by simpa [Nat.blt_eq] using hn
 obtain ⟨bk2,hm2,hobj⟩:=hsat.conts _ hl.mem
 simp only at hm2 hobj
 obtain ⟨b,cap,rfl⟩:∃b cap,bk2=.blk b cap:=by
  cases bk2 with
  | nil=>exact absurd hobj.2 zo
  | blk b cap=>exact ⟨b,cap,rfl⟩
 obtain ⟨_,hlt,hJn⟩:=hsat.ok.own u b cap hm2
 have hargs:=ha.eval (g:=g) (ρ:=a.eval) hm2 (fun y _ b k hk hb=>B5 hsat.slots hk hb)
 have hr:=hct w g.J b cap hsat.ok.im hJn hlt (SF rfl hobj) _ hargs
 refine wpList_plain rfl fun K' hK'=>?_
 unfold Oper.wp
 simp only[execOp,resolve,Act.eval,Deferred.ofValue,Sem.run_bind,Sem.run_pure,Result.andThen_ok,invoke,List.map_toArray,Array.append_empty,Array.empty_append]
 rw[hf.run]
 simp only[Oper.upon]
 refine hr.mono fun e w' he=>?_
 obtain ⟨r,J',rfl,h1,h2,h3,h4,h5,h6⟩:=he
 have hko:B7 u n 0 m ⟨J',g.M⟩ r:=vJ hm2 h5
 have hs:=hsat.mut hm2 (hsat.nomark hl hm2 _ _ rfl) h1 h2 h3 h4 hup inferInstance (SF rfl h6) hdn (k:=U3) trivial (v:=r)
 have htag:=hup.tags
 refine hK' _ _ (K _ _ _ ⟨hs.ok,fun t bb k' hl'=>?_,hs.conts,hs.dom,hs.nodup,fun e he=>?_,hs.cdep,hs.defers,hs.size⟩)
 ·simp only[look] at hl'
  cases hb0:Nat.beq d t with
  | true =>
   rw[hb0] at hl'
   simp only[cond_true,Option.some.injEq,Prod.mk.injEq] at hl'
   obtain ⟨rfl,rfl⟩:=hl'
   have:=Nat.eq_of_beq_eq_true hb0
   subst this
   refine ⟨fun _=>?_,fun hf=>(by cases hf)⟩
   have hsz:d<a.tmps.size:=by have:=hsat.size; omega
   simpa [Act.put,Array.getD_eq_getD_getElem?,hsz] using hko
  | false =>
   rw[hb0] at hl'
   exact hs.slots t bb k' (by simp only[look]; rw[hb0]; exact hl')
 ·rcases List.mem_cons.1 he with rfl | he
  ·exact ⟨inferInstance,fun t ht=>by
    simp only[List.mem_singleton] at ht
    rw[ht]
    exact hs.dom _ (by show g.M u≠none; rw[hm2]; simp)⟩
  ·exact hs.sdep e (List.mem_cons_of_mem _ he)
end
end Go.Fl

/- Parts of own rows: elements, shorter parts, closures called under a condition. No program in sight. -/
namespace Go.Fl
open Go Go.RowKit
section
variable {P:Program} {c:l8} {S:g9} {M:f0} {p:Bool} {d:Option Tmp} {ty:TypeId} {pos:String} {af:Array Edge} {gd:Option (Nat×Bool)} {x y:Operand} {b b':Bool}
theorem EM (L:Nat) {t et:TypeId} [ht:C5 P t et] {sz by':Nat} {zz:Value} [hz:q7 P et sz by' zz] {u off len:Nat} {ik:IntKind} {i:Int} (hx:j1 S x=some (b,B7 u sz off len)) (hb:p=true->b=true) (hy:j1 S y=some (b',y3 ik i)) (hb':p=true->b'=true)
  (h:p=true->(0<=i/\i<len)/\off+len<=L):l3 P c S M ⟨d,.indexAddr t x y,ty,pos,af,gd⟩ p (BZ u sz (off+i.toNat) L) none :=
 l3.pure fun hp a g w _ _ ho=>by
  have hi:a.eval y=_:=ho y (by simp[Op.operands]) b' _ hy (hb' hp)
  obtain ⟨hlt,hL⟩:=h hp
  obtain ⟨bk,cap,o,h1,h3,h4,h2⟩:=ho x (by simp[Op.operands]) b _ hx (hb hp)
  have ho':=h4 zo
  exact ⟨.pointer (some ⟨bk,o+i.toNat*sz,none⟩),by simp only[execOp,h2,hi,Sem.run_bind,KL (P:=P) hlt,Result.andThen_ok,Sem.run_pure],by omega,bk,cap,h1,by rw[ho',Nat.add_mul]⟩
theorem vC {t et:TypeId} [ht:C5 P t et] {sz by':Nat} {zz:Value} [hz:q7 P et sz by' zz] {u len:Nat} {ik:IntKind} {i:Int} (hx:j1 S x=some (b,B7 u sz 0 len)) (hb:p=true->b=true) (hy:j1 S y=some (b',y3 ik i)) (hb':p=true->b'=true)
  (h:p=true->0<=i/\i<=len):l3 P c S M ⟨d,.slice t x none (some y) none,ty,pos,af,gd⟩ p (B7 u sz 0 i.toNat) none :=
 l3.pure fun hp a g w _ _ ho=>by
  have hi:a.eval y=_:=ho y (by simp[Op.operands]) b' _ hy (hb' hp)
  have hlt:=h hp
  obtain ⟨bk,cap,o,h1,h3,h4,h2⟩:=ho x (by simp[Op.operands]) b _ hx (hb hp)
  obtain ⟨j,hj,rfl,rfl,_⟩:=hz.h
  refine ⟨.slice (some ⟨bk,o,none⟩) i.toNat (cap-0),?_,bk,cap,o,h1,by omega,h4,rfl⟩
  have hun:P.underlying t=some (.slice (P.elem t)):=by rw[ht.h]; simp[Program.elem,ht.h]
  have hel:P.elem t=et:=by simp[Program.elem,ht.h]
  simp only[execOp,h2,hi,Option.map]
  rw[Sem.run_bind,run_sliceAt_slice w t _ _ _ _ hun,run_slice_h w t _ len (cap-0) hun ik i zo zo,hel]
  have hsz:(sizeOf et).run P w=.ok j.size w:=by simp[sizeOf,typeInfo,hj]
  simp only[Result.andThen_ok,Sem.run_pure,hsz,sliced,Option.map,Addr.add_lit]
  simp
end
section
variable {P:Program} {c:l8} {S:g9} {M:f0} {Q:Exit->Act->World->Prop}
theorem Tr.osq {code:Code} (s:Nat) (sz:Nat) {u len len':Nat} {dep:List Nat} {α:Type} {z:Bool} {et:TypeId} {e:i7 α} {xs:List α} (hs:look S s=some (true,q8 u len)) [hl:p8 M u (m9 z et e xs len') dep] (h0:0<len/\len=len') (K:Tr P c (⟨s,true,[u],B7 u sz 0 len⟩::S) M code Q):Tr P c S M code Q:=fun a g w h =>
 K a g w ⟨h.ok,fun t b k0 hl'=>by
  simp only[look] at hl'
  cases hb:Nat.beq s t with
  | true =>
   rw[hb] at hl'
   simp only[cond_true,Option.some.injEq,Prod.mk.injEq] at hl'
   obtain ⟨rfl,rfl⟩:=hl'
   rw[<- Nat.eq_of_beq_eq_true hb]
   refine ⟨fun _=>?_,fun hf=>by cases hf⟩
   obtain ⟨bk,cap,h1,h2⟩:=vH ((h.slots s _ _ hs).1 rfl) h0.1
   obtain ⟨bk2,hm2,hobj⟩:=h.conts _ hl.mem
   simp only at hm2 hobj
   rw[h1] at hm2; cases hm2
   obtain ⟨_,_,cs,_,_,hcap,_⟩:=hobj
   exact ⟨bk,cap,0,h1,by omega,fun _=>by omega,h2⟩
  | false =>
   rw[hb] at hl'
   exact h.slots t b k0 hl',h.conts,h.dom,h.nodup,fun e he=>by
  rcases List.mem_cons.1 he with rfl | he
  ·exact ⟨inferInstance,fun t ht=>by
    simp only[List.mem_singleton] at ht
    rw[ht]
    exact List.mem_map.2 ⟨_,hl.mem,rfl⟩⟩
  ·exact h.sdep e he,h.cdep,h.defers,h.size⟩
end
end Go.Fl

/- Rows of rows that change in place: a slice of headers, and up to eight rows with tags of their own. -/
namespace Go.Fl
open Go Go.RowKit
instance:Inhabited Value:=⟨.slice none 0 0⟩
def U1:i7 Value where
 n:=1
 agg:=false
 rd _ cs x:=cs=[x]/\x.oneCell'=true
 len h:=by rw[h.1]; rfl
 one _:=⟨rfl,fun h=>by have:=h.1; cases this; exact h.2⟩
 all1 h v hv:=by rw[h.1] at hv; simp at hv; subst hv; exact h.2
 mono _ h:=h
theorem gA {J:JV} {v x:Value}:U1.val J v x↔v=x/\x.oneCell'=true:=by
 constructor
 ·rintro ⟨cs,⟨rfl,h⟩,h2⟩; exact ⟨h2,h⟩
 ·rintro ⟨rfl,h⟩; exact ⟨[v],⟨rfl,h⟩,rfl⟩
instance {x:Value}:P3 U1 x (b7 U1 x):=⟨fun h=>h⟩
def W9 (bk:Bk) (n:Nat) (v:Value):Prop:=match bk with
 | .nil=>v=.slice none 0 0/\n=0
 | .blk b cap=>v=.slice (some ⟨b,0,none⟩) n cap
def DZ (v:Value) (n:Nat) (ct:s9):s9:=fun g bk o=>W9 bk n v/\ct g bk o
instance {v:Value} {n:Nat} {ct:s9} {dep:List Nat} [h:z7 ct dep]:z7 (DZ v n ct) dep:=⟨fun hl hd ⟨h1,h2⟩=>⟨h1,h.dep hl hd h2⟩⟩
def v8 (ity:TypeId) (hs:List Value) (rows:List (List Int)) (j:Nat):s9:=fun g bk o=>(j<hs.length->DZ (b6 hs j) (b6 rows j).length (m9 true ity eI (b6 rows j) (b6 rows j).length) g bk o)/\(hs.length<=j->bk=.nil)
instance {ity:TypeId} {hs:List Value} {rows:List (List Int)} {j:Nat}:z7 (v8 ity hs rows j) []:=⟨fun hl hd ⟨h1,h2⟩=>⟨fun hj=>(inferInstance:z7 (DZ (b6 hs j) (b6 rows j).length (m9 true ity eI (b6 rows j) (b6 rows j).length)) []).dep hl hd (h1 hj),h2⟩⟩
abbrev fam (t:Nat) (ity:TypeId) (hs:List Value) (rows:List (List Int)):f0 :=
 [⟨t,[],v8 ity hs rows 0⟩,⟨t+1,[],v8 ity hs rows 1⟩,⟨t+2,[],v8 ity hs rows 2⟩,⟨t+3,[],v8 ity hs rows 3⟩,⟨t+4,[],v8 ity hs rows 4⟩,⟨t+5,[],v8 ity hs rows 5⟩,⟨t+6,[],v8 ity hs rows 6⟩,⟨t+7,[],v8 ity hs rows 7⟩]
abbrev G3 (t:Nat):List Nat:=[t,t+1,t+2,t+3,t+4,t+5,t+6,t+7]
theorem FR {t q:Nat}:q∈G3 t↔∃j,j<8/\q=t+j:=by
 simp only[G3,List.mem_cons,List.not_mem_nil,or_false]
 constructor
 ·intro h; exact ⟨q-t,by omega,by omega⟩
 ·rintro ⟨j,hj,rfl⟩; omega
theorem EJ {t:Nat} {ity:TypeId} {hs:List Value} {rows:List (List Int)} {e:CE}:e∈fam t ity hs rows↔∃j,j<8/\e=⟨t+j,[],v8 ity hs rows j⟩:=by
 constructor
 ·intro h
  simp only[fam,List.mem_cons,List.not_mem_nil,or_false] at h
  rcases h with h | h | h | h | h | h | h | h
  ·exact ⟨0,by omega,h⟩
  ·exact ⟨1,by omega,h⟩
  ·exact ⟨2,by omega,h⟩
  ·exact ⟨3,by omega,h⟩
  ·exact ⟨4,by omega,h⟩
  ·exact ⟨5,by omega,h⟩
  ·exact ⟨6,by omega,h⟩
  ·exact ⟨7,by omega,h⟩
 ·rintro ⟨j,hj,rfl⟩
  match j,hj with
  | 0,_=>simp[fam]
  | 1,_=>simp[fam]
  | 2,_=>simp[fam]
  | 3,_=>simp[fam]
  | 4,_=>simp[fam]
  | 5,_=>simp[fam]
  | 6,_=>simp[fam]
  | 7,_=>simp[fam]
class R9 (N M:f0):Prop where
 mem:∀e∈N,e∈M
instance {M:f0}:R9 [] M:=⟨fun _ h=>by cases h⟩
instance {N M:f0} {t:Nat} {ct:s9} {dep:List Nat} [hl:p8 M t ct dep] [hs:R9 N M]:R9 (⟨t,dep,ct⟩::N) M:=⟨fun e he=>by
 rcases List.mem_cons.1 he with rfl | he
 ·exact hl.mem
 ·exact hs.mem e he⟩
def CV:f0->Nat->Option CE
 | [],_=>none
 | e::r,t=>bif Nat.beq e.t t then some e else CV r t
def L6 (N:f0) (M:f0):f0:=M.map fun e=>(CV N e.t).getD e
theorem OA:∀{N:f0} {t:Nat} {e:CE},CV N t=some e->e∈N/\e.t=t
 | x::N,t,e,h=>by
  simp only[CV] at h
  cases hb:Nat.beq x.t t with
  | true=>rw[hb] at h; simp only[cond_true,Option.some.injEq] at h; subst h; exact ⟨List.mem_cons_self,Nat.eq_of_beq_eq_true hb⟩
  | false=>rw[hb] at h; exact ⟨List.mem_cons_of_mem _ (OA h).1,(OA h).2⟩
theorem cQ:∀{N:f0} {t:Nat},CV N t=none->t∉tags N
 | [],_,_=>fun h=>by cases h
 | x::N,t,h=>by
  simp only[CV] at h
  cases hb:Nat.beq x.t t with
  | true=>rw[hb] at h; cases h
  | false =>
   rw[hb] at h
   intro hm
   rcases List.mem_cons.1 hm with hm | hm
   ·exact Nat.ne_of_beq_eq_false hb hm.symm
   ·exact cQ h hm
theorem IK {N M:f0} {e:CE} (h:e∈L6 N M):e∈N\/(e∈M/\e.t∉tags N):=by
 obtain ⟨x,hx,rfl⟩:=List.mem_map.1 h
 cases hg:CV N x.t with
 | none=>exact .inr ⟨hx,cQ hg⟩
 | some y=>exact .inl (OA hg).1
theorem X8 {N M:f0}:tags (L6 N M)=tags M:=by
 unfold L6 tags
 rw[List.map_map]
 refine List.map_congr_left fun e _=>?_
 show ((CV N e.t).getD e).t=e.t
 cases hg:CV N e.t with
 | none=>rfl
 | some y=>exact (OA hg).2
def AQ (T:List Nat):f0->f0
 | []=>[]
 | e::r=>bif T.any (Nat.beq e.t) then AQ T r else e::AQ T r
theorem Z6 {T:List Nat}:∀{M:f0} {e:CE},e∈AQ T M↔e∈M/\e.t∉T
 | [],e=>by simp[AQ]
 | x::M,e=>by
  simp only[AQ]
  cases hb:T.any (Nat.beq x.t) with
  | true =>
   simp only[cond_true]
   have hx:x.t∈T:=by obtain ⟨y,hy,he⟩:=List.any_eq_true.1 hb; rw[Nat.eq_of_beq_eq_true he]; exact hy
   rw[Z6]
   constructor
   ·rintro ⟨h1,h2⟩; exact ⟨List.mem_cons_of_mem _ h1,h2⟩
   ·rintro ⟨h1,h2⟩
    rcases List.mem_cons.1 h1 with rfl | h1
    ·exact absurd hx h2
    ·exact ⟨h1,h2⟩
  | false =>
   simp only[cond_false]
   have hx:x.t∉T:=fun h=>by rw[List.any_eq_true.2 ⟨x.t,h,Nat.beq_refl _⟩] at hb; cases hb
   rw[List.mem_cons,Z6,List.mem_cons]
   constructor
   ·rintro (rfl | ⟨h1,h2⟩)
    ·exact ⟨.inl rfl,hx⟩
    ·exact ⟨.inr h1,h2⟩
   ·rintro ⟨rfl | h1,h2⟩
    ·exact .inl rfl
    ·exact .inr ⟨h1,h2⟩
theorem NI {T:List Nat}:∀{M:f0},(tags (AQ T M)).Sublist (tags M)
 | []=>List.Sublist.refl _
 | x::M=>by
  simp only[AQ]
  cases T.any (Nat.beq x.t) with
  | true=>exact List.Sublist.cons _ NI
  | false=>exact List.Sublist.cons_cons _ NI
def FO (T:List Nat) (S:g9):g9:=S.map fun e=>bif e.dep.any (fun d=>T.any (Nat.beq d)) then ⟨e.s,e.b,[],U3⟩ else e
theorem SA {l T:List Nat} (h:l.any (fun d=>T.any (Nat.beq d))=false):∀d∈l,d∉T:=fun d hd ht=>by
 have:l.any (fun d=>T.any (Nat.beq d))=true:=List.any_eq_true.2 ⟨d,hd,List.any_eq_true.2 ⟨d,ht,Nat.beq_refl d⟩⟩
 rw[h] at this; cases this
theorem OG {T:List Nat}:∀{S:g9} {t:Nat} {b:Bool} {k:b8},look (FO T S) t=some (b,k)->∃k0,look S t=some (b,k0)/\(k=U3\/(k=k0/\∃e∈S,e.k=k/\∀d∈e.dep,d∉T))
 | e::S,t,b,k,h=>by
  simp only[FO,List.map_cons,look] at h ⊢
  cases hd:e.dep.any (fun d=>T.any (Nat.beq d)) with
  | true =>
   rw[hd] at h
   simp only[cond_true] at h
   cases hb:Nat.beq e.s t with
   | true=>rw[hb] at h; simp only[cond_true,Option.some.injEq,Prod.mk.injEq] at h ⊢; exact ⟨e.k,⟨h.1,rfl⟩,.inl h.2.symm⟩
   | false =>
    rw[hb] at h
    obtain ⟨k0,h1,h2⟩:=OG (S:=S) h
    exact ⟨k0,h1,h2.imp id fun ⟨h3,x,hx,h4⟩=>⟨h3,x,List.mem_cons_of_mem _ hx,h4⟩⟩
  | false =>
   rw[hd] at h
   simp only[cond_false] at h
   cases hb:Nat.beq e.s t with
   | true =>
    rw[hb] at h
    simp only[cond_true,Option.some.injEq,Prod.mk.injEq] at h ⊢
    exact ⟨e.k,⟨h.1,rfl⟩,.inr ⟨h.2.symm,e,List.mem_cons_self,h.2,SA hd⟩⟩
   | false =>
    rw[hb] at h
    obtain ⟨k0,h1,h2⟩:=OG (S:=S) h
    exact ⟨k0,h1,h2.imp id fun ⟨h3,x,hx,h4⟩=>⟨h3,x,List.mem_cons_of_mem _ hx,h4⟩⟩
theorem dB {T:List Nat} {S:g9} {e:SE} (h:e∈FO T S):(e∈S/\∀d∈e.dep,d∉T)\/(e.dep=[]/\e.k=U3):=by
 obtain ⟨x,hx,rfl⟩:=List.mem_map.1 h
 cases hd:x.dep.any (fun d=>T.any (Nat.beq d)) with
 | true=>exact .inr ⟨rfl,rfl⟩
 | false=>exact .inl ⟨hx,SA hd⟩
def KZ (T:List Nat) (M:f0):Bool:=M.all fun e=>!(e.dep.any fun d=>T.any (Nat.beq d))
theorem fE {T:List Nat} {M:f0} (h:KZ T M=true):∀e∈M,∀d∈e.dep,d∉T:=fun e he=>by
 have:=List.all_eq_true.1 h e he
 simp only[Bool.not_eq_true'] at this
 exact SA this
def OM (t i len:Nat):b8:=fun g v=>i<8/\q8 (t+i) len g v
instance {t i len:Nat}:o4 (OM t i len) (G3 t):=⟨fun hl hd ⟨h1,h2⟩=>⟨h1,(inferInstance:o4 (q8 (t+i) len) [t+i]).dep hl (fun q hq=>hd q (by simp only[List.mem_singleton] at hq; subst hq; exact FR.2 ⟨i,h1,rfl⟩)) h2⟩⟩
def OK (t i sz j len:Nat):b8:=fun g v=>i<8/\BZ (t+i) sz j len g v
instance {t i sz j len:Nat}:o4 (OK t i sz j len) (G3 t):=⟨fun hl hd ⟨h1,h2⟩=>⟨h1,(inferInstance:o4 (BZ (t+i) sz j len) [t+i]).dep hl (fun q hq=>hd q (by simp only[List.mem_singleton] at hq; subst hq; exact FR.2 ⟨i,h1,rfl⟩)) h2⟩⟩
end Go.Fl

/- Rows of rows that change in place: laws. -/
namespace Go.Fl
open Go Go.RowKit
def KD (l m:List Nat):Bool:=l.all fun q=>!(m.any (Nat.beq q))
theorem bH {l m:List Nat} (h:KD l m=true):∀q∈l,q∉m:=fun q hq hm=>by
 have:=List.all_eq_true.1 h q hq
 rw[List.any_eq_true.2 ⟨q,hm,Nat.beq_refl q⟩] at this; cases this
section
variable {c:l8} {S:g9} {M:f0} {a:Act} {g:Gh} {w:World}
theorem l4.fam (h:l4 c S M a g w) (t:Nat) (ity:TypeId) {hs:List Value} {rows:List (List Int)} (hz:∀j,j<hs.length->b6 hs j=.slice none 0 0/\b6 rows j=[]) (hf:KD (G3 t) (tags M)=true) :
  ∃g',l4 c S (Fl.fam t ity hs rows++M) a g' w:=by
 have hdis:=bH hf
 let g':Gh:=⟨g.J,fun q=>if q∈G3 t then some .nil else g.M q⟩
 have hold:∀q,q∈tags M->g'.M q=g.M q:=fun q hq=>if_neg fun hd=>hdis q hd hq
 have hblk:∀q b cap,g'.M q=some (.blk b cap)->g.M q=some (.blk b cap):=fun q b cap hq=>by
  simp only[g'] at hq
  by_cases e:q∈G3 t
  ·rw[if_pos e] at hq; cases hq
  ·rw[if_neg e] at hq; exact hq
 refine ⟨g',⟨h.ok.bel,h.ok.jle,h.ok.jold,h.ok.im,fun q b cap hq=>h.ok.own q b cap (hblk _ _ _ hq),fun q q' b c1 c2 h1 h2=>h.ok.inj q q' b c1 c2 (hblk _ _ _ h1) (hblk _ _ _ h2)⟩,?_,?_,?_,?_,?_,?_,h.defers,h.size⟩
 ·intro q b k hk
  obtain ⟨e,he,_,_,rfl⟩:=CY hk
  obtain ⟨h1,h2⟩:=h.slots q b _ hk
  exact ⟨fun hb=>(h.sdep e he).1.dep (g:=g) (g':=g') (JV.le_refl _) (fun q hq=>hold q ((h.sdep e he).2 q hq)) (h1 hb),h2⟩
 ·intro e he
  rcases List.mem_append.1 he with he | he
  ·obtain ⟨j,hj,rfl⟩:=EJ.1 he
   refine ⟨.nil,if_pos (FR.2 ⟨j,hj,rfl⟩),fun hl=>?_,fun _=>rfl⟩
   obtain ⟨e1,e2⟩:=hz j hl
   rw[e1,e2]
   exact ⟨⟨rfl,rfl⟩,rfl,rfl⟩
  ·obtain ⟨b,h1,h2⟩:=h.conts e he
   exact ⟨b,(hold _ (List.mem_map.2 ⟨e,he,rfl⟩)).trans h1,(h.cdep e he).1.dep (g:=g) (g':=g') (JV.le_refl _) (fun q hq=>hold q ((h.cdep e he).2 q hq)) h2⟩
 ·intro q hq
  show q∈tags (Fl.fam t ity hs rows++M)
  simp only[tags,List.map_append]
  refine List.mem_append.2 ?_
  by_cases e:q∈G3 t
  ·exact .inl e
  ·simp only[g',if_neg e] at hq; exact .inr (h.dom q hq)
 ·show (tags (Fl.fam t ity hs rows++M)).Nodup
  simp only[tags,List.map_append]
  refine List.nodup_append.2 ⟨?_,h.nodup,fun x hx y hy e=>hdis x hx (e▸hy)⟩
  simp
 ·intro e he
  exact ⟨(h.sdep e he).1,fun q hq=>by
   have:=(h.sdep e he).2 q hq
   simp only[List.map_append]
   exact List.mem_append.2 (.inr this)⟩
 ·intro e he
  rcases List.mem_append.1 he with he | he
  ·obtain ⟨j,hj,rfl⟩:=EJ.1 he
   exact ⟨inferInstance,fun _ h=>by cases h⟩
  ·exact ⟨(h.cdep e he).1,fun q hq=>by
    have:=(h.cdep e he).2 q hq
    simp only[List.map_append]
    exact List.mem_append.2 (.inr this)⟩
theorem l4.add (h:l4 c S M a g w) {s:Nat} {k:b8} {dep:List Nat} (hk:o4 k dep) (hd:∀q∈dep,q∈tags M) (hv:k g (a.tmps.getD s undef)):l4 c (⟨s,true,dep,k⟩::S) M a g w:=by
 refine ⟨h.ok,?_,h.conts,h.dom,h.nodup,?_,h.cdep,h.defers,h.size⟩
 ·intro q b k' hl
  simp only[look] at hl
  cases hb:Nat.beq s q with
  | true =>
   rw[hb] at hl
   simp only[cond_true,Option.some.injEq,Prod.mk.injEq] at hl
   obtain ⟨rfl,rfl⟩:=hl
   rw[<- Nat.eq_of_beq_eq_true hb]
   exact ⟨fun _=>hv,fun hf=>by cases hf⟩
  | false=>rw[hb] at hl; exact h.slots q b k' hl
 ·intro e he
  rcases List.mem_cons.1 he with rfl | he
  ·exact ⟨hk,hd⟩
  ·exact h.sdep e he
theorem l4.put (h:l4 c S M a g w) {N:f0} (hN:∀e∈N,∃b,g.M e.t=some b/\e.c g b (World.objAt w b)) (hd:∀e∈N,z7 e.c e.dep/\∀q∈e.dep,q∈tags M):l4 c S (L6 N M) a g w:=by
 refine ⟨h.ok,h.slots,fun e he=>?_,fun q hq=>?_,?_,fun e he=>?_,fun e he=>?_,h.defers,h.size⟩
 ·rcases IK he with he | ⟨he,_⟩
  ·exact hN e he
  ·exact h.conts e he
 ·show q∈tags (L6 N M); rw[X8]; exact h.dom q hq
 ·show (tags (L6 N M)).Nodup; rw[X8]; exact h.nodup
 ·exact ⟨(h.sdep e he).1,fun q hq=>by show q∈tags (L6 N M); rw[X8]; exact (h.sdep e he).2 q hq⟩
 ·rcases IK he with he | ⟨he,_⟩
  ·exact ⟨(hd e he).1,fun q hq=>by show q∈tags (L6 N M); rw[X8]; exact (hd e he).2 q hq⟩
  ·exact ⟨(h.cdep e he).1,fun q hq=>by show q∈tags (L6 N M); rw[X8]; exact (h.cdep e he).2 q hq⟩
theorem rN {r n:Nat} {v:Value} (h:q8 r n g v) {bk:Bk} (hb:g.M r=some bk):W9 bk n v/\v.oneCell'=true:=by
 rcases h with ⟨h1,h2,h3⟩ | ⟨b,cap,h1,h2⟩
 ·rw[hb] at h1; cases h1; subst h3; exact ⟨⟨rfl,h2⟩,rfl⟩
 ·rw[hb] at h1; cases h1; subst h2; exact ⟨rfl,rfl⟩
theorem vI {r n:Nat} {v:Value} {bk:Bk} (hb:g.M r=some bk) (h:W9 bk n v):q8 r n g v:=by
 cases bk with
 | nil=>exact .inl ⟨hb,h.2,h.1⟩
 | blk b cap=>exact .inr ⟨b,cap,hb,h⟩
theorem l4.raw (h:l4 c S M a g w) {s r n:Nat} {ct:s9} {dep:List Nat} (hl:look S s=some (true,q8 r n)) (hm:p8 M r ct dep):l4 c (⟨s,true,[],b7 U1 (a.tmps.getD s undef)⟩::S) (L6 [⟨r,dep,DZ (a.tmps.getD s undef) n ct⟩] M) a g w:=by
 obtain ⟨bk,h1,h2⟩:=h.conts _ hm.mem
 simp only at h1 h2
 obtain ⟨h3,h4⟩:=rN ((h.slots s _ _ hl).1 rfl) h1
 have hc:=h.cdep _ hm.mem
 have:=h.put (N:=[⟨r,dep,DZ (a.tmps.getD s undef) n ct⟩]) (fun e he=>by rw[List.mem_singleton.1 he]; exact ⟨bk,h1,h3,h2⟩) (fun e he=>by
  rw[List.mem_singleton.1 he]
  have:=hc.1
  exact ⟨inferInstance,hc.2⟩)
 exact this.add inferInstance (fun _ h=>by cases h) (gA.2 ⟨rfl,h4⟩)
theorem HM {t:Nat} {ity:TypeId} {hs:List Value} {rows:List (List Int)} (hsub:R9 (Fl.fam t ity hs rows) M) (hc:D9 M g w) {j:Nat} (hj:j<8):∃bk,g.M (t+j)=some bk/\v8 ity hs rows j g bk (World.objAt w bk):=by
 obtain ⟨bk,h1,h2⟩:=hc _ (hsub.mem _ (EJ.2 ⟨j,hj,rfl⟩))
 exact ⟨bk,h1,h2⟩
theorem qU {t:Nat} {ity:TypeId} {hs:List Value} {rows:List (List Int)} (hsub:R9 (Fl.fam t ity hs rows) M) (hc:D9 M g w) {j:Nat} (hj:j<8) (hn:hs.length<=j\/b6 rows j=[]):g.M (t+j)=some .nil:=by
 obtain ⟨bk,h1,h2,h3⟩:=HM hsub hc hj
 by_cases q:j<hs.length
 ·rcases hn with hn | hn
  ·omega
  ·obtain ⟨_,h4⟩:=h2 q
   cases bk with
   | nil=>exact h1
   | blk b cap=>exact absurd (by rw[hn]; rfl) (h4.2.1 rfl)
 ·rw[h1,h3 zo]
theorem YN {z z':Bool} {ty:TypeId} {α:Type} {e:i7 α} {xs:List α} {n:Nat} {g g':Gh} {bk:Bk} {o:Option Obj} (hJ:g'.J=g.J) (h:m9 z ty e xs n g bk o) (hz:z'=true->n≠0\/bk=.nil):m9 z' ty e xs n g' bk o:=by
 refine ⟨h.1,?_⟩
 cases bk with
 | nil=>exact h.2
 | blk b cap =>
  obtain ⟨h1,h2⟩:=h.2
  refine ⟨fun hh=>(hz hh).resolve_right (by simp),?_⟩
  rw[hJ]; exact h2
theorem l4.ren (h:l4 c S M a g w) {r t n k:Nat} {v:Value} {z:Bool} {ity:TypeId} {xs:List Int} {hs hs':List Value} {rows rows':List (List Int)} (hm:p8 M r (DZ v n (m9 z ity eI xs n)) []) (hsub:R9 (Fl.fam t ity hs rows) M) (hk:k<8) (hn0:0<n)
  (hnil:hs.length<=k\/b6 rows k=[]) (h1:k<hs'.length) (h2:b6 hs' k=v) (h3:b6 rows' k=xs) (h4:∀j,j≠k->(j<hs'.length->j<hs.length/\b6 hs' j=b6 hs j/\b6 rows' j=b6 rows j)/\(hs'.length<=j->hs.length<=j))
  (hr:KD [r] (G3 t)=true) (hoff:KZ (r::G3 t) M=true):∃g',l4 c (FO (r::G3 t) S) (AQ [r] (L6 (Fl.fam t ity hs' rows') M)) a g' w:=by
 have hrt:r∉G3 t:=bH hr r (by simp)
 obtain ⟨br,b1,b2,b3⟩:=h.conts _ hm.mem
 simp only at b1
 have hv:=qU hsub h.conts hk hnil
 have hkm:t+k∈G3 t:=FR.2 ⟨k,hk,rfl⟩
 have hrk:r≠t+k:=fun e=>hrt (e▸hkm)
 let g':Gh:=⟨g.J,fun q=>if q=r then none else if q=t+k then some br else g.M q⟩
 have gv:g'.M (t+k)=some br:=by simp only[g',if_neg (Ne.symm hrk),if_true]
 have gr:g'.M r=none:=by simp only[g',if_true]
 have go:∀q,q≠r->q≠t+k->g'.M q=g.M q:=fun q q1 q2=>by simp only[g',if_neg q1,if_neg q2]
 have hoffS:=fE hoff
 have src:∀q b cap,g'.M q=some (.blk b cap)->∃q0,g.M q0=some (.blk b cap)/\q0≠t+k/\((q=t+k/\q0=r)\/(q≠t+k/\q0=q/\q≠r)):=fun q b cap hq=>by
  by_cases e1:q=t+k
  ·subst e1; rw[gv] at hq; cases hq; exact ⟨r,b1,hrk,.inl ⟨rfl,rfl⟩⟩
  ·by_cases e2:q=r
   ·subst e2; rw[gr] at hq; cases hq
   ·rw[go q e2 e1] at hq; exact ⟨q,hq,e1,.inr ⟨e1,rfl,e2⟩⟩
 have hxl:xs.length=n:=b3.1
 refine ⟨g',⟨h.ok.bel,h.ok.jle,h.ok.jold,h.ok.im,fun q b cap hq=>by obtain ⟨q0,e,_⟩:=src q b cap hq; exact h.ok.own q0 b cap e,fun q q' b c1 c2 e1 e2=>?_⟩,?_,?_,?_,?_,?_,?_,h.defers,h.size⟩
 ·obtain ⟨q0,f1,f2,f3⟩:=src q b c1 e1
  obtain ⟨q1,f4,f5,f6⟩:=src q' b c2 e2
  have:=h.ok.inj _ _ _ _ _ f1 f4
  subst this
  rcases f3 with ⟨rfl,f3⟩ | ⟨f3,f7,f8⟩<;>rcases f6 with ⟨rfl,f6⟩ | ⟨f6,f9,f10⟩
  ·rfl
  ·exact absurd (f9.symm.trans f3) f10
  ·exact absurd (f7.symm.trans f6) f8
  ·exact f7.symm.trans f9
 ·intro q b k' hl
  obtain ⟨k0,f1,f2⟩:=OG hl
  obtain ⟨f3,f4⟩:=h.slots q b k0 f1
  refine ⟨fun hb=>?_,f4⟩
  rcases f2 with rfl | ⟨rfl,e,he,rfl,hnu⟩
  ·trivial
  ·exact (h.sdep e he).1.dep (g:=g) (g':=g') (JV.le_refl _) (fun q hq=>go q (fun e'=>hnu q hq (e'▸List.mem_cons_self)) (fun e'=>hnu q hq (e'▸List.mem_cons_of_mem _ hkm))) (f3 hb)
 ·intro e he
  obtain ⟨he,hne⟩:=Z6.1 he
  simp only[List.mem_singleton] at hne
  rcases IK he with he | ⟨he,hnt⟩
  ·obtain ⟨j,hj,rfl⟩:=EJ.1 he
   by_cases ej:j=k
   ·subst ej
    refine ⟨br,gv,fun _=>?_,fun hh=>by omega⟩
    rw[h2,h3,hxl]
    exact ⟨b2,YN (g:=g) rfl b3 (fun _=>.inl zo)⟩
   ·obtain ⟨bk,f1,f2,f3⟩:=HM hsub h.conts hj
    obtain ⟨g1,g2⟩:=h4 j ej
    refine ⟨bk,(go _ hne (by show t+j≠t+k; omega)).trans f1,fun hl=>?_,fun hl=>f3 (g2 hl)⟩
    obtain ⟨q1,q2,q3⟩:=g1 hl
    rw[q2,q3]
    obtain ⟨p1,p2⟩:=f2 q1
    exact ⟨p1,YN (g:=g) rfl p2 (fun hh=>by
     cases bk with
     | nil=>exact .inr rfl
     | blk b cap=>exact .inl (p2.2.1 rfl))⟩
  ·obtain ⟨bk,f1,f2⟩:=h.conts e he
   have hnt:e.t∉G3 t:=hnt
   refine ⟨bk,(go _ hne (fun e'=>hnt (e'▸hkm))).trans f1,?_⟩
   exact (h.cdep e he).1.dep (g:=g) (g':=g') (JV.le_refl _) (fun q hq=>go q (fun e'=>hoffS e he q hq (e'▸List.mem_cons_self)) (fun e'=>hoffS e he q hq (e'▸List.mem_cons_of_mem _ hkm))) f2
 ·intro q hq
  obtain ⟨e,he,rfl⟩:∃e∈L6 (Fl.fam t ity hs' rows') M,e.t=q:=by
   have:q∈tags M:=by
    by_cases e1:q=t+k
    ·rw[e1]; exact h.dom _ (by rw[hv]; simp)
    ·by_cases e2:q=r
     ·rw[e2,gr] at hq; exact absurd rfl hq
     ·rw[go q e2 e1] at hq; exact h.dom q hq
   rw[<- X8 (N:=Fl.fam t ity hs' rows')] at this
   exact List.mem_map.1 this
  refine List.mem_map.2 ⟨e,Z6.2 ⟨he,fun hh=>?_⟩,rfl⟩
  rw[List.mem_singleton.1 hh,gr] at hq; exact hq rfl
 ·exact List.Nodup.sublist NI (by rw[X8]; exact h.nodup)
 ·intro e he
  rcases dB he with ⟨f1,f2⟩ | ⟨f1,f2⟩
  ·refine ⟨(h.sdep e f1).1,fun q hq=>?_⟩
   have:=(h.sdep e f1).2 q hq
   have:q∈tags M:=this
   rw[<- X8 (N:=Fl.fam t ity hs' rows')] at this
   obtain ⟨x,hx,rfl⟩:=List.mem_map.1 this
   exact List.mem_map.2 ⟨x,Z6.2 ⟨hx,fun hh=>f2 _ hq (by rw[List.mem_singleton.1 hh]; exact List.mem_cons_self)⟩,rfl⟩
  ·rw[f1,f2]; exact ⟨inferInstance,fun _ h=>by cases h⟩
 ·intro e he
  obtain ⟨he,hne⟩:=Z6.1 he
  rcases IK he with he | ⟨he,hnt⟩
  ·obtain ⟨j,hj,rfl⟩:=EJ.1 he
   exact ⟨inferInstance,fun _ h=>by cases h⟩
  ·refine ⟨(h.cdep e he).1,fun q hq=>?_⟩
   have:q∈tags M:=(h.cdep e he).2 q hq
   rw[<- X8 (N:=Fl.fam t ity hs' rows')] at this
   obtain ⟨x,hx,rfl⟩:=List.mem_map.1 this
   exact List.mem_map.2 ⟨x,Z6.2 ⟨hx,fun hh=>hoffS e he _ hq (by rw[List.mem_singleton.1 hh]; exact List.mem_cons_self)⟩,rfl⟩
theorem l4.asRow (h:l4 c S M a g w) {s t i:Nat} {ity:TypeId} {hs:List Value} {rows:List (List Int)} (hl:look S s=some (true,b7 U1 (b6 hs i))) (hsub:R9 (Fl.fam t ity hs rows) M) (hi:i<hs.length) (h8:i<8):l4 c (⟨s,true,G3 t,OM t i (b6 rows i).length⟩::S) M a g w:=by
 obtain ⟨bk,f1,f2,_⟩:=HM hsub h.conts h8
 have hv:=gA.1 ((h.slots s _ _ hl).1 rfl)
 refine h.add inferInstance (fun q hq=>?_) ⟨h8,?_⟩
 ·obtain ⟨j,hj,rfl⟩:=FR.1 hq
  exact List.mem_map.2 ⟨_,hsub.mem _ (EJ.2 ⟨j,hj,rfl⟩),rfl⟩
 ·rw[hv.1]; exact vI f1 (f2 hi).1
end
section
variable {P:Program} {c:l8} {ops:Array Oper} {S:g9} {M:f0} {rest:List Oper} {Q:Exit->Act->World->Prop} {x:Code}
theorem Tr.fam (t:Nat) (ity:TypeId) {hs:List Value} {rows:List (List Int)} (hz:∀j,j<hs.length->b6 hs j=.slice none 0 0/\b6 rows j=[]) (hf:KD (G3 t) (tags M)=true) (K:Tr P c S (Fl.fam t ity hs rows++M) x Q):Tr P c S M x Q:=fun a _ w hs=>let ⟨g',h'⟩:=hs.fam t ity hz hf; K a g' w h'
theorem d5.raw (s r:Nat) {n:Nat} {ct:s9} {dep:List Nat} (hl:look S s=some (true,q8 r n)) [hm:p8 M r ct dep] (K:∀v,d5 P c ops (⟨s,true,[],b7 U1 v⟩::S) (L6 [⟨r,dep,DZ v n ct⟩] M) rest Q):d5 P c ops S M rest Q:=fun a g w hs=>K _ a g w (hs.raw hl hm)
theorem d5.ren (r t k:Nat) (hs':List Value) (rows':List (List Int)) {n:Nat} {v:Value} {z:Bool} {ity:TypeId} {xs:List Int} {hs:List Value} {rows:List (List Int)} [hm:p8 M r (DZ v n (m9 z ity eI xs n)) []] (_hfam:p8 M t (v8 ity hs rows 0) []) [hsub:R9 (Fl.fam t ity hs rows) M] (hk:k<8) (hn0:0<n)
  (hnil:hs.length<=k\/b6 rows k=[]) (h1:k<hs'.length) (h2:b6 hs' k=v) (h3:b6 rows' k=xs) (h4:∀j,j≠k->(j<hs'.length->j<hs.length/\b6 hs' j=b6 hs j/\b6 rows' j=b6 rows j)/\(hs'.length<=j->hs.length<=j))
  (hr:KD [r] (G3 t)=true) (hoff:KZ (r::G3 t) M=true) (K:d5 P c ops (FO (r::G3 t) S) (AQ [r] (L6 (Fl.fam t ity hs' rows') M)) rest Q):d5 P c ops S M rest Q:=fun a _ w hs=>let ⟨g',h'⟩:=hs.ren hm hsub hk hn0 hnil h1 h2 h3 h4 hr hoff; K a g' w h'
theorem d5.asRow (s t:Nat) {i:Nat} {ity:TypeId} {hs:List Value} {rows:List (List Int)} (hl:look S s=some (true,b7 U1 (b6 hs i))) (_hfam:p8 M t (v8 ity hs rows 0) []) [hsub:R9 (Fl.fam t ity hs rows) M] (hi:i<hs.length) (h8:i<8) (K:d5 P c ops (⟨s,true,G3 t,OM t i (b6 rows i).length⟩::S) M rest Q):d5 P c ops S M rest Q:=fun a g w h=>K a g w (h.asRow hl hsub hi h8)
end
end Go.Fl

/- Rows of rows that change in place: elements, freezing. -/
namespace Go.Fl
open Go Go.RowKit
section
variable {P:Program} {c:l8} {S:g9} {M:f0} {p:Bool} {d:Option Tmp} {ty:TypeId} {pos:String} {af:Array Edge} {gd:Option (Nat×Bool)} {x y:Operand} {b b':Bool}
theorem TX {g:Gh} {w:World} {t:Nat} {ity:TypeId} {hs:List Value} {rows:List (List Int)} (hsub:R9 (Fl.fam t ity hs rows) M) (hc:D9 M g w) {j b cap:Nat} (hj:j<8) (hb:g.M (t+j)=some (.blk b cap)) :
  j<hs.length/\b6 hs j=.slice (some ⟨b,0,none⟩) (b6 rows j).length cap/\(b6 rows j).length≠0/\∃cs:Array Value,w.heap[b]?=some (.cells cs ity (0,0))/\cs.size=cap*1/\(b6 rows j).length<=cap/\cap<=maxLen/\∀i x,(b6 rows j)[i]?=some x->∃ds,eI.rd g.J ds x/\∀q v,ds[q]?=some v->cs[i*1+q]?=some v:=by
 obtain ⟨bk,h1,h2,h3⟩:=HM hsub hc hj
 rw[hb] at h1; cases h1
 have hl:j<hs.length:=Nat.lt_of_not_le fun q=>by cases h3 q
 obtain ⟨h4,h5,h6,cs,h7⟩:=h2 hl
 exact ⟨hl,h4,h6 rfl,cs,h7⟩
theorem PE {t:TypeId} [ht:E0 P t] {ity:TypeId} {hs:List Value} {rows:List (List Int)} {t0 k j len:Nat} (_hfam:p8 M t0 (v8 ity hs rows 0) []) [hsub:R9 (Fl.fam t0 ity hs rows) M] (hx:j1 S x=some (b,OK t0 k 1 j len)) (hb:p=true->b=true)
  (hj:p=true->j<(b6 rows k).length):l3 P c S M ⟨d,.load t x,ty,pos,af,gd⟩ p (kI (b6 (b6 rows k) j)) none :=
 l3.pure fun hp a g w hok hc ho=>by
  obtain ⟨h8,hlt,bl,cap,h1,h2⟩:=ho x (by simp[Op.operands]) b _ hx (hb hp)
  obtain ⟨_,_,_,cs,h3,_,_,_,h5⟩:=TX hsub hc h8 h1
  obtain ⟨ds,k1,k2⟩:=h5 j _ (G0 (hj hp))
  have k1:ds=[.int .i64 (b6 (b6 rows k) j)]:=k1
  subst k1
  have hc:=k2 0 _ rfl
  have hcell:w.cell? ⟨bl,j*1,none⟩=some (.int .i64 (b6 (b6 rows k) j)):=J6 h3 (by simpa using hc)
  exact ⟨_,by simp only[execOp,h2,Sem.run_bind,LI (P:=P) (t:=t) hcell,Result.andThen_ok,Sem.run_pure],rfl⟩
end
section
variable {c:l8} {S:g9} {M:f0} {a:Act} {g:Gh} {w:World}
theorem l4.setR (h:l4 c S M a g w) {t k j:Nat} {ity:TypeId} {hs:List Value} {rows:List (List Int)} (hsub:R9 (Fl.fam t ity hs rows) M) (hk:k<8) {b cap:Nat} (hb:g.M (t+k)=some (.blk b cap)) (hj:j<(b6 rows k).length) (hrl:k<rows.length) {z:Int} {cs:Array Value} (hcs:w.heap[b]?=some (.cells cs ity (0,0))) :
  l4 c S (L6 (Fl.fam t ity hs (rows.set k ((b6 rows k).set j z))) M) a g (w.setRow b (cs.setIfInBounds j (.int .i64 z))):=by
 obtain ⟨f1,f2,f3,cs',f4,f5,f6,f7,f8⟩:=TX hsub h.conts hk hb
 rw[hcs] at f4
 simp only[Option.some.injEq,Obj.cells.injEq,and_true] at f4
 subst f4
 obtain ⟨q1,q2,q3⟩:=h.ok.own _ _ _ hb
 have hother:∀q,q≠b->(w.setRow b (cs.setIfInBounds j (.int .i64 z))).heap[q]?=w.heap[q]?:=fun q hq=>setRow_other w b q _ hq
 have hrow:∀i,i≠k->b6 (rows.set k ((b6 rows k).set j z)) i=b6 rows i:=fun i hi=>by
  simp[b6,List.getElem?_set_ne (Ne.symm hi)]
 have hself:b6 (rows.set k ((b6 rows k).set j z)) k=(b6 rows k).set j z:=by simp[b6,hrl]
 have keep:∀bk q,g.M q=some bk->q≠t+k->World.objAt (w.setRow b (cs.setIfInBounds j (.int .i64 z))) bk=World.objAt w bk:=fun bk q hq hne=>by
  cases bk with
  | nil=>rfl
  | blk b2 cap2=>exact hother b2 (fun e=>by subst e; exact hne (h.ok.inj _ _ _ _ _ hq hb))
 refine ⟨⟨⟨h.ok.bel.os,h.ok.bel.tape,h.ok.bel.output,by simpa using h.ok.bel.size,fun q hq hnb=>?_,h.ok.bel.drawn⟩,h.ok.jle,h.ok.jold,fun b2 o v hv=>?_,fun q b2 cap2 hq=>?_,h.ok.inj⟩,h.slots,?_,?_,?_,?_,?_,h.defers.on fun D hD=>hother D (fun e=>by subst e; rw[hcs] at hD; cases hD),h.size⟩
 ·rw[hother q (fun e=>by subst e; rcases q1 with q1 | q1; omega; exact hnb q1)]
  exact h.ok.bel.block q hq hnb
 ·have:=h.ok.im b2 o v hv
  rw[World.cell?_of_block (w:=w) (hother b2 (fun e=>by subst e; rw[q3 o] at hv; cases hv))]
  exact this
 ·obtain ⟨h1,h2,h3⟩:=h.ok.own q b2 cap2 hq
  exact ⟨h1,by simpa using h2,h3⟩
 ·intro e he
  rcases IK he with he | ⟨he,hnt⟩
  ·obtain ⟨i,hi,rfl⟩:=EJ.1 he
   by_cases ei:i=k
   ·subst ei
    refine ⟨_,hb,fun _=>?_,fun hh=>by omega⟩
    rw[hself,List.length_set]
    refine ⟨f2,by rw[List.length_set],fun _=>f3,cs.setIfInBounds j (.int .i64 z),by simp only[World.objAt]; exact setRow_heap w b cs _ ity (0,0) hcs,by show (cs.setIfInBounds j (.int .i64 z)).size=cap*1; simp; omega,f6,f7,fun q v hq=>?_⟩
    by_cases e:j=q
    ·subst e
     rw[List.getElem?_set_self hj] at hq
     simp only[Option.some.injEq] at hq
     subst hq
     refine ⟨_,rfl,fun r u hu=>?_⟩
     match r with
     | 0 =>
      simp at hu; subst hu
      have:j<cs.size:=by omega
      show (cs.setIfInBounds j (.int .i64 z))[j*1+0]?=_
      simp[this]
     | r+1=>simp at hu
    ·rw[List.getElem?_set_ne e] at hq
     obtain ⟨ds,k1,k2⟩:=f8 q v hq
     refine ⟨ds,k1,fun r u hu=>?_⟩
     have k1:ds=[.int .i64 v]:=k1
     subst k1
     match r with
     | 0 =>
      have:=k2 0 u hu
      show (cs.setIfInBounds j (.int .i64 z))[q*1+0]?=_
      rw[Array.getElem?_setIfInBounds_ne zo]
      exact this
     | r+1=>simp at hu
   ·obtain ⟨bk,g1,g2,g3⟩:=HM hsub h.conts hi
    refine ⟨bk,g1,fun hl=>?_,g3⟩
    rw[hrow i ei,keep bk _ g1 (by show t+i≠t+k; omega)]
    exact g2 hl
  ·obtain ⟨bk,g1,g2⟩:=h.conts e he
   refine ⟨bk,g1,?_⟩
   rw[keep bk _ g1 (fun e'=>hnt (by rw[e']; exact FR.2 ⟨k,hk,rfl⟩))]
   exact g2
 ·intro q hq
  show q∈tags (L6 _ M); rw[X8]; exact h.dom q hq
 ·show (tags (L6 _ M)).Nodup; rw[X8]; exact h.nodup
 ·intro e he
  exact ⟨(h.sdep e he).1,fun q hq=>by show q∈tags (L6 _ M); rw[X8]; exact (h.sdep e he).2 q hq⟩
 ·intro e he
  rcases IK he with he | ⟨he,_⟩
  ·obtain ⟨i,hi,rfl⟩:=EJ.1 he
   exact ⟨inferInstance,fun _ h=>by cases h⟩
  ·exact ⟨(h.cdep e he).1,fun q hq=>by show q∈tags (L6 _ M); rw[X8]; exact (h.cdep e he).2 q hq⟩
end
section
variable {P:Program} {c:l8} {ops:Array Oper} {S:g9} {M:f0} {rest:List Oper} {Q:Exit->Act->World->Prop}
variable {ty:TypeId} {pos:String} {af:Array Edge} {x y:Operand}
theorem d5.stR {t:TypeId} {by':Nat} {zz:Value} [hz:q7 P t 1 by' zz] {ity:TypeId} {hs:List Value} {rows:List (List Int)} {t0 k j len:Nat} {z:Int} (_hfam:p8 M t0 (v8 ity hs rows 0) []) [hsub:R9 (Fl.fam t0 ity hs rows) M] (hx:j1 S x=some (true,OK t0 k 1 j len)) (hy:j1 S y=some (true,kI z))
  (hj:j<(b6 rows k).length) (K:d5 P c ops S (L6 (Fl.fam t0 ity hs (rows.set k ((b6 rows k).set j z))) M) rest Q):d5 P c ops S M (⟨none,.store t x y,ty,pos,af,none⟩::rest) Q:=by
 intro a g w hsat
 obtain ⟨h8,hlt,b,cap,hm,he⟩:=B5 hsat.slots hx rfl
 have hv:a.eval y=.int .i64 z:=B5 hsat.slots hy rfl
 obtain ⟨f1,f2,f3,cs,f4,f5,f6,f7,f8⟩:=TX hsub hsat.conts h8 hm
 have hrl:k<rows.length:=Nat.lt_of_not_le fun q=>by rw[show b6 rows k=[] by simp[b6,List.getElem?_eq_none q]; rfl] at hj; exact absurd hj (Nat.not_lt_zero _)
 have hin:j<cs.size:=by omega
 have hr:=IS (P:=P) (t:=t) (o:=j*1) (v:=.int .i64 z) f4 rfl zo (fun u hu=>by simp[Value.cells] at hu; subst hu; rfl)
 refine wpList_plain rfl fun K' hK'=>?_
 unfold Oper.wp
 simp only[execOp,he,hv,Sem.run_bind,hr,Result.andThen_ok,Sem.run_pure,Oper.upon,Act.put]
 have e:(cs.toList.take (j*1)++(Value.int .i64 z).cells.toList++cs.toList.drop (j*1+1)).toArray=cs.setIfInBounds j (.int .i64 z):=by
  apply Array.ext'
  rw[Nat.mul_one]
  simp only[Array.toList_setIfInBounds,Value.cells,List.append_assoc]
  rw[List.set_eq_take_append_cons_drop,if_pos (by simpa using hin)]
  simp
 rw[e]
 exact hK' _ _ (K a g _ (hsat.setR hsub h8 hm hj hrl f4))
end
section
variable {P:Program} {ops:Array Oper} {S:g9} {M:f0} {rest:List Oper} {Q:Exit->Act->World->Prop} {x:Code}
variable {w0:World} {J0:JV} {n:Nat} {rd:Option Nat} {mrk:Bool} {om:List Nat}
theorem l4.frzM {a:Act} {g:Gh} {w:World} (h:l4 ⟨w0,J0,[],n,rd,mrk,om⟩ S M a g w) {s t u len:Nat} {z:Bool} {oty ity:TypeId} {hs:List Value} {rows:List (List Int)} (hl:look S s=some (true,q8 u len)) (hu:p8 M u (m9 z oty U1 hs len) []) (hsub:R9 (Fl.fam t ity hs rows) M) (h8:hs.length<=8)
  (hr:rows.length=hs.length) (hlen:∀i,(b6 rows i).length<=t6) (hoff:KZ (u::G3 t) M=true):∃g',l4 ⟨w0,J0,[],n,rd,mrk,om⟩ (⟨s,true,[],b7 (eL (eL eI)) rows⟩::FO (u::G3 t) S) (AQ (u::G3 t) M) a g' w:=by
 classical
 let T:=u::G3 t
 let am:Nat->Prop:=fun b=>∃q∈T,∃cap,g.M q=some (.blk b cap)
 let J':JV:=fun b o=>if am b then w.cell? ⟨b,o,none⟩ else g.J b o
 let g':Gh:=⟨J',fun q=>if q∈T then none else g.M q⟩
 have hoffS:=fE hoff
 have gn:∀q,q∉T->g'.M q=g.M q:=fun q hq=>if_neg hq
 have gs:∀q b cap,g'.M q=some (.blk b cap)->q∉T/\g.M q=some (.blk b cap):=fun q b cap hq=>by
  simp only[g'] at hq
  by_cases e:q∈T
  ·rw[if_pos e] at hq; cases hq
  ·rw[if_neg e] at hq; exact ⟨e,hq⟩
 have hJ:g.J.le J':=fun b o v hv=>by
  have:¬am b:=fun ⟨q,_,cap,e⟩=>by rw[(h.ok.own q b cap e).2.2 o] at hv; cases hv
  show (if am b then _ else _)=_
  rw[if_neg this]; exact hv
 have inJ:∀{q b cap cs ty},q∈T->g.M q=some (.blk b cap)->w.heap[b]?=some (.cells cs ty (0,0))->∀o v,cs[o]?=some v->J' b o=some v:=fun {q b cap cs ty} hq e hh o v hv=>by
  show (if am b then _ else _)=_
  rw[if_pos ⟨q,hq,cap,e⟩]
  exact J6 hh hv
 have row:∀i,i<hs.length->(eL eI).rd J' [b6 hs i] (b6 rows i):=fun i hi=>by
  obtain ⟨bk,f1,f2,f3⟩:=HM hsub h.conts (show i<8 by omega)
  obtain ⟨f4,f5⟩:=f2 hi
  cases bk with
  | nil =>
   have e1:b6 hs i=.slice none 0 0:=f4.1
   have e2:(b6 rows i).length=0:=f4.2
   exact ⟨none,0,by rw[e1,e2],⟨hlen i,by omega⟩,.inl (List.eq_nil_of_length_eq_zero e2)⟩
  | blk b cap =>
   have e1:b6 hs i=.slice (some ⟨b,0,none⟩) (b6 rows i).length cap:=f4
   obtain ⟨_,_,cs,g1,g2,g3,g4,g5⟩:=f5
   refine ⟨_,_,by rw[e1],⟨hlen i,g3⟩,.inr ⟨b,0,rfl,fun j y hy=>?_⟩⟩
   obtain ⟨ds,k1,k2⟩:=g5 j y hy
   refine ⟨ds,k1,fun q v hq=>?_⟩
   have:=k2 q v hq
   exact inJ (List.mem_cons_of_mem _ (FR.2 ⟨i,by omega,rfl⟩)) f1 g1 _ v (by rw[Nat.zero_add]; exact this)
 refine ⟨g',⟨h.ok.bel,JV.le_trans h.ok.jle hJ,fun b o hlt=>?_,fun b o v hv=>?_,fun q b cap hq=>?_,fun q q' b c1 c2 e1 e2=>h.ok.inj q q' b c1 c2 (gs _ _ _ e1).2 (gs _ _ _ e2).2⟩,?_,?_,?_,?_,?_,?_,h.defers,h.size⟩
 ·show (if am b then _ else _)=_
  rw[if_neg fun ⟨q,_,cap,e⟩=>by
   rcases (h.ok.own q b cap e).1 with e | e
   ·exact absurd hlt (Nat.not_lt.2 e)
   ·cases e]
  exact h.ok.jold b o hlt
 ·have hv:(if am b then w.cell? ⟨b,o,none⟩ else g.J b o)=some v:=hv
  by_cases e:am b
  ·rw[if_pos e] at hv; exact hv
  ·rw[if_neg e] at hv; exact h.ok.im b o v hv
 ·obtain ⟨hne,hq⟩:=gs _ _ _ hq
  obtain ⟨q1,q2,q3⟩:=h.ok.own q b cap hq
  refine ⟨q1,q2,fun o=>?_⟩
  show (if am b then _ else _)=_
  rw[if_neg fun ⟨q',hq',cap',e⟩=>hne (by rw[h.ok.inj _ _ _ _ _ hq e]; exact hq')]
  exact q3 o
 ·intro q b k' hlk
  simp only[look] at hlk
  cases hb:Nat.beq s q with
  | true =>
   rw[hb] at hlk
   simp only[cond_true,Option.some.injEq,Prod.mk.injEq] at hlk
   obtain ⟨rfl,rfl⟩:=hlk
   rw[<- Nat.eq_of_beq_eq_true hb]
   refine ⟨fun _=>?_,fun hf=>by cases hf⟩
   have hk:=(h.slots s _ _ hl).1 rfl
   obtain ⟨bu,u1,u2,u3⟩:=h.conts _ hu.mem
   simp only at u1 u2 u3
   rcases hk with ⟨k1,k2,k3⟩ | ⟨bb,cap,k1,k2⟩
   ·have e0:rows=[]:=List.eq_nil_of_length_eq_zero zo
    refine ⟨[.slice none 0 0],⟨none,0,by rw[e0]; rfl,⟨by rw[e0]; exact Nat.zero_le _,by rw[e0]; exact Nat.zero_le _⟩,.inl e0⟩,k3⟩
   ·rw[k1] at u1; cases u1
    obtain ⟨_,cs,c1,c2,c3,c4,c5⟩:=u3
    have el:rows.length=len:=by omega
    refine ⟨[.slice (some ⟨bb,0,none⟩) rows.length cap],⟨_,_,rfl,⟨by simp only[t6]; omega,by omega⟩,.inr ⟨bb,0,rfl,fun i y hy=>?_⟩⟩,by rw[el]; exact k2⟩
    have hil:i<rows.length:=(List.getElem?_eq_some_iff.1 hy).1
    have ey:y=b6 rows i:=by simp[b6,hy]
    subst ey
    refine ⟨[b6 hs i],row i zo,fun q v hq=>?_⟩
    match q with
    | 0 =>
     simp at hq; subst hq
     obtain ⟨ds,d1,d2⟩:=c5 i (b6 hs i) (G0 zo)
     have d1:ds=[b6 hs i]:=d1.1
     subst d1
     have:=d2 0 _ rfl
     exact inJ List.mem_cons_self k1 c1 _ _ (by rw[Nat.zero_add]; exact this)
    | q+1=>simp at hq
  | false =>
   rw[hb] at hlk
   obtain ⟨k0,f1,f2⟩:=OG hlk
   obtain ⟨f3,f4⟩:=h.slots q b k0 f1
   refine ⟨fun hb=>?_,f4⟩
   rcases f2 with rfl | ⟨rfl,e,he,rfl,hnu⟩
   ·trivial
   ·exact (h.sdep e he).1.dep (g:=g) (g':=g') hJ (fun q hq=>gn q (hnu q hq)) (f3 hb)
 ·intro e he
  obtain ⟨he,hne⟩:=Z6.1 he
  obtain ⟨bk,f1,f2⟩:=h.conts e he
  exact ⟨bk,(gn _ hne).trans f1,(h.cdep e he).1.dep (g:=g) (g':=g') hJ (fun q hq=>gn q (hoffS e he q hq)) f2⟩
 ·intro q hq
  by_cases e:q∈T
  ·simp only[g',if_pos e] at hq; exact absurd rfl hq
  ·rw[gn q e] at hq
   obtain ⟨y,hy,rfl⟩:=List.mem_map.1 (h.dom q hq)
   exact List.mem_map.2 ⟨y,Z6.2 ⟨hy,e⟩,rfl⟩
 ·exact List.Nodup.sublist NI h.nodup
 ·intro e he
  rcases List.mem_cons.1 he with rfl | he
  ·exact ⟨inferInstance,fun _ h=>by cases h⟩
  ·rcases dB he with ⟨f1,f2⟩ | ⟨f1,f2⟩
   ·refine ⟨(h.sdep e f1).1,fun q hq=>?_⟩
    obtain ⟨y,hy,rfl⟩:=List.mem_map.1 ((h.sdep e f1).2 q hq)
    exact List.mem_map.2 ⟨y,Z6.2 ⟨hy,f2 _ hq⟩,rfl⟩
   ·rw[f1,f2]; exact ⟨inferInstance,fun _ h=>by cases h⟩
 ·intro e he
  obtain ⟨he,_⟩:=Z6.1 he
  refine ⟨(h.cdep e he).1,fun q hq=>?_⟩
  obtain ⟨y,hy,rfl⟩:=List.mem_map.1 ((h.cdep e he).2 q hq)
  exact List.mem_map.2 ⟨y,Z6.2 ⟨hy,hoffS e he _ hq⟩,rfl⟩
theorem Tr.frzM (s u t:Nat) {len:Nat} {z:Bool} {oty ity:TypeId} {hs:List Value} {rows:List (List Int)} (hl:look S s=some (true,q8 u len)) [hu:p8 M u (m9 z oty U1 hs len) []] (_hfam:p8 M t (v8 ity hs rows 0) []) [hsub:R9 (Fl.fam t ity hs rows) M] (h8:hs.length<=8)
  (hr:rows.length=hs.length) (hlen:∀i,(b6 rows i).length<=t6) (hoff:KZ (u::G3 t) M=true) (K:Tr P ⟨w0,J0,[],n,rd,mrk,om⟩ (⟨s,true,[],b7 (eL (eL eI)) rows⟩::FO (u::G3 t) S) (AQ (u::G3 t) M) x Q):Tr P ⟨w0,J0,[],n,rd,mrk,om⟩ S M x Q:=fun a _ w h=>let ⟨g',h'⟩:=h.frzM hl hu hsub h8 hr hlen hoff; K a g' w h'
end
end Go.Fl

/- Functions that are gone through in place, with endings of many kinds; drawn regions over rows of the family. -/
namespace Go.Fl
open Go Go.RowKit
section
variable {P:Program} {c:l8} {S:g9} {M:f0} {Sp:World->Prop} {d:Option Tmp} {ty:TypeId} {pos:String} {af:Array Edge} {gd:Option (Nat×Bool)} {x y:Operand}
theorem RD {t et:TypeId} [ht:C5 P t et] {sz by':Nat} {zz:Value} [hz:q7 P et sz by' zz] {t0 k len:Nat} {ik:IntKind} {i:Int} (hx:j1 S x=some (true,OM t0 k len)) (hy:j1 S y=some (true,y3 ik i)) (h:0<=i/\i<len) :
  CP P c S M Sp ⟨d,.indexAddr t x y,ty,pos,af,gd⟩ (OK t0 k sz i.toNat len):=fun a g _ hs _=>by
 have hi:a.eval y=_:=B5 hs.slots hy rfl
 obtain ⟨h8,hr⟩:=B5 hs.slots hx rfl
 rcases hr with ⟨_,h0,_⟩ | ⟨bk,cap,h1,h2⟩
 ·omega
 ·exact ⟨.pointer (some ⟨bk,0+i.toNat*sz,none⟩),fun _ _=>by simp only[execOp,h2,hi,Sem.run_bind,KL (P:=P) h,Result.andThen_ok,Sem.run_pure],h8,by omega,bk,cap,h1,by simp⟩
end
def LY {σ:Type} (c:l8) (keep:List Nat) (bks:Nat->Bk) (M:σ->f0) (res:σ->b8) (R:σ->Prop):Ending->World->Prop:=fun e w'=>∃s,R s/\YB c keep bks (M s) (res s) e w'
section
variable {P:Program} {ops:Array Oper} {S:g9} {M:f0} {rest:List Oper} {Q:Exit->Act->World->Prop}
variable {d:Nat} {ty:TypeId} {pos:String} {af:Array Edge} {w0:World} {J0:JV} {bor om:List Nat} {n:Nat} {rd:Option Nat} {mrk:Bool}
theorem d5.inlX {σ:Type} {f:FuncId} [hf:d8 P f] {fn:Func} {code:Code} {n':Nat} {args:List Operand} {tys:Array TypeId} {ks:List b8} {ds:List (List Nat)} {dep:List Nat} (keep:List Nat)
  (hfn:P.funcs[f]?=some fn) (hb:fn.body=some code) (hn':fn.ntmps=n') (hlen:Nat.ble ks.length n'=true)
  (ha:DN S true args ks) [hds:FA ks ds] (hdt:ds.all (fun d=>s5 d (tags M))=true) (hkt:s5 keep (tags M)=true)
  (M':σ->f0) (res:σ->b8) (R:σ->Prop) (hkt':∀s,s5 keep (tags (M' s))=true) (hkr:∀s,o4 (res s) dep) (W9:∀s,s5 dep (tags (M' s))=true) (hn:Nat.blt d n=true)
  (h:∀(J:JV) (bks:Nat->Bk) (om':List Nat),Tr P ⟨w0,J,bor,n',none,false,om'⟩ (DH 0 ds ks++I1 n' bks keep) M code (bodyPost P fn (LY ⟨w0,J,bor,n',none,false,om'⟩ keep bks M' res R)))
  (K:∀s,R s->d5 P ⟨w0,J0,bor,n,rd,mrk,om⟩ ops (⟨d,true,dep,res s⟩::HT keep S) (M' s) rest Q):d5 P ⟨w0,J0,bor,n,rd,mrk,om⟩ ops S M (⟨some d,.call { callee:=.value (.func f),args:=args.toArray,argTypes:=tys },ty,pos,af,none⟩::rest) Q:=by
 intro a g w hsat
 have hdn:d<n:=by simpa [Nat.blt_eq] using hn
 have hall:=ha.eval (g:=g) (ρ:=a.eval) rfl (fun y _ b k hk hb=>B5 hsat.slots hk hb)
 have hall_len:=I2 hall
 have hle:ks.length<=n':=Nat.le_of_ble_eq_true hlen
 have hM:∀t∈tags M,∃bk,g.M t=some bk:=fun t ht=>by
  obtain ⟨e,he,rfl⟩:=List.mem_map.1 ht
  obtain ⟨bk,h1,_⟩:=hsat.conts e he
  exact ⟨bk,h1⟩
 have hkeep:∀t∈keep,g.M t=some ((g.M t).getD .nil):=fun t ht=>by
  obtain ⟨bk,h1⟩:=hM t (A1 hkt t ht)
  rw[h1]; rfl
 have hr:Calls P f (args.map a.eval).toArray w (LY ⟨w0,g.J,bor,n',none,false,om++KU a.defers⟩ keep (fun t=>(g.M t).getD .nil) M' res R):=by
  refine calls_of_wp hfn hb<|wpIn_wide.1 (h g.J (fun t=>(g.M t).getD .nil) (om++KU a.defers) _ g w ⟨⟨hsat.ok.bel,JV.le_refl _,fun _ _ _=>rfl,hsat.ok.im,hsat.ok.own,hsat.ok.inj⟩,?_,hsat.conts,hsat.dom,hsat.nodup,?_,hsat.cdep,⟨rfl,tI hsat.defers⟩,?_⟩)
  ·intro t b k hk
   rcases VA hk with hk | hk
   ·obtain ⟨_,h2,rfl,v,hv,hkv⟩:=WG hall hk
    refine ⟨fun _=>?_,fun hf=>(by cases hf)⟩
    have ht:t<(args.map a.eval).length:=(List.getElem?_eq_some_iff.1 (by simpa using hv)).1
    have:((args.map a.eval).toArray++Array.replicate (fn.ntmps-(args.map a.eval).toArray.size) undef).getD t undef=v:=by
     rw[Array.getD_eq_getD_getElem?,Array.getElem?_append_left (by simpa using ht),List.getElem?_toArray]
     rw[show (args.map a.eval)[t]?=some v by simpa using hv]
     rfl
    rw[this]; exact hkv
   ·obtain ⟨rfl,_,h3,rfl⟩:=QQ hk
    exact ⟨fun _=>hkeep _ h3,fun hf=>(by cases hf)⟩
  ·intro e he
   rcases List.mem_append.1 he with he | he
   ·obtain ⟨h1,h2⟩:=WH hds.h he
    exact ⟨h1,fun t ht=>A1 (List.all_eq_true.1 hdt _ h2) t ht⟩
   ·obtain ⟨t,h1,h2,h3⟩:=QR he
    rw[h2,h3]
    exact ⟨inferInstance,fun q hq=>by simp at hq; subst hq; exact A1 hkt _ h1⟩
  ·simp only[Array.size_append,List.size_toArray,Array.size_replicate]; omega
 refine wpList_plain rfl fun K' hK'=>?_
 unfold Oper.wp
 simp only[execOp,resolve,Act.eval,Deferred.ofValue,Sem.run_bind,Sem.run_pure,Result.andThen_ok,invoke,List.map_toArray,Array.append_empty,Array.empty_append]
 rw[hf.run]
 simp only[Oper.upon]
 refine hr.mono fun e w' he=>?_
 obtain ⟨s,hR,r,g',rfl,h1,h2,h3,h4,h5,h6,h7,h8⟩:=he
 refine hK' _ _ (K s hR _ g' _ ⟨⟨h1.bel,JV.le_trans hsat.ok.jle h1.jle,fun b o hb=>(h1.jold b o hb).trans (hsat.ok.jold b o hb),h1.im,h1.own,h1.inj⟩,?_,h2,h3,h4,?_,h5,tH hsat.defers h8,by simp[Act.put,hsat.size]⟩)
 ·refine R8.put (fun t b k hk=>?_) (by rw[hsat.size]; exact hdn) ⟨fun _=>h7,fun hf=>by cases hf⟩
  obtain ⟨k0,q1,q2⟩:=UW hk
  obtain ⟨q3,q4⟩:=hsat.slots t b k0 q1
  refine ⟨fun hb=>?_,q4⟩
  rcases q2 with rfl | ⟨rfl,e,he,rfl,hq⟩
  ·trivial
  ·exact (hsat.sdep e he).1.dep (g:=g) h1.jle (fun t ht=>by rw[h6 t (hq t ht),hkeep t (hq t ht)]) (q3 hb)
 ·intro e he
  rcases List.mem_cons.1 he with rfl | he
  ·exact ⟨hkr s,A1 (W9 s)⟩
  ·rcases dL he with ⟨q1,q2⟩ | ⟨q1,q2⟩
   ·exact ⟨(hsat.sdep e q1).1,fun t ht=>A1 (hkt' s) t (q2 t ht)⟩
   ·rw[q1,q2]; exact ⟨inferInstance,fun _ h=>by cases h⟩
end
section
variable {P:Program} {w0:World} {J0:JV} {bor om:List Nat} {n0:Nat} {S:g9} {M:f0} {fn:Func} {keep:List Nat} {bks:Nat->Bk} {n:Nat} {σ:Type} {M':σ->f0} {res:σ->b8} {R:σ->Prop}
theorem g8.inlX (s:σ) (hR:R s) (hr:fn.results=#[]) (he:d7 ⟨w0,J0,bor,n0,none,false,om⟩ S M (I1 n bks keep) (M' s)) (hk:DS (I1 n bks keep) n bks keep) (hres:res s=j8 (.tuple #[])):g8 ⟨w0,J0,bor,n0,none,false,om⟩ S M (bodyPost P fn (LY ⟨w0,J0,bor,n0,none,false,om⟩ keep bks M' res R)):=by
 intro a g w hs
 obtain ⟨g',hs'⟩:=he a g w hs
 exact ⟨hs'.defers.1,.tuple #[],by simp[results,hr],s,hR,dA hs' hk (by rw[hres]; rfl)⟩
theorem d9.inlX (s:σ) (hR:R s) {t:Nat} {k:b8} {dep:List Nat} (hr:fn.results=#[.tmp t]) (he:d7 ⟨w0,J0,bor,n0,none,false,om⟩ S M (⟨t,true,dep,k⟩::I1 n bks keep) (M' s)) (hk:DS (⟨t,true,dep,k⟩::I1 n bks keep) n bks keep) (hc:∀(g:Gh) (v:Value),k g v->res s g v):d9 ⟨w0,J0,bor,n0,none,false,om⟩ S M (bodyPost P fn (LY ⟨w0,J0,bor,n0,none,false,om⟩ keep bks M' res R)):=by
 intro a g w hs
 obtain ⟨g',hs'⟩:=he a g w hs
 exact ⟨hs'.defers.1,_,results_tmp hr _ _ _,s,hR,dA hs' hk (hc _ _ ((hs'.slots t true _ (by simp[look])).1 rfl))⟩
end
end Go.Fl

/- slices.Insert at []int, one value: a step of a walk. -/
namespace Go.Fl
open Go Go.RowKit
theorem IT {b:Nat}:∀(vs:List Value) (o:Nat) (w:World) {cs:Array Value} {ty:TypeId} {fz:Nat×Nat},w.heap[b]?=some (.cells cs ty fz) ->
  ∃cs',(w.setCells b o vs).heap[b]?=some (.cells cs' ty fz)/\cs'.size=cs.size/\∀k,k<cs.size->cs'[k]?=if o<=k/\k<o+vs.length then vs[k-o]? else cs[k]?
 | [],o,w,cs,ty,fz,h=>⟨cs,h,rfl,fun k _=>by rw[if_neg (by simp only[List.length_nil]; omega)]⟩
 | v::vs,o,w,cs,ty,fz,h=>by
  have h1:(w.setCell ⟨b,o,none⟩ v).heap[b]?=some (.cells (cs.setIfInBounds o v) ty fz):=by
   simp only[World.setCell,Array.getElem?_modify,if_true,h]
   rfl
  obtain ⟨cs',h2,h3,h4⟩:=IT vs (o+1) (w.setCell ⟨b,o,none⟩ v) h1
  refine ⟨cs',h2,by rw[h3]; simp,fun k hk=>?_⟩
  rw[h4 k (by simpa using hk)]
  simp only[List.length_cons]
  by_cases e:k=o
  ·subst e
   rw[if_neg zo,if_pos zo,Nat.sub_self]
   simp[hk]
  ·by_cases q:o+1<=k/\k<o+1+vs.length
   ·rw[if_pos q,if_pos zo,show k-o=k-(o+1)+1 by omega]; rfl
   ·rw[if_neg q,if_neg zo]
    rw[Array.getElem?_setIfInBounds_ne (Ne.symm e)]
theorem IU {b:Nat}:∀(vs:List Value) (o:Nat) (w:World),(w.setCells b o vs).os=w.os/\(w.setCells b o vs).tape=w.tape/\(w.setCells b o vs).output=w.output/\(w.setCells b o vs).heap.size=w.heap.size/\(w.setCells b o vs).drawn=w.drawn/\∀k,k≠b->(w.setCells b o vs).heap[k]?=w.heap[k]?
 | [],_,_=>⟨rfl,rfl,rfl,rfl,rfl,fun _ _=>rfl⟩
 | v::vs,o,w=>by
  obtain ⟨h1,h2,h3,h4,h5,h6⟩:=IU vs (o+1) (w.setCell ⟨b,o,none⟩ v)
  refine ⟨h1,h2,h3,h4.trans (by simp[World.setCell]),h5,fun k hk=>(h6 k hk).trans ?_⟩
  simp[World.setCell,Array.getElem?_modify,Ne.symm hk]
theorem SC {z:Bool} {ty:TypeId} {xs:List Int} {n b cap:Nat} {g:Gh} {cs:Array Value} (hl:xs.length=n) (hz:z=true->n≠0) (hs:cs.size=cap) (h1:n<=cap) (h2:cap<=maxLen) (h:∀k,k<n->cs[k]?=some (.int .i64 (b6 xs k))):m9 z ty eI xs n g (.blk b cap) (some (.cells cs ty (0,0))):=by
 refine ⟨hl,hz,cs,rfl,by rw[hs]; exact (Nat.mul_one _).symm,h1,h2,fun k x hx=>⟨[.int .i64 x],rfl,fun j v hj=>?_⟩⟩
 have hk:=(List.getElem?_eq_some_iff.1 hx).1
 have e:x=b6 xs k:=by simp[b6,hx]
 match j with
 | 0 =>
  simp at hj; subst hj
  show cs[k*1+0]?=_
  rw[Nat.mul_one,Nat.add_zero,h k zo,e]
 | j+1=>simp at hj
theorem YV {xs:List Int} {n:Nat} {g:Gh} {cs:Array Value} (hl:xs.length=n) (h:∀i x,xs[i]?=some x->∃ds,eI.rd g.J ds x/\∀j v,ds[j]?=some v->cs[i*eI.n+j]?=some v):∀k,k<n->cs[k]?=some (.int .i64 (b6 xs k)):=fun k hk=>by
 obtain ⟨ds,k1,k2⟩:=h k _ (G0 zo)
 have k1:ds=[.int .i64 (b6 xs k)]:=k1
 subst k1
 have:=k2 0 _ rfl
 simpa [eI,EC] using this
def BY (xs:List Int) (i:Nat) (v:Int):List Int:=xs.take i++[v]++xs.drop i
theorem UM {xs:List Int} {i:Nat} {v:Int} (h:i<=xs.length):(BY xs i v).length=xs.length+1:=by simp[BY]; omega
theorem OT {xs:List Int} {i k:Nat} {v:Int} (h:i<=xs.length):b6 (BY xs i v) k=if k<i then b6 xs k else if k=i then v else b6 xs (k-1):=by
 unfold BY b6
 simp only[List.getD_eq_getElem?_getD]
 have hl:(xs.take i).length=i:=by rw[List.length_take]; omega
 by_cases h1:k<i
 ·rw[if_pos h1,List.append_assoc,List.getElem?_append_left zo,List.getElem?_take,if_pos h1]
 ·rw[if_neg h1]
  by_cases h2:k=i
  ·subst h2
   rw[if_pos rfl,List.append_assoc,List.getElem?_append_right zo,hl,Nat.sub_self]; rfl
  ·rw[if_neg h2,List.getElem?_append_right (by simp; omega),List.getElem?_drop]
   congr 2
   simp; omega
theorem NY {w:World} {b o:Nat} {cs:Array Value} {ty:TypeId} (h:w.heap[b]?=some (.cells cs ty (0,0))):w.frozen? ⟨b,o,none⟩=false:=by simp[World.frozen?,h]
theorem tE {xs:List Int} {j:Nat} {v:Value} (h:(xs.map (Value.int .i64))[j]?=some v):j<xs.length/\v=.int .i64 (b6 xs j):=by
 rw[List.getElem?_map] at h
 cases e:xs[j]? with
 | none=>rw[e] at h; cases h
 | some x =>
  rw[e] at h
  simp only[Option.map_some,Option.some.injEq] at h
  exact ⟨(List.getElem?_eq_some_iff.1 e).1,by subst h; simp[b6,e]⟩
section
variable {P:Program} {c:l8} {ops:Array Oper} {S:g9} {M:f0} {rest:List Oper} {Q:Exit->Act->World->Prop}
variable {d:Nat} {ty:TypeId} {pos:String} {af:Array Edge} {x y z:Operand}
set_option maxHeartbeats 1000000 in
theorem d5.insI {ρ:Go.Shelf.Ren} (L:Go.Proofs.Lays2.n21 P ρ) {f:FuncId} (hf:ρ.f 21=f) [hfn:d8 P f] {tys:Array TypeId} {zb zb':Bool} {et et':TypeId} {xs:List Int} {v:Int} {u r n i:Nat} {dep dep':List Nat} {M':f0} (hty:ρ.t 3=et)
  (hx:j1 S x=some (true,q8 u n)) [hl:p8 M u (m9 zb et eI xs n) dep] (hy:j1 S y=some (true,kI (i:Int))) (hi:i<=n) (hz:j1 S z=some (true,q8 r 1)) [hr:p8 M r (m9 zb' et' eI [v] 1) dep'] (hru:Nat.beq r u=false) (hbig:n<=1000)
  [hup:A7 M u (m9 zb et eI (BY xs i v) (n+1)) [] M'] (hnd:H9 u M=true) (hn:Nat.blt d c.n=true) (K:d5 P c ops (⟨d,true,[u],q8 u (n+1)⟩::inv u S) M' rest Q) :
  d5 P c ops S M (⟨some d,.call { callee:=.value (.func f),args:=#[x,y,z],argTypes:=tys },ty,pos,af,none⟩::rest) Q:=by
 intro a g w hsat
 have hne:r≠u:=Nat.ne_of_beq_eq_false hru
 have hdn:d<c.n:=by simpa [Nat.blt_eq] using hn
 have ey:a.eval y=.int .i64 (i:Int):=B5 hsat.slots hy rfl
 obtain ⟨br,cr,mr,ez,csr,hcr,ccr⟩:∃br cr,g.M r=some (.blk br cr)/\a.eval z=.slice (some ⟨br,0,none⟩) 1 cr/\∃csr:Array Value,w.heap[br]?=some (.cells csr et' (0,0))/\csr[0]?=some (.int .i64 v):=by
  rcases B5 hsat.slots hz rfl with ⟨_,h0,_⟩ | ⟨b,cap,h1,h2⟩
  ·cases h0
  ·obtain ⟨_,_,cs,h3,_,_,_,h4⟩:=CQ (xs:=[v]) hsat.conts h1
   have:=YV (g:=g) (xs:=[v]) rfl h4 0 zo
   exact ⟨b,cap,h1,h2,cs,h3,this⟩
 have hvs:∀(j:Nat) (q:Value),([Value.int .i64 v]:List Value)[j]?=some q->w.cell? ⟨br,0+j,none⟩=some q:=fun j q hj=>by
  match j with
  | 0=>simp at hj; subst hj; exact J6 hcr ccr
  | j+1=>simp at hj
 have h1v:∀q∈([Value.int .i64 v]:List Value),q.oneCell'=true:=fun q hq=>by rw[List.mem_singleton.1 hq]; rfl
 have h1c:∀q∈xs.map (Value.int .i64),q.oneCell'=true:=fun q hq=>by obtain ⟨_,_,rfl⟩:=List.mem_map.1 hq; rfl
 refine wpList_plain rfl fun K' hK'=>?_
 unfold Oper.wp
 simp only[execOp,resolve,Act.eval,Deferred.ofValue,Sem.run_bind,Sem.run_pure,Result.andThen_ok,invoke,List.map_toArray,List.map_cons,List.map_nil,Array.append_empty,Array.empty_append]
 rw[hfn.run]
 simp only[Oper.upon]
 have finish:∀{bk bk':Bk} {w':World} {v':Value},g.M u=some bk->DO bk w w'->(∀b cap,bk'=.blk b cap->(∃cap0,bk=.blk b cap0)\/(w.heap.size<=b/\b<w'.heap.size)) ->
   m9 zb et eI (BY xs i v) (n+1) ⟨g.J,fun t=>if t=u then some bk' else g.M t⟩ bk' (World.objAt w' bk')->q8 u (n+1) ⟨g.J,fun t=>if t=u then some bk' else g.M t⟩ v' ->
   K' (a.put (some d) v') w':=by
  intro bk bk' w' v' hm hbut hbk hct hkk
  exact hK' _ _ (K _ _ _ (hsat.rebind hm (hsat.nomark hl hm) hbut hup hnd inferInstance hbk hct hdn hkk))
 have grown:∀{bk:Bk} {cp:Nat} {w1:World} {cs:Array Value},g.M u=some bk->xs.length=n->cp<=n->w1.os=w.os->w1.tape=w.tape->w1.output=w.output->w1.heap.size=w.heap.size+1->dz w.drawn<=dz w1.drawn->(∀k,k<w.heap.size->w1.heap[k]?=w.heap[k]?) ->
   w1.heap[w.heap.size]?=some (.cells cs et (0,0))->cs.size=grownCap w (n+1) cp et->(∀k,k<n+1->cs[k]?=some (.int .i64 (b6 (BY xs i v) k)))->K' (a.put (some d) (.slice (some ⟨w.heap.size,0,none⟩) (n+1) (grownCap w (n+1) cp et))) w1:=by
  intro bk cp w1 cs hm hxl hcp e1 e2 e3 e4 e5 e6 e7 e8 e9
  refine finish (bk':=.blk w.heap.size (grownCap w (n+1) cp et)) hm ⟨e1,e2,e3,by omega,fun q hq _=>e6 q hq,e5⟩ (fun b cap hb=>by cases hb; exact .inr ⟨Nat.le_refl _,by omega⟩) ?_ (.inr ⟨_,_,if_pos rfl,rfl⟩)
  show m9 zb et eI _ _ _ _ (w1.heap[w.heap.size]?)
  rw[e7]
  exact SC (by rw[UM zo,hxl]) (fun _=>zo) e8 (grownCap_ge _ _ _ _) (grownCap_le_maxLen _ _ _ _ (by simp only[maxLen]; omega)) e9
 show Calls P f #[a.eval x,a.eval y,a.eval z] w _
 rw[<- hf,ey,ez]
 rcases B5 hsat.slots hx rfl with ⟨hm,h0,ex⟩ | ⟨b,cap,hm,ex⟩
 ·-- nowhere yet
  subst h0
  obtain ⟨bk,q1,q2,_⟩:=hsat.conts _ hl.mem
  have hxs:xs=[]:=List.eq_nil_of_length_eq_zero q2
  subst hxs
  obtain rfl:i=0:=by omega
  rw[ex]
  refine (Go.Proofs.Any2.slices_Insert_int_end_grow L none 0 0 br 0 1 cr [] [.int .i64 v] w zo zo zo zo rfl rfl (fun _=>rfl) (fun a h=>by cases h) hvs h1v).mono fun e w' he=>?_
  obtain ⟨rfl,rfl⟩:=he
  rw[hty]
  refine grown (cp:=0) hm rfl zo rfl rfl rfl (by simp) (CU _) (fun k hk=>Below.heap_alloc w.drew _ k hk) (heap_alloc_new w.drew _) ?_ ?_
  ·have hge:=grownCap_ge w (0+1) 0 et
   generalize grownCap w (0+1) 0 et=G at *
   have hv:(Value.int .i64 0).cells.size=1:=rfl
   simp only[Array.size_append,List.size_toArray,size_zeroCells,hv,List.nil_append,List.length_singleton]
   omega
  ·intro k hk
   obtain rfl:k=0:=by omega
   rw[Array.getElem?_append_left (by simp)]
   rfl
 ·obtain ⟨h0,hzl,cs,h3,h4,h5,h6,h7⟩:=CQ (xs:=xs) hsat.conts hm
  have h4:cs.size=cap:=by rw[h4]; exact Nat.mul_one _
  have hc:=YV h0 h7
  have hbb:br≠b:=fun e=>hne (hsat.ok.inj _ _ _ _ _ mr (e▸hm))
  have hcs:∀(j:Nat) (q:Value),(xs.map (Value.int .i64))[j]?=some q->w.cell? ⟨b,0+j,none⟩=some q:=fun j q hj=>by
   obtain ⟨hj1,rfl⟩:=tE hj
   rw[Nat.zero_add]; exact J6 h3 (hc j zo)
  have hml:(xs.map (Value.int .i64)).length=n:=by rw[List.length_map,h0]
  have hmg:∀j,j<n->(xs.map (Value.int .i64))[j]?=some (.int .i64 (b6 xs j)):=fun j hj=>by
   rw[List.getElem?_map,G0 zo]; rfl
  have hsp:∀j,j<cap->(w.cell? ⟨b,0+j,none⟩).isSome=true:=fun j hj=>by
   rw[Nat.zero_add,J6 (v:=cs[j]'zo) h3 (by simp)]; rfl
  rw[ex]
  by_cases room:n+1<=cap
  ·by_cases hin:i=n
   ·subst hin
    refine (Go.Proofs.Any2.slices_Insert_int_end_room L b 0 i cap br 0 1 cr [.int .i64 v] w zo zo (by simp only[maxLen] at h6; omega) rfl (fun j hj=>by
     have:=hsp (i+j) zo
     rw[show 0+i+j=0+(i+j) by omega]; exact this) (fun j hj=>NY h3) hvs h1v).mono fun e w' he=>?_
    obtain ⟨rfl,rfl⟩:=he
    obtain ⟨c1,c2,c3,c4,c5,c6⟩:=IU (b:=b) [Value.int .i64 v] (0+i) w
    obtain ⟨cs',d1,d2,d3⟩:=IT (b:=b) [Value.int .i64 v] (0+i) w h3
    refine finish (bk':=.blk b cap) hm ⟨c1,c2,c3,by omega,fun k _ hk=>c6 k (fun e'=>hk cap (by rw[e'])),by rw[c5]; exact Nat.le_refl _⟩ (fun b' cap' hb=>by cases hb; exact .inl ⟨_,rfl⟩) ?_ (.inr ⟨_,_,if_pos rfl,rfl⟩)
    show m9 zb et eI _ _ _ _ ((w.setCells b (0+i) [Value.int .i64 v]).heap[b]?)
    rw[d1]
    refine SC (by rw[UM zo,h0]) (fun _=>zo) zo room h6 fun k hk=>?_
    rw[d3 k zo,OT zo]
    by_cases hk':k<i
    ·rw[if_neg zo,if_pos hk',hc k hk']
    ·obtain rfl:k=i:=by omega
     rw[if_pos (by simp),if_neg hk',if_pos rfl]
     simp
   ·have hin:i<n:=by omega
    refine (Go.Proofs.Any2.slices_Insert_int_shift L b 0 n cap i br 0 1 cr (xs.map (Value.int .i64)) [.int .i64 v] w hin zo zo (by simp only[maxLen] at h6; omega) hbb hml rfl hcs (fun j hj=>hsp j zo) (fun j hj=>NY h3) hvs h1c h1v et' et csr.size cs.size (by simp[World.shape?,hcr]) (by simp[World.shape?,h3]) zo (NY hcr) (NY hcr)).mono fun e w' he=>?_
    obtain ⟨rfl,rfl⟩:=he
    have h3':w.drew.heap[b]?=some (.cells cs et (0,0)):=h3
    obtain ⟨c1,c2,c3,c4,c5,c6⟩:=IU (b:=b) ((xs.map (Value.int .i64)).drop i) (0+(i+1)) w.drew
    obtain ⟨cs1,d1,d2,d3⟩:=IT (b:=b) ((xs.map (Value.int .i64)).drop i) (0+(i+1)) w.drew h3'
    obtain ⟨f1,f2,f3,f4,f5,f6⟩:=IU (b:=b) [Value.int .i64 v] (0+i) (w.drew.setCells b (0+(i+1)) ((xs.map (Value.int .i64)).drop i))
    obtain ⟨cs2,g1,g2,g3⟩:=IT (b:=b) [Value.int .i64 v] (0+i) (w.drew.setCells b (0+(i+1)) ((xs.map (Value.int .i64)).drop i)) d1
    refine finish (bk':=.blk b cap) hm ⟨f1.trans c1,f2.trans c2,f3.trans c3,by rw[f4,c4]; exact Nat.le_refl _,fun k _ hk=>(f6 k (fun e'=>hk cap (by rw[e']))).trans (c6 k (fun e'=>hk cap (by rw[e']))),by rw[f5,c5]; exact CU _⟩ (fun b' cap' hb=>by cases hb; exact .inl ⟨_,rfl⟩) ?_ (.inr ⟨_,_,if_pos rfl,rfl⟩)
    show m9 zb et eI _ _ _ _ ((World.setCells _ b (0+i) [Value.int .i64 v]).heap[b]?)
    rw[g1]
    refine SC (by rw[UM zo,h0]) (fun _=>zo) zo room h6 fun k hk=>?_
    rw[g3 k zo,OT zo]
    by_cases k1:k<i
    ·rw[if_neg zo,if_pos k1,d3 k zo,if_neg zo,hc k zo]
    ·by_cases k2:k=i
     ·subst k2
      rw[if_pos (by simp),if_neg k1,if_pos rfl]; simp
     ·rw[if_neg (by simp; omega),if_neg k1,if_neg k2,d3 k zo,if_pos (by rw[List.length_drop,hml]; omega),List.getElem?_drop,show i+(k-(0+(i+1)))=k-1 by omega,hmg (k-1) zo]
  ·obtain rfl:cap=n:=by omega
   by_cases hin:i=cap
   ·subst hin
    refine (Go.Proofs.Any2.slices_Insert_int_end_grow L (some ⟨b,0,none⟩) i i br 0 1 cr (xs.map (Value.int .i64)) [.int .i64 v] w zo zo zo zo hml rfl (fun h=>by cases h) (fun a h=>by cases h; intro j q hj; rw[Addr.add_lit]; exact hcs j q hj) hvs h1v).mono fun e w' he=>?_
    obtain ⟨rfl,rfl⟩:=he
    rw[hty]
    have hge:=grownCap_ge w (i+1) i et
    refine grown hm h0 zo rfl rfl rfl (by simp) (CU _) (fun k hk=>Below.heap_alloc w.drew _ k hk) (heap_alloc_new w.drew _) ?_ ?_
    ·simp only[Array.size_append,List.size_toArray,size_zeroCells,List.length_append,hml]
     simp[Value.cells]; omega
    ·intro k hk
     rw[OT zo]
     rw[Array.getElem?_append_left (by simp; omega)]
     by_cases k1:k<i
     ·rw[if_pos k1]
      rw[List.getElem?_toArray,List.getElem?_append_left zo]
      exact hmg k k1
     ·obtain rfl:k=i:=by omega
      rw[if_neg k1,if_pos rfl,List.getElem?_toArray,List.getElem?_append_right zo,hml,Nat.sub_self]; rfl
   ·have hin:i<cap:=by omega
    refine (Go.Proofs.Any2.slices_Insert_int_grow L b 0 cap cap i br 0 1 cr (xs.map (Value.int .i64)) [.int .i64 v] w hin zo zo zo zo hml rfl hcs hvs h1c h1v).mono fun e w' he=>?_
    obtain ⟨rfl,rfl⟩:=he
    rw[hty]
    have hge:=grownCap_ge w (cap+1) cap et
    generalize hA:((List.take i (xs.map (Value.int .i64))).toArray++Builtin.zeroCells (Value.int .i64 0).cells (cap+1-i)++Builtin.zeroCells (Value.int .i64 0).cells (grownCap w (cap+1) cap et-(cap+1)))=A0
    have hAs:A0.size=grownCap w (cap+1) cap et:=by
     rw[<- hA]
     simp only[Array.size_append,List.size_toArray,size_zeroCells,List.length_take,hml]
     simp[Value.cells]; omega
    have hAg:∀k,k<i->A0[k]?=some (.int .i64 (b6 xs k)):=fun k hk=>by
     rw[<- hA,Array.append_assoc,Array.getElem?_append_left (by simp; omega),List.getElem?_toArray,List.getElem?_take,if_pos hk]
     exact hmg k zo
    have e1:((w.alloc (.cells A0 et)).drew).heap[w.heap.size]?=some (.cells A0 et (0,0)):=heap_alloc_new w _
    obtain ⟨c1,c2,c3,c4,c5,c6⟩:=IU (b:=w.heap.size) [Value.int .i64 v] i (w.alloc (.cells A0 et)).drew
    obtain ⟨cs1,d1,d2,d3⟩:=IT (b:=w.heap.size) [Value.int .i64 v] i (w.alloc (.cells A0 et)).drew e1
    have e2:((w.alloc (.cells A0 et)).drew.setCells w.heap.size i [Value.int .i64 v]).drew.heap[w.heap.size]?=some (.cells cs1 et (0,0)):=d1
    obtain ⟨f1,f2,f3,f4,f5,f6⟩:=IU (b:=w.heap.size) ((xs.map (Value.int .i64)).drop i) (i+1) ((w.alloc (.cells A0 et)).drew.setCells w.heap.size i [Value.int .i64 v]).drew
    obtain ⟨cs2,g1,g2,g3⟩:=IT (b:=w.heap.size) ((xs.map (Value.int .i64)).drop i) (i+1) ((w.alloc (.cells A0 et)).drew.setCells w.heap.size i [Value.int .i64 v]).drew e2
    refine grown hm h0 zo (f1.trans c1) (f2.trans c2) (f3.trans c3) (f4.trans (c4.trans (by simp))) ?_ (fun k hk=>(f6 k zo).trans ((c6 k zo).trans (Below.heap_alloc w _ k hk))) g1 zo fun k hk=>?_
    ·rw[f5]
     refine Nat.le_trans ?_ (CU _)
     rw[c5]
     exact CU _
    ·rw[g3 k zo,OT zo]
     by_cases k1:k<i
     ·rw[if_neg zo,if_pos k1,d3 k zo,if_neg zo,hAg k k1]
     ·by_cases k2:k=i
      ·subst k2
       rw[if_neg zo,if_neg k1,if_pos rfl,d3 k zo,if_pos (by simp)]; simp
      ·rw[if_pos (by rw[List.length_drop,hml]; omega),if_neg k1,if_neg k2,List.getElem?_drop,show i+(k-(i+1))=k-1 by omega,hmg (k-1) zo]
end
end Go.Fl

/- Pointers into immutable memory, in any order. -/
namespace Go.Fl
open Go Go.RowKit
section
variable {P:Program} {c:l8} {S:g9} {M:f0} {Sp:World->Prop} {d:Option Tmp} {ty:TypeId} {pos:String} {af:Array Edge} {gd:Option (Nat×Bool)} {x y:Operand}
theorem RE {α:Type} {e:i7 α} {v:α} (hx:j1 S x=some (true,r5 e v)):CP P c S M Sp ⟨d,.nilCheck x,ty,pos,af,gd⟩ (r5 e v):=fun a g _ hs _=>by
 have hk:=B5 hs.slots hx rfl
 obtain ⟨b,o,ds,h1,h2⟩:=id hk
 exact ⟨a.eval x,fun _ _=>by simp[execOp,h1],hk⟩
theorem RC {s:TypeId} {f off:Nat} [ht:u7 P s f off] {α β:Type} {e:i7 α} {v:α} {e':i7 β} {v':β} {off':Nat} [hf:u6 e v f e' v' off'] (hx:j1 S x=some (true,r5 e v)) (ho:off=off') :
  CP P c S M Sp ⟨d,.fieldAddr s x f,ty,pos,af,gd⟩ (r5 e' v'):=fun a g _ hs _=>by
 obtain ⟨bl,o,ds,h1,h2,h3⟩:=B5 hs.slots hx rfl
 obtain ⟨es,k1,k2⟩:=hf.imp h2
 refine ⟨.pointer (some ⟨bl,o+off,none⟩),fun _ _=>by simp[execOp,h1,ht.run,Addr.add_lit],bl,o+off',es,by rw[ho],k1,fun j u hj=>?_⟩
 rw[Nat.add_assoc]
 exact h3 _ _ (k2 j u hj)
end
end Go.Fl

/- Immutable rows in drawn regions: elements and parts, in any order. -/
namespace Go.Fl
open Go Go.RowKit
section
variable {P:Program} {c:l8} {S:g9} {M:f0} {Sp:World->Prop} {d:Option Tmp} {ty:TypeId} {pos:String} {af:Array Edge} {gd:Option (Nat×Bool)} {x y:Operand}
end

section
variable {P:Program} {c:l8} {l:List Oper} {S:g9} {M:f0} {Q:Exit->Act->World->Prop}
end
end Go.Fl
