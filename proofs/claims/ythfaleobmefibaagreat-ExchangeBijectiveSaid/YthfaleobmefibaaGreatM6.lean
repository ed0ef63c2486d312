/- Laws on walking typed knowledge through code, and contracts. -/
import Derived.Test.YthfaleobmefibaaGreatM5

/- Sums of numbers: laws; numbers in order. No program in sight. -/
namespace Go.Fl
open Go
def CD (D:Int) (v:NvT):Prop:=∃cs:List Int,cs.length=4∧v=loN cs D
theorem RedN.cd {p:List Int} {v:NvT} (h:RedN p v):CD v.2 v:=⟨v.1,h.len,h.loN.symm⟩
theorem CD.scale {D m:Int} {v:NvT} (h:CD D v) (hD:0<D) (hm:0<m):CD (D*m) v:=by
 obtain ⟨cs,l,rfl⟩:=h
 exact ⟨cs.map fun c=>c*m,by rw[List.length_map,l],(low_scale zo zo).symm⟩
theorem cd3 {p:List Int} {u v w:NvT} (hu:RedN p u) (hv:RedN p v) (hw:RedN p w):∃D,0<D∧CD D u∧CD D v∧CD D w:=by
 have a:=hu.pos
 have b:=hv.pos
 have c:=hw.pos
 have ab:=Int.mul_pos a b
 have ac:=Int.mul_pos a c
 refine ⟨u.2*v.2*w.2,Int.mul_pos ab c,(hu.cd.scale a b).scale ab c,?_,?_⟩
 ·have:=(hv.cd.scale b a).scale (Int.mul_pos b a) c
  rwa [Int.mul_comm v.2 u.2] at this
 ·have:=hw.cd.scale c ab
  rwa [Int.mul_comm w.2 (u.2*v.2)] at this
theorem tab4_eq {cs:List Int} (h:cs.length=4):tab 4 (nth cs)=cs:=ext_nth (by rw[tab_len,h]) fun i hi=>by rw[tab_len] at hi; exact nth_tab hi
theorem adV_comm {p:List Int} {u v:NvT} (hu:RedN p u) (hv:RedN p v):adV u v=adV v u:=by
 obtain ⟨D,hD,⟨a,_,rfl⟩,⟨b,_,rfl⟩,_⟩:=cd3 hu hv hv
 rw[adV_same hD,adV_same hD]
 exact congrArg (fun l=>loN l D) (tab_congr fun i _=>Int.add_comm _ _)
theorem adV_zero {p:List Int} {u:NvT} (hu:RedN p u):adV u (intV 0)=u:=by
 obtain ⟨D,hD,⟨a,ha,rfl⟩,_,_⟩:=cd3 hu hu hu
 rw[int0_low hD,adV_same hD]
 refine congrArg (fun l=>loN l D) ((tab_congr fun i hi=>?_).trans (tab4_eq ha))
 rw[nth_tab hi]; omega
theorem lowN {cs:List Int} {d:Int}:loN (cs.map fun z=>-z) d=negV (loN cs d):=low_negc
theorem adV_neg {p:List Int} {u:NvT} (hu:RedN p u):adV u (negV u)=intV 0:=by
 obtain ⟨D,hD,⟨a,ha,rfl⟩,_,_⟩:=cd3 hu hu hu
 rw[← lowN,adV_same hD,int0_low hD]
 exact congrArg (fun l=>loN l D) (tab_congr fun i _=>by rw[nth_neg]; omega)
theorem neg_sub {p:List Int} {u v:NvT} (hu:RedN p u) (hv:RedN p v):negV (subV u v)=subV v u:=by
 obtain ⟨D,hD,⟨a,ha,rfl⟩,⟨b,hb,rfl⟩,_⟩:=cd3 hu hv hv
 unfold subV
 rw[← lowN,← lowN,adV_same hD,adV_same hD,← lowN]
 refine congrArg (fun l=>loN l D) ?_
 refine ext_nth (by rw[List.length_map,tab_len,tab_len]) fun i hi=>?_
 rw[List.length_map,tab_len] at hi
 rw[nth_neg,nth_tab hi,nth_tab hi,nth_neg,nth_neg]; omega
theorem sub_add {p:List Int} {u v w:NvT} (hu:RedN p u) (hv:RedN p v) (hw:RedN p w):adV (subV u v) (subV v w)=subV u w:=by
 obtain ⟨D,hD,⟨a,ha,rfl⟩,⟨b,hb,rfl⟩,⟨c,hc,rfl⟩⟩:=cd3 hu hv hw
 unfold subV
 rw[← lowN,← lowN,adV_same hD,adV_same hD,adV_same hD,adV_same hD]
 exact congrArg (fun l=>loN l D) (tab_congr fun i hi=>by rw[nth_tab hi,nth_tab hi,nth_neg,nth_neg]; omega)
theorem sub_self {p:List Int} {u:NvT} (hu:RedN p u):subV u u=intV 0:=adV_neg hu
theorem add_sub {p:List Int} {u v:NvT} (hu:RedN p u) (hv:RedN p v):subV (adV u v) u=v:=by
 obtain ⟨D,hD,⟨a,ha,rfl⟩,⟨b,hb,rfl⟩,_⟩:=cd3 hu hv hv
 unfold subV
 rw[← lowN,adV_same hD,adV_same hD]
 refine congrArg (fun l=>loN l D) ((tab_congr fun i hi=>?_).trans (tab4_eq hb))
 rw[nth_tab hi,nth_neg]; omega
structure SgL (p:List Int) (sg:NvT→Int):Prop where
 pol:PolOk p
 neg:∀v,RedN p v→sg (negV v)=-sg v
 add:∀u v,RedN p u→RedN p v→0≤sg u→0<sg v→0<sg (adV u v)
 zero:∀v,RedN p v→sg v=0→v=intV 0
 int0:sg (intV 0)=0
section
variable {p:List Int} {sg:NvT→Int} (h:SgL p sg) {u v w:NvT} (hu:RedN p u) (hv:RedN p v) (hw:RedN p w)
include h hu hv
theorem SgL.swap:sg (subV v u)=-sg (subV u v):=by
 rw[← neg_sub hu hv]
 exact h.neg _ (sub_RedN hu hv)
theorem SgL.eq (e:sg (subV u v)=0):u=v:=by
 have e0:=h.zero _ (sub_RedN hu hv) e
 have:=sub_add hu hv (int_RedN h.pol 0)
 have z:=fun {x:NvT} (hx:RedN p x)=>(show subV x (intV 0)=x from by
  have n0:negV (intV 0)=intV 0:=rfl
  unfold subV; rw[n0]; exact adV_zero hx)
 rw[z hv,z hu,e0,adV_comm (int_RedN h.pol 0) hv,adV_zero hv] at this
 exact this.symm
include hw
theorem SgL.lt_of (a:0≤sg (subV v u)) (b:0<sg (subV w v)):0<sg (subV w u):=by
 have:=h.add _ _ (sub_RedN hv hu) (sub_RedN hw hv) a b
 rwa [adV_comm (sub_RedN hv hu) (sub_RedN hw hv),sub_add hw hv hu] at this
theorem SgL.lt_of' (a:0<sg (subV v u)) (b:0≤sg (subV w v)):0<sg (subV w u):=by
 have:=h.add _ _ (sub_RedN hw hv) (sub_RedN hv hu) b a
 rwa [sub_add hw hv hu] at this
end
end Go.Fl

/- The sign of a field's numbers goes with sums. No program in sight. -/
namespace Go.Fl
open Go
theorem sgnF_cases {p:List Int} {I:Iv} {cs:List Int}:sgnF p I cs=1∨sgnF p I cs=-1∨sgnF p I cs=0:=by
 unfold sgnF
 split
 ·exact .inl rfl
 ·split
  ·exact .inr (.inl rfl)
  ·exact .inr (.inr rfl)
theorem sgnF_one {p:List Int} {I:Iv} {cs:List Int} (h:sgnF p I cs=1):∃k,0<(enc (ivK p I k) cs).1:=by
 unfold sgnF at h
 split at h
 ·assumption
 ·split at h<;>omega
theorem sgnF_mone {p:List Int} {I:Iv} {cs:List Int} (h:sgnF p I cs=-1):∃k,(enc (ivK p I k) cs).2.1<0:=by
 unfold sgnF at h
 split at h
 ·omega
 ·split at h
  ·assumption
  ·omega
theorem sgnF_negc {p:List Int} {I:Iv} {cs:List Int} (hI:I.Ok):sgnF p I (cs.map fun c=>-c)=-sgnF p I cs:=by
 rcases sgnF_cases (p:=p) (I:=I) (cs:=cs) with h | h | h
 ·obtain ⟨k,hk⟩:=sgnF_one h
  rw[h]
  exact sgnF_neg (k:=k) hI (by rw[enc_neg]; show -(enc (ivK p I k) cs).1<0; omega)
 ·obtain ⟨k,hk⟩:=sgnF_mone h
  rw[h]
  exact sgnF_pos (k:=k) (by rw[enc_neg]; show 0 < -(enc (ivK p I k) cs).2.1; omega)
 ·rcases sgnF_cases (p:=p) (I:=I) (cs:=cs.map fun c=>-c) with h' | h' | h'
  ·obtain ⟨k,hk⟩:=sgnF_one h'
   rw[enc_neg] at hk
   have:=sgnF_neg (k:=k) hI (show (enc (ivK p I k) cs).2.1<0 by have:0 < -(enc (ivK p I k) cs).2.1:=hk; omega)
   omega
  ·obtain ⟨k,hk⟩:=sgnF_mone h'
   rw[enc_neg] at hk
   have:=sgnF_pos (p:=p) (I:=I) (cs:=cs) (k:=k) (show 0<(enc (ivK p I k) cs).1 by have:-(enc (ivK p I k) cs).1<0:=hk; omega)
   omega
  ·rw[h,h']; rfl
theorem sumab {cs:List Int}:∀c∈cs,c.natAbs≤(cs.map Int.natAbs).foldr (·+·) 0:=by
 induction cs with
 | nil=>intro c h; cases h
 | cons x cs ih =>
  intro c h
  rw[List.map_cons,List.foldr_cons]
  rcases List.mem_cons.1 h with rfl | h
  ·omega
  ·have:=ih c h; omega
theorem FldOk.ne0 {p cs:List Int} {I:Iv} (h:FldOk p I) (hcl:cs.length=p.length-1) (hc0:∃c∈cs,c≠0):sgnF p I cs=1∨sgnF p I cs=-1:=by
 obtain ⟨F,hF⟩:∃F,F=1000+(cs.map Int.natAbs).foldr (·+·) 0:=⟨_,rfl⟩
 obtain ⟨k,hk⟩:∃k,k=denB (p.length-1) F 1000000 2000000:=⟨_,rfl⟩
 have h2:k<2 ^ k:=Nat.lt_two_pow_self
 have hd:=h.iv.pos
 rcases h.told (k:=k) hcl hc0 (F:=F) zo (fun c hc=>by have:=sumab c hc; omega) (by
  rw[← hk]
  have e:((2 ^ k:Nat):Int)=2 ^ k:=by push_cast; rfl
  rw[← e]
  have:=Int.mul_le_mul_of_nonneg_right (show (1:Int)≤I.den by omega) (show (0:Int)≤((2 ^ k:Nat):Int) by omega)
  omega) with q | q
 ·exact .inl (sgnF_pos q)
 ·exact .inr (sgnF_neg h.iv q)
theorem sgnF_zeros {p:List Int} {I:Iv} {cs:List Int} (h:∀c∈cs,c=0):sgnF p I cs=0:=by
 have e:cs=cs.map fun c=>c*0:=by
  conv=>lhs; rw[← List.map_id cs]
  exact List.map_congr_left fun c hc=>by rw[h c hc]; rfl
 unfold sgnF
 rw[if_neg,if_neg]
 ·rintro ⟨k,hk⟩
  rw[e,enc_mul (Int.le_refl 0)] at hk
  simp at hk
 ·rintro ⟨k,hk⟩
  rw[e,enc_mul (Int.le_refl 0)] at hk
  simp at hk
theorem cmpZ_cases {a:Int}:(0<a∧cmpZ a 0=1)∨(a<0∧cmpZ a 0=-1)∨(a=0∧cmpZ a 0=0):=by
 unfold cmpZ
 by_cases h:a<0
 ·exact .inr (.inl ⟨h,if_pos h⟩)
 ·by_cases h2:0<a
  ·exact .inl ⟨h2,by rw[if_neg h,if_pos h2]⟩
  ·exact .inr (.inr ⟨by omega,by rw[if_neg h,if_neg h2]⟩)
theorem enc_c {I:Iv} {c:Int}:enc I [c]=(c*I.den,c*I.den,I.den):=by
 simp[enc,min4,max4]
theorem sgnF_rat {p:List Int} {I:Iv} (hI:I.Ok) {c:Int} {n:Nat}:sgnF p I (c::List.replicate n 0)=cmpZ c 0:=by
 have hp:∀k,0<(ivK p I k).den:=fun k=>(ivK_ok hI).pos
 rcases cmpZ_cases (a:=c) with ⟨h,e⟩ | ⟨h,e⟩ | ⟨h,e⟩
 ·rw[e]
  refine sgnF_pos (k:=0) ((enc_sg (hp 0) (xs:=[c])).1.2 ?_)
  rw[enc_c]
  exact Int.mul_pos h (hp 0)
 ·rw[e]
  refine sgnF_neg (k:=0) hI ((enc_sg (hp 0) (xs:=[c])).2.2 ?_)
  rw[enc_c]
  exact Int.mul_neg_of_neg_of_pos h (hp 0)
 ·rw[e]
  refine sgnF_zeros fun x hx=>?_
  rcases List.mem_cons.1 hx with rfl | hx
  ·exact h
  ·exact (List.mem_replicate.1 hx).2
theorem sgV_eq {p:List Int} {I:Iv} {v:NvT} (hI:I.Ok) (h3:3≤p.length) (h5:p.length≤5) (hv:RedN p v):sgV p I v=sgnF p I (v.1.take (p.length-1)):=by
 unfold sgV
 by_cases h:ratB v.1=true
 ·rw[if_pos h]
  have e:v.1.take (p.length-1)=nth v.1 0::List.replicate (p.length-2) 0:=by
   have hl:=hv.len
   refine ext_nth (by rw[List.length_take,hl,List.length_cons,List.length_replicate]; omega) fun i hi=>?_
   rw[List.length_take,hl] at hi
   rw[nth_take' zo]
   by_cases h0:i=0
   ·subst h0; rfl
   ·obtain ⟨j,rfl⟩:∃j,i=j+1:=⟨i-1,by omega⟩
    rw[ratB_iff.1 h (j+1) zo zo]
    show 0=nth (List.replicate (p.length-2) 0) j
    simp[nth,show j<p.length-2 by omega]
  rw[e]
  exact (sgnF_rat hI).symm
 ·rw[if_neg h]
end Go.Fl

/- The sign of a field's numbers goes with sums: fields of every degree. No program in sight. -/
namespace Go.Fl
open Go
theorem nth_zip {a b:List Int} {i:Nat} (ha:i<a.length) (hb:i<b.length):nth (List.zipWith (·+·) a b) i=nth a i+nth b i:=by
 have h:i<(List.zipWith (·+·) a b).length:=by rw[List.length_zipWith]; omega
 have e:∀{l:List Int} (q:i<l.length),nth l i=l[i]:=fun q=>by simp[nth,q]
 rw[e h,e ha,e hb,List.getElem_zipWith]
theorem negV_coef {v:NvT} {n:Nat}:(negV v).1.take n=(v.1.take n).map fun c=>-c:=by
 unfold negV
 rw[List.map_take]
theorem red_zero {p:List Int} {v:NvT} (hv:RedN p v) (h:∀i,i<4→nth v.1 i=0):v=intV 0:=by
 have e:v.1=tab 4 fun _=>0:=by
  rw[← tab4_eq hv.len]
  exact tab_congr fun i hi=>h i hi
 rw[← hv.loN,e,← int0_low hv.pos]
theorem adV_cross {u v:NvT} (hu:0<u.2) (hv:0<v.2) {i:Nat} (hi:i<4):nth (adV u v).1 i*(u.2*v.2)=(nth u.1 i*v.2+nth v.1 i*u.2)*(adV u v).2:=by
 have hD:=Int.mul_pos hu hv
 unfold adV
 rw[low_cross zo i,nth_tab hi]
theorem SgL.of_fld {p:List Int} {I:Iv} (h:FldOk p I):SgL p (sgV p I):=by
 have h3:=h.three
 have h5:=h.len4
 have hl4:∀v,RedN p v→(v.1.take (p.length-1)).length=p.length-1:=fun v hv=>by rw[List.length_take,hv.len]; omega
 have hz:∀v,RedN p v→sgV p I v=0→v=intV 0:=fun v hv e=>by
  rw[sgV_eq h.iv h3 h5 hv] at e
  refine red_zero hv fun i hi=>?_
  by_cases hip:i<p.length-1
  ·refine Classical.byContradiction fun hne=>?_
   rcases h.ne0 (hl4 v hv) ⟨nth v.1 i,by rw[← nth_take' hip]; exact nth_mem' (by rw[hl4 v hv]; exact hip),hne⟩ with q | q<;>omega
  ·exact hv.hi i zo
 refine ⟨h.pol,fun v hv=>?_,fun u v hu hv a b=>?_,hz,?_⟩
 ·rw[sgV_eq h.iv h3 h5 hv,sgV_eq h.iv h3 h5 (neg_RedN hv),negV_coef]
  exact sgnF_negc h.iv
 ·by_cases e:sgV p I u=0
  ·rw[hz u hu e,adV_comm (int_RedN h.pol 0) hv,adV_zero hv]; exact b
  ·have hs:=add_RedN hu hv
   rw[sgV_eq h.iv h3 h5 hs]
   rw[sgV_eq h.iv h3 h5 hu] at a e
   rw[sgV_eq h.iv h3 h5 hv] at b
   have a1:sgnF p I (u.1.take (p.length-1))=1:=by rcases sgnF_cases (p:=p) (I:=I) (cs:=u.1.take (p.length-1)) with q | q | q<;>omega
   have b1:sgnF p I (v.1.take (p.length-1))=1:=by rcases sgnF_cases (p:=p) (I:=I) (cs:=v.1.take (p.length-1)) with q | q | q<;>omega
   have pu:=hu.pos
   have pv:=hv.pos
   have key:=sgnF_add (p:=p) (I:=I) (xs:=(u.1.take (p.length-1)).map fun c=>c*v.2) (ys:=(v.1.take (p.length-1)).map fun c=>c*u.2) h.iv (by rw[List.length_map,List.length_map,hl4 u hu,hl4 v hv]) (by rw[sgnF_mul pv]; exact a1) (by rw[sgnF_mul pu]; exact b1)
   rw[← sgnF_mul (m:=u.2*v.2) (Int.mul_pos pu pv)]
   have e2:((adV u v).1.take (p.length-1)).map (fun c=>c*(u.2*v.2))=(List.zipWith (·+·) ((u.1.take (p.length-1)).map fun c=>c*v.2) ((v.1.take (p.length-1)).map fun c=>c*u.2)).map fun c=>c*(adV u v).2:=by
    refine ext_nth (by rw[List.length_map,hl4 _ hs,List.length_map,List.length_zipWith,List.length_map,List.length_map,hl4 u hu,hl4 v hv]; omega) fun i hi=>?_
    have hi:i<p.length-1:=by rw[List.length_map,hl4 _ hs] at hi; exact hi
    have m:∀{l:List Int} {c:Int},i<l.length→nth (l.map fun x=>x*c) i=nth l i*c:=fun hl=>by simp[nth,hl]
    rw[m (by rw[hl4 _ hs]; exact hi),m (by rw[List.length_zipWith,List.length_map,List.length_map,hl4 u hu,hl4 v hv]; omega),nth_take' hi]
    have z:nth (List.zipWith (·+·) ((u.1.take (p.length-1)).map fun c=>c*v.2) ((v.1.take (p.length-1)).map fun c=>c*u.2)) i=nth u.1 i*v.2+nth v.1 i*u.2:=by
     have q1:=m (l:=u.1.take (p.length-1)) (c:=v.2) (by rw[hl4 u hu]; exact hi)
     have q2:=m (l:=v.1.take (p.length-1)) (c:=u.2) (by rw[hl4 v hv]; exact hi)
     rw[nth_take' hi] at q1 q2
     rw[← q1,← q2]
     exact nth_zip (by rw[List.length_map,hl4 u hu]; exact hi) (by rw[List.length_map,hl4 v hv]; exact hi)
    rw[z]
    exact adV_cross pu pv zo
   rw[e2,sgnF_mul hs.pos,key]
   omega
 ·unfold sgV
  rw[if_pos (by decide)]
  rfl
theorem SgL.of_rat {p:List Int} {I:Iv} (hp:PolOk p) (h2:p.length=2):SgL p (sgV p I):=by
 have hr:∀v,RedN p v→ratB v.1=true:=fun v hv=>ratB_of fun i h1 _=>hv.hi i zo
 have hs:∀v,RedN p v→sgV p I v=cmpZ (nth v.1 0) 0:=fun v hv=>if_pos (hr v hv)
 refine ⟨hp,fun v hv=>?_,fun u v hu hv a b=>?_,fun v hv e=>?_,?_⟩
 ·rw[hs _ hv,hs _ (neg_RedN hv)]
  have:nth (negV v).1 0=-nth v.1 0:=nth_neg
  rw[this]
  unfold cmpZ
  by_cases q:nth v.1 0<0
  ·rw[if_neg zo,if_pos zo,if_pos q]; rfl
  ·by_cases q2:0<nth v.1 0
   ·rw[if_pos zo,if_neg q,if_pos q2]
   ·rw[if_neg zo,if_neg zo,if_neg q,if_neg q2]; rfl
 ·rw[hs _ hu] at a
  rw[hs _ hv] at b
  rw[hs _ (add_RedN hu hv)]
  have pu:=hu.pos
  have pv:=hv.pos
  have a0:0≤nth u.1 0:=by rcases cmpZ_cases (a:=nth u.1 0) with q | q | q<;>omega
  have b0:0<nth v.1 0:=by rcases cmpZ_cases (a:=nth v.1 0) with q | q | q<;>omega
  have c:=adV_cross pu pv (i:=0) zo
  have d1:=Int.mul_nonneg a0 (show 0≤v.2 by omega)
  have d2:=Int.mul_pos b0 pu
  have d3:0<(nth u.1 0*v.2+nth v.1 0*u.2)*(adV u v).2:=Int.mul_pos zo (add_RedN hu hv).pos
  rw[← c] at d3
  have d4:0<nth (adV u v).1 0:=by
   refine Classical.byContradiction fun hn=>?_
   have:=Int.mul_nonpos_of_nonpos_of_nonneg (show nth (adV u v).1 0≤0 by omega) (show 0≤u.2*v.2 from Int.le_of_lt (Int.mul_pos pu pv))
   omega
  rcases cmpZ_cases (a:=nth (adV u v).1 0) with q | q | q<;>omega
 ·rw[hs _ hv] at e
  have e0:nth v.1 0=0:=by rcases cmpZ_cases (a:=nth v.1 0) with q | q | q<;>omega
  refine red_zero hv fun i hi=>?_
  by_cases h0:i=0
  ·rw[h0]; exact e0
  ·exact ratB_iff.1 (hr v hv) i zo hi
 ·unfold sgV
  rw[if_pos (by decide)]
  rfl
end Go.Fl

/- Points, letters and images: the interval of a point is the only one that holds it. No program in sight. -/
namespace Go.Fl
open Go
section
variable {p:List Int} {sg:NvT→Int} {D:Int} {M n:Nat} {ls:List NvT} {row:List Int} (h:SgL p sg) (hlo:LenOk p D M n ls) (hr:pmR row n) (hpos:∀a,a<n→0<sg (nth ls a))
include h hlo hr
theorem pt_red {k:Nat} (hk:k≤n):RedN p (ptV ls row k):=(pt_ok h.pol hlo hr k hk).1
include hpos
theorem pt_step {k:Nat} (hk:k<n):0<sg (subV (ptV ls row (k+1)) (ptV ls row k)):=by
 have hl:=hr.2.2
 have hrk:=hr.1 k zo
 rw[ptV,add_sub (pt_red h hlo hr zo) (hlo.red _ zo)]
 exact hpos _ zo
theorem pt_lt {i:Nat}:∀{j:Nat},i<j→j≤n→0<sg (subV (ptV ls row j) (ptV ls row i))
 | 0,h1,_=>by omega
 | j+1,h1,h2=>by
  by_cases e:i=j
  ·rw[e]; exact pt_step h hlo hr hpos zo
  ·exact h.lt_of (pt_red h hlo hr zo) (pt_red h hlo hr zo) (pt_red h hlo hr zo) (Int.le_of_lt (pt_lt zo zo)) (pt_step h hlo hr hpos zo)
theorem let_of {pv:NvT} (hv:RedN p pv) {k:Nat} (hk:k<n) (h1:0≤sg (subV pv (ptV ls row k))) (h2:0<sg (subV (ptV ls row (k+1)) pv)):∀{m:Nat},k≤m→m<n→letV sg (plV ls row) row pv m=nth row k
 | 0,a,_=>by rw[letV,show k=0 by omega]
 | m+1,a,b=>by
  have hl:=hr.2.2
  have hrm:=hr.1 (m+1) zo
  have e:nth (plV ls row) (nth row (m+1)).toNat=ptV ls row (m+1):=by
   show nth (tab row.length fun a=>ptV ls row (row.idxOf (a:Int))) _=_
   rw[nth_tab zo,show (((nth row (m+1)).toNat:Nat):Int)=nth row (m+1) by omega,idx_pm hr zo]
  rw[letV,e]
  by_cases q:k=m+1
  ·subst q
   rw[if_pos (by rw[h.swap hv (pt_red h hlo hr zo)]; omega)]
  ·have hlt:0<sg (subV (ptV ls row (m+1)) pv):=by
    by_cases e1:k+1=m+1
    ·rw[← e1]; exact h2
    ·exact h.lt_of hv (pt_red h hlo hr zo) (pt_red h hlo hr zo) (Int.le_of_lt h2) (pt_lt h hlo hr hpos zo zo)
   rw[if_neg zo]
   exact let_of hv hk h1 h2 zo zo
theorem let_ex {pv:NvT} (hv:RedN p pv) (h0:0≤sg pv):∀{m:Nat},m≤n→0<sg (subV (ptV ls row m) pv)→∃k,k<m∧0≤sg (subV pv (ptV ls row k))∧0<sg (subV (ptV ls row (k+1)) pv)
 | 0,_,q=>by
  have _:=hpos
  exfalso
  have e:sg (subV (intV 0) pv)=-sg (subV pv (intV 0)):=h.swap hv (int_RedN h.pol 0)
  have e2:subV pv (intV 0)=pv:=adV_zero hv
  rw[e2] at e
  have:0<sg (subV (intV 0) pv):=q
  omega
 | m+1,hm,q=>by
  by_cases c:0≤sg (subV pv (ptV ls row m))
  ·exact ⟨m,by omega,c,q⟩
  ·obtain ⟨k,a,b,d⟩:=let_ex hv h0 (m:=m) zo (by rw[h.swap hv (pt_red h hlo hr zo)]; omega)
   exact ⟨k,by omega,b,d⟩
end
end Go.Fl

/- The image of a point lies in the image of its interval; the inverse exchange takes it back. No program in sight. -/
namespace Go.Fl
open Go
theorem cd4 {p:List Int} {u v w x:NvT} (hu:RedN p u) (hv:RedN p v) (hw:RedN p w) (hx:RedN p x):∃D,0<D∧CD D u∧CD D v∧CD D w∧CD D x:=by
 obtain ⟨D,hD,a,b,c⟩:=cd3 hu hv hw
 have d:=hx.pos
 refine ⟨D*x.2,Int.mul_pos hD d,a.scale hD d,b.scale hD d,c.scale hD d,?_⟩
 have:=hx.cd.scale d hD
 rwa [Int.mul_comm x.2 D] at this
theorem img_lo {p:List Int} {pv t b:NvT} (hv:RedN p pv) (ht:RedN p t) (hb:RedN p b):subV (adV pv (subV b t)) b=subV pv t:=by
 obtain ⟨D,hD,⟨x,_,rfl⟩,⟨y,_,rfl⟩,⟨z,_,rfl⟩⟩:=cd3 hv ht hb
 unfold subV
 rw[← lowN,← lowN,adV_same hD,adV_same hD,adV_same hD,adV_same hD]
 exact congrArg (fun l=>loN l D) (tab_congr fun i hi=>by rw[nth_tab hi,nth_tab hi,nth_neg,nth_neg]; omega)
theorem img_hi {p:List Int} {pv t b l:NvT} (hv:RedN p pv) (ht:RedN p t) (hb:RedN p b) (hl:RedN p l):subV (adV b l) (adV pv (subV b t))=subV (adV t l) pv:=by
 obtain ⟨D,hD,⟨x,_,rfl⟩,⟨y,_,rfl⟩,⟨z,_,rfl⟩,⟨w,_,rfl⟩⟩:=cd4 hv ht hb hl
 unfold subV
 rw[← lowN,adV_same hD,adV_same hD,adV_same hD,← lowN,← lowN,adV_same hD,adV_same hD,adV_same hD]
 exact congrArg (fun l=>loN l D) (tab_congr fun i hi=>by simp only[nth_tab hi,nth_neg]; omega)
theorem img_back {p:List Int} {pv t b:NvT} (hv:RedN p pv) (ht:RedN p t) (hb:RedN p b):adV (adV pv (subV b t)) (subV t b)=pv:=by
 obtain ⟨D,hD,⟨x,hx,rfl⟩,⟨y,_,rfl⟩,⟨z,_,rfl⟩⟩:=cd3 hv ht hb
 unfold subV
 rw[← lowN,← lowN,adV_same hD,adV_same hD,adV_same hD,adV_same hD]
 exact congrArg (fun l=>loN l D) ((tab_congr fun i hi=>by simp only[nth_tab hi,nth_neg]; omega).trans (tab4_eq hx))
structure ExOk (p:List Int) (sg:NvT→Int) (D:Int) (M:Nat) (o:List Int×List Int) (ls:List NvT):Prop where
 sgl:SgL p sg
 len:LenOk p D M o.1.length ls
 top:pmR o.1 o.1.length
 bot:pmR o.2 o.1.length
 two:1≤o.1.length
 pos:∀a,a<o.1.length→0<sg (nth ls a)
theorem ExOk.inv {p:List Int} {sg:NvT→Int} {D:Int} {M:Nat} {o:List Int×List Int} {ls:List NvT} (h:ExOk p sg D M o ls):ExOk p sg D M (o.2,o.1) ls:=by
 have e:o.2.length=o.1.length:=h.bot.2.2
 exact ⟨h.sgl,by show LenOk p D M o.2.length ls; rw[e]; exact h.len,by show pmR o.2 o.2.length; rw[e]; exact h.bot,by show pmR o.1 o.2.length; rw[e]; exact h.top,by show 1≤o.2.length; rw[e]; exact h.two,by show ∀a,a<o.2.length→_; rw[e]; exact h.pos⟩
def ltO (sg:NvT→Int) (o:List Int×List Int) (ls:List NvT) (pv:NvT):Int:=letV sg (plV ls o.1) o.1 pv (o.1.length-1)
section
variable {p:List Int} {sg:NvT→Int} {D:Int} {M:Nat} {o:List Int×List Int} {ls:List NvT} (h:ExOk p sg D M o ls) {pv:NvT} (hv:RedN p pv)
include h hv
theorem ExOk.at (h0:0≤sg pv) (h1:sg (subV pv (totV ls o.1))<0):∃i j,i<o.1.length∧j<o.1.length∧nth o.1 i=ltO sg o ls pv∧nth o.2 j=ltO sg o ls pv∧0≤sg (subV pv (ptV ls o.1 i))∧0<sg (subV (ptV ls o.1 (i+1)) pv)∧imgV o ls pv (ltO sg o ls pv)=adV pv (subV (ptV ls o.2 j) (ptV ls o.1 i)):=by
 have ht:=pt_red h.sgl h.len h.top (Nat.le_refl _)
 have h1':0<sg (subV (ptV ls o.1 o.1.length) pv):=by
  rw[h.sgl.swap hv ht]
  have:sg (subV pv (ptV ls o.1 o.1.length))<0:=h1
  omega
 obtain ⟨i,hi,a,b⟩:=let_ex h.sgl h.len h.top h.pos hv h0 (Nat.le_refl _) h1'
 have e:=let_of h.sgl h.len h.top h.pos hv hi a b (m:=o.1.length-1) zo zo
 have hri:=h.top.1 i (by rw[h.top.2.2]; exact hi)
 obtain ⟨j,hj,hja,hjx⟩:=idx_nat h.bot (a:=(nth o.1 i).toNat) zo
 rw[show (((nth o.1 i).toNat:Nat):Int)=nth o.1 i by omega] at hja hjx
 refine ⟨i,j,hi,hj,e.symm,hja.trans e.symm,a,b,?_⟩
 unfold ltO
 rw[e]
 unfold imgV awV
 rw[nth_tab zo]
 have e1:nth (plV ls o.1) (nth o.1 i).toNat=ptV ls o.1 i:=by
  show nth (tab o.1.length fun a=>ptV ls o.1 (o.1.idxOf (a:Int))) _=_
  rw[nth_tab zo,show (((nth o.1 i).toNat:Nat):Int)=nth o.1 i by omega,idx_pm h.top hi]
 have e2:nth (plV ls o.2) (nth o.1 i).toNat=ptV ls o.2 j:=by
  show nth (tab o.2.length fun a=>ptV ls o.2 (o.2.idxOf (a:Int))) _=_
  rw[nth_tab (by rw[h.bot.2.2]; omega),show (((nth o.1 i).toNat:Nat):Int)=nth o.1 i by omega,hjx]
 rw[e1,e2]
theorem ExOk.img (h0:0≤sg pv) (h1:sg (subV pv (totV ls o.1))<0):RedN p (imgV o ls pv (ltO sg o ls pv))∧0≤sg (imgV o ls pv (ltO sg o ls pv))∧sg (subV (imgV o ls pv (ltO sg o ls pv)) (totV ls o.2))<0∧ltO sg (o.2,o.1) ls (imgV o ls pv (ltO sg o ls pv))=ltO sg o ls pv∧imgV (o.2,o.1) ls (imgV o ls pv (ltO sg o ls pv)) (ltO sg o ls pv)=pv:=by
 obtain ⟨i,j,hi,hj,ei,ej,a,b,e⟩:=h.at hv h0 h1
 have hbl:o.2.length=o.1.length:=h.bot.2.2
 have ti:=pt_red h.sgl h.len h.top (k:=i) zo
 have bj:=pt_red h.sgl h.len h.bot (k:=j) zo
 have hri:=h.top.1 i (by rw[h.top.2.2]; exact hi)
 have hl:=h.len.red (nth o.1 i).toNat zo
 have hs:=sub_RedN bj ti
 have hm:=add_RedN hv hs
 have lo:=img_lo hv ti bj
 have hi':=img_hi hv ti bj hl
 have et:ptV ls o.1 (i+1)=adV (ptV ls o.1 i) (nth ls (nth o.1 i).toNat):=rfl
 have eb:ptV ls o.2 (j+1)=adV (ptV ls o.2 j) (nth ls (nth o.1 i).toNat):=by rw[ptV,ej,ei]
 rw[← et,← eb] at hi'
 rw[← lo] at a
 rw[← hi'] at b
 rw[e]
 generalize him:adV pv (subV (ptV ls o.2 j) (ptV ls o.1 i))=im at *
 have bj1:=pt_red h.sgl h.len h.bot (k:=j+1) zo
 have g0:0≤sg im:=by
  have z:subV im (intV 0)=im:=adV_zero hm
  by_cases q:j=0
  ·subst q
   have:subV im (ptV ls o.2 0)=im:=z
   rw[this] at a; exact a
  ·have lt:=pt_lt h.sgl h.len h.bot h.pos (i:=0) (j:=j) zo zo
   have:=h.sgl.lt_of' (int_RedN h.sgl.pol 0) bj hm lt a
   rw[z] at this; omega
 have g1:0<sg (subV (ptV ls o.2 o.1.length) im):=by
  by_cases q:j+1=o.1.length
  ·rw[← q]; exact b
  ·exact h.sgl.lt_of hm bj1 (pt_red h.sgl h.len h.bot (Nat.le_refl _)) (Int.le_of_lt b) (pt_lt h.sgl h.len h.bot h.pos zo (Nat.le_refl _))
 have g2:sg (subV im (totV ls o.2))<0:=by
  unfold totV
  rw[hbl,h.sgl.swap (pt_red h.sgl h.len h.bot (Nat.le_refl _)) hm]; omega
 have el:ltO sg (o.2,o.1) ls im=ltO sg o ls pv:=by
  have:=let_of h.sgl h.len h.bot h.pos hm hj a b (m:=o.1.length-1) zo zo
  unfold ltO
  show letV sg (plV ls o.2) o.2 im (o.2.length-1)=_
  rw[hbl,this,ej]; rfl
 refine ⟨hm,g0,g2,el,?_⟩
 obtain ⟨j',i',hj',hi'',ej',ei',_,_,e'⟩:=h.inv.at hm g0 g2
 rw[el] at ej' ei' e'
 have f1:j'=j:=by
  have hj':j'<o.2.length:=hj'
  exact nodup_nth h.bot.2.1 hj' zo (by show nth (o.2,o.1).1 j'=_; rw[ej',ej])
 have f2:i'=i:=by
  have hi'':i'<o.2.length:=hi''
  exact nodup_nth h.top.2.1 zo hi (by show nth (o.2,o.1).2 i'=_; rw[ei',ei])
 subst f1 f2
 rw[e',← him]
 exact img_back hv ti bj
end
end Go.Fl

/- The law: an exchange is a bijection. -/
namespace Go.Fl
open Go Go.Proofs
open TrL renaming op→tO
open RunD renaming op→rO
set_option maxRecDepth 100000

theorem SgL.of_chk {f:FdT} (h0:chkF f=0):SgL f.1 (sgV f.1 (ivF f)):=by
 have hpo:=pol_open h0
 have hl:=(chkF_0 h0).1.1
 by_cases h2:f.1.length=2
 ·exact SgL.of_rat hpo h2
 ·exact SgL.of_fld (fld_ok h0 zo)
theorem XOk.ex {x:ExT} {D:Int} {M:Nat} (hx:XOk x) (hlo:LenOk x.1.1 D M x.2.1.length (lsX x)):ExOk x.1.1 (sgX x) D M (oX x) (lsX x) :=
 ⟨SgL.of_chk hx.fld,hlo,hx.rows.p1,hx.rows.p2,by have:2≤x.2.1.length:=hx.rows.two; show 1≤x.2.1.length; omega,fun a ha=>by
  have ha:a<x.2.1.length:=ha
  have:=hx.pos a ha
  rwa [← nth_mapT (p:=x.1.1) (by rw[hx.len]; exact ha)] at this⟩
theorem take_lsG {p:List Int} {D:Int} {M n:Nat} {ls:List NvT} (h:LenOk p D M n ls):(ls.map giveN).map (takeN p)=ls:=by
 refine ext_nth (by rw[List.length_map,List.length_map]) fun i hi=>?_
 rw[List.length_map,List.length_map] at hi
 rw[nth_mapT (by rw[List.length_map]; exact hi),nth_mapG hi]
 exact take_give (h.red i (by rw[← h.len]; exact hi))
theorem ct_apV (x:ExT) (D:Int) (M:Nat) (hx:XOk x) (hlo:LenOk x.1.1 D M x.2.1.length (lsX x)) (pt:NvT) (hr:RedN x.1.1 pt) (hb:NBd 200 pt) (hin:0≤sgX x pt∧sgX x (subV pt (totV (lsX x) x.2.2.1))<0):Ct Tryz.prog 15 [kRd eX (ivX x),kRd eNum (giveN pt)] (kTup [kRd eNum (giveN (imgV (x.2.2.1,x.2.1) (lsX x) pt (ltO (sgX x) (x.2.2.1,x.2.1) (lsX x) pt))),kI (ltO (sgX x) (x.2.2.1,x.2.1) (lsX x) pt),kI 0]):=by
 have hbl:x.2.2.1.length=x.2.1.length:=hx.rows.len
 have htk:=take_lsG hlo
 have htp:takeN x.1.1 (giveN pt)=pt:=take_give hr
 have hll:=hlo.len
 have hg:∀a,a<x.2.1.length→takeN x.1.1 (nth ((lsX x).map giveN) a)=nth (lsX x) a:=fun a ha=>by rw[nth_mapG (by rw[hll]; exact ha)]; exact take_give (hlo.red a ha)
 have hex:=hx.ex hlo
 have:=ct_xApply (ivX x) (openR x.1) (sgX x) D M (giveN pt) (ct_fOpenG _ hx.fld) (pol_open hx.fld) (sgnC_open hx.fld) ⟨by show x.2.1.length=x.2.2.1.length; omega,by show 2≤x.2.2.1.length; rw[hbl]; exact hx.rows.two,by show x.2.2.1.length≤8; rw[hbl]; exact hx.rows.le,by show pmR x.2.2.1 x.2.2.1.length; rw[hbl]; exact hx.rows.p2,by show pmR x.2.1 x.2.2.1.length; rw[hbl]; exact hx.rows.p1⟩ (by show ((lsX x).map giveN).length=x.2.2.1.length; rw[List.length_map,hll,hbl]) (fun a ha=>by
  have ha:a<x.2.1.length:=by rw[← hbl]; exact ha
  show NumOk 250 (nth ((lsX x).map giveN) a)
  rw[nth_mapG (by rw[hll]; exact ha)]
  exact (give_NumOk (hlo.one ha)).mono zo) (by show LenOk x.1.1 D M x.2.2.1.length (((lsX x).map giveN).map (takeN x.1.1)); rw[htk,hbl]; exact hlo) (fun a ha=>by
  have ha:a<x.2.1.length:=by rw[← hbl]; exact ha
  show 0<sgX x (takeN x.1.1 (nth ((lsX x).map giveN) a))
  rw[hg a ha]
  exact hex.pos a ha) ((give_NumOk hb).mono zo) (by
  show 0≤sgX x (takeN x.1.1 (giveN pt))∧sgX x (subV (takeN x.1.1 (giveN pt)) (totV (((lsX x).map giveN).map (takeN x.1.1)) x.2.2.1))<0
  rw[htk,htp]; exact hin)
 have e1:(ivX x).2.2.2.map (takeN (openR x.1).2.1)=lsX x:=htk
 have e2:takeN (openR x.1).2.1 (giveN pt)=pt:=htp
 rw[e1,e2] at this
 exact this
theorem bool2 {a b c:Bool} (h:(!a||!b||!c)=false):a=true∧b=true∧c=true:=by cases a<;>cases b<;>cases c<;>simp_all
theorem obE_0 {x:ExT} {p:NumT} (h:obE x p 1=0):chkX x=0∧inB x p=true:=by
 unfold obE at h
 by_cases c:chkX x=0
 ·rw[if_neg (fun a=>a c)] at h
  by_cases c2:0≤(1:Int)∧(1:Int)≤2000∧inB x p=true
  ·exact ⟨c,c2.2.2⟩
  ·rw[if_neg c2] at h; omega
 ·rw[if_pos c] at h; exact absurd h c
theorem inB_iff {x:ExT} {p:NumT}:inB x p=true↔0≤sgX x (takeN x.1.1 p)∧sgX x (subV (takeN x.1.1 p) (totV (lsX x) x.2.1))<0:=by
 unfold inB
 rw[Bool.and_eq_true,decide_eq_true_eq,decide_eq_true_eq]
theorem apP_in {x:ExT} {p:NumT} (hz:chkX x=0) (hib:inB x p=true):obE x p 1=0∧apP x p=giveN (imgV (oX x) (lsX x) (takeN x.1.1 p) (ltO (sgX x) (oX x) (lsX x) (takeN x.1.1 p)))∧apC x p=ltO (sgX x) (oX x) (lsX x) (takeN x.1.1 p):=by
 have e:obE x p 1=0:=by unfold obE; rw[if_neg (fun a=>a hz),if_pos ⟨by decide,by decide,hib⟩]
 refine ⟨e,?_,?_⟩
 ·unfold apP; rw[e,if_neg (fun a=>a rfl)]; rfl
 ·unfold apC; rw[e,if_neg (fun a=>a rfl)]; rfl
theorem bij_apply (x:ExT) (D:Int) (M:Nat) (p:NumT) (hx:XOk x) (hlo:LenOk x.1.1 D M x.2.1.length (lsX x)) (hb:HB D M (takeN x.1.1 p)) (hz:chkX x=0) (hib:inB x p=true):Ct Tryz.prog 15 [kRd eX (cI x),kRd eNum (apP x p)] (kTup [kRd eNum (giveN (takeN x.1.1 p)),kI (apC x p),kI 0]):=by
 obtain ⟨_,e2,e3⟩:=apP_in hz hib
 have e1:cI x=ivX x:=if_neg (fun a=>a hz)
 have hpo:=pol_open hx.fld
 have hv:=take_RedN (x:=p) hpo
 obtain ⟨a,b⟩:=inB_iff.1 hib
 obtain ⟨m1,m2,m3,m4,m5⟩:=(hx.ex hlo).img hv a b
 have nb:=or_bd (sg:=sgX x) (o:=oX x) hpo hlo hx.rows.p1 hx.rows.p2 ⟨(hx.ex hlo).two,hx.rows.le⟩ hv hb (k:=1) zo
 have hc:=ct_apV x D M hx hlo _ m1 nb ⟨m2,m3⟩
 rw[e1,e2,e3]
 rw[m4,m5] at hc
 exact hc
theorem giveN_inj {p:List Int} {u v:NvT} (hu:RedN p u) (hv:RedN p v) (e:giveN u=giveN v):u=v:=by
 have:=congrArg (takeN p) e
 rwa [take_give hu,take_give hv] at this
theorem bij_same (x:ExT) (D:Int) (M:Nat) (p q:NumT) (hx:XOk x) (hlo:LenOk x.1.1 D M x.2.1.length (lsX x)) (_hbp:HB D M (takeN x.1.1 p)) (_hbq:HB D M (takeN x.1.1 q)) (hz:chkX x=0) (hib:inB x p=true):(decide (obE x q 1≠0)||decide (decide (sgV x.1.1 (ivF x.1) (subV (takeN x.1.1 p) (takeN x.1.1 q))=0)=decide (apP x p=apP x q)))=true:=by
 by_cases hq:obE x q 1=0
 ·obtain ⟨_,hiq⟩:=obE_0 hq
  obtain ⟨_,e2,_⟩:=apP_in hz hib
  obtain ⟨_,f2,_⟩:=apP_in hz hiq
  have hpo:=pol_open hx.fld
  have hex:=hx.ex hlo
  have hv:=take_RedN (x:=p) hpo
  have hw:=take_RedN (x:=q) hpo
  obtain ⟨a,b⟩:=inB_iff.1 hib
  obtain ⟨c,d⟩:=inB_iff.1 hiq
  obtain ⟨m1,_,_,m4,m5⟩:=hex.img hv a b
  obtain ⟨n1,_,_,n4,n5⟩:=hex.img hw c d
  have key:sgV x.1.1 (ivF x.1) (subV (takeN x.1.1 p) (takeN x.1.1 q))=0↔apP x p=apP x q:=by
   rw[e2,f2]
   constructor
   ·intro e
    rw[hex.sgl.eq hv hw e]
   ·intro e
    have e':=giveN_inj m1 n1 e
    have l:ltO (sgX x) (oX x) (lsX x) (takeN x.1.1 p)=ltO (sgX x) (oX x) (lsX x) (takeN x.1.1 q):=by rw[← m4,← n4,e']
    have:takeN x.1.1 p=takeN x.1.1 q:=by rw[← m5,← n5,e',l]
    rw[this,sub_self hw]
    exact hex.sgl.int0
  simp[hq,key]
 ·simp[hq]
theorem ct_ExchangeBijective (x:ExT) (p q:NumT) (hxn:∀a,InN (nth x.2.2.2 a)) (hpi:InN p) (hqi:InN q):Ct Tryz.prog 5 [kRd eX x,kRd eNum p,kRd eNum q] (kB true):=by
 refine Ct.mk Tryz.func5 rfl Tryz.ntmps5 rfl (fun w J=>?_); refine jx2 ?_; refine jb 3 rfl ?_; refine jb 4 rfl ?_; refine jb 5 rfl ?_; refine jx5 ?_; refine Tr.frzB 3 [3] eX (x:=x) ⟨rfl,trivial⟩ rfl ?_; refine Tr.frzB 4 [4] eNum (x:=p) ⟨rfl,trivial⟩ rfl ?_; refine Tr.frzB 5 [5] eNum (x:=q) ⟨rfl,trivial⟩ rfl ?_; refine jn ?_; refine jx1 ?_; refine jc ct_awake ?_; refine jx3 ?_; refine Tr.cnd rfl ?_ ?_
 ·intro h1
  exact absurd h1 (by decide)
 ·intro h1
  refine jx6 ?_; refine jc (ct_xSmall x) ?_; refine jx3 ?_; refine TrL.gd rfl rfl rfl (ok_call (fun hp=>ct_bShort p 2) (.a rfl id<|.a rfl uu<|.nil)) rfl rfl ?_; refine jx4 ?_; refine TrL.gd rfl rfl rfl (ok_call (fun hp=>ct_bShort q 2) (.a rfl id<|.a rfl uu<|.nil)) rfl rfl ?_; refine jx4 ?_; refine Tr.cnd rfl ?_ ?_
  ·intro h3
   refine jx7 ?_
   exact Rts.res1 (fn:=Tryz.f5) rfl (.b rfl zi<|.nil)
  ·intro h3
   obtain ⟨hs1,hs2,hs3⟩:=bool2 h3
   have hsm:=smB_ok hs1 hxn
   have hp2:=shB_ok hs2 hpi
   have hq2:=shB_ok hs3 hqi
   refine jx6 ?_; refine jc (ct_xApplyA x p hsm hp2) ?_; refine jx4 ?_; refine ja 7 ?_; refine jx9 ?_; refine jc (ct_xApplyA x q hsm hq2) ?_; refine jx4 ?_; refine ja 10 ?_; refine jx12 ?_; refine jq ?_ ?_
   ·intro h7
    refine jx7 ?_
    exact Rts.res1 (fn:=Tryz.f5) rfl (.b rfl zi<|.nil)
   ·intro h7
    replace h7:=Classical.not_not.1 h7
    obtain ⟨hz,hib⟩:=obE_0 (by omega:obE x p 1=0)
    have hx:=chkX_ok hz hsm
    obtain ⟨D,M,hlo,hbb⟩:=hx.dm (ps:=[p,q]) (fun z hzz=>by rcases List.mem_cons.1 hzz with rfl | hzz; exact hp2; rw[List.mem_singleton.1 hzz]; exact hq2) (Nat.le_refl 2)
    have hbp:=hbb p (by simp)
    have hbq:=hbb q (by simp)
    have hpo:=pol_open hx.fld
    have hs:=(chkF_0 hx.fld).1.2.1
    have hap:=bij_apply x D M p hx hlo hbp hz hib
    refine jx5 ?_; refine jc (ct_cI x hsm) ?_; refine jx3 ?_; refine ja 13 ?_; refine jx8 ?_; refine jc hap ?_; refine jx4 ?_; refine ja 15 ?_; refine jx9 ?_; refine jc (ct_rOpen x.1 hx.fld) ?_; refine jx3 ?_; refine ja 18 ?_; refine jx6 ?_; refine Tr.draw 20 mixed (by kernel_rfl) ?_; refine jx19 ?_; refine RunD.gd rfl rfl rfl (ok_call (fun hp=>ct_rNormalN x.1 p 2 hpo hs hp2 zo) (.s rfl id rfl<|.a rfl id<|.nil)) rfl rfl ?_; refine jx1 ?_; refine TrL.gd rfl rfl rfl (ok_call (fun hp=>ct_bSameNum (giveN (takeN x.1.1 p)) (giveN (takeN x.1.1 p))) (.s rfl id rfl<|.a rfl id<|.nil)) rfl rfl ?_
    refine jx4 ?_; refine Tr.cnd rfl ?_ ?_
    ·intro h12
     simp[hz] at h12
    ·intro h12
     refine jx3 ?_; refine Tr.draw 11 mixed (by kernel_rfl) ?_; refine jx6 ?_; refine RunD.gd rfl rfl rfl (ok_call (fun hp=>ct_rCmpN x.1 p q hx.fld (hp2.mono zo) (hq2.mono zo)) (.s rfl id rfl<|.a rfl id<|.a rfl id<|.nil)) rfl rfl ?_; refine jx3 ?_; refine RunD.gd rfl rfl rfl (ok_call (fun hp=>ct_bSameNum (apP x p) (apP x q)) (.s rfl id rfl<|.s rfl id rfl<|.nil)) rfl rfl ?_; refine jx1 ?_; refine TrL.gd rfl rfl rfl (ok_eqlB rfl id rfl id) rfl rfl ?_; refine jx5 ?_; exact Rts.res1 (fn:=Tryz.f5) rfl (.b rfl (bij_same x D M p q hx hlo hbp hbq hz hib)<|.nil)

end Go.Fl
