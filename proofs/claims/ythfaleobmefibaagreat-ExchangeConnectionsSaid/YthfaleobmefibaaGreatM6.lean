/- Laws on walking typed knowledge through code, and contracts. -/
import Derived.Test.YthfaleobmefibaaGreatM5

/- Contracts: open with its errors; orbits. -/
namespace Go.Fl
open Go Go.Proofs
open TrL renaming op→tO
open RunD renaming op→rO
set_option maxRecDepth 100000

theorem ct_rxCheck (x:ExT) (hsm:SmX x):Ct Tryz.prog 17 [kRd eX x] (kI (chkX x)):=by
 by_cases h0:chkF x.1=0
 ·exact ct_rxCheckG x h0 hsm
 ·exact ct_rxCheckF x h0
noncomputable abbrev macX (x:ExT):MacT:=mac (openR x.1) (oX x) (lsX x)
theorem ct_xopX (x:ExT) (D:Int) (M:Nat) (hx:XOk x) (hlo:LenOk x.1.1 D M x.2.1.length (lsX x)):Ct Tryz.prog 66 [kRd eX x] (kTup [kPtr eMac (macX x),kI 0]) :=
 ct_xopen x (openR x.1) (sgX x) D M (ct_fOpenG _ hx.fld) (pol_open hx.fld) (sgnC_open hx.fld) hx.rows hx.len (fun a h=>(hx.num a h).mono zo) hlo hx.pos
theorem ct_imX (x:ExT) (D:Int) (M:Nat) (p:NumT) (hx:XOk x) (hlo:LenOk x.1.1 D M x.2.1.length (lsX x)) (hpn:NumOk 250 p):Ct Tryz.prog 68 [kPtr eMac (macX x),kRd eNum p] (kTup [kRd eNum (giveN (imgV (oX x) (lsX x) (takeN x.1.1 p) (lX x (takeN x.1.1 p) (x.2.1.length-1)))),kI (lX x (takeN x.1.1 p) (x.2.1.length-1))]) :=
 ct_image (openR x.1) (oX x) (lsX x) (sgX x) D M p (pol_open hx.fld) (sgnC_open hx.fld) hx.rows hlo hpn
theorem ct_sgX (f:FdT) (p:NumT) (h0:chkF f=0) (hp:NumOk 250 p):Ct Tryz.prog 82 [kPtr eReal (openR f),kRd eNum p] (kI (sgV f.1 (ivF f) (takeN f.1 p))):=(sgnC_open h0).sign p hp
theorem ct_nmX (f:FdT) (p:NumT) (h0:chkF f=0) (hp:NumOk 250 p):Ct Tryz.prog 69 [kPtr eReal (openR f),kRd eNum p] (kRd eNum (giveN (takeN f.1 p))):=ct_fNormalN (openR f) p 250 (pol_open h0) hp zo
theorem ct_xopenE (x:ExT) (h0:chkF x.1≠0):Ct Tryz.prog 66 [kRd eX x] (kTup [kDet (.pointer none),kI (chkX x)]):=by
 refine Ct.mk Tryz.func66 rfl Tryz.ntmps66 rfl (fun w J=>?_); refine jx2 ?_; refine jb 1 rfl ?_; refine jx8 ?_; refine jc (ct_fOpenE x.1 h0) ?_; refine jx14 ?_; refine Tr.cnd rfl ?_ ?_
 ·intro h2
  refine jx9 ?_; exact Rts.res (fn:=Tryz.f66) (ts:=[2,3]) rfl rfl (.k rfl<|.i rfl (by unfold chkX; rw[if_pos h0])<|.nil)
 ·intro h2
  exact absurd (of_decide_eq_false h2) (fun e=>e h0)

set_option maxHeartbeats 1000000 in
theorem ct_xopenR (x:ExT) (h0:chkF x.1=0) (hsm:SmX x) (hne:chkX x≠0):Ct Tryz.prog 66 [kRd eX x] (kTup [kDet (.pointer none),kI (chkX x)]):=by
 have he1:=(if_neg (fun e=>e h0):chkX x=_)
 have hpo:=pol_open h0
 have ht1:=hsm.top
 have ht2:=hsm.bot
 have ht3:=hsm.len
 obtain ⟨ls,hls⟩:∃ls,ls=lsX x:=⟨_,rfl⟩
 have hll:ls.length=x.2.2.2.length:=by rw[hls,List.length_map]
 have hnk:∀k,k<x.2.2.2.length→nth ls k=takeN x.1.1 (nth x.2.2.2 k):=fun k hk=>by rw[hls]; exact nth_mapT hk
 refine Ct.mk Tryz.func66 rfl Tryz.ntmps66 rfl (fun w J=>?_); refine jx2 ?_; refine jb 1 rfl ?_; refine jx8 ?_; refine jc (ct_fOpenG x.1 h0) ?_; refine jx14 ?_; refine Tr.cnd rfl ?_ ?_
 ·intro h2
  exact absurd h2 (by decide)
 ·intro h2
  refine jx6 ?_; refine tO (ok_call (fun hp=>ct_rowsOf _) (.s rfl uu rfl<|.nil)) rfl rfl ?_; refine tO (ok_call (fun hp=>ct_eCheckRows _) (.a rfl uu<|.nil)) rfl rfl ?_; refine jx9 ?_; refine jq ?_ ?_
  ·intro h5
   have hr:chkX x=chkR (x.2.1,x.2.2.1):=he1.trans (if_pos h5)
   refine jx9 ?_
   exact Rts.res (fn:=Tryz.f66) (ts:=[2,3]) rfl rfl (.k rfl<|.i rfl zi<|.nil)
  ·intro h5
   replace h5:=Classical.not_not.1 h5
   have he2:=he1.trans (if_neg (fun e=>e h5))
   refine jx14 ?_; refine jq ?_ ?_
   ·intro h7
    have hr:chkX x=10:=he2.trans (if_pos zo)
    refine jx8 ?_; exact Rts.res (fn:=Tryz.f66) (ts:=[2,3]) rfl rfl (.k rfl<|.i rfl (by rw[hr])<|.nil)
   ·intro h7
    replace h7:=Classical.not_not.1 h7
    have he3:=he2.trans (if_neg zo)
    refine jx6 ?_; refine tO (ok_call (fun hp=>ct_rowsOf _) (.s rfl uu rfl<|.nil)) rfl rfl ?_; refine tO (ok_call (fun hp=>ct_copied _ (by show x.2.1.length≤1000; omega) (by show x.2.2.1.length≤1000; omega)) (.a rfl uu<|.nil)) rfl rfl ?_; refine tO (ok_build (fun hp=>.cons rfl rfl rfl<|.cons rfl rfl rfl<|.nil)) rfl rfl ?_; refine jb 38 rfl ?_; refine jx12 ?_; refine Tr.growC 38 3 139 rfl (ks':=[_,_,_,kOsl 139 0,_,_,_,_,_]) rfl rfl 30 eNum rfl (.cons inferInstance rfl<|.cons inferInstance rfl<|.cons inferInstance rfl<|.cons inferInstance rfl<|.cons inferInstance rfl<|.cons inferInstance rfl<|.cons inferInstance rfl<|.cons inferInstance rfl<|.cons inferInstance rfl<|inferInstance) ?_
    refine Tr.for1 (σ:=Nat) [⟨1,true,_,_⟩,⟨4,true,_,_⟩,⟨7,true,_,_⟩,⟨40,true,_,_⟩,⟨41,true,_,_⟩] [⟨1,_,_⟩] (fun k=>[⟨42,true,[],kI (k:Int)⟩]) (fun k=>[⟨38,[139],cBlk [kPtr eReal (openR x.1),kRd (eL eI) x.2.1,kRd (eL eI) x.2.2.1,kOsl 139 k,kDet (.slice none 0 0),kDet (.slice none 0 0),kDet (.slice none 0 0),kDet (.slice none 0 0),kDet (.slice none 0 0)]⟩,⟨139,[],cArr true 30 eNum ((ls.take k).map giveN) k⟩]) (fun k=>k≤x.2.2.2.length∧∀j,j<k→0<sgV x.1.1 (ivF x.1) (takeN x.1.1 (nth x.2.2.2 j))) (fun k=>False) (fun k=>x.2.2.2.length-k) (0) ⟨by omega,fun j h=>absurd h (Nat.not_lt_zero _)⟩ (Ent.mk (.i rfl zi<|zk) (.e (by rfl) rfl<|.a (by rfl) zi<|zk) rfl) ?_ ?_
    ·rintro k ⟨hk,hR⟩
     refine jn ?_; refine jx6 ?_; refine jq ?_ ?_
     ·intro h11
      refine jx8 ?_; refine ja 9 ?_; refine jx8 ?_; refine jc (ct_sgX x.1 (nth x.2.2.2 k) h0 ((hsm.num k).mono zo)) ?_; refine jx3 ?_; refine jq ?_ ?_
      ·intro h13
       have hr:chkX x=12:=he3.trans (if_neg (fun e=>by have e2:0<sgV x.1.1 (ivF x.1) (takeN x.1.1 (nth x.2.2.2 k)):=e k zo; omega))
       refine jx14 ?_; exact Rts.res (fn:=Tryz.f66) (ts:=[2,3]) rfl rfl (.k rfl<|.i rfl (by rw[hr])<|.nil)
      ·intro h13
       replace h13:=Int.not_le.1 h13
       have hok:0<sgV x.1.1 (ivF x.1) (takeN x.1.1 (nth x.2.2.2 k)):=by omega
       refine jx2 ?_; refine Tr.drawM (m:=9) mixed (by kernel_rfl) rfl (by kernel_rfl) (by kernel_rfl) (by kernel_rfl) ?_; refine jx2 ?_; refine rO (ok_nilO rfl uu) rfl rfl ?_; refine jx4 ?_; refine jd (ct_nmX x.1 (nth x.2.2.2 k) h0 ((hsm.num k).mono zo)) ?_; refine RunD.new (ok_bsl eNum 58 (fun hp=>.cons rfl<|.nil) rfl rfl rfl rfl) rfl rfl rfl rfl ?_; refine jx1 ?_; refine TrL.wkC 38 (.k<|.k<|.k<|.any<|.k<|.k<|.k<|.k<|.k<|.nil) rfl ?_; refine jx1 ?_; refine jl ?_; refine tO (ok_nilO rfl uu) rfl rfl ?_; refine jx2 ?_; refine TrL.finN ?_; refine jx6 ?_
       exact End.lp (k+1) ⟨by omega,fun j hj=>by by_cases e:j=k; (rw[e]; exact hok); exact hR j zo⟩ zo (Ent.mk (.i rfl zi<|zk) (.e (by rfl) rfl<|.a (by rw[take_succ_nth zo,List.map_append,hnk k zo]; rfl) zi<|zk) rfl)
     ·intro h11
      replace h11:=Int.not_lt.1 h11
      refine jx4 ?_
      exact End.cut (k) (hne (he3.trans (if_pos fun j hj=>hR j zo))) (Ent.mk (.i rfl zi<|zk) (zk) rfl)
    ·intro k hE0
     exact hE0.elim

end Go.Fl

/- Contracts: errors of Apply and Orbit. -/
namespace Go.Fl
open Go Go.Proofs
open TrL renaming op→tO
open RunD renaming op→rO
set_option maxRecDepth 100000

theorem ct_xopenB (x:ExT) (hsm:SmX x) (hne:chkX x≠0):Ct Tryz.prog 66 [kRd eX x] (kTup [kDet (.pointer none),kI (chkX x)]):=by
 by_cases h0:chkF x.1=0
 ·exact ct_xopenR x h0 hsm hne
 ·exact ct_xopenE x h0
end Go.Fl

/- The law of orbits. -/
namespace Go.Fl
open Go Go.Proofs
open TrL renaming op→tO
open RunD renaming op→rO
set_option maxRecDepth 100000

noncomputable def inB (x:ExT) (p:NumT):Bool:=decide (0≤sgX x (takeN x.1.1 p))&&decide (sgX x (subV (takeN x.1.1 p) (totV (lsX x) x.2.1))<0)
noncomputable def obE (x:ExT) (p:NumT) (n:Int):Int:=if chkX x≠0 then chkX x else if 0≤n∧n≤2000∧inB x p=true then 0 else 2
noncomputable def obP (x:ExT) (p:NumT) (n:Int):List NumT:=if obE x p n≠0 then [] else tab (n.toNat+1) fun k=>giveN (orX x (takeN x.1.1 p) k)
noncomputable def obC (x:ExT) (p:NumT) (n:Int):List Int:=if obE x p n≠0 then [] else tab n.toNat (ltX x (takeN x.1.1 p))
noncomputable def apP (x:ExT) (p:NumT):NumT:=if obE x p 1≠0 then ([],[]) else giveN (orX x (takeN x.1.1 p) 1)
noncomputable def apC (x:ExT) (p:NumT):Int:=if obE x p 1≠0 then 0 else ltX x (takeN x.1.1 p) 0
theorem in_list {l:List Int} (h:ListP (okI .i64) l):InI l:=fun i hi=>okI64 (h.2 i hi)
theorem in_num {c:List (List Int)} {d:List Int} (h:ListP (ListP (okI .i64)) c) (h2:ListP (okI .i64) d):InN (c,d):=⟨fun i=>by
 by_cases hi:i<c.length
 ·exact in_list (h.2 i hi)
 ·show InI (nth c i); rw[nth_out zo]; exact inI_nil,in_list h2⟩
theorem in_nums {l:List NumT} (h:ListP InN l) (a:Nat):InN (nth l a):=by
 by_cases hi:a<l.length
 ·exact h.2 a hi
 ·rw[nth_out zo]; exact ⟨fun i=>by show InI (nth [] i); rw[nth_nil]; exact inI_nil,inI_nil⟩
end Go.Fl

/- Places of letters; lists that are filled letter by letter; renumbered rows. No program in sight. -/
namespace Go.Fl
open Go
def flP {α:Type} (F:Nat→α) (z:α) (row:List Int) (k:Nat):List α:=tab row.length fun a=>if row.idxOf (a:Int)<k then F (row.idxOf (a:Int)) else z
def nmV (row:List Int):List Int:=tab row.length fun a=>(row.idxOf (a:Int):Int)
def renB (o:List Int×List Int):List Int:=tab o.1.length fun i=>(o.1.idxOf (nth o.2 i):Int)
def renT (o:List Int×List Int):List Int:=tab o.1.length fun i=>(i:Int)
def renL (o:List Int×List Int) (ls:List NvT):List NvT:=tab o.1.length fun i=>nth ls (nth o.1 i).toNat
end Go.Fl

/- Contracts: the reference: renumbered rows, normal and inverse exchanges; comparisons of exchanges. -/
namespace Go.Fl
open Go Go.Proofs
open TrL renaming op→tO
open RunD renaming op→rO
set_option maxRecDepth 100000

abbrev exZ:ExT:=(([],0,0,0),[],[],[])
def fdB (a b:FdT):Bool:=decide (a.1=b.1)&&decide (a.2.1=b.2.1)&&decide (a.2.2.1=b.2.2.1)&&decide (a.2.2.2=b.2.2.2)
def exB (a b:ExT):Bool:=fdB a.1 b.1&&decide (a.2.1=b.2.1)&&decide (a.2.2.1=b.2.2.1)&&decide (a.2.2.2=b.2.2.2)
instance:NB 141 142:=⟨rfl⟩
instance:NB 142 141:=⟨rfl⟩
noncomputable abbrev nmX (x:ExT):ExT:=(x.1,renT (oX x),renB (oX x),(renL (oX x) (lsX x)).map giveN)
noncomputable abbrev ivX (x:ExT):ExT:=(x.1,x.2.2.1,x.2.1,(lsX x).map giveN)
end Go.Fl

/- Contracts: Check, Normal, Total, Shifts and Inverse of the program. -/
namespace Go.Fl
open Go Go.Proofs
open TrL renaming op→tO
open RunD renaming op→rO
set_option maxRecDepth 100000

end Go.Fl

/- Contracts: errors of Check, Normal, Total, Shifts and Inverse. -/
namespace Go.Fl
open Go Go.Proofs
open TrL renaming op→tO
open RunD renaming op→rO
set_option maxRecDepth 100000

end Go.Fl

/- The law of exchanges. -/
namespace Go.Fl
open Go Go.Proofs
open TrL renaming op→tO
open RunD renaming op→rO
set_option maxRecDepth 100000

noncomputable def cN (x:ExT):ExT:=if chkX x≠0 then exZ else nmX x
noncomputable def cT (x:ExT):NumT:=if chkX x≠0 then ([],[]) else giveN (totV (lsX x) x.2.1)
noncomputable def cS (x:ExT):List NumT:=if chkX x≠0 then [] else (awV (oX x) (lsX x) x.2.1.length).map giveN
noncomputable def cI (x:ExT):ExT:=if chkX x≠0 then exZ else ivX x
end Go.Fl

/- Sums of numbers: laws; numbers in order. No program in sight. -/
namespace Go.Fl
open Go
def CD (D:Int) (v:NvT):Prop:=∃cs:List Int,cs.length=4∧v=loN cs D
theorem RedN.cd {p:List Int} {v:NvT} (h:RedN p v):CD v.2 v:=⟨v.1,h.len,h.loN.symm⟩
theorem CD.scale {D m:Int} {v:NvT} (h:CD D v) (hD:0<D) (hm:0<m):CD (D*m) v:=by
 obtain ⟨cs,l,rfl⟩:=h
 exact ⟨cs.map fun c=>c*m,by rw[List.length_map,l],(low_scale zo zo).symm⟩
theorem cd3 {p:List Int} {u v w:NvT} (hu:RedN p u) (hv:RedN p v) (hw:RedN p w):∃D,0<D∧CD D u∧CD D v∧CD D w:=by
 have a:=hu.pos
 have b:=hv.pos
 have c:=hw.pos
 have ab:=Int.mul_pos a b
 have ac:=Int.mul_pos a c
 refine ⟨u.2*v.2*w.2,Int.mul_pos ab c,(hu.cd.scale a b).scale ab c,?_,?_⟩
 ·have:=(hv.cd.scale b a).scale (Int.mul_pos b a) c
  rwa [Int.mul_comm v.2 u.2] at this
 ·have:=hw.cd.scale c ab
  rwa [Int.mul_comm w.2 (u.2*v.2)] at this
theorem tab4_eq {cs:List Int} (h:cs.length=4):tab 4 (nth cs)=cs:=ext_nth (by rw[tab_len,h]) fun i hi=>by rw[tab_len] at hi; exact nth_tab hi
theorem adV_comm {p:List Int} {u v:NvT} (hu:RedN p u) (hv:RedN p v):adV u v=adV v u:=by
 obtain ⟨D,hD,⟨a,_,rfl⟩,⟨b,_,rfl⟩,_⟩:=cd3 hu hv hv
 rw[adV_same hD,adV_same hD]
 exact congrArg (fun l=>loN l D) (tab_congr fun i _=>Int.add_comm _ _)
theorem adV_zero {p:List Int} {u:NvT} (hu:RedN p u):adV u (intV 0)=u:=by
 obtain ⟨D,hD,⟨a,ha,rfl⟩,_,_⟩:=cd3 hu hu hu
 rw[int0_low hD,adV_same hD]
 refine congrArg (fun l=>loN l D) ((tab_congr fun i hi=>?_).trans (tab4_eq ha))
 rw[nth_tab hi]; omega
theorem lowN {cs:List Int} {d:Int}:loN (cs.map fun z=>-z) d=negV (loN cs d):=low_negc
theorem adV_neg {p:List Int} {u:NvT} (hu:RedN p u):adV u (negV u)=intV 0:=by
 obtain ⟨D,hD,⟨a,ha,rfl⟩,_,_⟩:=cd3 hu hu hu
 rw[← lowN,adV_same hD,int0_low hD]
 exact congrArg (fun l=>loN l D) (tab_congr fun i _=>by rw[nth_neg]; omega)
theorem neg_sub {p:List Int} {u v:NvT} (hu:RedN p u) (hv:RedN p v):negV (subV u v)=subV v u:=by
 obtain ⟨D,hD,⟨a,ha,rfl⟩,⟨b,hb,rfl⟩,_⟩:=cd3 hu hv hv
 unfold subV
 rw[← lowN,← lowN,adV_same hD,adV_same hD,← lowN]
 refine congrArg (fun l=>loN l D) ?_
 refine ext_nth (by rw[List.length_map,tab_len,tab_len]) fun i hi=>?_
 rw[List.length_map,tab_len] at hi
 rw[nth_neg,nth_tab hi,nth_tab hi,nth_neg,nth_neg]; omega
theorem sub_add {p:List Int} {u v w:NvT} (hu:RedN p u) (hv:RedN p v) (hw:RedN p w):adV (subV u v) (subV v w)=subV u w:=by
 obtain ⟨D,hD,⟨a,ha,rfl⟩,⟨b,hb,rfl⟩,⟨c,hc,rfl⟩⟩:=cd3 hu hv hw
 unfold subV
 rw[← lowN,← lowN,adV_same hD,adV_same hD,adV_same hD,adV_same hD]
 exact congrArg (fun l=>loN l D) (tab_congr fun i hi=>by rw[nth_tab hi,nth_tab hi,nth_neg,nth_neg]; omega)
theorem sub_self {p:List Int} {u:NvT} (hu:RedN p u):subV u u=intV 0:=adV_neg hu
theorem add_sub {p:List Int} {u v:NvT} (hu:RedN p u) (hv:RedN p v):subV (adV u v) u=v:=by
 obtain ⟨D,hD,⟨a,ha,rfl⟩,⟨b,hb,rfl⟩,_⟩:=cd3 hu hv hv
 unfold subV
 rw[← lowN,adV_same hD,adV_same hD]
 refine congrArg (fun l=>loN l D) ((tab_congr fun i hi=>?_).trans (tab4_eq hb))
 rw[nth_tab hi,nth_neg]; omega
structure SgL (p:List Int) (sg:NvT→Int):Prop where
 pol:PolOk p
 neg:∀v,RedN p v→sg (negV v)=-sg v
 add:∀u v,RedN p u→RedN p v→0≤sg u→0<sg v→0<sg (adV u v)
 zero:∀v,RedN p v→sg v=0→v=intV 0
 int0:sg (intV 0)=0
section
variable {p:List Int} {sg:NvT→Int} (h:SgL p sg) {u v w:NvT} (hu:RedN p u) (hv:RedN p v) (hw:RedN p w)
include h hu hv
theorem SgL.swap:sg (subV v u)=-sg (subV u v):=by
 rw[← neg_sub hu hv]
 exact h.neg _ (sub_RedN hu hv)
theorem SgL.eq (e:sg (subV u v)=0):u=v:=by
 have e0:=h.zero _ (sub_RedN hu hv) e
 have:=sub_add hu hv (int_RedN h.pol 0)
 have z:=fun {x:NvT} (hx:RedN p x)=>(show subV x (intV 0)=x from by
  have n0:negV (intV 0)=intV 0:=rfl
  unfold subV; rw[n0]; exact adV_zero hx)
 rw[z hv,z hu,e0,adV_comm (int_RedN h.pol 0) hv,adV_zero hv] at this
 exact this.symm
include hw
theorem SgL.lt_of (a:0≤sg (subV v u)) (b:0<sg (subV w v)):0<sg (subV w u):=by
 have:=h.add _ _ (sub_RedN hv hu) (sub_RedN hw hv) a b
 rwa [adV_comm (sub_RedN hv hu) (sub_RedN hw hv),sub_add hw hv hu] at this
end
end Go.Fl

/- The sign of a field's numbers goes with sums. No program in sight. -/
namespace Go.Fl
open Go
theorem sgnF_cases {p:List Int} {I:Iv} {cs:List Int}:sgnF p I cs=1∨sgnF p I cs=-1∨sgnF p I cs=0:=by
 unfold sgnF
 split
 ·exact .inl rfl
 ·split
  ·exact .inr (.inl rfl)
  ·exact .inr (.inr rfl)
theorem sgnF_one {p:List Int} {I:Iv} {cs:List Int} (h:sgnF p I cs=1):∃k,0<(enc (ivK p I k) cs).1:=by
 unfold sgnF at h
 split at h
 ·assumption
 ·split at h<;>omega
theorem sgnF_mone {p:List Int} {I:Iv} {cs:List Int} (h:sgnF p I cs=-1):∃k,(enc (ivK p I k) cs).2.1<0:=by
 unfold sgnF at h
 split at h
 ·omega
 ·split at h
  ·assumption
  ·omega
theorem sgnF_negc {p:List Int} {I:Iv} {cs:List Int} (hI:I.Ok):sgnF p I (cs.map fun c=>-c)=-sgnF p I cs:=by
 rcases sgnF_cases (p:=p) (I:=I) (cs:=cs) with h | h | h
 ·obtain ⟨k,hk⟩:=sgnF_one h
  rw[h]
  exact sgnF_neg (k:=k) hI (by rw[enc_neg]; show -(enc (ivK p I k) cs).1<0; omega)
 ·obtain ⟨k,hk⟩:=sgnF_mone h
  rw[h]
  exact sgnF_pos (k:=k) (by rw[enc_neg]; show 0 < -(enc (ivK p I k) cs).2.1; omega)
 ·rcases sgnF_cases (p:=p) (I:=I) (cs:=cs.map fun c=>-c) with h' | h' | h'
  ·obtain ⟨k,hk⟩:=sgnF_one h'
   rw[enc_neg] at hk
   have:=sgnF_neg (k:=k) hI (show (enc (ivK p I k) cs).2.1<0 by have:0 < -(enc (ivK p I k) cs).2.1:=hk; omega)
   omega
  ·obtain ⟨k,hk⟩:=sgnF_mone h'
   rw[enc_neg] at hk
   have:=sgnF_pos (p:=p) (I:=I) (cs:=cs) (k:=k) (show 0<(enc (ivK p I k) cs).1 by have:-(enc (ivK p I k) cs).1<0:=hk; omega)
   omega
  ·rw[h,h']; rfl
theorem sumab {cs:List Int}:∀c∈cs,c.natAbs≤(cs.map Int.natAbs).foldr (·+·) 0:=by
 induction cs with
 | nil=>intro c h; cases h
 | cons x cs ih =>
  intro c h
  rw[List.map_cons,List.foldr_cons]
  rcases List.mem_cons.1 h with rfl | h
  ·omega
  ·have:=ih c h; omega
theorem FldOk.ne0 {p cs:List Int} {I:Iv} (h:FldOk p I) (hcl:cs.length=p.length-1) (hc0:∃c∈cs,c≠0):sgnF p I cs=1∨sgnF p I cs=-1:=by
 obtain ⟨F,hF⟩:∃F,F=1000+(cs.map Int.natAbs).foldr (·+·) 0:=⟨_,rfl⟩
 obtain ⟨k,hk⟩:∃k,k=denB (p.length-1) F 1000000 2000000:=⟨_,rfl⟩
 have h2:k<2 ^ k:=Nat.lt_two_pow_self
 have hd:=h.iv.pos
 rcases h.told (k:=k) hcl hc0 (F:=F) zo (fun c hc=>by have:=sumab c hc; omega) (by
  rw[← hk]
  have e:((2 ^ k:Nat):Int)=2 ^ k:=by push_cast; rfl
  rw[← e]
  have:=Int.mul_le_mul_of_nonneg_right (show (1:Int)≤I.den by omega) (show (0:Int)≤((2 ^ k:Nat):Int) by omega)
  omega) with q | q
 ·exact .inl (sgnF_pos q)
 ·exact .inr (sgnF_neg h.iv q)
theorem sgnF_zeros {p:List Int} {I:Iv} {cs:List Int} (h:∀c∈cs,c=0):sgnF p I cs=0:=by
 have e:cs=cs.map fun c=>c*0:=by
  conv=>lhs; rw[← List.map_id cs]
  exact List.map_congr_left fun c hc=>by rw[h c hc]; rfl
 unfold sgnF
 rw[if_neg,if_neg]
 ·rintro ⟨k,hk⟩
  rw[e,enc_mul (Int.le_refl 0)] at hk
  simp at hk
 ·rintro ⟨k,hk⟩
  rw[e,enc_mul (Int.le_refl 0)] at hk
  simp at hk
theorem cmpZ_cases {a:Int}:(0<a∧cmpZ a 0=1)∨(a<0∧cmpZ a 0=-1)∨(a=0∧cmpZ a 0=0):=by
 unfold cmpZ
 by_cases h:a<0
 ·exact .inr (.inl ⟨h,if_pos h⟩)
 ·by_cases h2:0<a
  ·exact .inl ⟨h2,by rw[if_neg h,if_pos h2]⟩
  ·exact .inr (.inr ⟨by omega,by rw[if_neg h,if_neg h2]⟩)
theorem enc_c {I:Iv} {c:Int}:enc I [c]=(c*I.den,c*I.den,I.den):=by
 simp[enc,min4,max4]
theorem sgnF_rat {p:List Int} {I:Iv} (hI:I.Ok) {c:Int} {n:Nat}:sgnF p I (c::List.replicate n 0)=cmpZ c 0:=by
 have hp:∀k,0<(ivK p I k).den:=fun k=>(ivK_ok hI).pos
 rcases cmpZ_cases (a:=c) with ⟨h,e⟩ | ⟨h,e⟩ | ⟨h,e⟩
 ·rw[e]
  refine sgnF_pos (k:=0) ((enc_sg (hp 0) (xs:=[c])).1.2 ?_)
  rw[enc_c]
  exact Int.mul_pos h (hp 0)
 ·rw[e]
  refine sgnF_neg (k:=0) hI ((enc_sg (hp 0) (xs:=[c])).2.2 ?_)
  rw[enc_c]
  exact Int.mul_neg_of_neg_of_pos h (hp 0)
 ·rw[e]
  refine sgnF_zeros fun x hx=>?_
  rcases List.mem_cons.1 hx with rfl | hx
  ·exact h
  ·exact (List.mem_replicate.1 hx).2
theorem sgV_eq {p:List Int} {I:Iv} {v:NvT} (hI:I.Ok) (h3:3≤p.length) (h5:p.length≤5) (hv:RedN p v):sgV p I v=sgnF p I (v.1.take (p.length-1)):=by
 unfold sgV
 by_cases h:ratB v.1=true
 ·rw[if_pos h]
  have e:v.1.take (p.length-1)=nth v.1 0::List.replicate (p.length-2) 0:=by
   have hl:=hv.len
   refine ext_nth (by rw[List.length_take,hl,List.length_cons,List.length_replicate]; omega) fun i hi=>?_
   rw[List.length_take,hl] at hi
   rw[nth_take' zo]
   by_cases h0:i=0
   ·subst h0; rfl
   ·obtain ⟨j,rfl⟩:∃j,i=j+1:=⟨i-1,by omega⟩
    rw[ratB_iff.1 h (j+1) zo zo]
    show 0=nth (List.replicate (p.length-2) 0) j
    simp[nth,show j<p.length-2 by omega]
  rw[e]
  exact (sgnF_rat hI).symm
 ·rw[if_neg h]
end Go.Fl

/- The sign of a field's numbers goes with sums: fields of every degree. No program in sight. -/
namespace Go.Fl
open Go
theorem nth_zip {a b:List Int} {i:Nat} (ha:i<a.length) (hb:i<b.length):nth (List.zipWith (·+·) a b) i=nth a i+nth b i:=by
 have h:i<(List.zipWith (·+·) a b).length:=by rw[List.length_zipWith]; omega
 have e:∀{l:List Int} (q:i<l.length),nth l i=l[i]:=fun q=>by simp[nth,q]
 rw[e h,e ha,e hb,List.getElem_zipWith]
theorem negV_coef {v:NvT} {n:Nat}:(negV v).1.take n=(v.1.take n).map fun c=>-c:=by
 unfold negV
 rw[List.map_take]
theorem red_zero {p:List Int} {v:NvT} (hv:RedN p v) (h:∀i,i<4→nth v.1 i=0):v=intV 0:=by
 have e:v.1=tab 4 fun _=>0:=by
  rw[← tab4_eq hv.len]
  exact tab_congr fun i hi=>h i hi
 rw[← hv.loN,e,← int0_low hv.pos]
theorem adV_cross {u v:NvT} (hu:0<u.2) (hv:0<v.2) {i:Nat} (hi:i<4):nth (adV u v).1 i*(u.2*v.2)=(nth u.1 i*v.2+nth v.1 i*u.2)*(adV u v).2:=by
 have hD:=Int.mul_pos hu hv
 unfold adV
 rw[low_cross zo i,nth_tab hi]
theorem SgL.of_fld {p:List Int} {I:Iv} (h:FldOk p I):SgL p (sgV p I):=by
 have h3:=h.three
 have h5:=h.len4
 have hl4:∀v,RedN p v→(v.1.take (p.length-1)).length=p.length-1:=fun v hv=>by rw[List.length_take,hv.len]; omega
 have hz:∀v,RedN p v→sgV p I v=0→v=intV 0:=fun v hv e=>by
  rw[sgV_eq h.iv h3 h5 hv] at e
  refine red_zero hv fun i hi=>?_
  by_cases hip:i<p.length-1
  ·refine Classical.byContradiction fun hne=>?_
   rcases h.ne0 (hl4 v hv) ⟨nth v.1 i,by rw[← nth_take' hip]; exact nth_mem' (by rw[hl4 v hv]; exact hip),hne⟩ with q | q<;>omega
  ·exact hv.hi i zo
 refine ⟨h.pol,fun v hv=>?_,fun u v hu hv a b=>?_,hz,?_⟩
 ·rw[sgV_eq h.iv h3 h5 hv,sgV_eq h.iv h3 h5 (neg_RedN hv),negV_coef]
  exact sgnF_negc h.iv
 ·by_cases e:sgV p I u=0
  ·rw[hz u hu e,adV_comm (int_RedN h.pol 0) hv,adV_zero hv]; exact b
  ·have hs:=add_RedN hu hv
   rw[sgV_eq h.iv h3 h5 hs]
   rw[sgV_eq h.iv h3 h5 hu] at a e
   rw[sgV_eq h.iv h3 h5 hv] at b
   have a1:sgnF p I (u.1.take (p.length-1))=1:=by rcases sgnF_cases (p:=p) (I:=I) (cs:=u.1.take (p.length-1)) with q | q | q<;>omega
   have b1:sgnF p I (v.1.take (p.length-1))=1:=by rcases sgnF_cases (p:=p) (I:=I) (cs:=v.1.take (p.length-1)) with q | q | q<;>omega
   have pu:=hu.pos
   have pv:=hv.pos
   have key:=sgnF_add (p:=p) (I:=I) (xs:=(u.1.take (p.length-1)).map fun c=>c*v.2) (ys:=(v.1.take (p.length-1)).map fun c=>c*u.2) h.iv (by rw[List.length_map,List.length_map,hl4 u hu,hl4 v hv]) (by rw[sgnF_mul pv]; exact a1) (by rw[sgnF_mul pu]; exact b1)
   rw[← sgnF_mul (m:=u.2*v.2) (Int.mul_pos pu pv)]
   have e2:((adV u v).1.take (p.length-1)).map (fun c=>c*(u.2*v.2))=(List.zipWith (·+·) ((u.1.take (p.length-1)).map fun c=>c*v.2) ((v.1.take (p.length-1)).map fun c=>c*u.2)).map fun c=>c*(adV u v).2:=by
    refine ext_nth (by rw[List.length_map,hl4 _ hs,List.length_map,List.length_zipWith,List.length_map,List.length_map,hl4 u hu,hl4 v hv]; omega) fun i hi=>?_
    have hi:i<p.length-1:=by rw[List.length_map,hl4 _ hs] at hi; exact hi
    have m:∀{l:List Int} {c:Int},i<l.length→nth (l.map fun x=>x*c) i=nth l i*c:=fun hl=>by simp[nth,hl]
    rw[m (by rw[hl4 _ hs]; exact hi),m (by rw[List.length_zipWith,List.length_map,List.length_map,hl4 u hu,hl4 v hv]; omega),nth_take' hi]
    have z:nth (List.zipWith (·+·) ((u.1.take (p.length-1)).map fun c=>c*v.2) ((v.1.take (p.length-1)).map fun c=>c*u.2)) i=nth u.1 i*v.2+nth v.1 i*u.2:=by
     have q1:=m (l:=u.1.take (p.length-1)) (c:=v.2) (by rw[hl4 u hu]; exact hi)
     have q2:=m (l:=v.1.take (p.length-1)) (c:=u.2) (by rw[hl4 v hv]; exact hi)
     rw[nth_take' hi] at q1 q2
     rw[← q1,← q2]
     exact nth_zip (by rw[List.length_map,hl4 u hu]; exact hi) (by rw[List.length_map,hl4 v hv]; exact hi)
    rw[z]
    exact adV_cross pu pv zo
   rw[e2,sgnF_mul hs.pos,key]
   omega
 ·unfold sgV
  rw[if_pos (by decide)]
  rfl
theorem SgL.of_rat {p:List Int} {I:Iv} (hp:PolOk p) (h2:p.length=2):SgL p (sgV p I):=by
 have hr:∀v,RedN p v→ratB v.1=true:=fun v hv=>ratB_of fun i h1 _=>hv.hi i zo
 have hs:∀v,RedN p v→sgV p I v=cmpZ (nth v.1 0) 0:=fun v hv=>if_pos (hr v hv)
 refine ⟨hp,fun v hv=>?_,fun u v hu hv a b=>?_,fun v hv e=>?_,?_⟩
 ·rw[hs _ hv,hs _ (neg_RedN hv)]
  have:nth (negV v).1 0=-nth v.1 0:=nth_neg
  rw[this]
  unfold cmpZ
  by_cases q:nth v.1 0<0
  ·rw[if_neg zo,if_pos zo,if_pos q]; rfl
  ·by_cases q2:0<nth v.1 0
   ·rw[if_pos zo,if_neg q,if_pos q2]
   ·rw[if_neg zo,if_neg zo,if_neg q,if_neg q2]; rfl
 ·rw[hs _ hu] at a
  rw[hs _ hv] at b
  rw[hs _ (add_RedN hu hv)]
  have pu:=hu.pos
  have pv:=hv.pos
  have a0:0≤nth u.1 0:=by rcases cmpZ_cases (a:=nth u.1 0) with q | q | q<;>omega
  have b0:0<nth v.1 0:=by rcases cmpZ_cases (a:=nth v.1 0) with q | q | q<;>omega
  have c:=adV_cross pu pv (i:=0) zo
  have d1:=Int.mul_nonneg a0 (show 0≤v.2 by omega)
  have d2:=Int.mul_pos b0 pu
  have d3:0<(nth u.1 0*v.2+nth v.1 0*u.2)*(adV u v).2:=Int.mul_pos zo (add_RedN hu hv).pos
  rw[← c] at d3
  have d4:0<nth (adV u v).1 0:=by
   refine Classical.byContradiction fun hn=>?_
   have:=Int.mul_nonpos_of_nonpos_of_nonneg (show nth (adV u v).1 0≤0 by omega) (show 0≤u.2*v.2 from Int.le_of_lt (Int.mul_pos pu pv))
   omega
  rcases cmpZ_cases (a:=nth (adV u v).1 0) with q | q | q<;>omega
 ·rw[hs _ hv] at e
  have e0:nth v.1 0=0:=by rcases cmpZ_cases (a:=nth v.1 0) with q | q | q<;>omega
  refine red_zero hv fun i hi=>?_
  by_cases h0:i=0
  ·rw[h0]; exact e0
  ·exact ratB_iff.1 (hr v hv) i zo hi
 ·unfold sgV
  rw[if_pos (by decide)]
  rfl
end Go.Fl

/- Points, letters and images: the interval of a point is the only one that holds it. No program in sight. -/
namespace Go.Fl
open Go
section
variable {p:List Int} {sg:NvT→Int} {D:Int} {M n:Nat} {ls:List NvT} {row:List Int} (h:SgL p sg) (hlo:LenOk p D M n ls) (hr:pmR row n) (hpos:∀a,a<n→0<sg (nth ls a))
include h hlo hr
theorem pt_red {k:Nat} (hk:k≤n):RedN p (ptV ls row k):=(pt_ok h.pol hlo hr k hk).1
include hpos
theorem pt_step {k:Nat} (hk:k<n):0<sg (subV (ptV ls row (k+1)) (ptV ls row k)):=by
 have hl:=hr.2.2
 have hrk:=hr.1 k zo
 rw[ptV,add_sub (pt_red h hlo hr zo) (hlo.red _ zo)]
 exact hpos _ zo
theorem pt_lt {i:Nat}:∀{j:Nat},i<j→j≤n→0<sg (subV (ptV ls row j) (ptV ls row i))
 | 0,h1,_=>by omega
 | j+1,h1,h2=>by
  by_cases e:i=j
  ·rw[e]; exact pt_step h hlo hr hpos zo
  ·exact h.lt_of (pt_red h hlo hr zo) (pt_red h hlo hr zo) (pt_red h hlo hr zo) (Int.le_of_lt (pt_lt zo zo)) (pt_step h hlo hr hpos zo)
theorem let_of {pv:NvT} (hv:RedN p pv) {k:Nat} (hk:k<n) (h1:0≤sg (subV pv (ptV ls row k))) (h2:0<sg (subV (ptV ls row (k+1)) pv)):∀{m:Nat},k≤m→m<n→letV sg (plV ls row) row pv m=nth row k
 | 0,a,_=>by rw[letV,show k=0 by omega]
 | m+1,a,b=>by
  have hl:=hr.2.2
  have hrm:=hr.1 (m+1) zo
  have e:nth (plV ls row) (nth row (m+1)).toNat=ptV ls row (m+1):=by
   show nth (tab row.length fun a=>ptV ls row (row.idxOf (a:Int))) _=_
   rw[nth_tab zo,show (((nth row (m+1)).toNat:Nat):Int)=nth row (m+1) by omega,idx_pm hr zo]
  rw[letV,e]
  by_cases q:k=m+1
  ·subst q
   rw[if_pos (by rw[h.swap hv (pt_red h hlo hr zo)]; omega)]
  ·have hlt:0<sg (subV (ptV ls row (m+1)) pv):=by
    by_cases e1:k+1=m+1
    ·rw[← e1]; exact h2
    ·exact h.lt_of hv (pt_red h hlo hr zo) (pt_red h hlo hr zo) (Int.le_of_lt h2) (pt_lt h hlo hr hpos zo zo)
   rw[if_neg zo]
   exact let_of hv hk h1 h2 zo zo
end
end Go.Fl

/- The image of a point lies in the image of its interval; the inverse exchange takes it back. No program in sight. -/
namespace Go.Fl
open Go
structure ExOk (p:List Int) (sg:NvT→Int) (D:Int) (M:Nat) (o:List Int×List Int) (ls:List NvT):Prop where
 sgl:SgL p sg
 len:LenOk p D M o.1.length ls
 top:pmR o.1 o.1.length
 bot:pmR o.2 o.1.length
 two:1≤o.1.length
 pos:∀a,a<o.1.length→0<sg (nth ls a)
def ltO (sg:NvT→Int) (o:List Int×List Int) (ls:List NvT) (pv:NvT):Int:=letV sg (plV ls o.1) o.1 pv (o.1.length-1)
section
variable {p:List Int} {sg:NvT→Int} {D:Int} {M:Nat} {o:List Int×List Int} {ls:List NvT} (h:ExOk p sg D M o ls) {pv:NvT} (hv:RedN p pv)
include h hv
end
end Go.Fl

/- The law: an exchange is a bijection. -/
namespace Go.Fl
open Go Go.Proofs
open TrL renaming op→tO
open RunD renaming op→rO
set_option maxRecDepth 100000

theorem SgL.of_chk {f:FdT} (h0:chkF f=0):SgL f.1 (sgV f.1 (ivF f)):=by
 have hpo:=pol_open h0
 have hl:=(chkF_0 h0).1.1
 by_cases h2:f.1.length=2
 ·exact SgL.of_rat hpo h2
 ·exact SgL.of_fld (fld_ok h0 zo)
theorem XOk.ex {x:ExT} {D:Int} {M:Nat} (hx:XOk x) (hlo:LenOk x.1.1 D M x.2.1.length (lsX x)):ExOk x.1.1 (sgX x) D M (oX x) (lsX x) :=
 ⟨SgL.of_chk hx.fld,hlo,hx.rows.p1,hx.rows.p2,by have:2≤x.2.1.length:=hx.rows.two; show 1≤x.2.1.length; omega,fun a ha=>by
  have ha:a<x.2.1.length:=ha
  have:=hx.pos a ha
  rwa [← nth_mapT (p:=x.1.1) (by rw[hx.len]; exact ha)] at this⟩
end Go.Fl

/- Connections: which interval begins at a point. No program in sight. -/
namespace Go.Fl
open Go
def gJ (sg:NvT→Int) (row:List Int) (ls:List NvT) (pv:NvT):Nat→Option Int
 | 0=>none
 | j+1=>if 1≤j∧sg (subV pv (ptV ls row j))=0 then some (nth row j) else gJ sg row ls pv j
def hJ (sg:NvT→Int) (row:List Int) (ls:List NvT) (pv:NvT):Option Int:=if letV sg (plV ls row) row pv (row.length-1)≠nth row 0∧sg (subV (nth (plV ls row) (letV sg (plV ls row) row pv (row.length-1)).toNat) pv)=0 then some (letV sg (plV ls row) row pv (row.length-1)) else none
theorem gJ_no {sg:NvT→Int} {n:Nat} {ls:List NvT} {row:List Int} {pv:NvT} (a:∀j,1≤j→j<n→sg (subV pv (ptV ls row j))≠0):∀{i:Nat},i≤n→gJ sg row ls pv i=none
 | 0,_=>rfl
 | i+1,r=>by
  rw[gJ,if_neg fun z=>a i z.1 zo z.2]
  exact gJ_no a zo
section
variable {p:List Int} {sg:NvT→Int} {D:Int} {M n:Nat} {ls:List NvT} {row:List Int} (h:SgL p sg) (hlo:LenOk p D M n ls) (hr:pmR row n) (hpos:∀a,a<n→0<sg (nth ls a)) {pv:NvT} (hv:RedN p pv)
include h hlo hr hpos hv
theorem gJ_one {i j:Nat} (hi:i<n) (hj:j<n) (a:sg (subV pv (ptV ls row i))=0) (b:sg (subV pv (ptV ls row j))=0):i=j:=by
 have ri:=pt_red h hlo hr (k:=i) zo
 have rj:=pt_red h hlo hr (k:=j) zo
 have e:ptV ls row i=ptV ls row j:=(h.eq hv ri a).symm.trans (h.eq hv rj b)
 refine Classical.byContradiction fun hne=>?_
 rcases Nat.lt_or_gt_of_ne hne with q | q
 ·have:=pt_lt h hlo hr hpos q zo
  rw[e,sub_self rj,h.int0] at this; omega
 ·have:=pt_lt h hlo hr hpos q zo
  rw[e,sub_self rj,h.int0] at this; omega
theorem gJ_none {j:Nat} (hj:j<n) (a:sg (subV pv (ptV ls row j))=0):∀{i:Nat},i≤j→gJ sg row ls pv i=none
 | 0,_=>rfl
 | i+1,hi=>by
  rw[gJ,if_neg fun q=>by have:=gJ_one h hlo hr hpos hv zo hj q.2 a; omega]
  exact gJ_none hj a zo
theorem gJ_at {j:Nat} (hj:j<n) (h1:1≤j) (a:sg (subV pv (ptV ls row j))=0):∀{i:Nat},j<i→i≤n→gJ sg row ls pv i=some (nth row j)
 | 0,q,_=>by omega
 | i+1,q,r=>by
  by_cases e:j=i
  ·subst e; rw[gJ,if_pos ⟨h1,a⟩]
  ·rw[gJ,if_neg fun z=>e (gJ_one h hlo hr hpos hv hj zo a z.2)]
   exact gJ_at hj h1 a zo zo
theorem hJ_gJ (hn:1≤n):hJ sg row ls pv=gJ sg row ls pv n:=by
 have hl:=hr.2.2
 have tp:∀j,j<n→nth (plV ls row) (nth row j).toNat=ptV ls row j:=fun j hj=>by
  have hrj:=hr.1 j zo
  show nth (tab row.length fun a=>ptV ls row (row.idxOf (a:Int))) _=_
  rw[nth_tab zo,show (((nth row j).toNat:Nat):Int)=nth row j by omega,idx_pm hr zo]
 by_cases c:∃j,1≤j∧j<n∧sg (subV pv (ptV ls row j))=0
 ·obtain ⟨j,h1,hj,a⟩:=c
  have rj:=pt_red h hlo hr (k:=j) zo
  have e:=h.eq hv rj a
  have b:0<sg (subV (ptV ls row (j+1)) pv):=by rw[e]; exact pt_step h hlo hr hpos hj
  have lt:=let_of h hlo hr hpos hv hj zo b (m:=n-1) zo zo
  rw[gJ_at h hlo hr hpos hv hj h1 a hj (Nat.le_refl _)]
  unfold hJ
  rw[hl,lt,if_pos]
  refine ⟨fun z=>?_,?_⟩
  ·have:=nodup_nth hr.2.1 zo zo z
   omega
  ·rw[tp j hj,h.swap hv rj,a]; rfl
 ·rw[gJ_no (fun j a b d=>c ⟨j,a,b,d⟩) (Nat.le_refl _)]
  unfold hJ
  obtain ⟨j,hj,e⟩:=letV_at (sg:=sg) (tops:=plV ls row) (row:=row) (pv:=pv) (row.length-1)
  rw[e,if_neg]
  rintro ⟨z1,z2⟩
  have hj':j<n:=by omega
  have rj:=pt_red h hlo hr (k:=j) zo
  rw[tp j hj',h.swap hv rj] at z2
  refine c ⟨j,?_,hj',by omega⟩
  refine Classical.byContradiction fun q=>z1 ?_
  rw[show j=0 by omega]
end
def fsT (H:Nat→Option Int):Nat→Option (Int×Int)
 | 0=>none
 | k+1=>match fsT H k with
  | some q=>some q
  | none=>(H k).map fun a=>(a,(k:Int))
theorem fsT_no {H:Nat→Option Int} {k:Nat} (h:fsT H k=none) (a:H k=none):fsT H (k+1)=none:=by simp[fsT,h,a]
theorem fsT_at {H:Nat→Option Int} {k:Nat} {z:Int} (h:fsT H k=none) (a:H k=some z):fsT H (k+1)=some (z,(k:Int)):=by simp[fsT,h,a]
theorem fsT_mono {H:Nat→Option Int} {k:Nat} {q:Int×Int} (h:fsT H k=some q):∀{m:Nat},k≤m→fsT H m=some q
 | 0,hm=>by rw[show k=0 by omega] at h; exact h
 | m+1,hm=>by
  by_cases e:k=m+1
  ·rw[← e]; exact h
  ·rw[fsT,fsT_mono h (m:=m) zo]
def cn1 (a:Int):Option (Int×Int)→List (Int×Int×Int)
 | some q=>[(a,q.1,q.2)]
 | none=>[]
def cnT (H:Nat→Nat→Option Int) (row:List Int) (b:Nat):Nat→List (Int×Int×Int)
 | 0=>[]
 | i+1=>cnT H row b i++cn1 (nth row (i+1)) (fsT (H (i+1)) (b+1))
theorem cn1_len {a:Int} {q:Option (Int×Int)}:(cn1 a q).length≤1:=by
 cases q with
 | none=>exact Nat.zero_le _
 | some q=>exact Nat.le_refl _
theorem cnT_len {H:Nat→Nat→Option Int} {row:List Int} {b:Nat}:∀{i:Nat},(cnT H row b i).length≤i
 | 0=>Nat.le_refl _
 | i+1=>by
  rw[cnT,List.length_append]
  have:=cnT_len (H:=H) (row:=row) (b:=b) (i:=i)
  have:=cn1_len (a:=nth row (i+1)) (q:=fsT (H (i+1)) (b+1))
  omega
theorem take_LenOk8 {p:List Int} {xs:List (List (List Int)×List Int)} {n:Nat} (hp:PolOk p) (hl:xs.length=n) (hn:n≤8) (h:∀a,a<n→NumOk 2 (nth xs a)):∃(D:Int) (M:Nat),LenOk p D M n (xs.map (takeN p))∧∀row,pmR row n→∀k,k≤n→HB D M (ptV (xs.map (takeN p)) row k):=by
 have key:∀v∈xs.map (takeN p),RedN p v∧NBd 17 v:=fun v hv=>by
  obtain ⟨x,hx,rfl⟩:=List.mem_map.1 hv
  obtain ⟨i,hi,rfl⟩:=List.mem_iff_getElem.1 hx
  have e:nth xs i=xs[i]:=by simp[nth,hi]
  rw[← e]
  exact ⟨take_RedN hp,take_NBd hp (h i zo)⟩
 obtain ⟨D,M,h1,h2,h3,h4⟩:=HB.all key
 have hll:(xs.map (takeN p)).length≤8:=by rw[List.length_map]; omega
 have hk:=Nat.mul_le_mul_right 17 hll
 have e:∀a,a<n→nth (xs.map (takeN p)) a∈xs.map (takeN p):=fun a ha=>by rw[nth_mapT zo]; exact List.mem_map_of_mem (by simp[nth,hl,ha])
 have d1:=dl_mul (800000:Int) (M:Int)
 have d2:=dl_small (F:=800000) zo zo
 have d3:dl ((100000*(8*M):Nat):Int)≤200:=by
  rw[show ((100000*(8*M):Nat):Int)=800000*(M:Int) by omega]
  omega
 have d4:dl ((100000*M:Nat):Int)≤200:=Nat.le_trans (digN_len_le (by rw[Int.natAbs_natCast,Int.natAbs_natCast]; omega)) d3
 have L1:LenOk p D M n (xs.map (takeN p)):=⟨by rw[List.length_map,hl],fun a ha=>(key _ (e a ha)).1,fun a ha=>h4 _ (e a ha),h1,by omega,d4⟩
 refine ⟨D,8*M,⟨by rw[List.length_map,hl],fun a ha=>(key _ (e a ha)).1,fun a ha=>(h4 _ (e a ha)).mono zo,h1,by omega,d3⟩,fun row hr k hk'=>?_⟩
 exact (pt_ok hp L1 hr k hk').2.mono (Nat.mul_le_mul_right _ zo)
end Go.Fl

/- Contracts: connections of exchanges. -/
namespace Go.Fl
open Go Go.Proofs
open TrL renaming op→tO
open RunD renaming op→rO
set_option maxRecDepth 100000

abbrev ConT:=Int×Int×Int
def eCon:Enc ConT:=eC (fun v:ConT=>(v.1,v.2.1,v.2.2,())) (eP eI (eP eI (eP eI eU)))
instance {v:ConT}:CellsK (kRd eCon v) [kI (v.1),kI (v.2.1),kI (v.2.2)]:=inferInstanceAs (CellsK (kRd (eC (fun v:ConT=>(v.1,v.2.1,v.2.2,())) (eP eI (eP eI (eP eI eU)))) v) _)
instance {v:ConT} {tl:List Know}:EncCells eCon v tl (kI (v.1)::kI (v.2.1)::kI (v.2.2)::tl):=inferInstanceAs (EncCells (eC (fun v:ConT=>(v.1,v.2.1,v.2.2,())) (eP eI (eP eI (eP eI eU)))) v tl _)
instance {v:ConT}:Norm eCon v (kRd eCon v):=⟨fun h=>h⟩
instance {v:ConT}:FieldP eCon v 0 eI (v.1) 0:=inferInstanceAs (FieldP (eC (fun v:ConT=>(v.1,v.2.1,v.2.2,())) (eP eI (eP eI (eP eI eU)))) v 0 _ _ _)
instance {v:ConT}:FieldP eCon v 1 eI (v.2.1) 1:=inferInstanceAs (FieldP (eC (fun v:ConT=>(v.1,v.2.1,v.2.2,())) (eP eI (eP eI (eP eI eU)))) v 1 _ _ _)
instance {v:ConT}:FieldP eCon v 2 eI (v.2.2) 2:=inferInstanceAs (FieldP (eC (fun v:ConT=>(v.1,v.2.1,v.2.2,())) (eP eI (eP eI (eP eI eU)))) v 2 _ _ _)
instance {ks r:List Know} {a b c:Int} [h:RdOf ks (eP eI (eP eI (eP eI eU))) (a,b,c,()) r]:RdOf ks eCon ((a,b,c)) r:=⟨fun h'=>h.imp h'⟩
instance:TyInts Tryz.prog 68 3:=TyInts.mk' (by kernel_rfl) (by kernel_rfl) (by kernel_rfl) (by kernel_rfl)
theorem con_cells {J:JV} {cs:List Value} {v:ConT} (h:eCon.rd J cs v):cs=[v.1,v.2.1,v.2.2].map (Value.int .i64):=by
 obtain ⟨_,_,rfl,rfl,_,_,rfl,rfl,_,_,rfl,rfl,rfl⟩:=h
 rfl
noncomputable abbrev pbX (x:ExT) (i:Nat):NvT:=ptV (lsX x) x.2.2.1 i
noncomputable def stB (x:ExT) (pt:NvT):Bool:=decide (lX x pt (x.2.1.length-1)≠nth x.2.1 0)&&decide (sgX x (subV (nth (plV (lsX x) x.2.1) (lX x pt (x.2.1.length-1)).toNat) pt)=0)
noncomputable def hX (x:ExT) (i k:Nat):Option Int:=hJ (sgX x) x.2.1 (lsX x) (orX x (pbX x i) k)
noncomputable def cnX (x:ExT) (b i:Nat):List ConT:=cnT (hX x) x.2.2.1 b i
theorem cnX_len {x:ExT} {b i:Nat}:(cnX x b i).length≤i:=cnT_len
theorem cnX_succ {x:ExT} {b i:Nat}:cnX x b (i+1)=cnX x b i++cn1 (nth x.2.2.1 (i+1)) (fsT (hX x (i+1)) (b+1)):=rfl
theorem st_some {x:ExT} {i k:Nat} (h:stB x (orX x (pbX x i) k)=true):hX x i k=some (lX x (orX x (pbX x i) k) (x.2.1.length-1)):=by
 unfold stB at h
 rw[Bool.and_eq_true,decide_eq_true_eq,decide_eq_true_eq] at h
 exact if_pos h
theorem st_none {x:ExT} {i k:Nat} (h:stB x (orX x (pbX x i) k)=false):hX x i k=none:=by
 refine if_neg fun a=>?_
 have:stB x (orX x (pbX x i) k)=true:=by
  unfold stB
  rw[Bool.and_eq_true,decide_eq_true_eq,decide_eq_true_eq]
  exact a
 rw[h] at this; cases this
theorem XOk.dm8 {x:ExT} (hx:XOk x):∃(D:Int) (M:Nat),LenOk x.1.1 D M x.2.1.length (lsX x)∧∀i,i≤x.2.1.length→HB D M (pbX x i):=by
 obtain ⟨D,M,h1,h2⟩:=take_LenOk8 (pol_open hx.fld) hx.len hx.rows.le hx.num
 exact ⟨D,M,h1,fun i hi=>h2 _ hx.rows.p2 i hi⟩
theorem ct_starts (r:RlT) (o:Ori) (ls:List NvT) (sg:NvT→Int) (D:Int) (M:Nat) (p:NumT) (hpo:PolOk r.2.1) (hs:SgnC r sg) (v:RowsOk o) (hlo:LenOk r.2.1 D M o.1.length ls) (hpn:NumOk 250 p):Ct Tryz.prog 88 [kPtr eMac (mac r o ls),kRd eNum p] (kTup [kI (letV sg (plV ls o.1) o.1 (takeN r.2.1 p) (o.1.length-1)),kB (decide ((letV sg (plV ls o.1) o.1 (takeN r.2.1 p) (o.1.length-1))≠nth o.1 0)&&decide (sg (subV (nth (plV ls o.1) (letV sg (plV ls o.1) o.1 (takeN r.2.1 p) (o.1.length-1)).toNat) (takeN r.2.1 p))=0))]):=by
 have hle:o.1.length≤8:=v.le
 have htwo:2≤o.1.length:=v.two
 have hp1:pmR o.1 o.1.length:=v.p1
 have hrr:=hp1.1
 have hpl1:((plV ls o.1).map giveN).length=o.1.length:=by rw[List.length_map,plV_len]
 have hlt:=letV_rg (sg:=sg) (tops:=plV ls o.1) (pv:=takeN r.2.1 p) hp1 (show o.1.length-1<o.1.length by omega)
 have hq:=plV_ok hpo hlo hp1 (a:=(letV sg (plV ls o.1) o.1 (takeN r.2.1 p) (o.1.length-1)).toNat) zo
 have hmg:nth ((plV ls o.1).map giveN) (letV sg (plV ls o.1) o.1 (takeN r.2.1 p) (o.1.length-1)).toNat=giveN (nth (plV ls o.1) (letV sg (plV ls o.1) o.1 (takeN r.2.1 p) (o.1.length-1)).toNat):=nth_mapG (by rw[plV_len]; omega)
 refine Ct.mk Tryz.func88 rfl Tryz.ntmps88 rfl (fun w J=>?_); refine jx2 ?_; refine jb 3 rfl ?_; refine jx8 ?_; refine jc (ct_letter r o ls sg D M p hpo hs v hlo hpn) ?_; refine jx4 ?_; refine Tr.draw 27 mixed (by kernel_rfl) ?_; refine jx3 ?_; refine rO (ok_nilP rfl uu) rfl rfl ?_; refine jx3 ?_; refine rO (ok_idxN (i:=0) rfl uu rfl uu rfl (fun _=>zo)) rfl rfl ?_; refine jx4 ?_; refine RunD.gd rfl rfl rfl (ok_nilP rfl id) rfl rfl ?_; refine jx3 ?_; refine RunD.gd rfl rfl rfl (ok_nilP rfl id) rfl rfl ?_; refine jx3 ?_
 first | refine RunD.gd rfl rfl rfl (ok_idxN rfl id rfl id rfl (fun hp=>by simp at hp; omega)) rfl rfl ?_ | refine RunD.gd rfl rfl rfl (ok_idxP rfl id rfl id rfl (fun hp=>by simp at hp; omega)) rfl rfl ?_
 refine jx2 ?_; refine RunD.gd rfl rfl rfl (ok_call (fun hp=>hs.cmp _ _ (by rw[hmg]; exact (give_NumOk (hlo.nbd hq.2 zo)).mono zo) hpn) (.a rfl id<|.a rfl id<|.s rfl id rfl<|.nil)) rfl rfl ?_
 rw[hmg,take_give hq.1]
 refine jx8 ?_
 exact Rts.res (fn:=Tryz.f88) (ts:=[4,5]) rfl rfl (.i rfl zi<|.b rfl zi<|.nil)

end Go.Fl

/- Contracts: connections of the program. -/
namespace Go.Fl
open Go Go.Proofs
open TrL renaming op→tO
open RunD renaming op→rO
set_option maxRecDepth 100000

theorem ct_stV (x:ExT) (D:Int) (M:Nat) (pt:NvT) (hx:XOk x) (hlo:LenOk x.1.1 D M x.2.1.length (lsX x)) (hr:RedN x.1.1 pt) (hb:NBd 200 pt):Ct Tryz.prog 88 [kPtr eMac (macX x),kRd eNum (giveN pt)] (kTup [kI (lX x pt (x.2.1.length-1)),kB (stB x pt)]):=by
 have:=ct_starts (openR x.1) (oX x) (lsX x) (sgX x) D M (giveN pt) (pol_open hx.fld) (sgnC_open hx.fld) hx.rows hlo ((give_NumOk hb).mono zo)
 have e:takeN (openR x.1).2.1 (giveN pt)=pt:=take_give hr
 rw[e] at this
 exact this
theorem ct_imV (x:ExT) (D:Int) (M:Nat) (pt:NvT) (hx:XOk x) (hlo:LenOk x.1.1 D M x.2.1.length (lsX x)) (hr:RedN x.1.1 pt) (hb:NBd 200 pt):Ct Tryz.prog 68 [kPtr eMac (macX x),kRd eNum (giveN pt)] (kTup [kRd eNum (giveN (imgV (oX x) (lsX x) pt (lX x pt (x.2.1.length-1)))),kI (lX x pt (x.2.1.length-1))]):=by
 have:=ct_imX x D M (giveN pt) hx hlo ((give_NumOk hb).mono zo)
 rw[take_give hr] at this
 exact this
theorem con_in {x:ExT} {b i k:Nat} {a:Int} (h:fsT (hX x (i+1)) k=none) (e:hX x (i+1) k=some a) (hk:k≤b):cnX x b (i+1)=cnX x b i++[(nth x.2.2.1 (i+1),a,(k:Int))]:=by
 rw[cnX_succ,fsT_mono (fsT_at h e) (show k+1≤b+1 by omega)]; rfl
theorem con_out {x:ExT} {b i k:Nat} (h:fsT (hX x (i+1)) k=none) (hk:k=b+1):cnX x b (i+1)=cnX x b i:=by
 rw[cnX_succ,← hk,h]; exact List.append_nil _
set_option maxHeartbeats 1000000 in
theorem ct_xConG (x:ExT) (D:Int) (M:Nat) (b:Nat) (hx:XOk x) (hlo:LenOk x.1.1 D M x.2.1.length (lsX x)) (hb8:∀i,i≤x.2.1.length→HB D M (pbX x i)) (hb:b≤2000):Ct Tryz.prog 33 [kRd eX x,kI (b:Int)] (kTup [kRd (eL eCon) (cnX x b (x.2.1.length-1)),kI 0]):=by
 have h0:=hx.fld
 have hpo:=pol_open h0
 have hs:=(chkF_0 h0).1.2.1
 have v:=hx.rows
 have hp1:pmR x.2.1 x.2.1.length:=v.p1
 have hp2:pmR x.2.2.1 x.2.1.length:=v.p2
 have hle:x.2.1.length≤8:=v.le
 have htwo:2≤x.2.1.length:=v.two
 have hbl:x.2.2.1.length=x.2.1.length:=v.len
 have hxl:=hx.len
 have hll:=hlo.len
 have hox:(oX x).2.length=x.2.1.length:=hbl
 have hpl3:((plV (lsX x) (oX x).2).map giveN).length=x.2.1.length:=by rw[List.length_map,plV_len]; exact hbl
 have hdr:List.drop (Int.toNat 1) (oX x).2=x.2.2.1.drop 1:=rfl
 have hdl:(x.2.2.1.drop 1).length=x.2.1.length-1:=by rw[List.length_drop]; omega
 have hpl2:((plV (lsX x) x.2.2.1).map giveN).length=x.2.1.length:=hpl3
 refine Ct.mk Tryz.func33 rfl Tryz.ntmps33 rfl (fun w J=>?_); refine jx2 ?_; refine jb 2 rfl ?_; refine jx7 ?_; refine jc (ct_xopX x D M hx hlo) ?_; refine jx14 ?_; refine Tr.cnd rfl ?_ ?_
 ·intro h2
  exact absurd h2 (by decide)
 ·intro h2
  refine jx13 ?_; refine Tr.cnd rfl ?_ ?_
  ·intro h4
   simp at h4; omega
  ·intro h4
   refine jx11 ?_; refine tO (ok_nilP rfl uu) rfl rfl ?_; refine jx3 ?_; refine tO (ok_slJl rfl uu rfl uu (fun _=>zo) rfl) rfl rfl ?_
   rw[hdr]
   refine jx4 ?_; refine Tr.grow (s:=8) rfl rfl 108 rfl 68 eCon rfl ?_
   refine Tr.for1 (σ:=Nat) [⟨1,true,_,_⟩,⟨6,true,_,_⟩,⟨34,true,_,_⟩,⟨35,true,_,_⟩] [] (fun i=>[⟨8,true,[108],kOsl 108 (cnX x b i).length⟩,⟨36,true,[],kI (i:Int)⟩]) (fun i=>[⟨108,[],cArr true 68 eCon (cnX x b i) (cnX x b i).length⟩]) (fun i=>i≤x.2.1.length-1) (fun i=>i=x.2.1.length-1) (fun i=>x.2.1.length-1-i) (0) zi (Ent.mk (.o rfl zi rfl<|.i rfl zi<|zk) (.a (by rfl) zi<|.nil) rfl) ?_ ?_
   ·intro i hR0
    refine jn ?_; refine jx6 ?_; refine jq ?_ ?_
    ·intro h8
     refine jx6 ?_
     have hdn:nth (x.2.2.1.drop 1) i=nth x.2.2.1 (i+1):=nth_drop1
     have hri:=hp2.1 (i+1) zo
     have hpb:nth ((plV (lsX x) x.2.2.1).map giveN) (nth x.2.2.1 (i+1)).toNat=giveN (pbX x (i+1)):=by rw[nth_mapG (by rw[plV_len]; omega),plV_nth zo,show (((nth x.2.2.1 (i+1)).toNat:Nat):Int)=nth x.2.2.1 (i+1) by omega,idx_pm hp2 zo]
     have hpr:RedN x.1.1 (pbX x (i+1)):=(pt_ok hpo hlo hp2 (i+1) zo).1
     have hph:=hb8 (i+1) zo
     refine jx2 ?_
     rw[hdn]
     refine jx6 ?_; refine tO (ok_nilP rfl uu) rfl rfl ?_; refine jx5 ?_
     rw[hpb]
     refine ja 11 ?_; refine jx8 ?_
     refine Tr.for1 (σ:=Nat×List ConT) [⟨1,true,_,_⟩,⟨6,true,_,_⟩,⟨10,true,_,_⟩,⟨11,true,_,_⟩,⟨34,true,_,_⟩,⟨35,true,_,_⟩,⟨36,true,_,_⟩] [] (fun (k,out)=>[⟨8,true,[108],kOsl 108 out.length⟩,⟨12,true,[],kI (k:Int)⟩]) (fun (k,out)=>[⟨11,[],cBlk [kRd (eL (eL eI)) (giveN (orX x (pbX x (i+1)) k)).1,kRd (eL eI) (giveN (orX x (pbX x (i+1)) k)).2]⟩,⟨108,[],cArr true 68 eCon out out.length⟩]) (fun (k,out)=>k≤b+1∧fsT (hX x (i+1)) k=none∧out=cnX x b i) (fun (k,out)=>out=cnX x b (i+1)) (fun (k,out)=>b+1-k) ((0,cnX x b i)) ⟨by omega,rfl,rfl⟩ (Ent.mk (.o rfl zi rfl<|.i rfl zi<|zk) (.e (by rfl) rfl<|zk) rfl) ?_ ?_
     ·rintro ⟨k,out⟩ ⟨hk,hno,rfl⟩
      refine jn ?_
      have hor:=or_ok (sg:=sgX x) (o:=oX x) hpo hlo hp1 hp2 (by show 1≤x.2.1.length; omega) hpr hph k
      have hob:=or_bd (sg:=sgX x) (o:=oX x) hpo hlo hp1 hp2 ⟨by show 1≤x.2.1.length; omega,hle⟩ hpr hph (k:=k) zo
      refine jx8 ?_; refine jq ?_ ?_
      ·intro h12
       refine jx9 ?_; refine jc (ct_stV x D M (orX x (pbX x (i+1)) k) hx hlo hor.1 hob) ?_; refine jx12 ?_; refine Tr.cnd rfl ?_ ?_
       ·intro h15
        have hH:=st_some h15
        have hci:=con_in (b:=b) hno hH zo
        have hcl:=cnX_len (x:=x) (b:=b) (i:=i)
        refine jx6 ?_; refine tO (ok_build (fun hp=>.cons rfl rfl rfl<|.cons rfl rfl rfl<|.cons rfl rfl rfl<|.nil)) rfl rfl ?_; refine TrL.new (ok_bsl eCon 64 (fun hp=>.cons rfl<|.nil) rfl rfl rfl rfl) rfl rfl rfl rfl ?_; refine jx1 ?_; refine jl ?_; refine jx9 ?_
        exact End.cut ((k,cnX x b (i+1))) rfl (Ent.mk (.o rfl (by rw[hci]; simp) rfl<|.i rfl zi<|zk) (.k rfl<|.a (by rw[hci]) (by rw[hci]; simp)<|.nil) rfl)
       ·intro h15
        have hH:=st_none (Bool.eq_false_iff.2 (fun e=>by rw[e] at h15; cases h15))
        refine jx5 ?_; refine jc (ct_imV x D M (orX x (pbX x (i+1)) k) hx hlo hor.1 hob) ?_; refine jx12 ?_
        exact End.lp ((k+1,cnX x b i)) ⟨by omega,fsT_no hno hH,rfl⟩ (by show b+1-(k+1)<b+1-k; omega) (Ent.mk (.o rfl zi rfl<|.i rfl zi<|zk) (.e (by rfl) rfl<|zk) rfl)
      ·intro h12
       replace h12:=Int.not_le.1 h12
       refine jx4 ?_
       exact End.cut ((k,cnX x b (i+1))) rfl (Ent.mk (.o rfl (by rw[con_out hno zo]) rfl<|.i rfl zi<|zk) (.k rfl<|.a (by rw[con_out hno zo]) (by rw[con_out hno zo])<|.nil) rfl)
     ·rintro ⟨k,out⟩ rfl
      refine je ?_; refine jx6 ?_
      exact End.lp (i+1) zi zo (Ent.mk (.o rfl zi rfl<|.i rfl zi<|zk) (.a zi zi<|.nil) rfl)
    ·intro h8
     replace h8:=Int.not_lt.1 h8
     refine jx4 ?_
     exact End.cut (i) zo (Ent.mk (.o rfl zi rfl<|.i rfl zi<|zk) (zk) rfl)
   ·rintro i hkn
    refine je ?_
    rw[hkn]
    have hcl:=cnX_len (x:=x) (b:=b) (i:=x.2.1.length-1)
    refine jx8 ?_; refine Tr.frz 108 [4] ⟨rfl,trivial⟩ (by simp only[lenMax]; omega) rfl ?_; refine jx1 ?_
    exact Rts.res (fn:=Tryz.f33) (ts:=[4,5]) rfl rfl (.r rfl zi<|.i rfl zi<|.nil)

theorem ct_xConE (x:ExT) (n:Int) (hsm:SmX x) (hne:chkX x≠0):Ct Tryz.prog 33 [kRd eX x,kI n] (kTup [kRd (eL eCon) [],kI (chkX x)]):=by
 refine Ct.mk Tryz.func33 rfl Tryz.ntmps33 rfl (fun w J=>?_); refine jx2 ?_; refine jb 2 rfl ?_; refine jx7 ?_; refine jc (ct_xopenB x hsm hne) ?_; refine jx14 ?_; refine Tr.cnd rfl ?_ ?_
 ·intro h2
  refine jx9 ?_
  exact Rts.res (fn:=Tryz.f33) (ts:=[4,5]) rfl rfl (.n rfl zi<|.i rfl zi<|.nil)
 ·intro h2
  exact absurd (of_decide_eq_false h2) (fun e=>e hne)

theorem ct_xConR (x:ExT) (D:Int) (M:Nat) (n:Int) (hx:XOk x) (hlo:LenOk x.1.1 D M x.2.1.length (lsX x)) (hnr:-9223372036854775808≤n∧n≤9223372036854775807) (hrg:n<0∨2000<n):Ct Tryz.prog 33 [kRd eX x,kI n] (kTup [kRd (eL eCon) [],kI 2]):=by
 have h0:=hx.fld
 have hpo:=pol_open h0
 have hs:=(chkF_0 h0).1.2.1
 have v:=hx.rows
 have hp1:pmR x.2.1 x.2.1.length:=v.p1
 have hp2:pmR x.2.2.1 x.2.1.length:=v.p2
 have hle:x.2.1.length≤8:=v.le
 have htwo:2≤x.2.1.length:=v.two
 have hbl:x.2.2.1.length=x.2.1.length:=v.len
 have hxl:=hx.len
 have hll:=hlo.len
 refine Ct.mk Tryz.func33 rfl Tryz.ntmps33 rfl (fun w J=>?_); refine jx2 ?_; refine jb 2 rfl ?_; refine jx7 ?_; refine jc (ct_xopX x D M hx hlo) ?_; refine jx14 ?_; refine Tr.cnd rfl ?_ ?_
 ·intro h2
  exact absurd h2 (by decide)
 ·intro h2
  refine jx13 ?_; refine Tr.cnd rfl ?_ ?_
  ·intro h4
   refine jx8 ?_
   exact Rts.res (fn:=Tryz.f33) (ts:=[4,5]) rfl rfl (.n rfl zi<|.i rfl zi<|.nil)
  ·intro h4
   simp at h4; omega

end Go.Fl

/- Contracts: connections of the reference; the law of connections. -/
namespace Go.Fl
open Go Go.Proofs
open TrL renaming op→tO
open RunD renaming op→rO
set_option maxRecDepth 100000

noncomputable def gX (x:ExT) (i k m:Nat):Option Int:=gJ (sgX x) x.2.1 (lsX x) (orX x (pbX x i) k) m
theorem gX_hX {x:ExT} {D:Int} {M:Nat} (hx:XOk x) (hlo:LenOk x.1.1 D M x.2.1.length (lsX x)) {i k:Nat} (hr:RedN x.1.1 (orX x (pbX x i) k)):gX x i k x.2.1.length=hX x i k :=
 have h:=hx.ex hlo
 (hJ_gJ h.sgl h.len h.top h.pos hr h.two).symm
theorem gX_one {x:ExT} {i k:Nat}:gX x i k 1=none:=by unfold gX; rw[gJ,if_neg fun a=>absurd a.1 zo]; rfl
theorem gX_in {x:ExT} {i k m:Nat} (h1:1≤m) (h:sgX x (subV (orX x (pbX x i) k) (ptV (lsX x) x.2.1 m))=0):gX x i k (m+1)=some (nth x.2.1 m):=if_pos ⟨h1,h⟩
theorem gX_out {x:ExT} {i k m:Nat} (h:¬sgX x (subV (orX x (pbX x i) k) (ptV (lsX x) x.2.1 m))=0):gX x i k (m+1)=gX x i k m:=if_neg fun a=>h a.2
theorem gX_none {x:ExT} {D:Int} {M:Nat} (hx:XOk x) (hlo:LenOk x.1.1 D M x.2.1.length (lsX x)) {i k m:Nat} (hr:RedN x.1.1 (orX x (pbX x i) k)) (hm:m<x.2.1.length) (h:sgX x (subV (orX x (pbX x i) k) (ptV (lsX x) x.2.1 m))=0):gX x i k m=none :=
 have q:=hx.ex hlo
 gJ_none q.sgl q.len q.top q.pos hr hm h (Nat.le_refl _)
theorem fsT_succ {H:Nat→Option Int} {k:Nat} (h:fsT H k=none):fsT H (k+1)=(H k).map fun a=>(a,(k:Int)):=by simp[fsT,h]
theorem fsT_any {H:Nat→Option Int} {k m:Nat} (h:(fsT H k).isSome=true) (hm:k≤m):fsT H k=fsT H m:=by
 obtain ⟨q,hq⟩:=Option.isSome_iff_exists.1 h
 rw[hq,fsT_mono hq hm]
set_option maxHeartbeats 1000000 in
theorem ct_rCon (x:ExT) (D:Int) (M:Nat) (b:Nat) (hx:XOk x) (hlo:LenOk x.1.1 D M x.2.1.length (lsX x)) (hb8:∀i,i≤x.2.1.length→HB D M (pbX x i)) (hb:b≤1000):Ct Tryz.prog 35 [kRd eX x,kI (b:Int)] (kRd (eL eCon) (cnX x b (x.2.1.length-1))):=by
 have h0:=hx.fld
 have hpo:=pol_open h0
 have hs:=(chkF_0 h0).1.2.1
 have v:=hx.rows
 have hp1:pmR x.2.1 x.2.1.length:=v.p1
 have hp2:pmR x.2.2.1 x.2.1.length:=v.p2
 have hle:x.2.1.length≤8:=v.le
 have htwo:2≤x.2.1.length:=v.two
 have hbl:x.2.2.1.length=x.2.1.length:=v.len
 have hxl:=hx.len
 have hll:=hlo.len
 refine Ct.mk Tryz.func35 rfl Tryz.ntmps35 rfl (fun w J=>?_); refine jx2 ?_; refine jb 2 rfl ?_; refine jx4 ?_; refine Tr.frzB 2 [2] eX (x:=x) ⟨rfl,trivial⟩ rfl ?_; refine jn ?_; refine jx2 ?_; refine jc (ct_ropened x h0) ?_; refine ja 5 ?_; refine jx14 ?_; refine Tr.grow (s:=6) rfl rfl 106 rfl 68 eCon rfl ?_
 refine Tr.for1 (σ:=Nat) [⟨1,true,_,_⟩,⟨2,true,_,_⟩,⟨5,true,_,_⟩] [⟨5,_,_⟩] (fun i=>[⟨6,true,[106],kOsl 106 (cnX x b (i-1)).length⟩,⟨7,true,[],kI (i:Int)⟩]) (fun i=>[⟨106,[],cArr true 68 eCon (cnX x b (i-1)) (cnX x b (i-1)).length⟩]) (fun i=>1≤i∧i≤x.2.1.length) (fun i=>i=x.2.1.length) (fun i=>x.2.1.length-i) (1) ⟨zo,zo⟩ (Ent.mk (.o rfl zi rfl<|.i rfl zi<|zk) (.a (by rfl) zi<|zk) rfl) ?_ ?_
 ·rintro i ⟨hi1,hin⟩; obtain ⟨i,rfl⟩:∃j,i=j+1:=⟨i-1,by omega⟩; rw[Nat.add_sub_cancel]
  refine jn ?_; refine jx10 ?_; refine jq ?_ ?_
  ·intro h4
   refine jx5 ?_; refine Tr.draw 16 mixed (by kernel_rfl) ?_
   have hri:=hp2.1 (i+1) zo
   have hix2:x.2.2.1.idxOf (nth x.2.2.1 (i+1))=i+1:=idx_pm hp2 zo
   have hpr:RedN x.1.1 (pbX x (i+1)):=(pt_ok hpo hlo hp2 (i+1) zo).1
   have hpn:NBd 200 (pbX x (i+1)):=hlo.nbd (pt_ok hpo hlo hp2 (i+1) zo).2 zo
   have hph:=hb8 (i+1) zo
   have htg:takeN x.1.1 (giveN (pbX x (i+1)))=(pbX x (i+1)):=take_give hpr
   have htl:(tab (b+1) fun k=>giveN (orX x (pbX x (i+1)) k)).length=b+1:=tab_len
   refine jx9 ?_; refine jd (ct_rStart x D M x.2.2.1 (nth x.2.2.1 (i+1)) hx hlo hp2 hri) ?_
   rw[hix2]
   refine jx1 ?_; refine jd (ct_rOrbit x D M (giveN (pbX x (i+1))) b hx hlo ((give_NumOk hpn).mono zo) (by rw[htg]; exact hph) hb) ?_
   rw[htg]
   refine jx18 ?_
   refine Tr.for1 (σ:=Nat) [⟨1,true,_,_⟩,⟨2,true,_,_⟩,⟨5,true,_,_⟩,⟨7,true,_,_⟩,⟨8,true,_,_⟩] [⟨5,_,_⟩] (fun k=>[⟨6,true,[106],kOsl 106 (cnX x b i++cn1 (nth x.2.2.1 (i+1)) (fsT (hX x (i+1)) k)).length⟩,⟨10,true,[],kB (fsT (hX x (i+1)) k).isSome⟩,⟨11,true,[],kI (k:Int)⟩]) (fun k=>[⟨106,[],cArr true 68 eCon (cnX x b i++cn1 (nth x.2.2.1 (i+1)) (fsT (hX x (i+1)) k)) (cnX x b i++cn1 (nth x.2.2.1 (i+1)) (fsT (hX x (i+1)) k)).length⟩]) (fun k=>k≤b+1) (fun k=>fsT (hX x (i+1)) k=fsT (hX x (i+1)) (b+1)) (fun k=>b+1-k) (0) zi (Ent.mk (.o rfl (by rw[show fsT (hX x (i+1)) 0=none from rfl]; simp[cn1]) rfl<|.b rfl rfl<|.i rfl zi<|zk) (.a (by rw[show fsT (hX x (i+1)) 0=none from rfl]; simp[cn1]) (by rw[show fsT (hX x (i+1)) 0=none from rfl]; simp[cn1])<|zk) rfl) ?_ ?_
   ·intro k hR1
    refine jn ?_; refine jx13 ?_; refine Tr.cnd rfl ?_ ?_
    ·intro h9
     have hk9:k<b+1:=by simp at h9; omega
     have hno:fsT (hX x (i+1)) k=none:=by cases hz:fsT (hX x (i+1)) k with | none=>rfl | some q=>(rw[hz] at h9; simp at h9)
     have hor:=or_ok (sg:=sgX x) (o:=oX x) hpo hlo hp1 hp2 (by show 1≤x.2.1.length; omega) hpr hph k
     have hob:=or_bd (sg:=sgX x) (o:=oX x) hpo hlo hp1 hp2 ⟨by show 1≤x.2.1.length; omega,hle⟩ hpr hph (k:=k) zo
     have hpk:nth (tab (b+1) fun k=>giveN (orX x (pbX x (i+1)) k)) k=giveN (orX x (pbX x (i+1)) k):=nth_tab hk9
     refine jx9 ?_
     refine Tr.for1 (σ:=Nat) [⟨1,true,_,_⟩,⟨2,true,_,_⟩,⟨5,true,_,_⟩,⟨7,true,_,_⟩,⟨8,true,_,_⟩,⟨11,true,_,_⟩] [⟨5,_,_⟩] (fun m=>[⟨6,true,[106],kOsl 106 (cnX x b i++cn1 (nth x.2.2.1 (i+1)) ((gX x (i+1) k m).map fun a=>(a,(k:Int)))).length⟩,⟨10,true,[],kB (gX x (i+1) k m).isSome⟩,⟨12,true,[],kI (m:Int)⟩]) (fun m=>[⟨106,[],cArr true 68 eCon (cnX x b i++cn1 (nth x.2.2.1 (i+1)) ((gX x (i+1) k m).map fun a=>(a,(k:Int)))) (cnX x b i++cn1 (nth x.2.2.1 (i+1)) ((gX x (i+1) k m).map fun a=>(a,(k:Int)))).length⟩]) (fun m=>1≤m∧m≤x.2.1.length) (fun m=>m=x.2.1.length) (fun m=>x.2.1.length-m) (1) ⟨zo,zo⟩ (Ent.mk (.o rfl (by rw[hno,gX_one]; rfl) rfl<|.b rfl (by rw[hno,gX_one]; rfl)<|.i rfl zi<|zk) (.a (by rw[hno,gX_one]; rfl) (by rw[hno,gX_one]; rfl)<|zk) rfl) ?_ ?_
     ·rintro m ⟨hm1,hmn⟩
      refine jn ?_; refine jx10 ?_; refine jq ?_ ?_
      ·intro h12
       refine jx5 ?_; refine Tr.draw 14 mixed (by kernel_rfl) ?_
       have hrm:=hp1.1 m zo
       have hixm:x.2.1.idxOf (nth x.2.1 m)=m:=idx_pm hp1 zo
       have hqm:=pt_ok hpo hlo hp1 m zo
       refine jx5 ?_
       rw[hpk]
       refine jx8 ?_; refine jd (ct_rStart x D M x.2.1 (nth x.2.1 m) hx hlo hp1 hrm) ?_
       rw[hixm]
       refine jx1 ?_; refine jc (ct_rCmpN x.1 (giveN (orX x (pbX x (i+1)) k)) (giveN (ptV (lsX x) x.2.1 m)) h0 ((give_NumOk hob).mono zo) ((give_NumOk (hlo.nbd hqm.2 zo)).mono zo)) ?_
       rw[take_give hor.1,take_give hqm.1]
       refine jx3 ?_; refine jq ?_ ?_
       ·intro h14
        have hg0:=gX_none hx hlo hor.1 zo h14
        have hg1:=gX_in (i:=i+1) (k:=k) hm1 h14
        have hcl:=cnX_len (x:=x) (b:=b) (i:=i)
        have hc1:=cn1_len (a:=nth x.2.2.1 (i+1)) (q:=(gX x (i+1) k m).map fun a=>(a,(k:Int)))
        have hc2:(cnX x b i++cn1 (nth x.2.2.1 (i+1)) ((gX x (i+1) k m).map fun a=>(a,(k:Int)))).length≤i+1:=by rw[List.length_append]; omega
        refine Tr.draw 14 mixed (by kernel_rfl) ?_; refine jx12 ?_; refine rO (ok_build (fun hp=>.cons rfl rfl rfl<|.cons rfl rfl rfl<|.cons rfl rfl rfl<|.nil)) rfl rfl ?_; refine RunD.new (ok_bsl eCon 83 (fun hp=>.cons rfl<|.nil) rfl rfl rfl rfl) rfl rfl rfl rfl ?_; refine jx2 ?_; refine jl ?_; refine jx10 ?_
        exact End.lp (m+1) ⟨zo,zo⟩ zo (Ent.mk (.o rfl (by rw[hg0,hg1]; simp[cn1]) rfl<|.b rfl (by rw[hg1]; rfl)<|.i rfl zi<|zk) (.a (by rw[hg0,hg1]; simp[cn1]) (by rw[hg0,hg1]; simp[cn1])<|zk) rfl)
       ·intro h14
        have hg1:=gX_out (i:=i+1) (k:=k) (m:=m) h14
        refine jx8 ?_
        exact End.lp (m+1) ⟨zo,zo⟩ zo (Ent.mk (.o rfl (by rw[hg1]) rfl<|.b rfl (by rw[hg1])<|.i rfl zi<|zk) (.a (by rw[hg1]) (by rw[hg1])<|zk) rfl)
      ·intro h12
       replace h12:=Int.not_lt.1 h12
       refine jx4 ?_
       exact End.cut (m) zo (Ent.mk (.o rfl zi rfl<|.b rfl zi<|.i rfl zi<|zk) (zk) rfl)
     ·rintro m hmn
      refine je ?_; refine jx7 ?_
      exact End.lp (k+1) zi zo (Ent.mk (.o rfl (by rw[hmn,gX_hX hx hlo hor.1,← fsT_succ hno]) rfl<|.b rfl (by rw[hmn,gX_hX hx hlo hor.1,fsT_succ hno]; simp)<|.i rfl zi<|zk) (.a (by rw[hmn,gX_hX hx hlo hor.1,← fsT_succ hno]) (by rw[hmn,gX_hX hx hlo hor.1,← fsT_succ hno])<|zk) rfl)
    ·intro h9
     have hke:fsT (hX x (i+1)) k=fsT (hX x (i+1)) (b+1):=by by_cases e:k=b+1; (rw[e]); exact fsT_any (by simp at h9; exact h9 zo) hR1
     refine jx4 ?_
     exact End.cut (k) hke (Ent.mk (.o rfl zi rfl<|.b rfl zi<|.i rfl zi<|zk) (zk) rfl)
   ·intro k hE1
    refine je ?_; refine jx7 ?_
    exact End.lp (i+1+1) ⟨zo,zo⟩ zo (Ent.mk (.o rfl (by rw[Nat.add_sub_cancel,cnX_succ,hE1]) rfl<|.i rfl zi<|zk) (.a (by rw[Nat.add_sub_cancel,cnX_succ,hE1]) (by rw[Nat.add_sub_cancel,cnX_succ,hE1])<|zk) rfl)
  ·intro h4
   replace h4:=Int.not_lt.1 h4
   refine jx4 ?_
   exact End.cut (i+1) zo (Ent.mk (.o rfl zi rfl<|.i rfl zi<|zk) (.a (by rw[Nat.add_sub_cancel]) (by rw[Nat.add_sub_cancel])<|zk) rfl)
 ·rintro i hkn
  refine je ?_
  rw[hkn]
  have hcl:=cnX_len (x:=x) (b:=b) (i:=x.2.1.length-1)
  refine jx7 ?_; refine Tr.frz 106 [4] ⟨rfl,trivial⟩ (by simp only[lenMax]; omega) rfl ?_; refine jx1 ?_
  exact Rts.res1 (fn:=Tryz.f35) rfl (.r rfl zi<|.nil)

end Go.Fl

/- The law of connections. -/
namespace Go.Fl
open Go Go.Proofs
open TrL renaming op→tO
open RunD renaming op→rO
set_option maxRecDepth 100000

noncomputable def cnE (x:ExT) (n:Int):Int:=if chkX x≠0 then chkX x else if 0≤n∧n≤2000 then 0 else 2
noncomputable def cnL (x:ExT) (n:Int):List ConT:=if cnE x n≠0 then [] else cnX x n.toNat (x.2.1.length-1)
theorem ct_xConA (x:ExT) (n:Int) (hsm:SmX x) (hnr:-9223372036854775808≤n∧n≤9223372036854775807):Ct Tryz.prog 33 [kRd eX x,kI n] (kTup [kRd (eL eCon) (cnL x n),kI (cnE x n)]):=by
 by_cases h:chkX x=0
 ·have hx:=chkX_ok h hsm
  obtain ⟨D,M,hlo,hb⟩:=hx.dm8
  by_cases c:0≤n∧n≤2000
  ·have e:cnE x n=0:=by unfold cnE; rw[if_neg (fun a=>a h),if_pos c]
   have:=ct_xConG x D M n.toNat hx hlo hb zo
   rw[show ((n.toNat:Nat):Int)=n by omega] at this
   unfold cnL
   rw[e,if_neg (fun a=>a rfl)]
   exact this
  ·have e:cnE x n=2:=by unfold cnE; rw[if_neg (fun a=>a h),if_neg c]
   unfold cnL
   rw[e,if_pos (by decide)]
   exact ct_xConR x D M n hx hlo hnr zo
 ·have e:cnE x n=chkX x:=by unfold cnE; rw[if_pos h]
  unfold cnL
  rw[e,if_pos h]
  exact ct_xConE x n hsm h
theorem ct_Within (n a b:Int):Ct Tryz.prog 34 [kI n,kI a,kI b] (kB (decide (a≤n∧n≤b))):=by
 refine Ct.mk Tryz.func34 rfl Tryz.ntmps34 rfl (fun w J=>?_); refine jx19 ?_; exact Rts.res1 (fn:=Tryz.f34) rfl (.b rfl (by symm; exact Bool.decide_and _ _)<|.nil)

theorem ct_ExchangeConnections (x:ExT) (n:Int) (hxn:∀a,InN (nth x.2.2.2 a)) (hnr:-9223372036854775808≤n∧n≤9223372036854775807):Ct Tryz.prog 6 [kRd eX x,kI n] (kB true):=by
 refine Ct.mk Tryz.func6 rfl Tryz.ntmps6 rfl (fun w J=>?_); refine jx2 ?_; refine jb 2 rfl ?_; refine jx5 ?_; refine Tr.frzB 2 [2] eX (x:=x) ⟨rfl,trivial⟩ rfl ?_; refine jn ?_; refine jx1 ?_; refine jc ct_awake ?_; refine jx3 ?_; refine Tr.cnd rfl ?_ ?_
 ·intro h1
  exact absurd h1 (by decide)
 ·intro h1
  refine jx6 ?_; refine jc (ct_xSmall x) ?_; refine jx7 ?_; refine TrL.gd rfl rfl rfl (ok_and rfl id rfl (fun hp h=>gdT2 (id hp) h)) rfl rfl ?_; refine jx3 ?_; refine Tr.cnd rfl ?_ ?_
  ·intro h3
   refine jx7 ?_
   exact Rts.res1 (fn:=Tryz.f6) rfl (.b rfl zi<|.nil)
  ·intro h3
   have hs1:smB x=true:=by cases hz:smB x with | true=>rfl | false=>(rw[hz] at h3; simp at h3)
   have hsm:=smB_ok hs1 hxn
   have hnn:n≤25∨2000<n:=by rw[hs1] at h3; simp at h3; omega
   refine jx6 ?_; refine jc (ct_xConA x n hsm hnr) ?_; refine jx10 ?_; refine jc (ct_rxCheck x hsm) ?_; refine jx10 ?_; refine TrL.gd rfl rfl rfl (ok_call (fun hp=>ct_Within _ _ _) (.a rfl id<|.a rfl uu<|.a rfl uu<|.nil)) rfl rfl ?_; refine jx4 ?_; refine Tr.cnd rfl ?_ ?_
   ·intro h7
    have hz:chkX x=0:=by simp at h7; exact h7.1
    have hrn:¬(0≤n∧n≤2000):=by simp at h7; omega
    have e7:cnE x n=2:=by unfold cnE; rw[if_neg (fun a=>a hz),if_neg hrn]
    have e4:cnL x n=[]:=by unfold cnL; rw[e7,if_pos (by decide)]
    refine jx11 ?_; refine Tr.cnd rfl ?_ ?_
    ·intro h9
     refine jx15 ?_; exact Rts.res1 (fn:=Tryz.f6) rfl (.b rfl (by simp[e7,e4])<|.nil)
    ·intro h9
     exact absurd h9 (by decide)
   ·intro h7
    refine jx9 ?_; refine jq ?_ ?_
    ·intro h9
     have e7:cnE x n=chkX x:=by unfold cnE; rw[if_pos h9]
     have e4:cnL x n=[]:=by unfold cnL; rw[e7,if_pos h9]
     refine jx15 ?_; exact Rts.res1 (fn:=Tryz.f6) rfl (.b rfl (by simp[e7,e4])<|.nil)
    ·intro h9
     replace h9:=Classical.not_not.1 h9
     have hz:chkX x=0:=by omega
     have hrn:0≤n∧n≤2000:=by simp[hz] at h7; omega
     have hx:=chkX_ok hz hsm
     obtain ⟨D,M,hlo,hb⟩:=hx.dm8
     have hrc:=ct_rCon x D M n.toNat hx hlo hb zo
     rw[show ((n.toNat:Nat):Int)=n by omega] at hrc
     have e7:cnE x n=0:=by unfold cnE; rw[if_neg (fun a=>a hz),if_pos hrn]
     have e4:cnL x n=cnX x n.toNat (x.2.1.length-1):=by unfold cnL; rw[e7,if_neg (fun a=>a rfl)]
     have hle:x.2.1.length≤8:=hx.rows.le
     have hcl:=cnX_len (x:=x) (b:=n.toNat) (i:=x.2.1.length-1)
     rw[e4]
     refine jx6 ?_; refine jc hrc ?_; refine jx17 ?_; refine Tr.cnd rfl ?_ ?_
     ·intro h12
      rw[e7] at h12; simp at h12
     ·intro h12
      refine jx8 ?_
      refine Tr.for1 (σ:=Nat) [⟨5,true,_,_⟩,⟨8,true,_,_⟩] [] (fun k=>[⟨9,true,[],kI (k:Int)⟩]) (fun k=>[]) (fun k=>k≤(cnX x n.toNat (x.2.1.length-1)).length) (fun k=>k=(cnX x n.toNat (x.2.1.length-1)).length) (fun k=>(cnX x n.toNat (x.2.1.length-1)).length-k) (0) (Nat.zero_le _) (Ent.mk (.i rfl zi<|zk) (.nil) rfl) ?_ ?_
      ·intro k hR0
       refine jn ?_; refine jx9 ?_; refine jq ?_ ?_
       ·intro h15
        refine jx5 ?_; refine Tr.draw 8 mixed (by kernel_rfl) ?_; refine jx9 ?_; refine tO (ok_neqSame (k:=3) rfl uu rfl uu rfl [(nth (cnX x n.toNat (x.2.1.length-1)) k).1,(nth (cnX x n.toNat (x.2.1.length-1)) k).2.1,(nth (cnX x n.toNat (x.2.1.length-1)) k).2.2] rfl (fun _ _ h=>con_cells h)) rfl rfl ?_; refine jx2 ?_; refine Tr.cnd rfl ?_ ?_
        ·intro h17
         simp at h17
        ·intro h17
         refine jx8 ?_
         exact End.lp (k+1) zi zo (Ent.mk (.i rfl zi<|zk) (.nil) rfl)
       ·intro h15
        replace h15:=Int.not_lt.1 h15
        refine jx4 ?_
        exact End.cut (k) zo (Ent.mk (.i rfl zi<|zk) (.nil) rfl)
      ·rintro _ rfl
       refine je ?_; refine jx7 ?_
       exact Rts.res1 (fn:=Tryz.f6) rfl (.b rfl zi<|.nil)

end Go.Fl
