/- Laws on walking typed knowledge through code, and contracts. -/
import Derived.Test.YthfaleobmefibaaGreatM5

/- Contracts: open with its errors; orbits. -/
namespace Go.Fl
open Go Go.Proofs
open TrL renaming op→tO
open RunD renaming op→rO
set_option maxRecDepth 100000

theorem ct_rxCheck (x:ExT) (hsm:SmX x):Ct Tryz.prog 17 [kRd eX x] (kI (chkX x)):=by
 by_cases h0:chkF x.1=0
 ·exact ct_rxCheckG x h0 hsm
 ·exact ct_rxCheckF x h0
noncomputable abbrev macX (x:ExT):MacT:=mac (openR x.1) (oX x) (lsX x)
theorem ct_xopX (x:ExT) (D:Int) (M:Nat) (hx:XOk x) (hlo:LenOk x.1.1 D M x.2.1.length (lsX x)):Ct Tryz.prog 66 [kRd eX x] (kTup [kPtr eMac (macX x),kI 0]) :=
 ct_xopen x (openR x.1) (sgX x) D M (ct_fOpenG _ hx.fld) (pol_open hx.fld) (sgnC_open hx.fld) hx.rows hx.len (fun a h=>(hx.num a h).mono zo) hlo hx.pos
theorem ct_imX (x:ExT) (D:Int) (M:Nat) (p:NumT) (hx:XOk x) (hlo:LenOk x.1.1 D M x.2.1.length (lsX x)) (hpn:NumOk 250 p):Ct Tryz.prog 68 [kPtr eMac (macX x),kRd eNum p] (kTup [kRd eNum (giveN (imgV (oX x) (lsX x) (takeN x.1.1 p) (lX x (takeN x.1.1 p) (x.2.1.length-1)))),kI (lX x (takeN x.1.1 p) (x.2.1.length-1))]) :=
 ct_image (openR x.1) (oX x) (lsX x) (sgX x) D M p (pol_open hx.fld) (sgnC_open hx.fld) hx.rows hlo hpn
theorem ct_sgX (f:FdT) (p:NumT) (h0:chkF f=0) (hp:NumOk 250 p):Ct Tryz.prog 82 [kPtr eReal (openR f),kRd eNum p] (kI (sgV f.1 (ivF f) (takeN f.1 p))):=(sgnC_open h0).sign p hp
theorem ct_cmX (f:FdT) (p q:NumT) (h0:chkF f=0) (hp:NumOk 250 p) (hq:NumOk 250 q):Ct Tryz.prog 83 [kPtr eReal (openR f),kRd eNum p,kRd eNum q] (kI (sgV f.1 (ivF f) (subV (takeN f.1 p) (takeN f.1 q)))):=(sgnC_open h0).cmp p q hp hq
theorem ct_nmX (f:FdT) (p:NumT) (h0:chkF f=0) (hp:NumOk 250 p):Ct Tryz.prog 69 [kPtr eReal (openR f),kRd eNum p] (kRd eNum (giveN (takeN f.1 p))):=ct_fNormalN (openR f) p 250 (pol_open h0) hp zo
theorem ct_inX (x:ExT) (p q:NumT) (h0:chkF x.1=0) (hpn:NumOk 250 p) (hq:NumOk 250 q):Ct Tryz.prog 67 [kPtr eMac (macX x),kRd eNum p,kRd eNum q] (kB (decide (0≤sgX x (takeN x.1.1 p))&&decide (sgX x (subV (takeN x.1.1 p) (takeN x.1.1 q))<0))):=ct_inside (openR x.1) (oX x) (lsX x) (sgX x) p q (sgnC_open h0) hpn hq
theorem ct_xopenE (x:ExT) (h0:chkF x.1≠0):Ct Tryz.prog 66 [kRd eX x] (kTup [kDet (.pointer none),kI (chkX x)]):=by
 refine Ct.mk Tryz.func66 rfl Tryz.ntmps66 rfl (fun w J=>?_); refine jx2 ?_; refine jb 1 rfl ?_; refine jx8 ?_; refine jc (ct_fOpenE x.1 h0) ?_; refine jx14 ?_; refine Tr.cnd rfl ?_ ?_
 ·intro h2
  refine jx9 ?_; exact Rts.res (fn:=Tryz.f66) (ts:=[2,3]) rfl rfl (.k rfl<|.i rfl (by unfold chkX; rw[if_pos h0])<|.nil)
 ·intro h2
  exact absurd (of_decide_eq_false h2) (fun e=>e h0)

set_option maxHeartbeats 1000000 in
theorem ct_xopenR (x:ExT) (h0:chkF x.1=0) (hsm:SmX x) (hne:chkX x≠0):Ct Tryz.prog 66 [kRd eX x] (kTup [kDet (.pointer none),kI (chkX x)]):=by
 have he1:=(if_neg (fun e=>e h0):chkX x=_)
 have hpo:=pol_open h0
 have ht1:=hsm.top
 have ht2:=hsm.bot
 have ht3:=hsm.len
 obtain ⟨ls,hls⟩:∃ls,ls=lsX x:=⟨_,rfl⟩
 have hll:ls.length=x.2.2.2.length:=by rw[hls,List.length_map]
 have hnk:∀k,k<x.2.2.2.length→nth ls k=takeN x.1.1 (nth x.2.2.2 k):=fun k hk=>by rw[hls]; exact nth_mapT hk
 refine Ct.mk Tryz.func66 rfl Tryz.ntmps66 rfl (fun w J=>?_); refine jx2 ?_; refine jb 1 rfl ?_; refine jx8 ?_; refine jc (ct_fOpenG x.1 h0) ?_; refine jx14 ?_; refine Tr.cnd rfl ?_ ?_
 ·intro h2
  exact absurd h2 (by decide)
 ·intro h2
  refine jx6 ?_; refine tO (ok_call (fun hp=>ct_rowsOf _) (.s rfl uu rfl<|.nil)) rfl rfl ?_; refine tO (ok_call (fun hp=>ct_eCheckRows _) (.a rfl uu<|.nil)) rfl rfl ?_; refine jx9 ?_; refine jq ?_ ?_
  ·intro h5
   have hr:chkX x=chkR (x.2.1,x.2.2.1):=he1.trans (if_pos h5)
   refine jx9 ?_
   exact Rts.res (fn:=Tryz.f66) (ts:=[2,3]) rfl rfl (.k rfl<|.i rfl zi<|.nil)
  ·intro h5
   replace h5:=Classical.not_not.1 h5
   have he2:=he1.trans (if_neg (fun e=>e h5))
   refine jx14 ?_; refine jq ?_ ?_
   ·intro h7
    have hr:chkX x=10:=he2.trans (if_pos zo)
    refine jx8 ?_; exact Rts.res (fn:=Tryz.f66) (ts:=[2,3]) rfl rfl (.k rfl<|.i rfl (by rw[hr])<|.nil)
   ·intro h7
    replace h7:=Classical.not_not.1 h7
    have he3:=he2.trans (if_neg zo)
    refine jx6 ?_; refine tO (ok_call (fun hp=>ct_rowsOf _) (.s rfl uu rfl<|.nil)) rfl rfl ?_; refine tO (ok_call (fun hp=>ct_copied _ (by show x.2.1.length≤1000; omega) (by show x.2.2.1.length≤1000; omega)) (.a rfl uu<|.nil)) rfl rfl ?_; refine tO (ok_build (fun hp=>.cons rfl rfl rfl<|.cons rfl rfl rfl<|.nil)) rfl rfl ?_; refine jb 38 rfl ?_; refine jx12 ?_; refine Tr.growC 38 3 139 rfl (ks':=[_,_,_,kOsl 139 0,_,_,_,_,_]) rfl rfl 30 eNum rfl (.cons inferInstance rfl<|.cons inferInstance rfl<|.cons inferInstance rfl<|.cons inferInstance rfl<|.cons inferInstance rfl<|.cons inferInstance rfl<|.cons inferInstance rfl<|.cons inferInstance rfl<|.cons inferInstance rfl<|inferInstance) ?_
    refine Tr.for1 (σ:=Nat) [⟨1,true,_,_⟩,⟨4,true,_,_⟩,⟨7,true,_,_⟩,⟨40,true,_,_⟩,⟨41,true,_,_⟩] [⟨1,_,_⟩] (fun k=>[⟨42,true,[],kI (k:Int)⟩]) (fun k=>[⟨38,[139],cBlk [kPtr eReal (openR x.1),kRd (eL eI) x.2.1,kRd (eL eI) x.2.2.1,kOsl 139 k,kDet (.slice none 0 0),kDet (.slice none 0 0),kDet (.slice none 0 0),kDet (.slice none 0 0),kDet (.slice none 0 0)]⟩,⟨139,[],cArr true 30 eNum ((ls.take k).map giveN) k⟩]) (fun k=>k≤x.2.2.2.length∧∀j,j<k→0<sgV x.1.1 (ivF x.1) (takeN x.1.1 (nth x.2.2.2 j))) (fun k=>False) (fun k=>x.2.2.2.length-k) (0) ⟨by omega,fun j h=>absurd h (Nat.not_lt_zero _)⟩ (Ent.mk (.i rfl zi<|zk) (.e (by rfl) rfl<|.a (by rfl) zi<|zk) rfl) ?_ ?_
    ·rintro k ⟨hk,hR⟩
     refine jn ?_; refine jx6 ?_; refine jq ?_ ?_
     ·intro h11
      refine jx8 ?_; refine ja 9 ?_; refine jx8 ?_; refine jc (ct_sgX x.1 (nth x.2.2.2 k) h0 ((hsm.num k).mono zo)) ?_; refine jx3 ?_; refine jq ?_ ?_
      ·intro h13
       have hr:chkX x=12:=he3.trans (if_neg (fun e=>by have e2:0<sgV x.1.1 (ivF x.1) (takeN x.1.1 (nth x.2.2.2 k)):=e k zo; omega))
       refine jx14 ?_; exact Rts.res (fn:=Tryz.f66) (ts:=[2,3]) rfl rfl (.k rfl<|.i rfl (by rw[hr])<|.nil)
      ·intro h13
       replace h13:=Int.not_le.1 h13
       have hok:0<sgV x.1.1 (ivF x.1) (takeN x.1.1 (nth x.2.2.2 k)):=by omega
       refine jx2 ?_; refine Tr.drawM (m:=9) mixed (by kernel_rfl) rfl (by kernel_rfl) (by kernel_rfl) (by kernel_rfl) ?_; refine jx2 ?_; refine rO (ok_nilO rfl uu) rfl rfl ?_; refine jx4 ?_; refine jd (ct_nmX x.1 (nth x.2.2.2 k) h0 ((hsm.num k).mono zo)) ?_; refine RunD.new (ok_bsl eNum 58 (fun hp=>.cons rfl<|.nil) rfl rfl rfl rfl) rfl rfl rfl rfl ?_; refine jx1 ?_; refine TrL.wkC 38 (.k<|.k<|.k<|.any<|.k<|.k<|.k<|.k<|.k<|.nil) rfl ?_; refine jx1 ?_; refine jl ?_; refine tO (ok_nilO rfl uu) rfl rfl ?_; refine jx2 ?_; refine TrL.finN ?_; refine jx6 ?_
       exact End.lp (k+1) ⟨by omega,fun j hj=>by by_cases e:j=k; (rw[e]; exact hok); exact hR j zo⟩ zo (Ent.mk (.i rfl zi<|zk) (.e (by rfl) rfl<|.a (by rw[take_succ_nth zo,List.map_append,hnk k zo]; rfl) zi<|zk) rfl)
     ·intro h11
      replace h11:=Int.not_lt.1 h11
      refine jx4 ?_
      exact End.cut (k) (hne (he3.trans (if_pos fun j hj=>hR j zo))) (Ent.mk (.i rfl zi<|zk) (zk) rfl)
    ·intro k hE0
     exact hE0.elim

end Go.Fl

/- Contracts: errors of Apply and Orbit. -/
namespace Go.Fl
open Go Go.Proofs
open TrL renaming op→tO
open RunD renaming op→rO
set_option maxRecDepth 100000

theorem ct_xopenB (x:ExT) (hsm:SmX x) (hne:chkX x≠0):Ct Tryz.prog 66 [kRd eX x] (kTup [kDet (.pointer none),kI (chkX x)]):=by
 by_cases h0:chkF x.1=0
 ·exact ct_xopenR x h0 hsm hne
 ·exact ct_xopenE x h0
end Go.Fl

/- The law of orbits. -/
namespace Go.Fl
open Go Go.Proofs
open TrL renaming op→tO
open RunD renaming op→rO
set_option maxRecDepth 100000

theorem XOk.dm {x:ExT} (hx:XOk x) {ps:List NumT} (hp:∀p∈ps,NumOk 2 p) (hl:ps.length≤2):∃(D:Int) (M:Nat),LenOk x.1.1 D M x.2.1.length (lsX x)∧∀p∈ps,HB D M (takeN x.1.1 p):=by
 have hpo:=pol_open hx.fld
 obtain ⟨D,M,h1,h2⟩:=take_LenOk (more:=ps.map (takeN x.1.1)) hpo hx.len hx.rows.le hx.num (by rw[List.length_map]; exact hl) fun v hv=>by
  obtain ⟨p,hpm,rfl⟩:=List.mem_map.1 hv
  exact ⟨take_RedN hpo,take_NBd hpo (hp p hpm)⟩
 exact ⟨D,M,h1,fun p hpm=>h2 _ (List.mem_map.2 ⟨p,hpm,rfl⟩)⟩
theorem XOk.dm1 {x:ExT} (hx:XOk x) {p:NumT} (hp:NumOk 2 p):∃(D:Int) (M:Nat),LenOk x.1.1 D M x.2.1.length (lsX x)∧HB D M (takeN x.1.1 p):=by
 obtain ⟨D,M,h1,h2⟩:=hx.dm (ps:=[p]) (fun q hq=>by rw[List.mem_singleton.1 hq]; exact hp) (by show 1≤2; omega)
 exact ⟨D,M,h1,h2 p (by simp)⟩
noncomputable def inB (x:ExT) (p:NumT):Bool:=decide (0≤sgX x (takeN x.1.1 p))&&decide (sgX x (subV (takeN x.1.1 p) (totV (lsX x) x.2.1))<0)
noncomputable def obE (x:ExT) (p:NumT) (n:Int):Int:=if chkX x≠0 then chkX x else if 0≤n∧n≤2000∧inB x p=true then 0 else 2
noncomputable def obP (x:ExT) (p:NumT) (n:Int):List NumT:=if obE x p n≠0 then [] else tab (n.toNat+1) fun k=>giveN (orX x (takeN x.1.1 p) k)
noncomputable def obC (x:ExT) (p:NumT) (n:Int):List Int:=if obE x p n≠0 then [] else tab n.toNat (ltX x (takeN x.1.1 p))
noncomputable def apP (x:ExT) (p:NumT):NumT:=if obE x p 1≠0 then ([],[]) else giveN (orX x (takeN x.1.1 p) 1)
noncomputable def apC (x:ExT) (p:NumT):Int:=if obE x p 1≠0 then 0 else ltX x (takeN x.1.1 p) 0
theorem in_list {l:List Int} (h:ListP (okI .i64) l):InI l:=fun i hi=>okI64 (h.2 i hi)
theorem in_num {c:List (List Int)} {d:List Int} (h:ListP (ListP (okI .i64)) c) (h2:ListP (okI .i64) d):InN (c,d):=⟨fun i=>by
 by_cases hi:i<c.length
 ·exact in_list (h.2 i hi)
 ·show InI (nth c i); rw[nth_out zo]; exact inI_nil,in_list h2⟩
theorem in_nums {l:List NumT} (h:ListP InN l) (a:Nat):InN (nth l a):=by
 by_cases hi:a<l.length
 ·exact h.2 a hi
 ·rw[nth_out zo]; exact ⟨fun i=>by show InI (nth [] i); rw[nth_nil]; exact inI_nil,inI_nil⟩
end Go.Fl

/- Places of letters; lists that are filled letter by letter; renumbered rows. No program in sight. -/
namespace Go.Fl
open Go
def flP {α:Type} (F:Nat→α) (z:α) (row:List Int) (k:Nat):List α:=tab row.length fun a=>if row.idxOf (a:Int)<k then F (row.idxOf (a:Int)) else z
def nmV (row:List Int):List Int:=tab row.length fun a=>(row.idxOf (a:Int):Int)
def renB (o:List Int×List Int):List Int:=tab o.1.length fun i=>(o.1.idxOf (nth o.2 i):Int)
def renT (o:List Int×List Int):List Int:=tab o.1.length fun i=>(i:Int)
def renL (o:List Int×List Int) (ls:List NvT):List NvT:=tab o.1.length fun i=>nth ls (nth o.1 i).toNat
end Go.Fl

/- Contracts: the reference: renumbered rows, normal and inverse exchanges; comparisons of exchanges. -/
namespace Go.Fl
open Go Go.Proofs
open TrL renaming op→tO
open RunD renaming op→rO
set_option maxRecDepth 100000

abbrev exZ:ExT:=(([],0,0,0),[],[],[])
def fdB (a b:FdT):Bool:=decide (a.1=b.1)&&decide (a.2.1=b.2.1)&&decide (a.2.2.1=b.2.2.1)&&decide (a.2.2.2=b.2.2.2)
def exB (a b:ExT):Bool:=fdB a.1 b.1&&decide (a.2.1=b.2.1)&&decide (a.2.2.1=b.2.2.1)&&decide (a.2.2.2=b.2.2.2)
instance:NB 141 142:=⟨rfl⟩
instance:NB 142 141:=⟨rfl⟩
noncomputable abbrev nmX (x:ExT):ExT:=(x.1,renT (oX x),renB (oX x),(renL (oX x) (lsX x)).map giveN)
noncomputable abbrev ivX (x:ExT):ExT:=(x.1,x.2.2.1,x.2.1,(lsX x).map giveN)
end Go.Fl

/- Contracts: Check, Normal, Total, Shifts and Inverse of the program. -/
namespace Go.Fl
open Go Go.Proofs
open TrL renaming op→tO
open RunD renaming op→rO
set_option maxRecDepth 100000

end Go.Fl

/- Contracts: errors of Check, Normal, Total, Shifts and Inverse. -/
namespace Go.Fl
open Go Go.Proofs
open TrL renaming op→tO
open RunD renaming op→rO
set_option maxRecDepth 100000

end Go.Fl

/- The law of exchanges. -/
namespace Go.Fl
open Go Go.Proofs
open TrL renaming op→tO
open RunD renaming op→rO
set_option maxRecDepth 100000

noncomputable def cN (x:ExT):ExT:=if chkX x≠0 then exZ else nmX x
noncomputable def cT (x:ExT):NumT:=if chkX x≠0 then ([],[]) else giveN (totV (lsX x) x.2.1)
noncomputable def cS (x:ExT):List NumT:=if chkX x≠0 then [] else (awV (oX x) (lsX x) x.2.1.length).map giveN
noncomputable def cI (x:ExT):ExT:=if chkX x≠0 then exZ else ivX x
end Go.Fl

/- Sums of numbers: laws; numbers in order. No program in sight. -/
namespace Go.Fl
open Go
def CD (D:Int) (v:NvT):Prop:=∃cs:List Int,cs.length=4∧v=loN cs D
structure SgL (p:List Int) (sg:NvT→Int):Prop where
 pol:PolOk p
 neg:∀v,RedN p v→sg (negV v)=-sg v
 add:∀u v,RedN p u→RedN p v→0≤sg u→0<sg v→0<sg (adV u v)
 zero:∀v,RedN p v→sg v=0→v=intV 0
 int0:sg (intV 0)=0
section
variable {p:List Int} {sg:NvT→Int} (h:SgL p sg) {u v w:NvT} (hu:RedN p u) (hv:RedN p v) (hw:RedN p w)
include h hu hv
include hw
end
end Go.Fl

/- The sign of a field's numbers goes with sums. No program in sight. -/
namespace Go.Fl
open Go
end Go.Fl

/- The sign of a field's numbers goes with sums: fields of every degree. No program in sight. -/
namespace Go.Fl
open Go
end Go.Fl

/- Points, letters and images: the interval of a point is the only one that holds it. No program in sight. -/
namespace Go.Fl
open Go
section
variable {p:List Int} {sg:NvT→Int} {D:Int} {M n:Nat} {ls:List NvT} {row:List Int} (h:SgL p sg) (hlo:LenOk p D M n ls) (hr:pmR row n) (hpos:∀a,a<n→0<sg (nth ls a))
include h hlo hr
include hpos
end
end Go.Fl

/- The image of a point lies in the image of its interval; the inverse exchange takes it back. No program in sight. -/
namespace Go.Fl
open Go
structure ExOk (p:List Int) (sg:NvT→Int) (D:Int) (M:Nat) (o:List Int×List Int) (ls:List NvT):Prop where
 sgl:SgL p sg
 len:LenOk p D M o.1.length ls
 top:pmR o.1 o.1.length
 bot:pmR o.2 o.1.length
 two:1≤o.1.length
 pos:∀a,a<o.1.length→0<sg (nth ls a)
def ltO (sg:NvT→Int) (o:List Int×List Int) (ls:List NvT) (pv:NvT):Int:=letV sg (plV ls o.1) o.1 pv (o.1.length-1)
section
variable {p:List Int} {sg:NvT→Int} {D:Int} {M:Nat} {o:List Int×List Int} {ls:List NvT} (h:ExOk p sg D M o ls) {pv:NvT} (hv:RedN p pv)
include h hv
end
end Go.Fl

/- The law: an exchange is a bijection. -/
namespace Go.Fl
open Go Go.Proofs
open TrL renaming op→tO
open RunD renaming op→rO
set_option maxRecDepth 100000

end Go.Fl

/- Connections: which interval begins at a point. No program in sight. -/
namespace Go.Fl
open Go
def gJ (sg:NvT→Int) (row:List Int) (ls:List NvT) (pv:NvT):Nat→Option Int
 | 0=>none
 | j+1=>if 1≤j∧sg (subV pv (ptV ls row j))=0 then some (nth row j) else gJ sg row ls pv j
def hJ (sg:NvT→Int) (row:List Int) (ls:List NvT) (pv:NvT):Option Int:=if letV sg (plV ls row) row pv (row.length-1)≠nth row 0∧sg (subV (nth (plV ls row) (letV sg (plV ls row) row pv (row.length-1)).toNat) pv)=0 then some (letV sg (plV ls row) row pv (row.length-1)) else none
section
variable {p:List Int} {sg:NvT→Int} {D:Int} {M n:Nat} {ls:List NvT} {row:List Int} (h:SgL p sg) (hlo:LenOk p D M n ls) (hr:pmR row n) (hpos:∀a,a<n→0<sg (nth ls a)) {pv:NvT} (hv:RedN p pv)
include h hlo hr hpos hv
end
def fsT (H:Nat→Option Int):Nat→Option (Int×Int)
 | 0=>none
 | k+1=>match fsT H k with
  | some q=>some q
  | none=>(H k).map fun a=>(a,(k:Int))
def cn1 (a:Int):Option (Int×Int)→List (Int×Int×Int)
 | some q=>[(a,q.1,q.2)]
 | none=>[]
def cnT (H:Nat→Nat→Option Int) (row:List Int) (b:Nat):Nat→List (Int×Int×Int)
 | 0=>[]
 | i+1=>cnT H row b i++cn1 (nth row (i+1)) (fsT (H (i+1)) (b+1))
end Go.Fl

/- Contracts: connections of exchanges. -/
namespace Go.Fl
open Go Go.Proofs
open TrL renaming op→tO
open RunD renaming op→rO
set_option maxRecDepth 100000

abbrev ConT:=Int×Int×Int
def eCon:Enc ConT:=eC (fun v:ConT=>(v.1,v.2.1,v.2.2,())) (eP eI (eP eI (eP eI eU)))
instance {v:ConT}:CellsK (kRd eCon v) [kI (v.1),kI (v.2.1),kI (v.2.2)]:=inferInstanceAs (CellsK (kRd (eC (fun v:ConT=>(v.1,v.2.1,v.2.2,())) (eP eI (eP eI (eP eI eU)))) v) _)
instance {v:ConT} {tl:List Know}:EncCells eCon v tl (kI (v.1)::kI (v.2.1)::kI (v.2.2)::tl):=inferInstanceAs (EncCells (eC (fun v:ConT=>(v.1,v.2.1,v.2.2,())) (eP eI (eP eI (eP eI eU)))) v tl _)
instance {v:ConT}:Norm eCon v (kRd eCon v):=⟨fun h=>h⟩
instance {v:ConT}:FieldP eCon v 0 eI (v.1) 0:=inferInstanceAs (FieldP (eC (fun v:ConT=>(v.1,v.2.1,v.2.2,())) (eP eI (eP eI (eP eI eU)))) v 0 _ _ _)
instance {v:ConT}:FieldP eCon v 1 eI (v.2.1) 1:=inferInstanceAs (FieldP (eC (fun v:ConT=>(v.1,v.2.1,v.2.2,())) (eP eI (eP eI (eP eI eU)))) v 1 _ _ _)
instance {v:ConT}:FieldP eCon v 2 eI (v.2.2) 2:=inferInstanceAs (FieldP (eC (fun v:ConT=>(v.1,v.2.1,v.2.2,())) (eP eI (eP eI (eP eI eU)))) v 2 _ _ _)
instance {ks r:List Know} {a b c:Int} [h:RdOf ks (eP eI (eP eI (eP eI eU))) (a,b,c,()) r]:RdOf ks eCon ((a,b,c)) r:=⟨fun h'=>h.imp h'⟩
instance:TyInts Tryz.prog 68 3:=TyInts.mk' (by kernel_rfl) (by kernel_rfl) (by kernel_rfl) (by kernel_rfl)
noncomputable abbrev pbX (x:ExT) (i:Nat):NvT:=ptV (lsX x) x.2.2.1 i
noncomputable def stB (x:ExT) (pt:NvT):Bool:=decide (lX x pt (x.2.1.length-1)≠nth x.2.1 0)&&decide (sgX x (subV (nth (plV (lsX x) x.2.1) (lX x pt (x.2.1.length-1)).toNat) pt)=0)
noncomputable def hX (x:ExT) (i k:Nat):Option Int:=hJ (sgX x) x.2.1 (lsX x) (orX x (pbX x i) k)
noncomputable def cnX (x:ExT) (b i:Nat):List ConT:=cnT (hX x) x.2.2.1 b i
end Go.Fl

/- Contracts: connections of the program. -/
namespace Go.Fl
open Go Go.Proofs
open TrL renaming op→tO
open RunD renaming op→rO
set_option maxRecDepth 100000

end Go.Fl

/- Contracts: connections of the reference; the law of connections. -/
namespace Go.Fl
open Go Go.Proofs
open TrL renaming op→tO
open RunD renaming op→rO
set_option maxRecDepth 100000

noncomputable def gX (x:ExT) (i k m:Nat):Option Int:=gJ (sgX x) x.2.1 (lsX x) (orX x (pbX x i) k) m
end Go.Fl

/- The law of connections. -/
namespace Go.Fl
open Go Go.Proofs
open TrL renaming op→tO
open RunD renaming op→rO
set_option maxRecDepth 100000

noncomputable def cnE (x:ExT) (n:Int):Int:=if chkX x≠0 then chkX x else if 0≤n∧n≤2000 then 0 else 2
noncomputable def cnL (x:ExT) (n:Int):List ConT:=if cnE x n≠0 then [] else cnX x n.toNat (x.2.1.length-1)
end Go.Fl

/- Matrices of integers, minors, determinants: how large they are. The first of so many times. No program in sight. -/
namespace Go.Fl
open Go
def dropI {α:Type} [Inhabited α] (l:List α) (r k:Nat):List α:=((List.range k).filter fun i=>i != r).map (nth l)
section
variable {α:Type} [Inhabited α] {l:List α} {r k:Nat}
theorem dropI_in (h:k≠r):dropI l r (k+1)=dropI l r k++[nth l k]:=by
 unfold dropI
 rw[List.range_succ,List.filter_append,List.map_append]
 have:(k != r)=true:=by simpa using h
 simp[this]
theorem dropI_out (h:k=r):dropI l r (k+1)=dropI l r k:=by
 unfold dropI
 rw[List.range_succ,List.filter_append,List.map_append]
 have:(k != r)=false:=by simpa using h
 simp[this]
theorem dropI_mem {a:α} (h:a∈dropI l r k):∃i,i<k∧a=nth l i:=by
 obtain ⟨i,hi,rfl⟩:=List.mem_map.1 h
 exact ⟨i,List.mem_range.1 (List.mem_filter.1 hi).1,rfl⟩
theorem dropI_len:∀{k:Nat},(dropI l r k).length=if r<k then k-1 else k
 | 0=>by rw[if_neg zo]; rfl
 | k+1=>by
  by_cases e:k=r
  ·rw[dropI_out e,dropI_len,if_neg zo,if_pos zo]; rfl
  ·rw[dropI_in e,List.length_append,dropI_len]
   by_cases h:r<k
   ·rw[if_pos h,if_pos zo]; show k-1+1=_; omega
   ·rw[if_neg h,if_neg zo]; rfl
end
abbrev Mx:=List (List (List Int))
def minL (m:Mx) (col row k:Nat):Mx:=(dropI m col k).map fun c=>dropI c row c.length
theorem minL_in {m:Mx} {col row k:Nat} (h:k≠col):minL m col row (k+1)=minL m col row k++[dropI (nth m k) row (nth m k).length]:=by
 unfold minL; rw[dropI_in h,List.map_append]; rfl
theorem minL_out {m:Mx} {col row k:Nat} (h:k=col):minL m col row (k+1)=minL m col row k:=by
 unfold minL; rw[dropI_out h]
structure MxOk (n B:Nat) (m:Mx):Prop where
 len:m.length=n
 col:∀i,i<n→(nth m i).length=n∧LOk B (nth m i)
theorem LOk.drop {B r k:Nat} {c:List (List Int)} (h:LOk B c):LOk B (dropI c r k):=fun i=>by
 by_cases hi:i<(dropI c r k).length
 ·obtain ⟨j,_,e⟩:=dropI_mem (nth_mem hi)
  rw[e]; exact h j
 ·rw[nth_out zo]
  exact ⟨inI_nil,Nat.zero_le _,by show Go.Fl.dl (val [])≤_; rw[val_nil,dl_zero.2 rfl]; omega⟩
theorem nth_minL {m:Mx} {col row k i:Nat} (h:i<(minL m col row k).length):∃j,j<k∧nth (minL m col row k) i=dropI (nth m j) row (nth m j).length:=by
 have:=nth_mem h
 obtain ⟨c,hc,e⟩:=List.mem_map.1 this
 obtain ⟨j,hj,rfl⟩:=dropI_mem hc
 exact ⟨j,hj,e.symm⟩
theorem minL_ok {n B col row:Nat} {m:Mx} (h:MxOk (n+1) B m) (hc:col<n+1) (hr:row<n+1):MxOk n B (minL m col row (n+1)):=by
 have hl:(minL m col row (n+1)).length=n:=by
  unfold minL; rw[List.length_map,dropI_len,if_pos hc]; rfl
 refine ⟨hl,fun i hi=>?_⟩
 obtain ⟨j,hj,e⟩:=nth_minL (m:=m) (col:=col) (row:=row) (k:=n+1) (i:=i) zo
 obtain ⟨q1,q2⟩:=h.col j hj
 rw[e]
 exact ⟨by rw[dropI_len,q1,if_pos hr]; rfl,q2.drop⟩
def detT (D:Mx→Int) (n:Nat) (m:Mx) (k:Nat):Int:=if k%2=1 then -(val (nth (nth m 0) k)*D (minL m 0 k n)) else val (nth (nth m 0) k)*D (minL m 0 k n)
def detV:Nat→Mx→Int
 | 0,_=>1
 | n+1,m=>sumTo (detT (detV n) (n+1) m) (n+1)
def detB (B:Nat):Nat→Nat
 | 0=>1
 | n+1=>B+detB B n+(n+1)
theorem sumT_dl {F:Nat→Int} {B n:Nat} (h:∀i,i<n→dl (F i)≤B):∀{k:Nat},k≤n→dl (sumTo F k)≤B+k
 | 0,_=>by rw[show sumTo F 0=0 from rfl,dl_zero.2 rfl]; omega
 | k+1,hk=>by
  rw[sumTo_succ]
  have:=sumT_dl h (k:=k) zo
  have:=h k zo
  have:=dl_add (sumTo F k) (F k)
  omega
theorem detT_dl {D:Mx→Int} {n B C k:Nat} {m:Mx} (h:MxOk (n+1) B m) (hD:dl (D (minL m 0 k (n+1)))≤C):dl (detT D (n+1) m k)≤B+C:=by
 have e:dl (detT D (n+1) m k)=dl (val (nth (nth m 0) k)*D (minL m 0 k (n+1))):=by
  unfold detT; split
  ·rw[dl_neg]
  ·rfl
 rw[e]
 have:=dl_mul (val (nth (nth m 0) k)) (D (minL m 0 k (n+1)))
 have:=((h.col 0 zo).2 k).2.2
 omega
theorem det_dl {B:Nat}:∀{n:Nat} {m:Mx},MxOk n B m→dl (detV n m)≤detB B n
 | 0,_,_=>by show dl 1≤1; exact dl_small zo zo
 | n+1,m,h=>by
  have:=sumT_dl (F:=detT (detV n) (n+1) m) (B:=B+detB B n) (n:=n+1) (fun i hi=>detT_dl h (det_dl (minL_ok h zo hi))) (k:=n+1) (Nat.le_refl _)
  exact this
theorem det_part {B n:Nat} {m:Mx} (h:MxOk (n+1) B m) {k:Nat} (hk:k≤n+1):dl (sumTo (detT (detV n) (n+1) m) k)≤B+detB B n+(n+1):=by
 have:=sumT_dl (F:=detT (detV n) (n+1) m) (B:=B+detB B n) (n:=n+1) (fun i hi=>detT_dl h (det_dl (minL_ok h zo hi))) hk
 omega
def matL (p:List Int) (c:List (List Int)) (k:Nat):Mx:=tab k fun j=>rdcL p (List.replicate j []++c)
theorem LOk.pre {B:Nat} {c:List (List Int)} (h:LOk B c) (k:Nat):LOk B (List.replicate k []++c):=fun i=>by
 by_cases hi:i<k
 ·have e:nth (List.replicate k ([]:List Int)++c) i=[]:=by
   simp[nth,List.getElem?_append,hi]
  rw[e]
  exact ⟨inI_nil,Nat.zero_le _,by show Go.Fl.dl (val [])≤_; rw[val_nil,dl_zero.2 rfl]; omega⟩
 ·have e:nth (List.replicate k ([]:List Int)++c) i=nth c (i-k):=by
   simp[nth,List.getElem?_append,hi]
  rw[e]; exact h (i-k)
theorem matL_ok {p:List Int} {c:List (List Int)} {B n:Nat} (hp:∀i,dl (nth p i)≤1) (hn:p.length=n+1) (hc:LOk B c) (hl:c.length=n):MxOk n (B+4*n) (matL p c n):=by
 refine ⟨tab_len,fun i hi=>?_⟩
 unfold matL
 rw[nth_tab hi]
 refine ⟨by rw[rdcL_len]; omega,?_⟩
 refine (rdcL_ok hp (hc.pre i)).mono ?_
 rw[List.length_append,List.length_replicate]; omega
def fsR (P:Nat→Bool):Nat→Nat
 | 0=>0
 | m+1=>if fsR P m≠0 then fsR P m else if P (m+1)=true then m+1 else 0
theorem fsR_no {P:Nat→Bool} {m:Nat} (h:fsR P m=0) (a:P (m+1)=false):fsR P (m+1)=0:=by simp[fsR,h,a]
theorem fsR_at {P:Nat→Bool} {m:Nat} (h:fsR P m=0) (a:P (m+1)=true):fsR P (m+1)=m+1:=by simp[fsR,h,a]
theorem fsR_mono {P:Nat→Bool} {m:Nat} (h:fsR P m≠0):∀{n:Nat},m≤n→fsR P n=fsR P m
 | 0,hn=>by rw[show m=0 by omega]
 | n+1,hn=>by
  by_cases e:m=n+1
  ·rw[e]
  ·have:=fsR_mono h (n:=n) zo
   rw[fsR,this,if_pos h]
end Go.Fl

/- Contracts: lowest terms over any denominator, matrices and minors. -/
namespace Go.Fl
open Go Go.Proofs
open TrL renaming op→tO
open RunD renaming op→rO
set_option maxRecDepth 100000

theorem dl_gcd {a b B:Nat} (ha:dl (a:Int)≤B) (hb:dl (b:Int)≤B):dl ((Nat.gcd a b:Nat):Int)≤B:=by
 by_cases h:a=0
 ·rw[h,Nat.gcd_zero_left]; exact hb
 ·exact Nat.le_trans (digN_len_le (by rw[Int.natAbs_natCast,Int.natAbs_natCast]; exact Nat.le_of_dvd zo (Nat.gcd_dvd_left a b))) ha
theorem dl_abs {z:Int}:dl (z.natAbs:Int)=dl z:=by unfold dl; rw[Int.natAbs_natCast]
theorem gL_dl {B:Nat}:∀{l:List Int} {g:Nat},dl (g:Int)≤B→(∀x∈l,dl x≤B)→dl (gL g l:Int)≤B
 | [],_,h,_=>h
 | c::cs,g,h,hl=>by
  rw[gL]
  exact gL_dl (dl_gcd h (by rw[dl_abs]; exact hl c (by simp))) fun x hx=>hl x (by simp[hx])
theorem mem_vals {c:List (List Int)} {B:Nat} (hc:∀i,InI (nth c i)∧(nth c i).length≤B) {k:Nat}:∀x∈(c.map val).take k,dl x≤B+3:=fun x hx=>by
 obtain ⟨y,hy,rfl⟩:=List.mem_map.1 (List.mem_of_mem_take hx)
 obtain ⟨i,hi,rfl⟩:=List.mem_iff_getElem.1 hy
 have e:nth c i=c[i]:=by simp[nth,hi]
 rw[← e]
 have:=dl_val (hc i).1
 have:=(hc i).2
 omega
theorem dvz {a b:Int}:(if b=0 then [] else lstZ (a/b))=lstZ (a/b):=by
 by_cases h:b=0
 ·rw[if_pos h,h,Int.ediv_zero]; rfl
 ·rw[if_neg h]
set_option maxHeartbeats 1000000 in
theorem ct_rlowestZ (c:List (List Int)) (d:List Int) (hc:∀i,InI (nth c i)∧(nth c i).length≤100000) (hd:InI d∧d.length≤100000) (hcl:c.length≤1000):Ct Tryz.prog 81 [kRd (eL (eL eI)) c,kRd (eL eI) d] (kRd eNum (tab (trimL (c.map val)).length (fun i=>lstZ (nth (c.map val) i/(sgG (val d) (c.map val)))),lstZ (val d/(sgG (val d) (c.map val))))):=by
 have hdd:dl (val d)≤100003:=by have:=dl_val hd.1; have:=hd.2; omega
 have hgl:∀k,dl (gL (val d).natAbs ((c.map val).take k):Int)≤100003:=fun k=>gL_dl (by rw[dl_abs]; exact hdd) (mem_vals hc)
 have hvl:(c.map val).length=c.length:=List.length_map ..
 have hnv:∀k,nth (c.map val) k=val (nth c k):=fun k=>nth_mapv
 have hgd:dl (sgG (val d) (c.map val))≤100003:=by have:=hgl c.length; rw[List.take_of_length_le zo] at this; unfold sgG; split; (rw[dl_neg]; exact this); exact this
 have hgz:val []=0:=rfl
 have htl:(trimL (c.map val)).length≤c.length:=by have:=trim_len (xs:=(c.map val)); omega
 refine Ct.mk Tryz.func81 rfl Tryz.ntmps81 rfl (fun w J=>?_); refine jx2 ?_; refine ja 4 ?_; refine jx5 ?_; refine tO (ok_call (fun hp=>ct_rGcd d [] hd.1 (fun _ h=>absurd h (Nat.not_lt_zero _)) (by have:=hd.2; omega) (by simp)) (.a rfl uu<|.n rfl uu<|.nil)) rfl rfl ?_; refine jx14 ?_
 refine Tr.for1 (σ:=Nat) [⟨0,true,_,_⟩,⟨1,true,_,_⟩,⟨4,true,_,_⟩] [⟨4,_,_⟩] (fun k=>[⟨5,true,[],kRd (eL eI) (digN (gL (val d).natAbs ((c.map val).take k)))⟩,⟨6,true,[],kI ((trimL ((c.map val).take k)).length:Int)⟩,⟨7,true,[],kI (k:Int)⟩]) (fun k=>[]) (fun k=>k≤c.length) (fun k=>k=c.length) (fun k=>c.length-k) (0) zi (Ent.mk (.r rfl (by rw[hgz]; simp[gL])<|.i rfl (by rfl)<|.i rfl zi<|zk) (zk) rfl) ?_ ?_
 ·intro k hR0
  refine jn ?_
  have hck:=hc k
  refine jx9 ?_; refine jq ?_ ?_
  ·intro h4
   refine jx11 ?_; refine tO (ok_call (fun hp=>ct_rGcd (digN (gL (val d).natAbs ((c.map val).take k))) (nth c k) (digN_dg _).inI hck.1 (by have:=hgl k; unfold dl at this; simp only[Int.natAbs_natCast] at this; omega) (by have:=hck.2; omega)) (.a rfl uu<|.a rfl uu<|.nil)) rfl rfl ?_; refine jx9 ?_; refine jc (ct_rSign (nth c k) hck.1 (by have:=hck.2; omega)) ?_; refine jx3 ?_; refine jq ?_ ?_
   ·intro h7
    have hnz:nth (c.map val) k≠0:=fun e=>h7 (cmpZ_z.2 (by rw[← hnv]; exact e))
    refine jx12 ?_
    exact End.lp (k+1) zi zo (Ent.mk (.r rfl (by rw[digN_val]; refine congrArg digN ?_; have:=gL_take (c:=(c.map val)) (g:=(val d).natAbs) (k:=k) zo; rw[hnv] at this; simp only[Int.gcd,Int.natAbs_natCast] at this ⊢; omega)<|.i rfl (by rw[trim_step zo,if_neg hnz]; rfl)<|.i rfl zi<|zk) (zk) rfl)
   ·intro h7
    replace h7:=Classical.not_not.1 h7
    have hnz:nth (c.map val) k=0:=by rw[hnv]; exact cmpZ_z.1 h7
    refine jx8 ?_
    exact End.lp (k+1) zi zo (Ent.mk (.r rfl (by rw[digN_val]; refine congrArg digN ?_; have:=gL_take (c:=(c.map val)) (g:=(val d).natAbs) (k:=k) zo; rw[hnv] at this; simp only[Int.gcd,Int.natAbs_natCast] at this ⊢; omega)<|.i rfl (by rw[trim_step zo,if_pos hnz])<|.i rfl zi<|zk) (zk) rfl)
  ·intro h4
   replace h4:=Int.not_lt.1 h4
   refine jx4 ?_
   exact End.cut (k) zo (Ent.mk (.r rfl zi<|.i rfl zi<|.i rfl zi<|zk) (zk) rfl)
 ·rintro _ rfl
  refine je ?_
  rw[show (c.map val).take c.length=(c.map val) from List.take_of_length_le zo]
  refine jx1 ?_; refine Tr.meet2 (σ:=Unit) [⟨0,true,_,_⟩,⟨1,true,_,_⟩,⟨4,true,_,_⟩,⟨6,true,_,_⟩] [⟨4,_,_⟩] (zk) (zk) (fun _=>[⟨5,true,[],kRd (eL eI) (lstZ (sgG (val d) (c.map val)))⟩]) (fun _=>[]) (fun _=>True) ?_ ?_
  ·skip
   refine jx3 ?_; refine jc (ct_rSign d hd.1 (by have:=hd.2; omega)) ?_; refine jx3 ?_; refine jq ?_ ?_
   ·intro h9
    have h9l:val d<0:=by unfold cmpZ at h9; split at h9; assumption; split at h9<;>omega
    refine jx2 ?_; refine tO (ok_call (fun hp=>ct_rNeg (digN (gL (val d).natAbs (c.map val))) (digN_dg _).inI (by have:=hgl c.length; rw[List.take_of_length_le zo] at this; unfold dl at this; simp only[Int.natAbs_natCast] at this; omega)) (.a rfl uu<|.nil)) rfl rfl ?_; refine jx2 ?_
    exact End.cut (()) zi (Ent.mk (.r rfl (by rw[digN_val]; unfold sgG; rw[if_pos h9l])<|zk) (zk) rfl)
   ·intro h9
    replace h9:=Int.not_lt.1 h9
    have h9l:¬val d<0:=fun e=>by unfold cmpZ at h9; rw[if_pos e] at h9; omega
    refine jx1 ?_
    exact End.cut (()) zi (Ent.mk (.r rfl (by unfold sgG; rw[if_neg h9l,lst_nat])<|zk) (zk) rfl)
  ·intro _ hM
   refine jn ?_; refine jx2 ?_; refine tO (ok_build (fun hp=>.nil)) rfl rfl ?_; refine ja 8 ?_; refine jx9 ?_; refine Tr.growC 8 0 108 rfl (ks':=[kOsl 108 0,_]) rfl rfl 22 (eL eI) rfl (.cons inferInstance rfl<|.cons inferInstance rfl<|inferInstance) ?_
   refine Tr.for1 (σ:=Nat) [⟨0,true,_,_⟩,⟨1,true,_,_⟩,⟨4,true,_,_⟩,⟨5,true,_,_⟩,⟨6,true,_,_⟩,⟨8,true,_,_⟩] [⟨4,_,_⟩] (fun k=>[⟨9,true,[],kI (k:Int)⟩]) (fun k=>[⟨8,[108],cBlk [kOsl 108 k,kDet (.slice none 0 0)]⟩,⟨108,[],cArr true 22 (eL eI) (tab k fun i=>lstZ (nth (c.map val) i/(sgG (val d) (c.map val)))) k⟩]) (fun k=>k≤(trimL (c.map val)).length) (fun k=>k=(trimL (c.map val)).length) (fun k=>(trimL (c.map val)).length-k) (0) zi (Ent.mk (.i rfl zi<|zk) (.e (by rfl) rfl<|.a (by rfl) zi<|zk) rfl) ?_ ?_
   ·intro k hR1
    refine jn ?_
    have hck:=hc k
    refine jx8 ?_; refine jq ?_ ?_
    ·intro h13
     refine jx11 ?_; refine tO (ok_call (fun hp=>(by have h:=ct_rDivMod (nth c k) (lstZ (sgG (val d) (c.map val))) hck.1 (lst_in _) (by have:=hck.2; omega) (by rw[lst_len]; omega); simp only[lst_val,dvz] at h; exact h)) (.a rfl uu<|.a rfl uu<|.nil)) rfl rfl ?_; refine jx13 ?_; refine TrL.new (ok_bsl (eL eI) 59 (fun hp=>.cons rfl<|.nil) rfl rfl rfl rfl) rfl rfl rfl rfl ?_; refine TrL.wkC 8 (.any<|.k<|.nil) rfl ?_; refine jx1 ?_; refine jl ?_; refine jx10 ?_
     exact End.lp (k+1) zi zo (Ent.mk (.i rfl zi<|zk) (.e (by rfl) rfl<|.a (by rw[tab_succ,hnv]) zi<|zk) rfl)
    ·intro h13
     replace h13:=Int.not_lt.1 h13
     refine jx4 ?_
     exact End.cut (k) zo (Ent.mk (.i rfl zi<|zk) (zk) rfl)
   ·rintro k hkn
    refine je ?_; refine jx2 ?_; refine Tr.frzC 108 8 (by simp only[lenMax]; omega) rfl rfl ?_; refine jn ?_; refine jx3 ?_; refine tO (ok_call (fun hp=>(by have h:=ct_rDivMod (d) (lstZ (sgG (val d) (c.map val))) hd.1 (lst_in _) (by have:=hd.2; omega) (by rw[lst_len]; omega); simp only[lst_val,dvz] at h; exact h)) (.a rfl uu<|.a rfl uu<|.nil)) rfl rfl ?_; refine jx15 ?_; exact Rts.resC1 (fn:=Tryz.f81) rfl rfl (aggRd rfl (by rw[hkn]))

set_option maxHeartbeats 1000000 in
theorem ct_rminor (m:Mx) (col row n B:Nat) (hm:MxOk n B m) (hn:n≤10) (hcn:col<n) (hrn:row<n):Ct Tryz.prog 135 [kRd (eL (eL (eL eI))) m,kI (col:Int),kI (row:Int)] (kRd (eL (eL (eL eI))) (minL m col row n)):=by
 have hml:=hm.len
 refine Ct.mk Tryz.func135 rfl Tryz.ntmps135 rfl (fun w J=>?_); refine jx16 ?_; refine Tr.grow (s:=7) rfl rfl 107 rfl 28 (eL (eL eI)) rfl ?_
 refine Tr.for1 (σ:=Nat) [⟨0,true,_,_⟩,⟨1,true,_,_⟩,⟨2,true,_,_⟩] [] (fun k=>[⟨7,true,[107],kOsl 107 (minL m col row k).length⟩,⟨8,true,[],kI (k:Int)⟩]) (fun k=>[⟨107,[],cArr true 28 (eL (eL eI)) (minL m col row k) (minL m col row k).length⟩]) (fun k=>k≤n) (fun k=>k=n) (fun k=>n-k) (0) zi (Ent.mk (.o rfl zi rfl<|.i rfl zi<|zk) (.a (by rfl) zi<|.nil) rfl) ?_ ?_
 ·intro k hR0
  refine jn ?_
  have hmk:(minL m col row k).length≤k:=by unfold minL; rw[List.length_map,dropI_len]; split<;>omega
  refine jx9 ?_; refine jq ?_ ?_
  ·intro h3
   refine jx12 ?_; refine jq ?_ ?_
   ·intro h5
    have hkc:k=col:=by omega
    refine jx9 ?_
    exact End.lp (k+1) zi zo (Ent.mk (.o rfl (by rw[minL_out hkc]) rfl<|.i rfl zi<|zk) (.a (by rw[minL_out hkc]) (by rw[minL_out hkc])<|.nil) rfl)
   ·intro h5
    have hkc:k≠col:=by omega
    have hcl:=(hm.col k zo).1
    refine jx13 ?_; refine Tr.grow (s:=9) rfl rfl 109 rfl 22 (eL eI) rfl ?_
    refine Tr.for1 (σ:=Nat) [⟨0,true,_,_⟩,⟨1,true,_,_⟩,⟨2,true,_,_⟩,⟨7,true,_,_⟩,⟨8,true,_,_⟩] [⟨107,_,_⟩] (fun j=>[⟨9,true,[109],kOsl 109 (dropI (nth m k) row j).length⟩,⟨10,true,[],kI (j:Int)⟩]) (fun j=>[⟨109,[],cArr true 22 (eL eI) (dropI (nth m k) row j) (dropI (nth m k) row j).length⟩]) (fun j=>j≤(nth m k).length) (fun j=>j=(nth m k).length) (fun j=>(nth m k).length-j) (0) zi (Ent.mk (.o rfl zi rfl<|.i rfl zi<|zk) (.a (by rfl) zi<|zk) rfl) ?_ ?_
    ·intro j hR1
     refine jn ?_
     have hdj:(dropI (nth m k) row j).length≤j:=by rw[dropI_len]; split<;>omega
     refine jx12 ?_; refine jq ?_ ?_
     ·intro h8
      refine jx11 ?_; refine jq ?_ ?_
      ·intro h10
       have hjr:j≠row:=by omega
       have hdn:=dropI_in (l:=nth m k) hjr
       refine jx9 ?_; refine TrL.new (ok_bsl (eL eI) 40 (fun hp=>.cons rfl<|.nil) rfl rfl rfl rfl) rfl rfl rfl rfl ?_; refine jx1 ?_; refine jl ?_; refine jx9 ?_
       exact End.lp (j+1) zi zo (Ent.mk (.o rfl (by rw[hdn,List.length_append]) rfl<|.i rfl zi<|zk) (.a (by rw[hdn]) (by rw[hdn,List.length_append])<|zk) rfl)
      ·intro h10
       replace h10:=Classical.not_not.1 h10
       have hjr:j=row:=by omega
       have hdn:=dropI_out (l:=nth m k) hjr
       refine jx8 ?_
       exact End.lp (j+1) zi zo (Ent.mk (.o rfl (by rw[hdn]) rfl<|.i rfl zi<|zk) (.a (by rw[hdn]) (by rw[hdn])<|zk) rfl)
     ·intro h8
      replace h8:=Int.not_lt.1 h8
      refine jx4 ?_
      exact End.cut (j) zo (Ent.mk (.o rfl zi rfl<|.i rfl zi<|zk) (zk) rfl)
    ·rintro j hjn
     refine je ?_
     rw[hjn]
     have hdj:(dropI (nth m k) row (nth m k).length).length≤(nth m k).length:=by rw[dropI_len]; split<;>omega
     refine jx1 ?_; refine Tr.frz 109 [9] ⟨rfl,trivial⟩ (by simp only[lenMax]; omega) rfl ?_; refine jn ?_; refine jx3 ?_; refine TrL.new (ok_bsl (eL (eL eI)) 44 (fun hp=>.cons rfl<|.nil) rfl rfl rfl rfl) rfl rfl rfl rfl ?_; refine jx1 ?_; refine jl ?_; refine jx9 ?_
     exact End.lp (k+1) zi zo (Ent.mk (.o rfl (by rw[minL_in hkc,List.length_append]) rfl<|.i rfl zi<|zk) (.a (by rw[minL_in hkc]) (by rw[minL_in hkc,List.length_append])<|.nil) rfl)
  ·intro h3
   replace h3:=Int.not_lt.1 h3
   refine jx4 ?_
   exact End.cut (k) zo (Ent.mk (.o rfl zi rfl<|.i rfl zi<|zk) (zk) rfl)
 ·rintro k hkn
  refine je ?_
  rw[hkn]
  have hmk:(minL m col row n).length≤n:=by unfold minL; rw[List.length_map,dropI_len]; split<;>omega
  refine jx7 ?_; refine Tr.frz 107 [6] ⟨rfl,trivial⟩ (by simp only[lenMax]; omega) rfl ?_; refine jx1 ?_
  exact Rts.res1 (fn:=Tryz.f135) rfl (.r rfl zi<|.nil)

end Go.Fl

/- Contracts: matrices of multiplications, determinants. -/
namespace Go.Fl
open Go Go.Proofs
open TrL renaming op→tO
open RunD renaming op→rO
set_option maxRecDepth 100000

theorem detB_le {B:Nat}:∀{n:Nat},n≤4→detB B n≤4*B+15
 | 0,_=>by show 1≤_; omega
 | 1,_=>by show B+1+1≤_; omega
 | 2,_=>by show B+(B+1+1)+2≤_; omega
 | 3,_=>by show B+(B+(B+1+1)+2)+3≤_; omega
 | 4,_=>by show B+(B+(B+(B+1+1)+2)+3)+4≤_; omega
 | n+5,h=>by omega
set_option maxHeartbeats 1000000 in
theorem ct_rmatrix (f:FdT) (c:List (List Int)) (B n:Nat) (hpo:PolOk f.1) (hs:∀i,(nth f.1 i).natAbs≤1000) (hn:f.1.length=n+1) (hc:LOk B c) (hl:c.length=n) (h1:1≤n) (hB:B≤100):Ct Tryz.prog 133 [kRd eRr (f,()),kRd (eL (eL eI)) c] (kRd (eL (eL (eL eI))) (matL f.1 c n)):=by
 have hn5:=hpo.1
 have hff:((f,()):RrT).1.1.length=f.1.length:=rfl
 refine Ct.mk Tryz.func133 rfl Tryz.ntmps133 rfl (fun w J=>?_); refine Tr.seq (Tr.rg ?_); refine jb 2 rfl ?_; refine mw rfl rfl rfl ?_; refine TrL.fin (End.nxt (Tr.seq ?_)); refine Tr.frzB 2 [2] eRr (x:=(f,())) ⟨rfl,trivial⟩ rfl ?_; refine jn ?_; refine Tr.rg ?_; refine mw rfl rfl rfl ?_; refine TrL.fin (End.nxt (Tr.seq (Tr.seq (Tr.rg ?_)))); refine mw rfl rfl rfl ?_; refine TrL.fin (End.nxt ?_); refine Tr.grow (s:=5) rfl rfl 105 rfl 28 (eL (eL eI)) rfl ?_
 refine Tr.for1 (σ:=Nat) [⟨1,true,_,_⟩,⟨2,true,_,_⟩] [] (fun k=>[⟨5,true,[105],kOsl 105 k⟩,⟨6,true,[],kI (k:Int)⟩]) (fun k=>[⟨105,[],cArr true 28 (eL (eL eI)) (matL f.1 c k) k⟩]) (fun k=>k≤n) (fun k=>k=n) (fun k=>n-k) (0) zi (Ent.mk (.o rfl zi rfl<|.i rfl zi<|zk) (.a (by rfl) zi<|.nil) rfl) ?_ ?_
 ·intro k hR0
  refine jn ?_; refine Tr.seq (Tr.seq (Tr.rg ?_)); refine mv rfl rfl rfl ?_; refine tO (ok_ldPA rfl uu rfl rfl) rfl rfl ?_; refine jc (ct_rDegree f hn5) ?_; refine tO (ok_lss rfl uu rfl uu) rfl rfl ?_; refine TrL.fin (End.nxt ?_); refine jq ?_ ?_
  ·intro h3
   refine Tr.skip (End.nxt (Tr.seq (Tr.blk ?_))); refine Tr.drawA mixed #[false,false,false,false,false,false,false,false,false,false] rfl ?_; refine TrA.take 0 #[true,false,false,false,false,false,false,false,false,false] (by kernel_rfl) (by kernel_rfl) (by kernel_rfl) rfl rfl (y_move rfl) rfl rfl ?_; refine TrA.take 2 #[true,false,true,false,false,false,false,false,false,false] (by kernel_rfl) (by kernel_rfl) (by kernel_rfl) rfl rfl (y_move rfl) rfl rfl ?_; refine TrA.take 4 #[true,false,true,false,true,false,false,false,false,false] (by kernel_rfl) (by kernel_rfl) (by kernel_rfl) rfl rfl (y_move rfl) rfl rfl ?_
   refine TrA.all [1,3] (by kernel_rfl) (by simp) (fun i hi=>?_)
   simp only[List.mem_cons,List.not_mem_nil,or_false] at hi
   rcases hi with rfl | rfl
   ·refine ⟨_,rfl,?_⟩
    refine tO (ok_ldPA rfl uu rfl rfl) rfl rfl ?_; refine TrA.k #[true,true,true,false,true,false,false,false,false,false] rfl (fun _ _ _ _=>trivial) ?_; refine TrA.one 3 (by kernel_rfl) rfl ?_; refine TrL.new (ok_makeN (eL eI) 16 rfl uu rfl uu rfl rfl rfl (fun _=>zo)) rfl rfl rfl rfl ?_; refine TrA.k #[true,true,true,true,true,false,false,false,false,false] rfl (fun _ _ _ _=>trivial) ?_; refine TrA.one 5 (by kernel_rfl) rfl ?_
    refine TrL.app rfl rfl rfl rfl rfl rfl rfl rfl (by first | omega | (simp only[List.length_cons,List.length_nil]; omega)) (by first | omega | (simp only[List.length_cons,List.length_nil]; omega)) ?_
    refine jl ?_; refine TrA.k #[true,true,true,true,true,true,false,false,false,false] rfl (fun _ _ _ _=>trivial) ?_; refine TrA.one 6 (by kernel_rfl) rfl ?_; refine TrL.frz 16 [18] ⟨rfl,trivial⟩ (by simp only[lenMax]; omega) rfl ?_; refine jl ?_; refine jc (ct_rreduced f (List.replicate k []++c) B hpo hs (hc.pre k) (by rw[List.length_append,List.length_replicate]; omega) zo) ?_; refine TrA.k #[true,true,true,true,true,true,true,false,false,false] rfl (fun _ _ _ _=>trivial) ?_; refine TrA.one 7 (by kernel_rfl) rfl ?_; refine TrL.new (ok_bsl (eL (eL eI)) 20 (fun hp=>.cons rfl<|.nil) rfl rfl rfl rfl) rfl rfl rfl rfl ?_
    refine TrA.k #[true,true,true,true,true,true,true,true,false,false] rfl (fun _ _ _ _=>trivial) ?_; refine TrA.one 8 (by kernel_rfl) rfl ?_
    refine TrL.app rfl rfl rfl rfl rfl rfl rfl rfl (by first | omega | (simp only[List.length_cons,List.length_nil]; omega)) (by first | omega | (simp only[List.length_cons,List.length_nil]; omega)) ?_
    refine jl ?_; refine TrA.k #[true,true,true,true,true,true,true,true,true,false] rfl (fun _ _ _ _=>trivial) ?_; refine TrA.one 9 (by kernel_rfl) rfl ?_; refine mw rfl rfl rfl ?_; refine TrA.k #[true,true,true,true,true,true,true,true,true,true] rfl (fun _ _ _ _=>trivial) ?_; refine TrA.done (by kernel_rfl) ?_; refine End.blk (End.nxt (Tr.rg ?_)); refine mv rfl rfl rfl ?_; refine tO (ok_add rfl uu rfl uu (fun _=>zo)) rfl rfl ?_; refine mw rfl rfl rfl ?_; refine TrL.fin ?_
    exact End.lp (k+1) zi zo (Ent.mk (.o rfl zi rfl<|.i rfl zi<|zk) (.a tab_succ.symm zi<|.nil) rfl)
   ·refine ⟨_,rfl,?_⟩
    refine TrL.new (ok_makeN (eL eI) 16 rfl uu rfl uu rfl rfl rfl (fun _=>zo)) rfl rfl rfl rfl ?_; refine TrA.k #[true,false,true,true,true,false,false,false,false,false] rfl (fun _ _ _ _=>trivial) ?_; refine TrA.all [1,5] (by kernel_rfl) (by simp) (fun i hi=>?_)
    simp only[List.mem_cons,List.not_mem_nil,or_false] at hi
    rcases hi with rfl | rfl
    ·refine ⟨_,rfl,?_⟩
     refine tO (ok_ldPA rfl uu rfl rfl) rfl rfl ?_; refine TrA.k #[true,true,true,true,true,false,false,false,false,false] rfl (fun _ _ _ _=>trivial) ?_; refine TrA.one 5 (by kernel_rfl) rfl ?_
     refine TrL.app rfl rfl rfl rfl rfl rfl rfl rfl (by first | omega | (simp only[List.length_cons,List.length_nil]; omega)) (by first | omega | (simp only[List.length_cons,List.length_nil]; omega)) ?_
     refine jl ?_; refine TrA.k #[true,true,true,true,true,true,false,false,false,false] rfl (fun _ _ _ _=>trivial) ?_; refine TrA.one 6 (by kernel_rfl) rfl ?_; refine TrL.frz 16 [18] ⟨rfl,trivial⟩ (by simp only[lenMax]; omega) rfl ?_; refine jl ?_; refine jc (ct_rreduced f (List.replicate k []++c) B hpo hs (hc.pre k) (by rw[List.length_append,List.length_replicate]; omega) zo) ?_; refine TrA.k #[true,true,true,true,true,true,true,false,false,false] rfl (fun _ _ _ _=>trivial) ?_; refine TrA.one 7 (by kernel_rfl) rfl ?_; refine TrL.new (ok_bsl (eL (eL eI)) 20 (fun hp=>.cons rfl<|.nil) rfl rfl rfl rfl) rfl rfl rfl rfl ?_
     refine TrA.k #[true,true,true,true,true,true,true,true,false,false] rfl (fun _ _ _ _=>trivial) ?_; refine TrA.one 8 (by kernel_rfl) rfl ?_
     refine TrL.app rfl rfl rfl rfl rfl rfl rfl rfl (by first | omega | (simp only[List.length_cons,List.length_nil]; omega)) (by first | omega | (simp only[List.length_cons,List.length_nil]; omega)) ?_
     refine jl ?_; refine TrA.k #[true,true,true,true,true,true,true,true,true,false] rfl (fun _ _ _ _=>trivial) ?_; refine TrA.one 9 (by kernel_rfl) rfl ?_; refine mw rfl rfl rfl ?_; refine TrA.k #[true,true,true,true,true,true,true,true,true,true] rfl (fun _ _ _ _=>trivial) ?_; refine TrA.done (by kernel_rfl) ?_; refine End.blk (End.nxt (Tr.rg ?_)); refine mv rfl rfl rfl ?_; refine tO (ok_add rfl uu rfl uu (fun _=>zo)) rfl rfl ?_; refine mw rfl rfl rfl ?_; refine TrL.fin ?_
     exact End.lp (k+1) zi zo (Ent.mk (.o rfl zi rfl<|.i rfl zi<|zk) (.a tab_succ.symm zi<|.nil) rfl)
    ·refine ⟨_,rfl,?_⟩
     refine TrL.app rfl rfl rfl rfl rfl rfl rfl rfl (by first | omega | (simp only[List.length_cons,List.length_nil]; omega)) (by first | omega | (simp only[List.length_cons,List.length_nil]; omega)) ?_
     refine jl ?_; refine TrA.k #[true,false,true,true,true,true,false,false,false,false] rfl (fun _ _ _ _=>trivial) ?_; refine TrA.one 1 (by kernel_rfl) rfl ?_; refine tO (ok_ldPA rfl uu rfl rfl) rfl rfl ?_; refine TrA.k #[true,true,true,true,true,true,false,false,false,false] rfl (fun _ _ _ _=>trivial) ?_; refine TrA.one 6 (by kernel_rfl) rfl ?_; refine TrL.frz 16 [18] ⟨rfl,trivial⟩ (by simp only[lenMax]; omega) rfl ?_; refine jl ?_; refine jc (ct_rreduced f (List.replicate k []++c) B hpo hs (hc.pre k) (by rw[List.length_append,List.length_replicate]; omega) zo) ?_
     refine TrA.k #[true,true,true,true,true,true,true,false,false,false] rfl (fun _ _ _ _=>trivial) ?_; refine TrA.one 7 (by kernel_rfl) rfl ?_; refine TrL.new (ok_bsl (eL (eL eI)) 20 (fun hp=>.cons rfl<|.nil) rfl rfl rfl rfl) rfl rfl rfl rfl ?_; refine TrA.k #[true,true,true,true,true,true,true,true,false,false] rfl (fun _ _ _ _=>trivial) ?_; refine TrA.one 8 (by kernel_rfl) rfl ?_
     refine TrL.app rfl rfl rfl rfl rfl rfl rfl rfl (by first | omega | (simp only[List.length_cons,List.length_nil]; omega)) (by first | omega | (simp only[List.length_cons,List.length_nil]; omega)) ?_
     refine jl ?_; refine TrA.k #[true,true,true,true,true,true,true,true,true,false] rfl (fun _ _ _ _=>trivial) ?_; refine TrA.one 9 (by kernel_rfl) rfl ?_; refine mw rfl rfl rfl ?_; refine TrA.k #[true,true,true,true,true,true,true,true,true,true] rfl (fun _ _ _ _=>trivial) ?_; refine TrA.done (by kernel_rfl) ?_; refine End.blk (End.nxt (Tr.rg ?_)); refine mv rfl rfl rfl ?_; refine tO (ok_add rfl uu rfl uu (fun _=>zo)) rfl rfl ?_; refine mw rfl rfl rfl ?_; refine TrL.fin ?_
     exact End.lp (k+1) zi zo (Ent.mk (.o rfl zi rfl<|.i rfl zi<|zk) (.a tab_succ.symm zi<|.nil) rfl)
  ·intro h3
   replace h3:=Int.not_lt.1 h3
   refine Tr.exit (Exs.thn (Exs.thn (Exs.here ?_)))
   exact End.cut (k) zo (Ent.mk (.o rfl zi rfl<|.i rfl zi<|zk) (zk) rfl)
 ·rintro k hkn
  refine je ?_
  rw[hkn]
  refine End.nxt (Tr.seq (Tr.rg ?_)); refine mv rfl rfl rfl ?_; refine mw rfl rfl rfl ?_; refine TrL.fin (End.nxt ?_); refine Tr.frz 105 [4] ⟨rfl,trivial⟩ (by simp only[lenMax]; omega) rfl ?_; refine Tr.ret ?_
  exact Rts.res1 (fn:=Tryz.f133) rfl (.r rfl zi<|.nil)

set_option maxHeartbeats 1000000 in
theorem ct_rdetS (m:Mx) (n B:Nat) (hm:MxOk n B m) (hn:n≤4) (hB:B≤1000) (ih:∀k m',k+1=n→MxOk k B m'→Ct Tryz.prog 134 [kRd (eL (eL (eL eI))) m'] (kRd (eL eI) (lstZ (detV k m')))):Ct Tryz.prog 134 [kRd (eL (eL (eL eI))) m] (kRd (eL eI) (lstZ (detV n m))):=by
 have hml:=hm.len
 refine Ct.mk Tryz.func134 rfl Tryz.ntmps134 rfl (fun w J=>?_); refine Tr.seq (Tr.rg ?_); refine mw rfl rfl rfl ?_; refine TrL.fin (End.nxt (Tr.seq (Tr.seq (Tr.rg ?_)))); refine mv rfl rfl rfl ?_; refine tO (ok_lenJ rfl uu) rfl rfl ?_; refine tO (ok_eql rfl uu rfl uu) rfl rfl ?_; refine TrL.fin (End.nxt ?_); refine jq ?_ ?_
 ·intro h1
  have hn0:n=0:=by omega
  subst hn0
  refine Tr.seq (Tr.rg ?_); refine TrL.new (ok_bsl eI 9 (fun hp=>.cons rfl<|.nil) rfl rfl rfl rfl) rfl rfl rfl rfl ?_; refine mw rfl rfl rfl ?_; refine TrL.fin (End.nxt ?_); refine Tr.frz 9 [2] ⟨rfl,trivial⟩ (by simp only[lenMax]; omega) rfl ?_; refine Tr.ret (Rts.thn ?_); exact Rts.res1 (fn:=Tryz.f134) rfl (.r rfl (by exact lst_1.symm)<|.nil)
 ·intro h1
  obtain ⟨n,rfl⟩:∃k,n=k+1:=⟨n-1,by omega⟩
  have hc0:=hm.col 0 zo
  have hbn:=detB_le (B:=B) (n:=n) zo
  refine Tr.skip (End.nxt (Tr.seq (Tr.rg ?_))); refine mw rfl rfl rfl ?_; refine TrL.fin (End.nxt (Tr.seq (Tr.seq (Tr.rg ?_)))); refine mw rfl rfl rfl ?_; refine TrL.fin (End.nxt ?_)
  refine Tr.for1 (σ:=Nat) [⟨0,true,_,_⟩] [] (fun k=>[⟨3,true,[],kRd (eL eI) (lstZ (sumTo (detT (detV n) (n+1) m) k))⟩,⟨4,true,[],kI (k:Int)⟩]) (fun k=>[]) (fun k=>k≤n+1) (fun k=>k=n+1) (fun k=>n+1-k) (0) zi (Ent.mk (.n rfl (by rfl)<|.i rfl zi<|zk) (.nil) rfl) ?_ ?_
  ·intro k hR0
   refine jn ?_; refine Tr.seq (Tr.seq (Tr.rg ?_)); refine mv rfl rfl rfl ?_; refine mv rfl rfl rfl ?_; refine tO (ok_lenJ rfl uu) rfl rfl ?_; refine tO (ok_lss rfl uu rfl uu) rfl rfl ?_; refine TrL.fin (End.nxt ?_); refine jq ?_ ?_
   ·intro h5
    refine Tr.skip (End.nxt (Tr.seq (Tr.blk (Tr.seq ?_)))); refine Tr.draw 10 mixed (by kernel_rfl) ?_
    have hko:=hc0.2 k
    have hd1:=det_dl (minL_ok hm (show 0<n+1 by omega) (show k<n+1 by omega))
    have hd2:=detT_dl (k:=k) (D:=detV n) hm hd1
    have hd3:=det_part hm (k:=k) zo
    have hd4:=dl_mul (val (nth (nth m 0) k)) (detV n (minL m 0 k (n+1)))
    refine rO (ok_move rfl uu) rfl rfl ?_; refine rO (ok_idxN (i:=0) rfl uu rfl uu rfl (fun _=>zo)) rfl rfl ?_; refine rO (ok_ldP rfl uu rfl) rfl rfl ?_; refine rO (ok_move rfl uu) rfl rfl ?_
    first | refine rO (ok_idxN rfl uu rfl uu rfl (fun _=>zo)) rfl rfl ?_ | refine rO (ok_idxP rfl uu rfl uu rfl (fun _=>zo)) rfl rfl ?_
    refine rO (ok_ldP rfl uu rfl) rfl rfl ?_; refine rO (ok_move rfl uu) rfl rfl ?_; refine rO (ok_move rfl uu) rfl rfl ?_; refine jd (ct_rminor m 0 k (n+1) B hm zo zo zo) ?_; refine jd (ih n (minL m 0 k (n+1)) rfl (minL_ok hm zo zo)) ?_; refine RunD.z ?_; refine tO (ok_call (fun hp=>ct_rMul (nth (nth m 0) k) (lstZ (detV n (minL m 0 k (n+1)))) hko.1 (lst_in _) zo (by rw[lst_len]; omega)) (.a rfl uu<|.a rfl uu<|.nil)) rfl rfl ?_
    rw[lst_val]
    refine mw rfl rfl rfl ?_; refine TrL.fin (End.nxt ?_); refine Tr.meet2 (σ:=Unit) [⟨0,true,_,_⟩,⟨3,true,_,_⟩,⟨4,true,_,_⟩] [] (zk) (.nil) (fun _=>[⟨5,true,[],kRd (eL eI) (lstZ (detT (detV n) (n+1) m k))⟩]) (fun _=>[]) (fun _=>True) ?_ ?_
    ·skip
     refine Tr.seq (Tr.rg ?_); refine mv rfl rfl rfl ?_; refine tO (ok_rem rfl uu rfl uu (fun _=>zo)) rfl rfl ?_; refine tO (ok_eql rfl uu rfl uu) rfl rfl ?_; refine TrL.fin (End.nxt ?_); refine jq ?_ ?_
     ·intro h8
      have hdt:detT (detV n) (n+1) m k=-(val (nth (nth m 0) k)*detV n (minL m 0 k (n+1))):=if_pos (by have:=Int.tmod_eq_emod_of_nonneg (show (0:Int)≤(k:Int) by omega) (b:=2); omega)
      refine Tr.rg ?_; refine mv rfl rfl rfl ?_; refine tO (ok_call (fun hp=>ct_rNeg (lstZ (val (nth (nth m 0) k)*detV n (minL m 0 k (n+1)))) (lst_in _) (by rw[lst_len]; omega)) (.a rfl uu<|.nil)) rfl rfl ?_
      rw[lst_val]
      refine mw rfl rfl rfl ?_; refine TrL.fin ?_
      exact End.cut (()) zi (Ent.mk (.r rfl (by rw[hdt])<|zk) (.nil) rfl)
     ·intro h8
      have hdt:detT (detV n) (n+1) m k=val (nth (nth m 0) k)*detV n (minL m 0 k (n+1)):=if_neg (by have:=Int.tmod_eq_emod_of_nonneg (show (0:Int)≤(k:Int) by omega) (b:=2); omega)
      refine Tr.skip ?_
      exact End.cut (()) zi (Ent.mk (.r rfl (by rw[hdt])<|zk) (.nil) rfl)
    ·intro _ hM
     refine jn ?_; refine Tr.rg ?_; refine mv rfl rfl rfl ?_; refine mv rfl rfl rfl ?_; refine tO (ok_call (fun hp=>ct_rAdd (lstZ (sumTo (detT (detV n) (n+1) m) k)) (lstZ (detT (detV n) (n+1) m k)) (lst_in _) (lst_in _) (by rw[lst_len]; omega) (by rw[lst_len]; omega)) (.a rfl uu<|.a rfl uu<|.nil)) rfl rfl ?_
     rw[lst_val,lst_val]
     refine mw rfl rfl rfl ?_; refine TrL.fin (End.blk (End.nxt (Tr.rg ?_))); refine mv rfl rfl rfl ?_; refine tO (ok_add rfl uu rfl uu (fun _=>zo)) rfl rfl ?_; refine mw rfl rfl rfl ?_; refine TrL.fin ?_
     exact End.lp (k+1) zi zo (Ent.mk (.r rfl (by rfl)<|.i rfl zi<|zk) (.nil) rfl)
   ·intro h5
    replace h5:=Int.not_lt.1 h5
    refine Tr.exit (Exs.thn (Exs.thn (Exs.here ?_)))
    exact End.cut (k) zo (Ent.mk (.r rfl zi<|.i rfl zi<|zk) (.nil) rfl)
  ·rintro k hkn
   refine je ?_
   rw[hkn]
   refine End.nxt (Tr.seq (Tr.rg ?_)); refine mv rfl rfl rfl ?_; refine mw rfl rfl rfl ?_; refine TrL.fin (End.nxt (Tr.ret ?_)); exact Rts.res1 (fn:=Tryz.f134) rfl (.r rfl (by rfl)<|.nil)

end Go.Fl

/- Contracts: inverses and quotients of the reference. -/
namespace Go.Fl
open Go Go.Proofs
open TrL renaming op→tO
open RunD renaming op→rO
set_option maxRecDepth 100000

theorem ct_rdet {B:Nat} (hB:B≤1000):∀(n:Nat),n≤4→∀m,MxOk n B m→Ct Tryz.prog 134 [kRd (eL (eL (eL eI))) m] (kRd (eL eI) (lstZ (detV n m)))
 | 0,h,m,hm=>ct_rdetS m 0 B hm h hB fun k m' e _=>absurd e zo
 | n+1,h,m,hm=>ct_rdetS m (n+1) B hm h hB fun k m' e hk=>by
  obtain rfl:k=n:=by omega
  exact ct_rdet hB k zo m' hk
def lowZ (c:List (List Int)) (d:List Int):NumT:=(tab (trimL (c.map val)).length (fun i=>lstZ (nth (c.map val) i/sgG (val d) (c.map val))),lstZ (val d/sgG (val d) (c.map val)))
theorem dl_dvz {a b:Int} {B:Nat} (h:b∣a) (ha:dl a≤B):dl (a/b)≤B:=Nat.le_trans (dl_divs h) ha
theorem lowZ_ok {c:List (List Int)} {d:List Int} {B:Nat} (hc:∀i,dl (val (nth c i))≤B) (hd:dl (val d)≤B) (hl:c.length≤6):NumOk B (lowZ c d):=by
 have hvl:(c.map val).length=c.length:=List.length_map ..
 have htl:=trim_len (xs:=c.map val)
 refine ⟨by show (tab _ _).length≤6; rw[tab_len]; omega,fun i=>?_,lst_in _,by show (lstZ _).length≤B; rw[lst_len]; exact dl_dvz (sgG_dvd (.inl rfl)) hd⟩
 by_cases hi:i<(trimL (c.map val)).length
 ·have e:nth (lowZ c d).1 i=lstZ (nth (c.map val) i/sgG (val d) (c.map val)):=nth_tab hi
  rw[e]
  exact ⟨lst_in _,by rw[lst_len]; exact dl_dvz (sgG_dvd (.inr (nth_mem zo))) (by rw[nth_mapv]; exact hc i)⟩
 ·have e:nth (lowZ c d).1 i=[]:=nth_out (by show (tab _ _).length≤i; rw[tab_len]; omega)
  rw[e]
  exact ⟨inI_nil,Nat.zero_le _⟩
def mxN (p:List Int) (x:NumT) (n:Nat):Mx:=matL p (rdcL p x.1) (n+1)
def cfT (p:List Int) (x:NumT) (n i:Nat):Int:=if i%2=1 then -(detV n (minL (mxN p x n) i 0 (n+1))*denN x.2) else detV n (minL (mxN p x n) i 0 (n+1))*denN x.2
def invN (p:List Int) (x:NumT) (n:Nat):NumT:=lowZ (tab (n+1) fun i=>lstZ (cfT p x n i)) (lstZ (detV (n+1) (mxN p x n)))
theorem mxN_ok {p:List Int} {x:NumT} {n:Nat} (hp:∀i,dl (nth p i)≤1) (hn:p.length=n+2) (hx:NumOk 2 x) (h3:n≤3):MxOk (n+1) 33 (mxN p x n):=by
 have hro:=rdcL_ok hp (num_LOk hx)
 have hxl:=hx.len
 have:=matL_ok (c:=rdcL p x.1) (B:=17) (n:=n+1) hp zo (hro.mono zo) (by rw[rdcL_len]; omega)
 exact ⟨this.len,fun i hi=>⟨(this.col i hi).1,(this.col i hi).2.mono zo⟩⟩
theorem cfT_dl {p:List Int} {x:NumT} {n i:Nat} (hp:∀i,dl (nth p i)≤1) (hn:p.length=n+2) (hx:NumOk 2 x) (h3:n≤3) (hi:i<n+1):dl (detV n (minL (mxN p x n) i 0 (n+1)))≤150∧dl (detV n (minL (mxN p x n) i 0 (n+1))*denN x.2)≤155∧dl (cfT p x n i)≤155:=by
 have h1:=det_dl (minL_ok (mxN_ok hp hn hx h3) hi (show 0<n+1 by omega))
 have h2:=detB_le (B:=33) (n:=n) zo
 have h3:=dl_mul (detV n (minL (mxN p x n) i 0 (n+1))) (denN x.2)
 have h4:=dl_den hx.d.1 hx.d.2
 have e:dl (cfT p x n i)=dl (detV n (minL (mxN p x n) i 0 (n+1))*denN x.2):=by
  unfold cfT; split
  ·rw[dl_neg]
  ·rfl
 have hB:detB 33 n≤147:=by omega
 have h5:dl (detV n (minL (mxN p x n) i 0 (n+1)))≤147:=Nat.le_trans h1 hB
 rw[e]
 omega
theorem dmx_dl {p:List Int} {x:NumT} {n:Nat} (hp:∀i,dl (nth p i)≤1) (hn:p.length=n+2) (hx:NumOk 2 x) (h3:n≤3):dl (detV (n+1) (mxN p x n))≤155:=by
 have h1:=det_dl (mxN_ok hp hn hx h3)
 have h2:=detB_le (B:=33) (n:=n+1) zo
 omega
theorem invN_ok {p:List Int} {x:NumT} {n:Nat} (hp:∀i,dl (nth p i)≤1) (hn:p.length=n+2) (hx:NumOk 2 x) (h3:n≤3):NumOk 155 (invN p x n):=by
 refine lowZ_ok (fun i=>?_) (by rw[lst_val]; exact dmx_dl hp hn hx h3) (by rw[tab_len]; omega)
 by_cases hi:i<n+1
 ·rw[nth_tab hi,lst_val]; exact (cfT_dl hp hn hx h3 hi).2.2
 ·rw[nth_out (by rw[tab_len]; omega)]; show dl (val [])≤_; rw[val_nil,dl_zero.2 rfl]; omega
theorem mlN_NBd {p:List Int} {x y:NumT} {k:Nat} (hp:PolOk p) (hx:NumOk k x) (hy:NumOk k y):NBd (2*k+60) (mlN p x y):=by
 have hdx:=dl_den hx.d.1 hx.d.2
 have hdy:=dl_den hy.d.1 hy.d.2
 have hxl:=hx.len
 have hyl:=hy.len
 refine low_NBd (fun i=>?_) (Nat.le_trans (dl_mul _ _) zo) (Int.mul_ne_zero denN_ne denN_ne) pad_len
 rw[← cnv_val]
 have:=dl_pad (xs:=tab (x.1.length+y.1.length-1) (fun i=>sumTo (fun j=>val (nth x.1 j)*val (nth y.1 (i-j))) (i+1))) (B:=2*k+20) hp.2 (fun j=>by
  by_cases hj:j<x.1.length+y.1.length-1
  ·rw[nth_tab hj]
   have:=sum_dl (F:=fun j'=>val (nth x.1 j')*val (nth y.1 (j-j'))) (fun j'=>cnv_dl hx hy j' (j-j')) (k:=j+1)
   omega
  ·rw[nth_out (by rw[tab_len]; omega)]; show dl 0≤_; rw[dl_zero.2 rfl]; omega) i
 rw[tab_len] at this
 omega
def quN (p:List Int) (x y:NumT) (n:Nat):NumT:=if (giveN (takeN p y)).1.length=0 then ([],[]) else giveN (mlN p x (invN p y n))
theorem quN_ok {p:List Int} {x y:NumT} {n:Nat} (hp:PolOk p) (hn:p.length=n+2) (hx:NumOk 200 x) (hy:NumOk 2 y) (h3:n≤3):NumOk 470 (quN p x y n):=by
 unfold quN
 split
 ·exact num_nil
 ·exact (give_NumOk (mlN_NBd hp hx ((invN_ok hp.2 hn hy h3).mono zo))).mono zo
set_option maxHeartbeats 1000000 in
theorem ct_rinverse (f:FdT) (x:NumT) (n:Nat) (hpo:PolOk f.1) (hs:∀i,(nth f.1 i).natAbs≤1000) (hx:NumOk 2 x) (hn:f.1.length=n+2) (h3:n≤3):Ct Tryz.prog 80 [kRd eRr (f,()),kRd eNum x] (kRd eNum (invN f.1 x n)):=by
 have hxl:=hx.len
 have hro:=(rdcL_ok hpo.2 (num_LOk hx)).mono (show 2+3+2*x.1.length≤17 by omega)
 have hmm:=mxN_ok hpo.2 hn hx h3
 have hml:=hmm.len
 have hdx:=dl_den hx.d.1 hx.d.2
 refine Ct.mk Tryz.func80 rfl Tryz.ntmps80 rfl (fun w J=>?_); refine jx2 ?_; refine jb 2 rfl ?_; refine jb 3 rfl ?_; refine ja 4 ?_; refine jx3 ?_; refine Tr.frzB 2 [2] eRr (x:=(f,())) ⟨rfl,trivial⟩ rfl ?_; refine Tr.frzB 3 [3] eNum (x:=x) ⟨rfl,trivial⟩ rfl ?_; refine jn ?_; refine Tr.draw 5 mixed (by kernel_rfl) ?_; refine jx4 ?_; refine jd (ct_rreduced f x.1 5 hpo hs (num_LOk hx) zo zo) ?_; refine jx1 ?_; refine jc (ct_rmatrix f (rdcL f.1 x.1) 17 (n+1) hpo hs zo hro (by rw[rdcL_len]; omega) zo zo) ?_
 rw[show matL f.1 (rdcL f.1 x.1) (n+1)=(mxN f.1 x n) from rfl]
 refine jx14 ?_; refine Tr.grow (s:=6) rfl rfl 106 rfl 22 (eL eI) rfl ?_
 refine Tr.for1 (σ:=Nat) [⟨3,true,_,_⟩,⟨4,true,_,_⟩,⟨5,true,_,_⟩] [⟨4,_,_⟩] (fun k=>[⟨6,true,[106],kOsl 106 k⟩,⟨7,true,[],kI (k:Int)⟩]) (fun k=>[⟨106,[],cArr true 22 (eL eI) (tab k fun i=>lstZ (cfT f.1 x n i)) k⟩]) (fun k=>k≤n+1) (fun k=>k=n+1) (fun k=>n+1-k) (0) zi (Ent.mk (.o rfl zi rfl<|.i rfl zi<|zk) (.a (by rfl) zi<|zk) rfl) ?_ ?_
 ·intro k hR0
  refine jn ?_; refine jx9 ?_; refine jq ?_ ?_
  ·intro h4
   refine jx5 ?_; refine Tr.draw 5 mixed (by kernel_rfl) ?_
   have hcd:=cfT_dl hpo.2 hn hx h3 (i:=k) zo
   refine jx2 ?_; refine jd (ct_rminor (mxN f.1 x n) k 0 (n+1) 33 hmm zo zo zo) ?_; refine jd (ct_rdet (B:=33) zo n zo (minL (mxN f.1 x n) k 0 (n+1)) (minL_ok hmm zo zo)) ?_; refine jx2 ?_; refine jc (ct_rbelow x hx.d.1 (by have:=hx.d.2; omega)) ?_; refine tO (ok_call (fun hp=>ct_rMul (lstZ (detV n (minL (mxN f.1 x n) k 0 (n+1)))) (lstZ (denN x.2)) (lst_in _) (lst_in _) (by rw[lst_len]; omega) (by rw[lst_len]; omega)) (.a rfl uu<|.a rfl uu<|.nil)) rfl rfl ?_
   rw[lst_val,lst_val]
   refine jx3 ?_; refine Tr.meet2 (σ:=Unit) [⟨3,true,_,_⟩,⟨4,true,_,_⟩,⟨5,true,_,_⟩,⟨6,true,_,_⟩,⟨7,true,_,_⟩] [⟨4,_,_⟩,⟨106,_,_⟩] (zk) (zk) (fun _=>[⟨8,true,[],kRd (eL eI) (lstZ (cfT f.1 x n k))⟩]) (fun _=>[]) (fun _=>True) ?_ ?_
   ·skip
    refine jx3 ?_; refine tO (ok_rem rfl uu rfl uu (fun _=>zo)) rfl rfl ?_; refine jx3 ?_; refine jq ?_ ?_
    ·intro h7
     have hdt:(cfT f.1 x n k)=-((detV n (minL (mxN f.1 x n) k 0 (n+1)))*denN x.2):=if_pos (by have:=Int.tmod_eq_emod_of_nonneg (show (0:Int)≤(k:Int) by omega) (b:=2); omega)
     refine jx2 ?_; refine tO (ok_call (fun hp=>ct_rNeg (lstZ ((detV n (minL (mxN f.1 x n) k 0 (n+1)))*denN x.2)) (lst_in _) (by rw[lst_len]; omega)) (.a rfl uu<|.nil)) rfl rfl ?_
     rw[lst_val]
     refine jx2 ?_
     exact End.cut (()) zi (Ent.mk (.r rfl (by rw[hdt])<|zk) (zk) rfl)
    ·intro h7
     have hdt:(cfT f.1 x n k)=(detV n (minL (mxN f.1 x n) k 0 (n+1)))*denN x.2:=if_neg (by have:=Int.tmod_eq_emod_of_nonneg (show (0:Int)≤(k:Int) by omega) (b:=2); omega)
     refine jx1 ?_
     exact End.cut (()) zi (Ent.mk (.r rfl (by rw[hdt])<|zk) (zk) rfl)
   ·intro _ hM
    refine jn ?_; refine jx3 ?_; refine TrL.new (ok_bsl (eL eI) 35 (fun hp=>.cons rfl<|.nil) rfl rfl rfl rfl) rfl rfl rfl rfl ?_; refine jx1 ?_; refine jl ?_; refine jx9 ?_
    exact End.lp (k+1) zi zo (Ent.mk (.o rfl zi rfl<|.i rfl zi<|zk) (.a tab_succ.symm zi<|zk) rfl)
  ·intro h4
   replace h4:=Int.not_lt.1 h4
   refine jx4 ?_
   exact End.cut (k) zo (Ent.mk (.o rfl zi rfl<|.i rfl zi<|zk) (zk) rfl)
 ·rintro k hkn
  refine je ?_
  rw[hkn]
  have hlc:∀i,InI (nth (tab (n+1) fun i=>lstZ (cfT f.1 x n i)) i)∧(nth (tab (n+1) fun i=>lstZ (cfT f.1 x n i)) i).length≤100000:=fun i=>by by_cases hi:i<n+1; (rw[nth_tab hi]; exact ⟨lst_in _,by rw[lst_len]; have:=(cfT_dl hpo.2 hn hx h3 hi).2.2; omega⟩); (rw[nth_out (by rw[tab_len]; omega)]; exact ⟨inI_nil,Nat.zero_le _⟩)
  refine jx5 ?_; refine jc (ct_rdet (B:=33) zo (n+1) zo (mxN f.1 x n) hmm) ?_; refine TrL.frz 106 [6,37] ⟨rfl,rfl,trivial⟩ (by simp only[lenMax]; omega) rfl ?_; refine jl ?_; refine tO (ok_call (fun hp=>ct_rlowestZ (tab (n+1) fun i=>lstZ (cfT f.1 x n i)) (lstZ (detV (n+1) (mxN f.1 x n))) hlc ⟨lst_in _,by rw[lst_len]; have:=dmx_dl hpo.2 hn hx h3; omega⟩ (by rw[tab_len]; omega)) (.a rfl uu<|.a rfl uu<|.nil)) rfl rfl ?_; refine jx4 ?_; exact Rts.resC1 (fn:=Tryz.f80) rfl rfl (aggRd rfl (by rfl))

set_option maxHeartbeats 1000000 in
theorem ct_rquo (f:FdT) (x y:NumT) (n:Nat) (hpo:PolOk f.1) (hs:∀i,(nth f.1 i).natAbs≤1000) (hx:NumOk 200 x) (hy:NumOk 2 y) (hn:f.1.length=n+2) (h3:n≤3):Ct Tryz.prog 27 [kRd eRr (f,()),kRd eNum x,kRd eNum y] (kTup [kRd eNum (quN f.1 x y n),kI (if (giveN (takeN f.1 y)).1.length=0 then 12 else 0)]):=by
 refine Ct.mk Tryz.func27 rfl Tryz.ntmps27 rfl (fun w J=>?_); refine jx2 ?_; refine jb 3 rfl ?_; refine jb 4 rfl ?_; refine jb 5 rfl ?_; refine ja 6 ?_; refine jx5 ?_; refine Tr.frzB 3 [3] eRr (x:=(f,())) ⟨rfl,trivial⟩ rfl ?_; refine Tr.frzB 4 [4] eNum (x:=x) ⟨rfl,trivial⟩ rfl ?_; refine Tr.frzB 5 [5] eNum (x:=y) ⟨rfl,trivial⟩ rfl ?_; refine jn ?_; refine jx3 ?_; refine jc (ct_rNormalN f y 2 hpo hs hy zo) ?_; refine tO (ok_fieldP Tryz.underlying30 rfl (ft:=28) (off:=0) rfl rfl rfl uu rfl rfl) rfl rfl ?_; refine jx4 ?_; refine jq ?_ ?_
 ·intro h1
  have hz0:(giveN (takeN f.1 y)).1.length=0:=by omega
  refine jx2 ?_; refine tO (ok_build (fun hp=>.nil)) rfl rfl ?_; refine jx6 ?_; exact Rts.resC (fn:=Tryz.f27) (ts:=[7]) rfl rfl rfl (aggRd rfl (by unfold quN; rw[if_pos hz0])) (.i rfl (by rw[if_pos hz0])<|.nil)
 ·intro h1
  have hz0:¬(giveN (takeN f.1 y)).1.length=0:=by omega
  refine jx3 ?_; refine Tr.draw 5 mixed (by kernel_rfl) ?_; refine jx4 ?_; refine jd (ct_rinverse f y n hpo hs hy hn h3) ?_; refine jx1 ?_; refine jc (ct_rMulN f x (invN f.1 y n) 200 hpo hs hx ((invN_ok hpo.2 hn hy h3).mono zo) zo) ?_; refine jx5 ?_; exact Rts.resC (fn:=Tryz.f27) (ts:=[7]) rfl rfl rfl (aggRd rfl (by unfold quN; rw[if_neg hz0])) (.i rfl (by rw[if_neg hz0])<|.nil)

theorem ct_rCmpL (f:FdT) (x y:NumT) (h0:chkF f=0) (hx:NumOk 470 x) (hy:NumOk 2 y):Ct Tryz.prog 26 [kRd eRr (f,()),kRd eNum x,kRd eNum y] (kI (sgV f.1 (ivF f) (subV (takeN f.1 x) (takeN f.1 y)))):=by
 obtain ⟨⟨c1,c2,c3⟩,c6⟩:=chkF_0 h0
 have hpo:=pol_open h0
 have nb:=sub_NBd (take_NBd hpo hx) (take_NBd hpo hy)
 have rz:RedN f.1 (subV (takeN f.1 x) (takeN f.1 y)):=sub_RedN (take_RedN hpo) (take_RedN hpo)
 have htg:=take_give rz
 refine Ct.mk Tryz.func26 rfl Tryz.ntmps26 rfl (fun w J=>?_); refine jx2 ?_; refine jb 3 rfl ?_; refine jb 4 rfl ?_; refine jb 5 rfl ?_; refine jx4 ?_; refine Tr.frzB 3 [3] eRr (x:=(f,())) ⟨rfl,trivial⟩ rfl ?_; refine Tr.frzB 4 [4] eNum (x:=x) ⟨rfl,trivial⟩ rfl ?_; refine Tr.frzB 5 [5] eNum (x:=y) ⟨rfl,trivial⟩ rfl ?_; refine jn ?_; refine Tr.draw 5 mixed (by kernel_rfl) ?_; refine jx4 ?_; refine jd (ct_rSubN f x y 470 hpo c2 hx (hy.mono zo) zo) ?_; refine jx1 ?_; refine jc (ct_rSignN f (giveN (subV (takeN f.1 x) (takeN f.1 y))) h0 ((give_NumOk nb).mono zo) (by rw[htg]; exact nb.mono zo)) ?_
 refine jx4 ?_; exact Rts.res1 (fn:=Tryz.f26) rfl (.i rfl (by rw[htg])<|.nil)

end Go.Fl

/- Contracts: first returns. -/
namespace Go.Fl
open Go Go.Proofs
open TrL renaming op→tO
open RunD renaming op→rO
set_option maxRecDepth 100000

noncomputable def pN (x:ExT) (p:NumT):Nat→NumT
 | 0=>p
 | k+1=>giveN (orX x (takeN x.1.1 p) (k+1))
theorem pN_take {x:ExT} {p:NumT} {k:Nat} (h:RedN x.1.1 (orX x (takeN x.1.1 p) k)):takeN x.1.1 (pN x p k)=orX x (takeN x.1.1 p) k:=by
 cases k with
 | zero=>rfl
 | succ k=>exact take_give h
theorem pN_ok {x:ExT} {p:NumT} {k:Nat} (hp:NumOk 250 p) (h:NBd 200 (orX x (takeN x.1.1 p) k)):NumOk 250 (pN x p k):=by
 cases k with
 | zero=>exact hp
 | succ k=>exact (give_NumOk h).mono zo
noncomputable def rtP (x:ExT) (p l:NumT) (k:Nat):Bool:=decide (sgX x (subV (orX x (takeN x.1.1 p) k) (takeN x.1.1 l))<0)
noncomputable def n2000:{ n:Nat // n=2000 }:=Classical.choice ⟨⟨2000,rfl⟩⟩
noncomputable def rtK (x:ExT) (p l:NumT):Nat:=fsR (rtP x p l) n2000.1
noncomputable def rtN (x:ExT) (p l:NumT):NumT:=if rtK x p l=0 then ([],[]) else giveN (orX x (takeN x.1.1 p) (rtK x p l))
noncomputable def rgB (x:ExT) (p l:NumT):Bool:=!(decide (sgX x (takeN x.1.1 l)≤0)||decide (0<sgX x (subV (takeN x.1.1 l) (totV (lsX x) x.2.1)))||!(decide (0≤sgX x (takeN x.1.1 p))&&decide (sgX x (subV (takeN x.1.1 p) (takeN x.1.1 l))<0)))
theorem rt_at {x:ExT} {p l:NumT} {k:Nat} (hno:fsR (rtP x p l) k=0) (h:sgX x (subV (orX x (takeN x.1.1 p) (k+1)) (takeN x.1.1 l))<0) (hk:k+1≤2000):rtK x p l=k+1∧rtN x p l=giveN (orX x (takeN x.1.1 p) (k+1)):=by
 have hP:rtP x p l (k+1)=true:=decide_eq_true h
 have e:=fsR_at hno hP
 have hK:rtK x p l=k+1:=(fsR_mono (by rw[e]; omega) (by rw[n2000.2]; exact hk)).trans e
 exact ⟨hK,by unfold rtN; rw[hK,if_neg zo]⟩
theorem rt_next {x:ExT} {p l:NumT} {k:Nat} (hno:fsR (rtP x p l) k=0) (h:¬sgX x (subV (orX x (takeN x.1.1 p) (k+1)) (takeN x.1.1 l))<0):fsR (rtP x p l) (k+1)=0:=fsR_no hno (decide_eq_false h)
theorem rt_end {x:ExT} {p l:NumT} (h:fsR (rtP x p l) n2000.1=0):rtK x p l=0∧rtN x p l=([],[]):=⟨h,by unfold rtN; rw[show rtK x p l=0 from h,if_pos rfl]⟩
set_option maxHeartbeats 1000000 in
theorem ct_xRetG (x:ExT) (D:Int) (M:Nat) (p l:NumT) (hx:XOk x) (hlo:LenOk x.1.1 D M x.2.1.length (lsX x)) (hpn:NumOk 250 p) (hln:NumOk 250 l) (hb:HB D M (takeN x.1.1 p)) (hrg:rgB x p l=true):Ct Tryz.prog 29 [kRd eX x,kRd eNum p,kRd eNum l] (kTup [kRd eNum (rtN x p l),kI (rtK x p l:Int),kI (if rtK x p l=0 then 17 else 0)]):=by
 have h0:=hx.fld
 have hpo:=pol_open h0
 have hs:=(chkF_0 h0).1.2.1
 have v:=hx.rows
 have hp1:pmR x.2.1 x.2.1.length:=v.p1
 have hp2:pmR x.2.2.1 x.2.1.length:=v.p2
 have hle:x.2.1.length≤8:=v.le
 have htwo:2≤x.2.1.length:=v.two
 have hbl:x.2.2.1.length=x.2.1.length:=v.len
 have hxl:=hx.len
 have hll:=hlo.len
 have htt:=pt_ok hpo hlo hp1 x.2.1.length (Nat.le_refl _)
 have htg:takeN x.1.1 (giveN (totV (lsX x) x.2.1))=totV (lsX x) x.2.1:=take_give htt.1
 have hro:=take_RedN (x:=p) hpo
 unfold rgB at hrg
 rw[Bool.not_eq_true'] at hrg
 refine Ct.mk Tryz.func29 rfl Tryz.ntmps29 rfl (fun w J=>?_); refine jx2 ?_; refine jb 3 rfl ?_; refine jb 4 rfl ?_; refine jb 5 rfl ?_; refine ja 6 ?_; refine jx7 ?_; refine jc (ct_xopX x D M hx hlo) ?_; refine jx14 ?_; refine Tr.cnd rfl ?_ ?_
 ·intro h2
  exact absurd h2 (by decide)
 ·intro h2
  refine jx4 ?_; refine Tr.draw 24 mixed (by kernel_rfl) ?_; refine jx1 ?_; refine rO (ok_nilP rfl uu) rfl rfl ?_; refine jx3 ?_; refine jd (ct_sgX x.1 l h0 hln) ?_; refine jx3 ?_; refine RunD.gd rfl rfl rfl (ok_nilP rfl id) rfl rfl ?_; refine jx4 ?_; refine RunD.gd rfl rfl rfl (ok_nilP rfl id) rfl rfl ?_; refine jx2 ?_; refine RunD.gd rfl rfl rfl (ok_call (fun hp=>ct_cmX x.1 l (giveN (totV (lsX x) x.2.1)) h0 hln ((give_NumOk (hlo.nbd htt.2 zo)).mono zo)) (.a rfl id<|.s rfl id rfl<|.a rfl id<|.nil)) rfl rfl ?_
  rw[htg]
  refine jx7 ?_; refine TrL.gd rfl rfl rfl (ok_call (fun hp=>ct_inX x p l h0 hpn hln) (.a rfl id<|.s rfl id rfl<|.s rfl id rfl<|.nil)) rfl rfl ?_; refine jx4 ?_; refine Tr.cnd rfl ?_ ?_
  ·intro h4
   rw[hrg] at h4; exact absurd h4 (by decide)
  ·intro h4
   refine jx8 ?_
   refine Tr.for1 (σ:=Nat) [⟨4,true,_,_⟩,⟨5,true,_,_⟩,⟨6,true,_,_⟩,⟨9,true,_,_⟩] [⟨5,_,_⟩] (fun k=>[⟨11,true,[],kI (k:Int)⟩]) (fun k=>[⟨4,[],cBlk [kRd (eL (eL eI)) (pN x p (k-1)).1,kRd (eL eI) (pN x p (k-1)).2]⟩,⟨6,[],cBlk [kDet (.slice none 0 0),kDet (.slice none 0 0)]⟩]) (fun k=>(1≤k∧k≤2001)∧fsR (rtP x p l) (k-1)=0) (fun k=>fsR (rtP x p l) n2000.1=0) (fun k=>2001-k) (1) ⟨by omega,rfl⟩ (Ent.mk (.i rfl zi<|zk) (.e (by rfl) rfl<|zk) rfl) ?_ ?_
   ·rintro k ⟨⟨hk1,hk2⟩,hno⟩; obtain ⟨k,rfl⟩:∃j,k=j+1:=⟨k-1,by omega⟩; rw[Nat.add_sub_cancel] at hno ⊢
    refine jn ?_
    have hor1:=or_ok (sg:=sgX x) (o:=oX x) hpo hlo hp1 hp2 (by show 1≤x.2.1.length; omega) hro hb (k+1)
    have hor:=or_ok (sg:=sgX x) (o:=oX x) hpo hlo hp1 hp2 (by show 1≤x.2.1.length; omega) hro hb k
    have hob:=fun (h:k≤2000)=>or_bd (sg:=sgX x) (o:=oX x) hpo hlo hp1 hp2 ⟨by show 1≤x.2.1.length; omega,hle⟩ hro hb (k:=k) zo
    have hob1:=fun (h:k≤2000)=>or_bd (sg:=sgX x) (o:=oX x) hpo hlo hp1 hp2 ⟨by show 1≤x.2.1.length; omega,hle⟩ hro hb (k:=k+1) zo
    have hpt:=pN_take (p:=p) hor.1
    refine jx7 ?_; refine jq ?_ ?_
    ·intro h7
     refine jx8 ?_; refine jc (ct_imX x D M (pN x p k) hx hlo (pN_ok hpn (hob zo))) ?_
     rw[hpt]
     refine jx7 ?_; refine Tr.draw 6 mixed (by kernel_rfl) ?_; refine jx1 ?_; refine rO (ok_nilP rfl uu) rfl rfl ?_; refine jx5 ?_; refine jc (ct_cmX x.1 (giveN (orX x (takeN x.1.1 p) (k+1))) l h0 ((give_NumOk (hob1 zo)).mono zo) hln) ?_
     rw[take_give hor1.1]
     refine jx3 ?_; refine jq ?_ ?_
     ·intro h10
      obtain ⟨e1,e2⟩:=rt_at hno h10 zo
      refine jx16 ?_; exact Rts.resC (fn:=Tryz.f29) (ts:=[7,8]) rfl rfl rfl (aggRd rfl (by rw[e2]<;>rfl)) (.i rfl (by rw[e1])<|.i rfl (by rw[e1,if_neg zo])<|.nil)
     ·intro h10
      replace h10:=Int.not_lt.1 h10
      have hnx:=rt_next hno (Int.not_lt.2 h10)
      refine jx8 ?_
      exact End.lp (k+1+1) ⟨by omega,by rw[Nat.add_sub_cancel]; exact hnx⟩ zo (Ent.mk (.i rfl zi<|zk) (.e (by rw[Nat.add_sub_cancel]; rfl) rfl<|zk) rfl)
    ·intro h7
     replace h7:=Int.not_le.1 h7
     refine jx4 ?_
     exact End.cut (k+1) (by rw[show k=2000 by omega] at hno; rw[n2000.2]; exact hno) (Ent.mk (.i rfl zi<|zk) (.e (by rw[Nat.add_sub_cancel]) rfl<|zk) rfl)
   ·intro k hE
    refine je ?_; refine jx3 ?_; refine tO (ok_build (fun hp=>.nil)) rfl rfl ?_; refine jx6 ?_; exact Rts.resC (fn:=Tryz.f29) (ts:=[7,8]) rfl rfl rfl (aggRd rfl (by rw[(rt_end hE).2]<;>rfl)) (.i rfl (by rw[(rt_end hE).1]<;>rfl)<|.i rfl (by rw[(rt_end hE).1,if_pos rfl])<|.nil)

theorem ct_xRetR (x:ExT) (D:Int) (M:Nat) (p l:NumT) (hx:XOk x) (hlo:LenOk x.1.1 D M x.2.1.length (lsX x)) (hpn:NumOk 250 p) (hln:NumOk 250 l) (hrg:rgB x p l=false):Ct Tryz.prog 29 [kRd eX x,kRd eNum p,kRd eNum l] (kTup [kRd eNum ([],[]),kI 0,kI 2]):=by
 have h0:=hx.fld
 have hpo:=pol_open h0
 have hs:=(chkF_0 h0).1.2.1
 have v:=hx.rows
 have hp1:pmR x.2.1 x.2.1.length:=v.p1
 have hp2:pmR x.2.2.1 x.2.1.length:=v.p2
 have hle:x.2.1.length≤8:=v.le
 have htwo:2≤x.2.1.length:=v.two
 have hbl:x.2.2.1.length=x.2.1.length:=v.len
 have hxl:=hx.len
 have hll:=hlo.len
 have htt:=pt_ok hpo hlo hp1 x.2.1.length (Nat.le_refl _)
 have htg:takeN x.1.1 (giveN (totV (lsX x) x.2.1))=totV (lsX x) x.2.1:=take_give htt.1
 unfold rgB at hrg
 rw[Bool.not_eq_false'] at hrg
 refine Ct.mk Tryz.func29 rfl Tryz.ntmps29 rfl (fun w J=>?_); refine jx2 ?_; refine jb 3 rfl ?_; refine jb 4 rfl ?_; refine jb 5 rfl ?_; refine ja 6 ?_; refine jx7 ?_; refine jc (ct_xopX x D M hx hlo) ?_; refine jx14 ?_; refine Tr.cnd rfl ?_ ?_
 ·intro h2
  exact absurd h2 (by decide)
 ·intro h2
  refine jx4 ?_; refine Tr.draw 24 mixed (by kernel_rfl) ?_; refine jx1 ?_; refine rO (ok_nilP rfl uu) rfl rfl ?_; refine jx3 ?_; refine jd (ct_sgX x.1 l h0 hln) ?_; refine jx3 ?_; refine RunD.gd rfl rfl rfl (ok_nilP rfl id) rfl rfl ?_; refine jx4 ?_; refine RunD.gd rfl rfl rfl (ok_nilP rfl id) rfl rfl ?_; refine jx2 ?_; refine RunD.gd rfl rfl rfl (ok_call (fun hp=>ct_cmX x.1 l (giveN (totV (lsX x) x.2.1)) h0 hln ((give_NumOk (hlo.nbd htt.2 zo)).mono zo)) (.a rfl id<|.s rfl id rfl<|.a rfl id<|.nil)) rfl rfl ?_
  rw[htg]
  refine jx7 ?_; refine TrL.gd rfl rfl rfl (ok_call (fun hp=>ct_inX x p l h0 hpn hln) (.a rfl id<|.s rfl id rfl<|.s rfl id rfl<|.nil)) rfl rfl ?_; refine jx4 ?_; refine Tr.cnd rfl ?_ ?_
  ·intro h4
   refine jx2 ?_; refine tO (ok_build (fun hp=>.nil)) rfl rfl ?_; refine jx7 ?_
   exact Rts.resC (fn:=Tryz.f29) (ts:=[7,8]) rfl rfl rfl (aggRd rfl (by rfl)) (.i rfl zi<|.i rfl zi<|.nil)
  ·intro h4
   rw[hrg] at h4; exact absurd h4 (by decide)

theorem ct_xRetE (x:ExT) (p l:NumT) (hsm:SmX x) (hne:chkX x≠0):Ct Tryz.prog 29 [kRd eX x,kRd eNum p,kRd eNum l] (kTup [kRd eNum ([],[]),kI 0,kI (chkX x)]):=by
 refine Ct.mk Tryz.func29 rfl Tryz.ntmps29 rfl (fun w J=>?_); refine jx2 ?_; refine jb 3 rfl ?_; refine jb 4 rfl ?_; refine jb 5 rfl ?_; refine ja 6 ?_; refine jx7 ?_; refine jc (ct_xopenB x hsm hne) ?_; refine jx14 ?_; refine Tr.cnd rfl ?_ ?_
 ·intro h2
  refine jx2 ?_; refine tO (ok_build (fun hp=>.nil)) rfl rfl ?_; refine jx8 ?_
  exact Rts.resC (fn:=Tryz.f29) (ts:=[7,8]) rfl rfl rfl (aggRd rfl (by rfl)) (.i rfl zi<|.i rfl zi<|.nil)
 ·intro h2
  exact absurd (of_decide_eq_false h2) (fun e=>e hne)

set_option maxHeartbeats 1000000 in
theorem ct_rRet (x:ExT) (D:Int) (M:Nat) (p l:NumT) (hx:XOk x) (hlo:LenOk x.1.1 D M x.2.1.length (lsX x)) (hpn:NumOk 250 p) (hln:NumOk 250 l) (hb:HB D M (takeN x.1.1 p)):Ct Tryz.prog 30 [kRd eX x,kRd eNum p,kRd eNum l] (kTup [kRd eNum (rtN x p l),kI (rtK x p l:Int)]):=by
 have h0:=hx.fld
 have hpo:=pol_open h0
 have hs:=(chkF_0 h0).1.2.1
 have v:=hx.rows
 have hp1:pmR x.2.1 x.2.1.length:=v.p1
 have hp2:pmR x.2.2.1 x.2.1.length:=v.p2
 have hle:x.2.1.length≤8:=v.le
 have htwo:2≤x.2.1.length:=v.two
 have hbl:x.2.2.1.length=x.2.1.length:=v.len
 have hxl:=hx.len
 have hll:=hlo.len
 have hro:=take_RedN (x:=p) hpo
 have hol:=awV_len (o:=oX x) (ls:=lsX x) (n:=x.2.1.length)
 have hal:((awV (oX x) (lsX x) x.2.1.length).map giveN).length=x.2.1.length:=by rw[List.length_map,hol]
 refine Ct.mk Tryz.func30 rfl Tryz.ntmps30 rfl (fun w J=>?_); refine jx2 ?_; refine jb 3 rfl ?_; refine jb 4 rfl ?_; refine jb 5 rfl ?_; refine ja 6 ?_; refine jx4 ?_; refine Tr.frzB 3 [3] eX (x:=x) ⟨rfl,trivial⟩ rfl ?_; refine Tr.frzB 5 [5] eNum (x:=l) ⟨rfl,trivial⟩ rfl ?_; refine jn ?_; refine jx2 ?_; refine jc (ct_ropened x h0) ?_; refine ja 8 ?_; refine jx6 ?_; refine jc (ct_rShifts x D M hx hlo) ?_; refine jx9 ?_
 refine Tr.for1 (σ:=Nat) [⟨3,true,_,_⟩,⟨4,true,_,_⟩,⟨5,true,_,_⟩,⟨6,true,_,_⟩,⟨8,true,_,_⟩,⟨9,true,_,_⟩] [⟨8,_,_⟩] (fun k=>[⟨10,true,[],kI (k:Int)⟩]) (fun k=>[⟨4,[],cBlk [kRd (eL (eL eI)) (pN x p (k-1)).1,kRd (eL eI) (pN x p (k-1)).2]⟩,⟨6,[],cBlk [kDet (.slice none 0 0),kDet (.slice none 0 0)]⟩]) (fun k=>(1≤k∧k≤2001)∧fsR (rtP x p l) (k-1)=0) (fun k=>fsR (rtP x p l) n2000.1=0) (fun k=>2001-k) (1) ⟨by omega,rfl⟩ (Ent.mk (.i rfl zi<|zk) (.e (by rfl) rfl<|zk) rfl) ?_ ?_
 ·rintro k ⟨⟨hk1,hk2⟩,hno⟩; obtain ⟨k,rfl⟩:∃j,k=j+1:=⟨k-1,by omega⟩; rw[Nat.add_sub_cancel] at hno ⊢
  refine jn ?_
  have hor1:=or_ok (sg:=sgX x) (o:=oX x) hpo hlo hp1 hp2 (by show 1≤x.2.1.length; omega) hro hb (k+1)
  have hor:=or_ok (sg:=sgX x) (o:=oX x) hpo hlo hp1 hp2 (by show 1≤x.2.1.length; omega) hro hb k
  have hob:=fun (h:k≤2000)=>or_bd (sg:=sgX x) (o:=oX x) hpo hlo hp1 hp2 ⟨by show 1≤x.2.1.length; omega,hle⟩ hro hb (k:=k) zo
  have hob1:=fun (h:k≤2000)=>or_bd (sg:=sgX x) (o:=oX x) hpo hlo hp1 hp2 ⟨by show 1≤x.2.1.length; omega,hle⟩ hro hb (k:=k+1) zo
  have hpt:=pN_take (p:=p) hor.1
  have hlr:0≤(ltX x (takeN x.1.1 p) k)∧(ltX x (takeN x.1.1 p) k)<x.2.1.length:=letV_rg hp1 (by show x.2.1.length-1<x.2.1.length; omega)
  have hlt:lX x (orX x (takeN x.1.1 p) k) (x.2.1.length-1)=(ltX x (takeN x.1.1 p) k):=rfl
  have hqa:=aw_ok (o:=oX x) hpo hlo hp1 hp2 (a:=(ltX x (takeN x.1.1 p) k).toNat) zo
  have hmg:nth ((awV (oX x) (lsX x) x.2.1.length).map giveN) (ltX x (takeN x.1.1 p) k).toNat=giveN (nth (awV (oX x) (lsX x) x.2.1.length) (ltX x (takeN x.1.1 p) k).toNat):=nth_mapG zo
  have hst:adV (orX x (takeN x.1.1 p) k) (nth (awV (oX x) (lsX x) x.2.1.length) (ltX x (takeN x.1.1 p) k).toNat)=orX x (takeN x.1.1 p) (k+1):=rfl
  refine jx7 ?_; refine jq ?_ ?_
  ·intro h4
   refine jx5 ?_; refine Tr.draw 8 mixed (by kernel_rfl) ?_; refine jx5 ?_; refine jd (ct_rLetter x D M (pN x p k) hx hlo (pN_ok hpn (hob zo))) ?_
   rw[hpt,hlt]
   refine jx3 ?_; refine jc (ct_rAddN x.1 (pN x p k) (nth ((awV (oX x) (lsX x) x.2.1.length).map giveN) (ltX x (takeN x.1.1 p) k).toNat) 250 hpo hs (pN_ok hpn (hob zo)) (by rw[hmg]; exact (give_NumOk (hlo.nbd hqa.2 zo)).mono zo) zo) ?_
   rw[hmg,take_give hqa.1,hpt,hst]
   refine jx8 ?_; refine jc (ct_rCmpN x.1 (giveN (orX x (takeN x.1.1 p) (k+1))) l h0 ((give_NumOk (hob1 zo)).mono zo) hln) ?_
   rw[take_give hor1.1]
   refine jx3 ?_; refine jq ?_ ?_
   ·intro h7
    obtain ⟨e1,e2⟩:=rt_at hno h7 zo
    refine jx15 ?_; exact Rts.resC (fn:=Tryz.f30) (ts:=[7]) rfl rfl rfl (aggRd rfl (by rw[e2]<;>rfl)) (.i rfl (by rw[e1])<|.nil)
   ·intro h7
    replace h7:=Int.not_lt.1 h7
    have hnx:=rt_next hno (Int.not_lt.2 h7)
    refine jx8 ?_
    exact End.lp (k+1+1) ⟨by omega,by rw[Nat.add_sub_cancel]; exact hnx⟩ zo (Ent.mk (.i rfl zi<|zk) (.e (by rw[Nat.add_sub_cancel]; rfl) rfl<|zk) rfl)
  ·intro h4
   replace h4:=Int.not_le.1 h4
   refine jx4 ?_
   exact End.cut (k+1) (by rw[show k=2000 by omega] at hno; rw[n2000.2]; exact hno) (Ent.mk (.i rfl zi<|zk) (.e (by rw[Nat.add_sub_cancel]) rfl<|zk) rfl)
 ·intro k hE
  refine je ?_; refine jx3 ?_; refine tO (ok_build (fun hp=>.nil)) rfl rfl ?_; refine jx5 ?_; exact Rts.resC (fn:=Tryz.f30) (ts:=[7]) rfl rfl rfl (aggRd rfl (by rw[(rt_end hE).2]<;>rfl)) (.i rfl (by rw[(rt_end hE).1]<;>rfl)<|.nil)

end Go.Fl

/- The law of first returns. -/
namespace Go.Fl
open Go Go.Proofs
open TrL renaming op→tO
open RunD renaming op→rO
set_option maxRecDepth 100000

noncomputable def rtC (x:ExT) (p l:NumT):Int:=if chkX x≠0 then chkX x else if rgB x p l=true then 0 else 2
noncomputable def rtA (x:ExT) (p l:NumT):NumT×Int×Int:=if rtC x p l≠0 then (([],[]),0,rtC x p l) else (rtN x p l,(rtK x p l:Int),if rtK x p l=0 then 17 else 0)
theorem rtC_0 {x:ExT} {p l:NumT} (h:rtC x p l=0):chkX x=0∧rgB x p l=true:=by
 unfold rtC at h
 by_cases c:chkX x=0
 ·rw[if_neg (fun a=>a c)] at h
  by_cases c2:rgB x p l=true
  ·exact ⟨c,c2⟩
  ·rw[if_neg c2] at h; omega
 ·rw[if_pos c] at h; exact absurd h c
theorem ct_xRetA (x:ExT) (p l:NumT) (hsm:SmX x) (hp:NumOk 2 p) (hl:NumOk 2 l):Ct Tryz.prog 29 [kRd eX x,kRd eNum p,kRd eNum l] (kTup [kRd eNum (rtA x p l).1,kI (rtA x p l).2.1,kI (rtA x p l).2.2]):=by
 by_cases h:chkX x=0
 ·have hx:=chkX_ok h hsm
  obtain ⟨D,M,hlo,hb⟩:=hx.dm1 hp
  by_cases c:rgB x p l=true
  ·have e:rtC x p l=0:=by unfold rtC; rw[if_neg (fun a=>a h),if_pos c]
   rw[show rtA x p l=_ from if_neg (fun a=>a e)]
   exact ct_xRetG x D M p l hx hlo (hp.mono zo) (hl.mono zo) hb c
  ·have e:rtC x p l=2:=by unfold rtC; rw[if_neg (fun a=>a h),if_neg c]
   rw[show rtA x p l=(([],[]),0,rtC x p l) from if_pos (by rw[e]; decide),e]
   exact ct_xRetR x D M p l hx hlo (hp.mono zo) (hl.mono zo) (Bool.eq_false_iff.2 c)
 ·have e:rtC x p l=chkX x:=by unfold rtC; rw[if_pos h]
  rw[show rtA x p l=(([],[]),0,rtC x p l) from if_pos (by rw[e]; exact h),e]
  exact ct_xRetE x p l hsm h
theorem ct_inL (x:ExT) (p l:NumT) (h0:chkF x.1=0) (hp:NumOk 250 p) (hl:NumOk 250 l):Ct Tryz.prog 19 [kRd eX x,kRd eNum p,kRd eNum l] (kB (decide (0≤sgX x (takeN x.1.1 p))&&decide (sgX x (subV (takeN x.1.1 p) (takeN x.1.1 l))<0))):=ct_rInside x p l h0 hp hl
theorem bool4 {a b c d:Bool} (h:(!a||b||!c||!d)=false):a=true∧b=false∧c=true∧d=true:=by cases a<;>cases b<;>cases c<;>cases d<;>simp_all
theorem whole20:NumOk 2 (giveN (loN [20] 1)):=by
 rw[give_int]
 refine (give_NumOk (⟨fun i=>?_,by show dl 1≤1; exact dl_small zo zo,by show (0:Int)<1; omega,rfl⟩:NBd 1 (intV 20))).mono zo
 match i with
 | 0=>exact dl_le (by decide)
 | 1=>show dl 0≤1; rw[dl_zero.2 rfl]; omega
 | 2=>show dl 0≤1; rw[dl_zero.2 rfl]; omega
 | 3=>show dl 0≤1; rw[dl_zero.2 rfl]; omega
 | i+4=>rw[nth_out (by show 4≤i+4; omega)]; show dl 0≤1; rw[dl_zero.2 rfl]; omega
set_option maxHeartbeats 1000000 in
theorem ct_ExchangeReturns (x:ExT) (p l:NumT) (hxn:∀a,InN (nth x.2.2.2 a)) (hpi:InN p) (hli:InN l):Ct Tryz.prog 4 [kRd eX x,kRd eNum p,kRd eNum l] (kB true):=by
 refine Ct.mk Tryz.func4 rfl Tryz.ntmps4 rfl (fun w J=>?_); refine Tr.seq (Tr.rg ?_); refine jb 3 rfl ?_; refine jb 4 rfl ?_; refine jb 5 rfl ?_; refine mw rfl rfl rfl ?_; refine TrL.fin (End.nxt (Tr.seq (Tr.seq (Tr.rg ?_)))); refine jc ct_awake ?_; refine tO (ok_not rfl uu) rfl rfl ?_; refine TrL.fin (End.nxt ?_); refine Tr.cnd rfl ?_ ?_
 ·intro h1
  exact absurd h1 (by decide)
 ·intro h1
  refine Tr.skip (End.nxt (Tr.seq (Tr.seq (Tr.rg ?_)))); refine tO (ok_ldBS rfl uu) rfl rfl ?_; refine jc (ct_xSmall x) ?_; refine tO (ok_not rfl uu) rfl rfl ?_; refine mv rfl rfl rfl ?_; refine TrL.gd rfl rfl rfl (ok_fldO rfl uu) rfl rfl ?_; refine TrL.gd rfl rfl rfl (ok_ldB rfl id rfl) rfl rfl ?_; refine TrL.gd rfl rfl rfl (ok_lenJ rfl id) rfl rfl ?_; refine TrL.gd rfl rfl rfl (ok_gtr rfl id rfl uu) rfl rfl ?_; refine tO (ok_or rfl uu rfl (fun hp h=>gdF2 ((fun _=>rfl) hp) h)) rfl rfl ?_; refine mv rfl rfl rfl ?_; refine TrL.gd rfl rfl rfl (ok_ldBS rfl uu) rfl rfl ?_
  refine TrL.gd rfl rfl rfl (ok_call (fun hp=>ct_bShort p 2) (.s rfl id rfl<|.a rfl uu<|.nil)) rfl rfl ?_; refine TrL.gd rfl rfl rfl (ok_not rfl id) rfl rfl ?_; refine tO (ok_or rfl uu rfl (fun hp h=>gdF2 ((fun _=>rfl) hp) h)) rfl rfl ?_; refine mv rfl rfl rfl ?_; refine TrL.gd rfl rfl rfl (ok_ldBS rfl uu) rfl rfl ?_; refine TrL.gd rfl rfl rfl (ok_call (fun hp=>ct_bShort l 2) (.s rfl id rfl<|.a rfl uu<|.nil)) rfl rfl ?_; refine TrL.gd rfl rfl rfl (ok_not rfl id) rfl rfl ?_; refine tO (ok_or rfl uu rfl (fun hp h=>gdF2 ((fun _=>rfl) hp) h)) rfl rfl ?_
  refine TrL.fin (End.nxt ?_); refine Tr.cnd rfl ?_ ?_
  ·intro h3
   refine Tr.seq (Tr.rg ?_); refine mw rfl rfl rfl ?_; refine TrL.fin (End.nxt (Tr.ret (Rts.thn ?_)))
   exact Rts.res1 (fn:=Tryz.f4) rfl (.b rfl zi<|.nil)
  ·intro h3
   obtain ⟨hs1,_,hs2,hs3⟩:=bool4 h3
   have hsm:=smB_ok hs1 hxn
   have hp2:=shB_ok hs2 hpi
   have hl2:=shB_ok hs3 hli
   refine Tr.skip (End.nxt (Tr.seq (Tr.rg ?_))); refine tO (ok_ldBS rfl uu) rfl rfl ?_; refine jc (ct_rxCheck x hsm) ?_; refine mw rfl rfl rfl ?_; refine TrL.fin (End.nxt ?_); refine Tr.meet2 (σ:=Unit) [⟨3,true,_,_⟩,⟨4,true,_,_⟩,⟨5,true,_,_⟩] [⟨3,_,_⟩,⟨4,_,_⟩,⟨5,_,_⟩] (zk) (zk) (fun _=>[⟨7,true,[],kI (rtC x p l)⟩]) (fun _=>[]) (fun _=>True) ?_ ?_
   ·skip
    refine Tr.seq (Tr.rg ?_); refine mv rfl rfl rfl ?_; refine tO (ok_eql rfl uu rfl uu) rfl rfl ?_; refine TrL.fin (End.nxt ?_); refine jq ?_ ?_
    ·intro h6
     have hx:=chkX_ok h6 hsm
     obtain ⟨D,M,hlo,hb⟩:=hx.dm1 hp2
     have hpo:=pol_open hx.fld
     have hs:=(chkF_0 hx.fld).1.2.1
     have hpl:=hpo.1
     have htt:=pt_ok hpo hlo hx.rows.p1 x.2.1.length (Nat.le_refl _)
     have htg:takeN x.1.1 (giveN (totV (lsX x) x.2.1))=totV (lsX x) x.2.1:=take_give htt.1
     have hle:x.2.1.length≤8:=hx.rows.le
     have hto:NumOk 200 (giveN (totV (lsX x) x.2.1)):=give_NumOk (hlo.nbd htt.2 (by show x.2.1.length≤100000; omega))
     have hw20:=whole20
     refine Tr.seq (Tr.rg ?_); refine tO (ok_fldO rfl uu) rfl rfl ?_; refine tO (ok_ldBS rfl uu) rfl rfl ?_; refine jc (ct_rOpen x.1 hx.fld) ?_; refine mv rfl rfl rfl ?_; refine tO (ok_ext rfl uu rfl) rfl rfl ?_; refine tO (ok_ext rfl uu rfl) rfl rfl ?_; refine ja 8 ?_; refine TrL.stB rfl rfl rfl rfl ?_; refine mw rfl rfl rfl ?_; refine TrL.fin (End.nxt (Tr.seq ?_)); refine Tr.draw 16 mixed (by kernel_rfl) ?_; refine rO (ok_ldBS rfl uu) rfl rfl ?_; refine rO (ok_ldBS rfl uu) rfl rfl ?_; refine jd (ct_rSignN x.1 l hx.fld (hl2.mono zo) ((take_NBd hpo hl2).mono zo)) ?_
     refine rO (ok_leq rfl uu rfl uu) rfl rfl ?_; refine rO (ok_move rfl uu) rfl rfl ?_; refine RunD.gd rfl rfl rfl (ok_ldBS rfl uu) rfl rfl ?_; refine RunD.gd rfl rfl rfl (ok_ldBS rfl uu) rfl rfl ?_; refine RunD.gd rfl rfl rfl (ok_ldBS rfl uu) rfl rfl ?_; refine RunD.gd rfl rfl rfl (ok_call (fun hp=>ct_rTotal x D M hx hlo) (.s rfl id rfl<|.nil)) rfl rfl ?_; refine RunD.gd rfl rfl rfl (ok_call (fun hp=>ct_rCmpN x.1 l (giveN (totV (lsX x) x.2.1)) hx.fld (hl2.mono zo) (hto.mono zo)) (.s rfl id rfl<|.s rfl id rfl<|.a rfl id<|.nil)) rfl rfl ?_
     rw[htg]
     refine RunD.gd rfl rfl rfl (ok_gtr rfl id rfl uu) rfl rfl ?_; refine rO (ok_or rfl uu rfl (fun hp h=>gdF2 ((fun _=>rfl) hp) h)) rfl rfl ?_; refine rO (ok_move rfl uu) rfl rfl ?_; refine RunD.gd rfl rfl rfl (ok_ldBS rfl uu) rfl rfl ?_; refine RunD.gd rfl rfl rfl (ok_ldBS rfl uu) rfl rfl ?_; refine RunD.gd rfl rfl rfl (ok_ldBS rfl uu) rfl rfl ?_; refine RunD.z ?_; refine TrL.gd rfl rfl rfl (ok_call (fun hp=>ct_inL x p l hx.fld (hp2.mono zo) (hl2.mono zo)) (.s rfl id rfl<|.s rfl id rfl<|.s rfl id rfl<|.nil)) rfl rfl ?_; refine TrL.gd rfl rfl rfl (ok_not rfl id) rfl rfl ?_
     refine tO (ok_or rfl uu rfl (fun hp h=>gdF2 ((fun _=>rfl) hp) h)) rfl rfl ?_; refine TrL.fin (End.nxt ?_); refine Tr.cnd rfl ?_ ?_
     ·intro h8
      have hrc:rtC x p l=2:=by unfold rtC; rw[if_neg (fun a=>a h6),if_neg (fun e=>by unfold rgB at e; rw[Bool.not_eq_true'] at e; exact absurd (e.symm.trans h8) (by decide))]
      refine Tr.rg ?_; refine mw rfl rfl rfl ?_; refine TrL.fin ?_
      exact End.cut (()) zi (Ent.mk (.i rfl hrc.symm<|zk) (zk) rfl)
     ·intro h8
      have hrc:rtC x p l=0:=by unfold rtC; rw[if_neg (fun a=>a h6),if_pos (by unfold rgB; rw[Bool.not_eq_true']; exact h8)]
      refine Tr.meet2 (σ:=Unit) [⟨3,true,_,_⟩,⟨4,true,_,_⟩,⟨5,true,_,_⟩,⟨7,true,_,_⟩,⟨8,true,_,_⟩] [] (zk) (.nil) (fun _=>[⟨10,true,[10],kOwn 10 0⟩]) (fun _=>[⟨10,[],cBlk [kRd (eL (eL eI)) (quN x.1.1 (giveN (totV (lsX x) x.2.1)) l (x.1.1.length-2)).1,kRd (eL eI) (quN x.1.1 (giveN (totV (lsX x) x.2.1)) l (x.1.1.length-2)).2]⟩,⟨3,[],cBlk [kRd (eL eI) x.1.1,kI x.1.2.1,kI x.1.2.2.1,kI x.1.2.2.2,kRd (eL eI) x.2.1,kRd (eL eI) x.2.2.1,kRd (eL eNum) x.2.2.2]⟩,⟨4,[],cBlk [kRd (eL (eL eI)) p.1,kRd (eL eI) p.2]⟩,⟨5,[],cBlk [kRd (eL (eL eI)) l.1,kRd (eL eI) l.2]⟩,⟨8,[],cBlk [kRd (eL eI) x.1.1,kI x.1.2.1,kI x.1.2.2.1,kI x.1.2.2.2]⟩]) (fun _=>True) ?_ ?_
      ·skip
       refine Tr.drawP mixed #[false,false,false,false,false,false,false,false,false,false,false] rfl fun f=>?_
       simp only[pinM,List.map_cons,List.map_nil]
       refine TrA.take 0 #[true,false,false,false,false,false,false,false,false,false,false] (by kernel_rfl) (by kernel_rfl) (by kernel_rfl) rfl rfl (y_ldPA rfl) rfl rfl ?_; refine TrA.take 1 #[true,true,false,false,false,false,false,false,false,false,false] (by kernel_rfl) (by kernel_rfl) (by kernel_rfl) rfl rfl (y_ldPA rfl) rfl rfl ?_; refine TrA.take 3 #[true,true,false,true,false,false,false,false,false,false,false] (by kernel_rfl) (by kernel_rfl) (by kernel_rfl) rfl rfl (y_ldPA rfl) rfl rfl ?_; refine TrA.all [2,8] (by kernel_rfl) (by simp) (fun i hi=>?_)
       simp only[List.mem_cons,List.not_mem_nil,or_false] at hi
       rcases hi with rfl | rfl
       ·refine ⟨_,rfl,?_⟩
        refine jc (ct_rTotal x D M hx hlo) ?_; refine TrA.k #[true,true,true,true,false,false,false,false,false,false,false] rfl (pinS_of (by intro e he; simp only[pinM,List.map_cons,List.map_nil,List.mem_cons,List.not_mem_nil,or_false] at he; rcases he with rfl | rfl | rfl | rfl<;>simp)) ?_; refine TrA.all [4,8] (by kernel_rfl) (by simp) (fun i hi=>?_)
        simp only[List.mem_cons,List.not_mem_nil,or_false] at hi
        rcases hi with rfl | rfl
        ·refine ⟨_,rfl,?_⟩
         refine jc (ct_rquo x.1 (giveN (totV (lsX x) x.2.1)) l (x.1.1.length-2) hpo hs hto hl2 zo zo) ?_; refine TrA.k #[true,true,true,true,true,false,false,false,false,false,false] rfl (pinS_of (by intro e he; simp only[pinM,List.map_cons,List.map_nil,List.mem_cons,List.not_mem_nil,or_false] at he; rcases he with rfl | rfl | rfl | rfl<;>simp)) ?_; refine TrA.take 5 #[true,true,true,true,true,true,false,false,false,false,false] (by kernel_rfl) (by kernel_rfl) (by kernel_rfl) rfl rfl (y_move rfl) rfl rfl ?_; refine TrA.take 6 #[true,true,true,true,true,true,true,false,false,false,false] (by kernel_rfl) (by kernel_rfl) (by kernel_rfl) rfl rfl (y_ext rfl rfl) rfl rfl ?_
         refine TrA.take 7 #[true,true,true,true,true,true,true,true,false,false,false] (by kernel_rfl) (by kernel_rfl) (by kernel_rfl) rfl rfl (y_ext rfl rfl) rfl rfl ?_; refine TrA.one 8 (by kernel_rfl) rfl ?_; refine ja 10 ?_; refine TrA.k #[true,true,true,true,true,true,true,true,true,false,false] rfl (pinS_of (by intro e he; simp only[pinM,List.map_cons,List.map_nil,List.mem_cons,List.not_mem_nil,or_false] at he; rcases he with rfl | rfl | rfl | rfl<;>simp)) ?_; refine TrA.one 9 (by kernel_rfl) rfl ?_; refine TrL.stB rfl rfl rfl rfl ?_; refine TrA.k #[true,true,true,true,true,true,true,true,true,true,false] rfl (pinS_of (by intro e he; simp only[pinM,List.map_cons,List.map_nil,List.mem_cons,List.not_mem_nil,or_false] at he; rcases he with rfl | rfl | rfl | rfl<;>simp)) ?_
         refine TrA.one 10 (by kernel_rfl) rfl ?_; refine mw rfl rfl rfl ?_; refine TrA.k #[true,true,true,true,true,true,true,true,true,true,true] rfl (pinS_of (by intro e he; simp only[pinM,List.map_cons,List.map_nil,List.mem_cons,List.not_mem_nil,or_false] at he; rcases he with rfl | rfl | rfl | rfl<;>simp)) ?_; refine TrA.done (by kernel_rfl) ?_
         exact End.cut (()) zi (Ent.mk (zk) (.k rfl<|.conv (fun _ _ _ h=>h.1) rfl<|.conv (fun _ _ _ h=>h.1) rfl<|.conv (fun _ _ _ h=>h.1) rfl<|.conv (fun _ _ _ h=>h.1) rfl<|.nil) rfl)
        ·refine ⟨_,rfl,?_⟩
         refine ja 10 ?_; refine TrA.k #[true,true,true,true,false,false,false,false,true,false,false] rfl (pinS_of (by intro e he; simp only[pinM,List.map_cons,List.map_nil,List.mem_cons,List.not_mem_nil,or_false] at he; rcases he with rfl | rfl | rfl | rfl<;>simp)) ?_; refine TrA.one 4 (by kernel_rfl) rfl ?_; refine jc (ct_rquo x.1 (giveN (totV (lsX x) x.2.1)) l (x.1.1.length-2) hpo hs hto hl2 zo zo) ?_; refine TrA.k #[true,true,true,true,true,false,false,false,true,false,false] rfl (pinS_of (by intro e he; simp only[pinM,List.map_cons,List.map_nil,List.mem_cons,List.not_mem_nil,or_false] at he; rcases he with rfl | rfl | rfl | rfl<;>simp)) ?_
         refine TrA.take 5 #[true,true,true,true,true,true,false,false,true,false,false] (by kernel_rfl) (by kernel_rfl) (by kernel_rfl) rfl rfl (y_move rfl) rfl rfl ?_; refine TrA.take 6 #[true,true,true,true,true,true,true,false,true,false,false] (by kernel_rfl) (by kernel_rfl) (by kernel_rfl) rfl rfl (y_ext rfl rfl) rfl rfl ?_; refine TrA.take 7 #[true,true,true,true,true,true,true,true,true,false,false] (by kernel_rfl) (by kernel_rfl) (by kernel_rfl) rfl rfl (y_ext rfl rfl) rfl rfl ?_; refine TrA.one 9 (by kernel_rfl) rfl ?_; refine TrL.stB rfl rfl rfl rfl ?_
         refine TrA.k #[true,true,true,true,true,true,true,true,true,true,false] rfl (pinS_of (by intro e he; simp only[pinM,List.map_cons,List.map_nil,List.mem_cons,List.not_mem_nil,or_false] at he; rcases he with rfl | rfl | rfl | rfl<;>simp)) ?_; refine TrA.one 10 (by kernel_rfl) rfl ?_; refine mw rfl rfl rfl ?_; refine TrA.k #[true,true,true,true,true,true,true,true,true,true,true] rfl (pinS_of (by intro e he; simp only[pinM,List.map_cons,List.map_nil,List.mem_cons,List.not_mem_nil,or_false] at he; rcases he with rfl | rfl | rfl | rfl<;>simp)) ?_
         refine TrA.done (by kernel_rfl) ?_
         exact End.cut (()) zi (Ent.mk (zk) (.k rfl<|.conv (fun _ _ _ h=>h.1) rfl<|.conv (fun _ _ _ h=>h.1) rfl<|.conv (fun _ _ _ h=>h.1) rfl<|.conv (fun _ _ _ h=>h.1) rfl<|.nil) rfl)
       ·refine ⟨_,rfl,?_⟩
        refine ja 10 ?_; refine TrA.k #[true,true,false,true,false,false,false,false,true,false,false] rfl (pinS_of (by intro e he; simp only[pinM,List.map_cons,List.map_nil,List.mem_cons,List.not_mem_nil,or_false] at he; rcases he with rfl | rfl | rfl | rfl<;>simp)) ?_; refine TrA.one 2 (by kernel_rfl) rfl ?_; refine jc (ct_rTotal x D M hx hlo) ?_; refine TrA.k #[true,true,true,true,false,false,false,false,true,false,false] rfl (pinS_of (by intro e he; simp only[pinM,List.map_cons,List.map_nil,List.mem_cons,List.not_mem_nil,or_false] at he; rcases he with rfl | rfl | rfl | rfl<;>simp)) ?_
        refine TrA.one 4 (by kernel_rfl) rfl ?_; refine jc (ct_rquo x.1 (giveN (totV (lsX x) x.2.1)) l (x.1.1.length-2) hpo hs hto hl2 zo zo) ?_; refine TrA.k #[true,true,true,true,true,false,false,false,true,false,false] rfl (pinS_of (by intro e he; simp only[pinM,List.map_cons,List.map_nil,List.mem_cons,List.not_mem_nil,or_false] at he; rcases he with rfl | rfl | rfl | rfl<;>simp)) ?_; refine TrA.take 5 #[true,true,true,true,true,true,false,false,true,false,false] (by kernel_rfl) (by kernel_rfl) (by kernel_rfl) rfl rfl (y_move rfl) rfl rfl ?_
        refine TrA.take 6 #[true,true,true,true,true,true,true,false,true,false,false] (by kernel_rfl) (by kernel_rfl) (by kernel_rfl) rfl rfl (y_ext rfl rfl) rfl rfl ?_; refine TrA.take 7 #[true,true,true,true,true,true,true,true,true,false,false] (by kernel_rfl) (by kernel_rfl) (by kernel_rfl) rfl rfl (y_ext rfl rfl) rfl rfl ?_; refine TrA.one 9 (by kernel_rfl) rfl ?_; refine TrL.stB rfl rfl rfl rfl ?_; refine TrA.k #[true,true,true,true,true,true,true,true,true,true,false] rfl (pinS_of (by intro e he; simp only[pinM,List.map_cons,List.map_nil,List.mem_cons,List.not_mem_nil,or_false] at he; rcases he with rfl | rfl | rfl | rfl<;>simp)) ?_
        refine TrA.one 10 (by kernel_rfl) rfl ?_; refine mw rfl rfl rfl ?_; refine TrA.k #[true,true,true,true,true,true,true,true,true,true,true] rfl (pinS_of (by intro e he; simp only[pinM,List.map_cons,List.map_nil,List.mem_cons,List.not_mem_nil,or_false] at he; rcases he with rfl | rfl | rfl | rfl<;>simp)) ?_; refine TrA.done (by kernel_rfl) ?_
        exact End.cut (()) zi (Ent.mk (zk) (.k rfl<|.conv (fun _ _ _ h=>h.1) rfl<|.conv (fun _ _ _ h=>h.1) rfl<|.conv (fun _ _ _ h=>h.1) rfl<|.conv (fun _ _ _ h=>h.1) rfl<|.nil) rfl)
      ·intro _ hM
       refine jn ?_; refine Tr.seq ?_; refine Tr.draw 3 mixed (by kernel_rfl) ?_; refine rO (ok_ldBS rfl uu) rfl rfl ?_; refine rO (ok_ldBS rfl uu) rfl rfl ?_; refine jd (ct_rWhole 20 zo) ?_; refine RunD.z ?_; refine jc (ct_rCmpL x.1 (quN x.1.1 (giveN (totV (lsX x) x.2.1)) l (x.1.1.length-2)) (giveN (loN [20] 1)) hx.fld (quN_ok hpo zo hto hl2 zo) hw20) ?_; refine tO (ok_gtr rfl uu rfl uu) rfl rfl ?_; refine TrL.fin (End.nxt ?_); refine jq ?_ ?_
       ·intro h11
        refine Tr.seq (Tr.rg ?_); refine mw rfl rfl rfl ?_; refine TrL.fin (End.nxt (Tr.ret (Rts.thn ?_)))
        exact Rts.res1 (fn:=Tryz.f4) rfl (.b rfl zi<|.nil)
       ·intro h11
        replace h11:=Int.not_lt.1 h11
        refine Tr.skip ?_
        exact End.cut (()) zi (Ent.mk (.i rfl (h6.trans hrc.symm)<|zk) (zk) rfl)
    ·intro h6
     have hrc:rtC x p l=chkX x:=if_pos h6
     refine Tr.skip ?_
     exact End.cut (()) zi (Ent.mk (.i rfl hrc.symm<|zk) (zk) rfl)
   ·intro _ hM
    refine jn ?_; refine Tr.seq (Tr.rg ?_); refine tO (ok_ldBS rfl uu) rfl rfl ?_; refine tO (ok_ldBS rfl uu) rfl rfl ?_; refine tO (ok_ldBS rfl uu) rfl rfl ?_; refine jc (ct_xRetA x p l hsm hp2 hl2) ?_; refine mv rfl rfl rfl ?_; refine tO (ok_ext rfl uu rfl) rfl rfl ?_; refine tO (ok_ext rfl uu rfl) rfl rfl ?_; refine tO (ok_ext rfl uu rfl) rfl rfl ?_; refine ja 12 ?_; refine TrL.stB rfl rfl rfl rfl ?_; refine mw rfl rfl rfl ?_; refine mw rfl rfl rfl ?_; refine TrL.fin (End.nxt (Tr.seq (Tr.seq (Tr.rg ?_)))); refine mv rfl rfl rfl ?_
    refine tO (ok_neq rfl uu rfl uu) rfl rfl ?_; refine TrL.fin (End.nxt ?_); refine jq ?_ ?_
    ·intro h14
     have hra:rtA x p l=(([],[]),0,rtC x p l):=if_pos h14
     refine Tr.seq (Tr.rg ?_); refine mv rfl rfl rfl ?_; refine mv rfl rfl rfl ?_; refine tO (ok_eql rfl uu rfl uu) rfl rfl ?_; refine mv rfl rfl rfl ?_; refine TrL.gd rfl rfl rfl (ok_ldBS rfl uu) rfl rfl ?_; refine TrL.gd rfl rfl rfl (ok_build (fun hp=>.nil)) rfl rfl ?_; refine TrL.gd rfl rfl rfl (ok_call (fun hp=>ct_bSameNum (rtA x p l).1 ([],[])) (.s rfl id rfl<|.s rfl id rfl<|.nil)) rfl rfl ?_; refine tO (ok_and rfl uu rfl (fun hp h=>gdT2 ((fun _=>rfl) hp) h)) rfl rfl ?_; refine mv rfl rfl rfl ?_; refine TrL.gd rfl rfl rfl (ok_move rfl uu) rfl rfl ?_
     refine TrL.gd rfl rfl rfl (ok_eql rfl id rfl uu) rfl rfl ?_; refine tO (ok_and rfl uu rfl (fun hp h=>gdT2 ((fun _=>rfl) hp) h)) rfl rfl ?_; refine mw rfl rfl rfl ?_; refine TrL.fin (End.nxt (Tr.ret (Rts.thn ?_))); exact Rts.res1 (fn:=Tryz.f4) rfl (.b rfl (by simp[hra])<|.nil)
    ·intro h14
     replace h14:=Classical.not_not.1 h14
     obtain ⟨hz,hrg⟩:=rtC_0 (x:=x) (p:=p) (l:=l) zo
     have hx:=chkX_ok hz hsm
     obtain ⟨D,M,hlo,hb⟩:=hx.dm1 hp2
     have hra:rtA x p l=(rtN x p l,(rtK x p l:Int),if rtK x p l=0 then 17 else 0):=if_neg (fun a=>a h14)
     refine Tr.skip (End.nxt (Tr.seq (Tr.rg ?_))); refine tO (ok_ldBS rfl uu) rfl rfl ?_; refine tO (ok_ldBS rfl uu) rfl rfl ?_; refine tO (ok_ldBS rfl uu) rfl rfl ?_; refine jc (ct_rRet x D M p l hx hlo (hp2.mono zo) (hl2.mono zo) hb) ?_; refine mv rfl rfl rfl ?_; refine tO (ok_ext rfl uu rfl) rfl rfl ?_; refine tO (ok_ext rfl uu rfl) rfl rfl ?_; refine ja 15 ?_; refine TrL.stB rfl rfl rfl rfl ?_; refine mw rfl rfl rfl ?_; refine TrL.fin (End.nxt (Tr.seq (Tr.seq (Tr.rg ?_)))); refine mv rfl rfl rfl ?_
     refine tO (ok_eql rfl uu rfl uu) rfl rfl ?_; refine TrL.fin (End.nxt ?_); refine jq ?_ ?_
     ·intro h17
      have rt0:rtN x p l=([],[]):=by unfold rtN; rw[if_pos zo]
      have rt2:rtK x p l=0:=by omega
      refine Tr.seq (Tr.rg ?_); refine mv rfl rfl rfl ?_; refine tO (ok_eql rfl uu rfl uu) rfl rfl ?_; refine mv rfl rfl rfl ?_; refine TrL.gd rfl rfl rfl (ok_ldBS rfl uu) rfl rfl ?_; refine TrL.gd rfl rfl rfl (ok_build (fun hp=>.nil)) rfl rfl ?_; refine TrL.gd rfl rfl rfl (ok_call (fun hp=>ct_bSameNum (rtA x p l).1 ([],[])) (.s rfl id rfl<|.s rfl id rfl<|.nil)) rfl rfl ?_; refine tO (ok_and rfl uu rfl (fun hp h=>gdT2 ((fun _=>rfl) hp) h)) rfl rfl ?_; refine mv rfl rfl rfl ?_; refine TrL.gd rfl rfl rfl (ok_move rfl uu) rfl rfl ?_
      refine TrL.gd rfl rfl rfl (ok_eql rfl id rfl uu) rfl rfl ?_; refine tO (ok_and rfl uu rfl (fun hp h=>gdT2 ((fun _=>rfl) hp) h)) rfl rfl ?_; refine mw rfl rfl rfl ?_; refine TrL.fin (End.nxt (Tr.ret (Rts.thn ?_))); exact Rts.res1 (fn:=Tryz.f4) rfl (.b rfl (by simp[hra,rt0,rt2])<|.nil)
     ·intro h17
      have rt1:rtK x p l≠0:=by omega
      refine Tr.skip (End.nxt (Tr.seq (Tr.rg ?_))); refine mv rfl rfl rfl ?_; refine tO (ok_eql rfl uu rfl uu) rfl rfl ?_; refine mv rfl rfl rfl ?_; refine TrL.gd rfl rfl rfl (ok_ldBS rfl uu) rfl rfl ?_; refine TrL.gd rfl rfl rfl (ok_ldBS rfl uu) rfl rfl ?_; refine TrL.gd rfl rfl rfl (ok_call (fun hp=>ct_bSameNum (rtA x p l).1 (rtN x p l)) (.s rfl id rfl<|.s rfl id rfl<|.nil)) rfl rfl ?_; refine tO (ok_and rfl uu rfl (fun hp h=>gdT2 ((fun _=>rfl) hp) h)) rfl rfl ?_; refine mv rfl rfl rfl ?_; refine TrL.gd rfl rfl rfl (ok_move rfl uu) rfl rfl ?_
      refine TrL.gd rfl rfl rfl (ok_move rfl uu) rfl rfl ?_; refine TrL.gd rfl rfl rfl (ok_eql rfl id rfl id) rfl rfl ?_; refine tO (ok_and rfl uu rfl (fun hp h=>gdT2 ((fun _=>rfl) hp) h)) rfl rfl ?_; refine mw rfl rfl rfl ?_; refine TrL.fin (End.nxt (Tr.ret ?_)); exact Rts.res1 (fn:=Tryz.f4) rfl (.b rfl (by simp[hra,rt1])<|.nil)

end Go.Fl
