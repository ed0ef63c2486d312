/- Laws on walking typed knowledge through code, and contracts. -/
import Derived.Test.YthfaleobmefibaaGreatM4

/- Contracts: enclosures are halved until the sign is told. -/
namespace Go.Fl
open Go Go.Proofs
open TrL renaming op→tO
open RunD renaming op→rO
set_option maxRecDepth 100000

def mnW (xs:List Int):Nat→Int
 | 0=>nth xs 0
 | k+1=>if nth xs (k+1)<mnW xs k then nth xs (k+1) else mnW xs k
def mxW (xs:List Int):Nat→Int
 | 0=>nth xs 0
 | k+1=>if mxW xs k<nth xs (k+1) then nth xs (k+1) else mxW xs k
theorem mnW_mem {xs:List Int}:∀{k:Nat},k<xs.length→mnW xs k∈xs∧mxW xs k∈xs
 | 0,h=>⟨nth_mem h,nth_mem h⟩
 | k+1,h=>by
  obtain ⟨h1,h2⟩:=mnW_mem (xs:=xs) (k:=k) zo
  rw[mnW,mxW]
  constructor
  ·split; exact nth_mem h; exact h1
  ·split; exact nth_mem h; exact h2
theorem mnW4 {a b c d:Int}:mnW [a,b,c,d] 3=min4 a b c d∧mxW [a,b,c,d] 3=max4 a b c d:=by
 simp only[mnW,mxW,min4,max4,nth,List.getD_cons_succ,List.getD_cons_zero]
 constructor<;>(repeat' split)<;>omega
theorem cmZlt {a b:Int}:cmpZ a b<0↔a<b:=by unfold cmpZ; split<;>(try split)<;>omega
theorem cmZgt {a b:Int}:0<cmpZ a b↔b<a:=by unfold cmpZ; split<;>(try split)<;>omega
theorem sgE_F {p cs:List Int} {I:Iv} {k:Nat} (hI:I.Ok) (h:sgE (enc (ivK p I k) cs).1 (enc (ivK p I k) cs).2.1 0≠0):sgE (enc (ivK p I k) cs).1 (enc (ivK p I k) cs).2.1 0=sgnF p I cs:=by
 unfold sgE at h ⊢
 by_cases h1:0<cmpZ (enc (ivK p I k) cs).1 0
 ·rw[if_pos h1,sgnF_pos (cmZgt.1 h1)]
 ·rw[if_neg h1] at h ⊢
  by_cases h2:cmpZ (enc (ivK p I k) cs).2.1 0<0
  ·rw[if_pos h2,sgnF_neg hI (cmZlt.1 h2)]
  ·rw[if_neg h2] at h; exact absurd rfl h
theorem sgE_told {a b:Int} (h:0<a∨b<0):sgE a b 0≠0:=by
 unfold sgE
 by_cases h1:0<cmpZ a 0
 ·rw[if_pos h1]; decide
 ·rw[if_neg h1,if_pos (cmZlt.2 (h.resolve_left fun e=>h1 (cmZgt.2 e)))]; decide
theorem ct_MinFuncW (xs:List Int) (f:FuncId) [TyFn Tryz.prog f] (hl:1≤xs.length) (hf:∀a b,a∈xs→b∈xs→Ct Tryz.prog f [kRd eW (wh a),kRd eW (wh b)] (kI (cmpZ a b))):Ct Tryz.prog 202 [kRd (eL eZ) xs,kDet (.func (.func f) #[] #[])] (kRd eW (wh (mnW xs (xs.length-1)))):=by
 refine Ct.mk Tryz.func202 rfl Tryz.ntmps202 rfl (fun w J=>?_); refine Tr.fact (s:=0) rfl (fun _ _ h=>lenB h) (fun hb=>?_); refine jx2 ?_; refine ja 4 ?_; refine jx10 ?_; refine jq ?_ ?_
 ·intro h1
  omega
 ·intro h1
  replace h1:=Int.not_lt.1 h1
  refine jx7 ?_; refine ja 5 ?_; refine jx9 ?_
  refine Tr.for1 (σ:=Nat) [⟨0,true,_,_⟩,⟨1,true,_,_⟩,⟨4,true,_,_⟩,⟨5,true,_,_⟩] [⟨4,_,_⟩] (fun j=>[⟨6,true,[],kI ((j:Int)+1)⟩]) (fun j=>[⟨5,[],cBlk [kB (decide ((mnW xs j)<0)),kRd (eL eI) (digN ((mnW xs j)).natAbs)]⟩]) (fun j=>j+1≤xs.length) (fun j=>j+1=xs.length) (fun j=>xs.length-j) (0) zi (Ent.mk (.i rfl zi<|zk) (zk) rfl) ?_ ?_
  ·intro j hR0
   refine jn ?_
   have hjn:((j:Int)+1).toNat=j+1:=by omega
   refine jx9 ?_; refine jq ?_ ?_
   ·intro h5
    refine jx5 ?_; refine Tr.draw 6 mixed (by kernel_rfl) ?_; refine jx7 ?_; refine tO (ok_callV rfl uu (fun hp=>hf _ _ (nth_mem (i:=j+1) zo) (mnW_mem zo).1) (.a rfl uu<|.se rfl uu rfl rfl<|.nil)) rfl rfl ?_; refine jx3 ?_; refine jq ?_ ?_
    ·intro h7
     have hK:mnW xs (j+1)=nth xs (j+1):=by rw[mnW,if_pos (cmZlt.1 h7)]
     refine jx14 ?_
     exact End.lp (j+1) zi zo (Ent.mk (.i rfl zi<|zk) (.e (by rw[hK,hjn]) rfl<|zk) rfl)
    ·intro h7
     replace h7:=Int.not_lt.1 h7
     have hK:mnW xs (j+1)=mnW xs j:=by rw[mnW,if_neg (fun e=>absurd (cmZlt.2 e) zo)]
     refine jx8 ?_
     exact End.lp (j+1) zi zo (Ent.mk (.i rfl zi<|zk) (.e (by rw[hK]) rfl<|zk) rfl)
   ·intro h5
    replace h5:=Int.not_lt.1 h5
    refine jx4 ?_
    exact End.cut (j) zo (Ent.mk (.i rfl zi<|zk) (zk) rfl)
  ·intro j hE0
   refine je ?_; refine jx8 ?_; exact Rts.resC1 (fn:=Tryz.f202) rfl rfl (aggRd rfl (by rw[show xs.length-1=j by omega]; rfl))

theorem ct_MaxFuncW (xs:List Int) (f:FuncId) [TyFn Tryz.prog f] (hl:1≤xs.length) (hf:∀a b,a∈xs→b∈xs→Ct Tryz.prog f [kRd eW (wh a),kRd eW (wh b)] (kI (cmpZ a b))):Ct Tryz.prog 204 [kRd (eL eZ) xs,kDet (.func (.func f) #[] #[])] (kRd eW (wh (mxW xs (xs.length-1)))):=by
 refine Ct.mk Tryz.func204 rfl Tryz.ntmps204 rfl (fun w J=>?_); refine Tr.fact (s:=0) rfl (fun _ _ h=>lenB h) (fun hb=>?_); refine jx2 ?_; refine ja 4 ?_; refine jx10 ?_; refine jq ?_ ?_
 ·intro h1
  omega
 ·intro h1
  replace h1:=Int.not_lt.1 h1
  refine jx7 ?_; refine ja 5 ?_; refine jx9 ?_
  refine Tr.for1 (σ:=Nat) [⟨0,true,_,_⟩,⟨1,true,_,_⟩,⟨4,true,_,_⟩,⟨5,true,_,_⟩] [⟨4,_,_⟩] (fun j=>[⟨6,true,[],kI ((j:Int)+1)⟩]) (fun j=>[⟨5,[],cBlk [kB (decide ((mxW xs j)<0)),kRd (eL eI) (digN ((mxW xs j)).natAbs)]⟩]) (fun j=>j+1≤xs.length) (fun j=>j+1=xs.length) (fun j=>xs.length-j) (0) zi (Ent.mk (.i rfl zi<|zk) (zk) rfl) ?_ ?_
  ·intro j hR0
   refine jn ?_
   have hjn:((j:Int)+1).toNat=j+1:=by omega
   refine jx9 ?_; refine jq ?_ ?_
   ·intro h5
    refine jx5 ?_; refine Tr.draw 6 mixed (by kernel_rfl) ?_; refine jx7 ?_; refine tO (ok_callV rfl uu (fun hp=>hf _ _ (nth_mem (i:=j+1) zo) (mnW_mem zo).2) (.a rfl uu<|.se rfl uu rfl rfl<|.nil)) rfl rfl ?_; refine jx3 ?_; refine jq ?_ ?_
    ·intro h7
     have hK:mxW xs (j+1)=nth xs (j+1):=by rw[mxW,if_pos (cmZgt.1 h7)]
     refine jx14 ?_
     exact End.lp (j+1) zi zo (Ent.mk (.i rfl zi<|zk) (.e (by rw[hK,hjn]) rfl<|zk) rfl)
    ·intro h7
     replace h7:=Int.not_lt.1 h7
     have hK:mxW xs (j+1)=mxW xs j:=by rw[mxW,if_neg (fun e=>absurd (cmZgt.2 e) zo)]
     refine jx8 ?_
     exact End.lp (j+1) zi zo (Ent.mk (.i rfl zi<|zk) (.e (by rw[hK]) rfl<|zk) rfl)
   ·intro h5
    replace h5:=Int.not_lt.1 h5
    refine jx4 ?_
    exact End.cut (j) zo (Ent.mk (.i rfl zi<|zk) (zk) rfl)
  ·intro j hE0
   refine je ?_; refine jx8 ?_; exact Rts.resC1 (fn:=Tryz.f204) rfl rfl (aggRd rfl (by rw[show xs.length-1=j by omega]; rfl))

set_option maxHeartbeats 2000000 in
theorem ct_decide (r:RlT) (v:NvT) (I:Iv) (cs:List Int) (K:Nat) (sg:Int) (hpo:PolOk r.2.1) (hI:I=⟨r.2.2.2.1,r.2.2.2.2.1,r.2.2.2.2.2⟩) (hcs:cs=v.1.take (r.2.1.length-1)) (hvl:v.1.length=4) (hvb:NBd 540 v) (hsz:∀k,k≤K→dl (ivK r.2.1 I k).lo≤73000∧dl (ivK r.2.1 I k).hi≤73000∧dl (ivK r.2.1 I k).den≤73000) (htl:∀k,K≤k→sgE (enc (ivK r.2.1 I k) cs).1 (enc (ivK r.2.1 I k) cs).2.1 0≠0) (hsg:∀k,sgE (enc (ivK r.2.1 I k) cs).1 (enc (ivK r.2.1 I k) cs).2.1 0≠0→sgE (enc (ivK r.2.1 I k) cs).1 (enc (ivK r.2.1 I k) cs).2.1 0=sg):CtL Tryz.prog 181 [kPtr eReal r,kRd eNu v,kClo 182 [kOwn 0 0]] (cBlk [kI 0]) (cBlk [kI sg]) (kDet (.tuple #[])):=by
 have hp5:=hpo.1.2
 have hp2:=hpo.1.1
 have hcl:cs.length=r.2.1.length-1:=by rw[hcs,List.length_take,hvl]; omega
 have hcx:List.take ((r.2.1.length:Int)-1).toNat (tab 4 (nth v.1),v.2).1=cs:=by rw[hcs]; show List.take _ (tab 4 (nth v.1))=_; rw[← tab_nth hvl]; congr 1; omega
 have hcd:∀i,dl (nth cs i)≤540:=fun i=>by rw[hcs]; by_cases h:i<r.2.1.length-1; (rw[nth_take' h]; exact hvb.c i); (rw[nth_out (by rw[List.length_take]; omega)]; show dl 0≤540; rw[dl_zero.2 rfl]; omega)
 have hI0:ivK r.2.1 I 0=I:=rfl
 refine CtL.mkM Tryz.func181 rfl Tryz.ntmps181 rfl rfl (fun w J bb cap=>?_); refine jn ?_; refine jx2 ?_; refine jb 4 rfl ?_; refine jx3 ?_; refine Tr.frzBL 4 [4] eNu (s:=568) rfl rfl ⟨rfl,trivial⟩ rfl ?_; refine jn ?_; refine jx2 ?_; refine tO (ok_nilP rfl uu) rfl rfl ?_; refine jx1 ?_; refine ja 6 ?_; refine jx3 ?_
 refine Tr.for1 (σ:=Nat) [⟨0,true,_,_⟩,⟨2,true,_,_⟩,⟨4,true,_,_⟩,⟨568,true,_,_⟩] [] (fun k=>[⟨6,true,[6],kOwn 6 0⟩]) (fun k=>[⟨6,[],cBlk [kRd (eL eI) r.1.1,kI r.1.2.1,kI r.1.2.2.1,kI r.1.2.2.2,kRd (eL eZ) r.2.1,kRd (eL eZ) r.2.2.1,kB (decide ((ivK r.2.1 I k).lo<0)),kRd (eL eI) (digN ((ivK r.2.1 I k).lo).natAbs),kB (decide ((ivK r.2.1 I k).hi<0)),kRd (eL eI) (digN ((ivK r.2.1 I k).hi).natAbs),kB (decide ((ivK r.2.1 I k).den<0)),kRd (eL eI) (digN ((ivK r.2.1 I k).den).natAbs)]⟩,⟨0,[],cBlk [kI 0]⟩]) (fun k=>k≤K) (fun k=>False) (fun k=>K-k) (0) zi (Ent.mk (zk) (.e (by rw[hI0,hI]) rfl<|zk) rfl) ?_ ?_
 ·intro k hR0
  refine jn ?_
  have hz:=hsz k hR0
  refine jx4 ?_; refine tO (ok_build (fun hp=>.nil)) rfl rfl ?_; refine tO (ok_build (fun hp=>.nil)) rfl rfl ?_; refine jc (ct_fsmall 1 zo) ?_; refine ja 7 ?_; refine ja 8 ?_; refine ja 9 ?_; refine jx10 ?_; refine jc (ct_degree r hpo.1) ?_; refine tO (ok_slArrPh rfl uu rfl uu rfl rfl (fun _=>zo)) rfl rfl ?_; refine tO (ok_call (fun hp=>ct_backW _) (.a rfl uu<|.nil)) rfl rfl ?_
  rw[hcx]
  refine jx3 ?_
  refine Tr.back (e:=eZ) (xs:=cs) back_wholes [⟨0,true,_,_⟩,⟨2,true,_,_⟩,⟨4,true,_,_⟩,⟨6,true,_,_⟩,⟨7,true,_,_⟩,⟨8,true,_,_⟩,⟨9,true,_,_⟩,⟨24,true,_,_⟩,⟨568,true,_,_⟩] [6,7,8,9,0] (fun j=>[⟨6,[],cBlk [kRd (eL eI) r.1.1,kI r.1.2.1,kI r.1.2.2.1,kI r.1.2.2.2,kRd (eL eZ) r.2.1,kRd (eL eZ) r.2.2.1,kB (decide ((ivK r.2.1 I k).lo<0)),kRd (eL eI) (digN ((ivK r.2.1 I k).lo).natAbs),kB (decide ((ivK r.2.1 I k).hi<0)),kRd (eL eI) (digN ((ivK r.2.1 I k).hi).natAbs),kB (decide ((ivK r.2.1 I k).den<0)),kRd (eL eI) (digN ((ivK r.2.1 I k).den).natAbs)]⟩,⟨7,[],cBlk [kB (decide ((encK (ivK r.2.1 I k) cs j).1<0)),kRd (eL eI) (digN ((encK (ivK r.2.1 I k) cs j).1).natAbs)]⟩,⟨8,[],cBlk [kB (decide ((encK (ivK r.2.1 I k) cs j).2.1<0)),kRd (eL eI) (digN ((encK (ivK r.2.1 I k) cs j).2.1).natAbs)]⟩,⟨9,[],cBlk [kB (decide ((encK (ivK r.2.1 I k) cs j).2.2<0)),kRd (eL eI) (digN ((encK (ivK r.2.1 I k) cs j).2.2).natAbs)]⟩,⟨0,[],cBlk [kI 0]⟩]) (fun j=>[⟨6,[],cBlk [kRd (eL eI) r.1.1,kI r.1.2.1,kI r.1.2.2.1,kI r.1.2.2.2,kRd (eL eZ) r.2.1,kRd (eL eZ) r.2.2.1,kB (decide ((ivK r.2.1 I k).lo<0)),kRd (eL eI) (digN ((ivK r.2.1 I k).lo).natAbs),kB (decide ((ivK r.2.1 I k).hi<0)),kRd (eL eI) (digN ((ivK r.2.1 I k).hi).natAbs),kB (decide ((ivK r.2.1 I k).den<0)),kRd (eL eI) (digN ((ivK r.2.1 I k).den).natAbs)]⟩,⟨7,[],cBlk [kB (decide ((encK (ivK r.2.1 I k) cs j).1<0)),kRd (eL eI) (digN ((encK (ivK r.2.1 I k) cs j).1).natAbs)]⟩,⟨8,[],cBlk [kB (decide ((encK (ivK r.2.1 I k) cs j).2.1<0)),kRd (eL eI) (digN ((encK (ivK r.2.1 I k) cs j).2.1).natAbs)]⟩,⟨9,[],cBlk [kB (decide ((encK (ivK r.2.1 I k) cs j).2.2<0)),kRd (eL eI) (digN ((encK (ivK r.2.1 I k) cs j).2.2).natAbs)]⟩,⟨0,[],cBlk [kI 0]⟩]) (fun j=>True) (fun j=>False) (Ent.mk (.k rfl rfl<|.k rfl rfl<|.k rfl rfl<|.k rfl rfl<|.k rfl rfl<|.k rfl rfl<|.k rfl rfl<|.k rfl rfl<|.k rfl rfl<|.nil) (.k rfl<|.conv (cB_zero (by rw[encK_zero])) rfl<|.conv (cB_zero (by rw[encK_zero])) rfl<|.conv (cB_eq (dcell (by rw[encK_zero]))) rfl<|.k rfl<|.nil) rfl) rfl rfl (fun _=>rfl) (fun _=>rfl) (fun _=>inferInstance) (fun _=>inferInstance) rfl zi ?_ ?_ ?_
  ·intro j hk24 hR24 l24 w24 J24 b24 bks24
   refine jn ?_
   have hb:=encK_dl (A:=73000) (C:=540) hz.1 hz.2.1 hz.2.2 hcd (k:=j) zo
   have hj5:j*(73000+1)≤4*73001:=Nat.mul_le_mul zo zo
   have hj6:j*73000≤4*73000:=Nat.mul_le_mul zo zo
   have hcj:=hcd (cs.length-1-j)
   have hm1:=dl_mul (encK (ivK r.2.1 I k) cs j).1 (ivK r.2.1 I k).lo
   have hm2:=dl_mul (encK (ivK r.2.1 I k) cs j).1 (ivK r.2.1 I k).hi
   have hm3:=dl_mul (encK (ivK r.2.1 I k) cs j).2.1 (ivK r.2.1 I k).lo
   have hm4:=dl_mul (encK (ivK r.2.1 I k) cs j).2.1 (ivK r.2.1 I k).hi
   have hm5:=dl_mul (encK (ivK r.2.1 I k) cs j).2.2 (ivK r.2.1 I k).den
   have hm6:=dl_mul (nth cs (cs.length-1-j)) ((encK (ivK r.2.1 I k) cs j).2.2*(ivK r.2.1 I k).den)
   have hco:∀x∈([(encK (ivK r.2.1 I k) cs j).1*(ivK r.2.1 I k).lo,(encK (ivK r.2.1 I k) cs j).1*(ivK r.2.1 I k).hi,(encK (ivK r.2.1 I k) cs j).2.1*(ivK r.2.1 I k).lo,(encK (ivK r.2.1 I k) cs j).2.1*(ivK r.2.1 I k).hi]:List Int),dl x≤800000:=fun x hx=>by simp only[List.mem_cons,List.not_mem_nil,or_false] at hx; rcases hx with rfl | rfl | rfl | rfl<;>omega
   refine jx1 ?_; refine ja 11 ?_; refine jx2 ?_; refine End.asg (fun w1024 J1024 b1024=>?_); refine jn ?_; refine jx2 ?_; refine Tr.draw 15 mixed (by kernel_rfl) ?_; refine jx3 ?_; refine jd (ct_wtimes (encK (ivK r.2.1 I k) cs j).1 (ivK r.2.1 I k).lo zo zo) ?_; refine jx3 ?_; refine jd (ct_wtimes (encK (ivK r.2.1 I k) cs j).1 (ivK r.2.1 I k).hi zo zo) ?_; refine jx3 ?_; refine jd (ct_wtimes (encK (ivK r.2.1 I k) cs j).2.1 (ivK r.2.1 I k).lo zo zo) ?_; refine jx4 ?_; refine jc (ct_wtimes (encK (ivK r.2.1 I k) cs j).2.1 (ivK r.2.1 I k).hi zo zo) ?_
   refine tO (ok_bslJ eZ (fun hp=>.cons rfl<|.cons rfl<|.cons rfl<|.cons rfl<|.nil) rfl rfl rfl rfl) rfl rfl ?_; refine jx8 ?_; refine jc (ct_wtimes (encK (ivK r.2.1 I k) cs j).2.2 (ivK r.2.1 I k).den zo zo) ?_; refine jx7 ?_; refine jc (ct_wtimes (nth cs (cs.length-1-j)) ((encK (ivK r.2.1 I k) cs j).2.2*(ivK r.2.1 I k).den) zo zo) ?_; refine jx3 ?_; refine Tr.draw 7 mixed (by kernel_rfl) ?_; refine jx1 ?_; refine jd (ct_MinFuncW [(encK (ivK r.2.1 I k) cs j).1*(ivK r.2.1 I k).lo,(encK (ivK r.2.1 I k) cs j).1*(ivK r.2.1 I k).hi,(encK (ivK r.2.1 I k) cs j).2.1*(ivK r.2.1 I k).lo,(encK (ivK r.2.1 I k) cs j).2.1*(ivK r.2.1 I k).hi] 203 (by simp) (fun x y hx hy=>ct_fcompare x y (hco x hx) (hco y hy))) ?_
   refine jx1 ?_; refine rO (ok_call (fun hp=>ct_wplus (mnW [(encK (ivK r.2.1 I k) cs j).1*(ivK r.2.1 I k).lo,(encK (ivK r.2.1 I k) cs j).1*(ivK r.2.1 I k).hi,(encK (ivK r.2.1 I k) cs j).2.1*(ivK r.2.1 I k).lo,(encK (ivK r.2.1 I k) cs j).2.1*(ivK r.2.1 I k).hi] 3) ((nth cs (cs.length-1-j))*((encK (ivK r.2.1 I k) cs j).2.2*(ivK r.2.1 I k).den)) (Nat.le_trans (hco _ (mnW_mem (by simp)).1) zo) zo) (.a rfl uu<|.se rfl uu rfl rfl<|.nil)) rfl rfl ?_; refine jx1 ?_; refine jd (ct_MaxFuncW [(encK (ivK r.2.1 I k) cs j).1*(ivK r.2.1 I k).lo,(encK (ivK r.2.1 I k) cs j).1*(ivK r.2.1 I k).hi,(encK (ivK r.2.1 I k) cs j).2.1*(ivK r.2.1 I k).lo,(encK (ivK r.2.1 I k) cs j).2.1*(ivK r.2.1 I k).hi] 203 (by simp) (fun x y hx hy=>ct_fcompare x y (hco x hx) (hco y hy))) ?_
   refine jx2 ?_; refine tO (ok_call (fun hp=>ct_wplus (mxW [(encK (ivK r.2.1 I k) cs j).1*(ivK r.2.1 I k).lo,(encK (ivK r.2.1 I k) cs j).1*(ivK r.2.1 I k).hi,(encK (ivK r.2.1 I k) cs j).2.1*(ivK r.2.1 I k).lo,(encK (ivK r.2.1 I k) cs j).2.1*(ivK r.2.1 I k).hi] 3) ((nth cs (cs.length-1-j))*((encK (ivK r.2.1 I k) cs j).2.2*(ivK r.2.1 I k).den)) (Nat.le_trans (hco _ (mnW_mem (by simp)).2) zo) zo) (.a rfl uu<|.se rfl uu rfl rfl<|.nil)) rfl rfl ?_; refine jx4 ?_; exact End.rnd trivial (Ent.mk (zk) (.k rfl<|.conv (cB_eq (dcell (by rw[encK_step zo,mnW4.1]))) rfl<|.conv (cB_eq (dcell (by rw[encK_step zo,mnW4.2]))) rfl<|.conv (cB_eq (dcell (by rw[encK_step zo]))) rfl<|zk) rfl)
  ·intro hE24
   refine je ?_
   have hbe:=encK_dl (A:=73000) (C:=540) hz.1 hz.2.1 hz.2.2 hcd (k:=cs.length) (Nat.le_refl _)
   have hj7:cs.length*(73000+1)≤4*73001:=Nat.mul_le_mul zo zo
   have hj8:cs.length*73000≤4*73000:=Nat.mul_le_mul zo zo
   have hvd:=hvb.d
   refine jx3 ?_; refine Tr.draw 7 mixed (by kernel_rfl) ?_; refine jx6 ?_; refine jd (ct_wtimes (encK (ivK r.2.1 I k) cs cs.length).2.2 v.2 zo zo) ?_; refine jx1 ?_; refine TrL.loanLK (u:=0) (ct_sign1 (enc (ivK r.2.1 I k) cs).1 (enc (ivK r.2.1 I k) cs).2.1 ((encK (ivK r.2.1 I k) cs cs.length).2.2*v.2) 0) rfl (.se rfl rfl (by rw[encK_end]; rfl)<|.se rfl rfl (by rw[encK_end]; rfl)<|.a rfl<|.nil) rfl rfl rfl ?_; refine jx2 ?_; refine Tr.cnd rfl ?_ ?_
   ·intro h10
    try simp only[decide_eq_true_eq,ne_eq] at h10
    have hsk:=hsg k h10
    refine jx6 ?_; refine Rts.mk ?_; exact Rts.loan0 (fn:=Tryz.f181) (s:=568) rfl rfl (by rw[hsk])
   ·intro h10
    try simp only[decide_eq_false_iff_not,ne_eq,Classical.not_not] at h10
    refine jx9 ?_; refine Tr.ent (S':=[⟨0,true,_,_⟩,⟨2,true,_,_⟩,⟨4,true,_,_⟩,⟨7,true,_,_⟩,⟨8,true,_,_⟩,⟨9,true,_,_⟩,⟨24,true,_,_⟩,⟨568,true,_,_⟩,⟨59,true,_,_⟩,⟨60,true,_,_⟩,⟨61,true,_,_⟩,⟨62,true,_,_⟩,⟨63,true,_,_⟩,⟨64,true,_,_⟩,⟨65,true,_,_⟩,⟨66,true,_,_⟩,⟨67,true,_,_⟩]) (M':=[⟨7,_,_⟩,⟨8,_,_⟩,⟨9,_,_⟩,⟨0,_,_⟩]) (Ent.mk (zk) (zk) rfl) ?_; refine jx1 ?_; refine ja 6 ?_; refine jx4 ?_; refine TrL.mutP (ct_halve (kRd (eL eI) r.1.1) (kI r.1.2.1) (kI r.1.2.2.1) (kI r.1.2.2.2) (kRd (eL eZ) r.2.2.1) r.2.1 (ivK r.2.1 I k) 73000 zo hpo.2 hz.1 hz.2.1 hz.2.2 zo) rfl (.nil) (fun g b cap o h=>cBlk_J (g:=g) (g':=g1 g.J b cap) rfl h) (fun {J b cap o g} h=>cBlk_J (g:=g1 J b cap) (g':=⟨J,g.M⟩) rfl h) rfl ?_
    refine jx1 ?_; exact End.lp (k+1) (by have:k≠K:=fun e=>htl k zo h10; omega) (by have:k≠K:=fun e=>htl k zo h10; omega) (Ent.mk (zk) (.e (by rfl) rfl<|.e (by rw[h10]) rfl<|.nil) rfl)
  ·intro j hk24 hX24
   exact absurd hX24 id
 ·intro k hE0
  exact hE0.elim

end Go.Fl

/- Contracts: signs and comparisons of numbers of any field. -/
namespace Go.Fl
open Go Go.Proofs
open TrL renaming op→tO
open RunD renaming op→rO
set_option maxRecDepth 100000

theorem sign_fits {p:List Int} {I:Iv} {v:NvT} (hf:FldOk p I) (hv:RedN p v) (hb:NBd 540 v) (h:ratB v.1≠true):∃K,(∀k,k≤K→dl (ivK p (ivK p I 64) k).lo≤73000∧dl (ivK p (ivK p I 64) k).hi≤73000∧dl (ivK p (ivK p I 64) k).den≤73000)∧(∀k,K≤k→sgE (enc (ivK p (ivK p I 64) k) (v.1.take (p.length-1))).1 (enc (ivK p (ivK p I 64) k) (v.1.take (p.length-1))).2.1 0≠0)∧∀k,sgE (enc (ivK p (ivK p I 64) k) (v.1.take (p.length-1))).1 (enc (ivK p (ivK p I 64) k) (v.1.take (p.length-1))).2.1 0≠0→sgE (enc (ivK p (ivK p I 64) k) (v.1.take (p.length-1))).1 (enc (ivK p (ivK p I 64) k) (v.1.take (p.length-1))).2.1 0=sgV p I v:=by
 obtain ⟨h1,h2⟩:=rat_ne hf.three hv h
 have h5:=hf.len4
 obtain ⟨K,q1,q2,q3⟩:=hf.bound (M:=540) zo h2 (fun c hc=>by
  obtain ⟨i,hi,rfl⟩:=List.mem_iff_getElem.1 hc
  have e:(v.1.take (p.length-1))[i]=nth v.1 i:=by
   rw[List.length_take] at hi
   rw[List.getElem_take]
   have:i<v.1.length:=by omega
   simp[nth,this]
  rw[e]; exact hb.c i) zo zo
 refine ⟨K-64,fun k hk=>?_,fun k hk=>?_,fun k hk=>?_⟩
 ·rw[ivK_add]; exact q3 (64+k) zo
 ·rw[ivK_add]; exact sgE_told (q2 (64+k) zo)
 ·rw[sgE_F (ivK_ok hf.iv) hk,sgnF_ivK hf.iv]
  unfold sgV
  rw[if_neg h]
theorem ct_fsign (r:RlT) (I:Iv) (v:NvT) (hf:FldOk r.2.1 I) (hI:ivK r.2.1 I 64=⟨r.2.2.2.1,r.2.2.2.2.1,r.2.2.2.2.2⟩) (hv:RedN r.2.1 v) (hb:NBd 540 v):Ct Tryz.prog 139 [kPtr eReal r,kRd eNu v] (kI (sgV r.2.1 I v)):=by
 have hl:v.1.length=4:=hv.len
 refine Ct.mk Tryz.func139 rfl Tryz.ntmps139 rfl (fun w J=>?_); refine jx2 ?_; refine jb 3 rfl ?_; refine jx7 ?_; refine tO (ok_call (fun hp=>ct_rational v.1 v.2) (.se rfl uu rfl (eta4 hl)<|.nil)) rfl rfl ?_; refine jx2 ?_; refine Tr.cnd rfl ?_ ?_
 ·intro h1
  have hs:sgV r.2.1 I v=cmpZ (nth v.1 0) 0:=if_pos h1
  refine jx3 ?_; refine tO (ok_idxArrO rfl uu rfl uu (fun _=>by decide)) rfl rfl ?_; refine tO (ok_ldW (0) (fun _=>zo) (fun _=>zo) rfl uu) rfl rfl ?_; refine jc (ct_wsign (nth v.1 0)) ?_; refine jx5 ?_; exact Rts.res1 (fn:=Tryz.f139) rfl (.i rfl (by rw[hs])<|.nil)
 ·intro h1
  obtain ⟨K,k1,k2,k3⟩:=sign_fits hf hv hb (by rw[h1]; decide)
  refine jx4 ?_; refine ja 5 ?_; refine jx7 ?_; refine tO (ok_clo (.cons rfl uu<|.nil)) rfl rfl ?_; refine TrL.loanL (u:=5) (ct_decide r v (ivK r.2.1 I 64) (v.1.take (r.2.1.length-1)) K (sgV r.2.1 I v) hf.pol hI rfl hl hb k1 k2 k3) (.a rfl<|.se rfl rfl (eta4 hl)<|.a rfl<|.nil) rfl rfl ?_; refine jx9 ?_; exact Rts.res1 (fn:=Tryz.f139) rfl (.i rfl (by rfl)<|.nil)

theorem ct_fSignF (r:RlT) (I:Iv) (x:NumT) (hf:FldOk r.2.1 I) (hI:ivK r.2.1 I 64=⟨r.2.2.2.1,r.2.2.2.2.1,r.2.2.2.2.2⟩) (hx:NumOk 250 x):Ct Tryz.prog 82 [kPtr eReal r,kRd eNum x] (kI (sgV r.2.1 I (takeN r.2.1 x))):=by
 have hpo:=hf.pol
 have nx:=take_NBd hpo hx
 have rx:=take_RedN (p:=r.2.1) (x:=x) hpo
 refine Ct.mk Tryz.func82 rfl Tryz.ntmps82 rfl (fun w J=>?_); refine jx2 ?_; refine jb 3 rfl ?_; refine jx7 ?_; refine tO (ok_eqlPn rfl uu) rfl rfl ?_; refine jx2 ?_; refine Tr.cnd rfl ?_ ?_
 ·intro h1
  cases h1
 ·intro h1
  refine jx7 ?_; refine jc (ct_take r x 250 hpo hx zo) ?_; refine jc (ct_fsign r I (takeN r.2.1 x) hf hI rx (nx.mono zo)) ?_; refine jx4 ?_
  exact Rts.res1 (fn:=Tryz.f82) rfl (.i rfl zi<|.nil)

theorem ct_fCmpF (r:RlT) (I:Iv) (x y:NumT) (hf:FldOk r.2.1 I) (hI:ivK r.2.1 I 64=⟨r.2.2.2.1,r.2.2.2.2.1,r.2.2.2.2.2⟩) (hx:NumOk 250 x) (hy:NumOk 250 y):Ct Tryz.prog 83 [kPtr eReal r,kRd eNum x,kRd eNum y] (kI (sgV r.2.1 I (subV (takeN r.2.1 x) (takeN r.2.1 y)))):=by
 have hpo:=hf.pol
 have hk:250≤100000:=by omega
 have nx:=take_NBd hpo hx
 have ny:=take_NBd hpo hy
 have nn:=neg_NBd ny
 have nz:=add_NBd nx nn
 have rx:=take_RedN (p:=r.2.1) (x:=x) hpo
 have ry:=take_RedN (p:=r.2.1) (x:=y) hpo
 have rz:=sub_RedN rx ry
 refine Ct.mk Tryz.func83 rfl Tryz.ntmps83 rfl (fun w J=>?_); refine jx2 ?_; refine jb 4 rfl ?_; refine jb 5 rfl ?_; refine jx7 ?_; refine tO (ok_eqlPn rfl uu) rfl rfl ?_; refine jx2 ?_; refine Tr.cnd rfl ?_ ?_
 ·intro h1
  cases h1
 ·intro h1
  refine jx3 ?_; refine Tr.draw 9 mixed (by kernel_rfl) ?_; refine jx3 ?_; refine jd (ct_take r x 250 hpo hx zo) ?_; refine jx2 ?_; refine jd (ct_take r y 250 hpo hy zo) ?_; refine jd (ct_nminus (takeN r.2.1 y).1 (takeN r.2.1 y).2) ?_; refine jd (ct_nplus (takeN r.2.1 x) ((takeN r.2.1 y).1.map (fun z=>-z),(takeN r.2.1 y).2) (fun i=>Nat.le_trans (nx.c i) zo) (fun i=>Nat.le_trans (nn.c i) zo) (Nat.le_trans nx.d zo) (Nat.le_trans nn.d zo) nx.pos nn.pos) ?_; refine jx1 ?_; refine jc (ct_fsign r I (adV (takeN r.2.1 x) ((takeN r.2.1 y).1.map (fun z=>-z),(takeN r.2.1 y).2)) hf hI rz (nz.mono zo)) ?_
  refine jx4 ?_
  exact Rts.res1 (fn:=Tryz.f83) rfl (.i rfl zi<|.nil)

end Go.Fl

/- Divisors of polynomials with the leading coefficient 1, as the program and the reference look for them. No program in sight. -/
namespace Go.Fl
open Go
def evH (p:List Int) (x:Int):Int:=p.foldr (fun c v=>v*x+c) 0
theorem evH_cons {c x:Int} {p:List Int}:evH (c::p) x=evH p x*x+c:=rfl
def evK (p:List Int) (x:Int) (k:Nat):Int:=evH (p.drop (p.length-k)) x
theorem evK_zero {p:List Int} {x:Int}:evK p x 0=0:=by unfold evK; rw[Nat.sub_zero,List.drop_length]; rfl
theorem evK_step {p:List Int} {x:Int} {k:Nat} (hk:k<p.length):evK p x (k+1)=evK p x k*x+nth p (p.length-1-k):=by unfold evK; rw[drop_step hk]; rfl
theorem evK_end {p:List Int} {x:Int}:evK p x p.length=evH p x:=by unfold evK; rw[Nat.sub_self,List.drop_zero]
theorem evK_bd {p:List Int} {x:Int} (hp:∀i,(nth p i).natAbs≤1000) (hx:x.natAbs≤1001):∀{k:Nat},k≤p.length→(evK p x k).natAbs≤1002 ^ k
 | 0,_=>by rw[evK_zero]; decide
 | k+1,hk=>by
  have h1:=evK_bd hp hx (k:=k) zo
  rw[evK_step zo]
  have h2:=hp (p.length-1-k)
  have h3:(evK p x k*x).natAbs≤1002 ^ k*1001:=mul_ab h1 hx
  have h4:1002 ^ (k+1)=1002 ^ k*1001+1002 ^ k:=by rw[Nat.pow_succ]; omega
  by_cases h:k=0
  ·subst h
   rw[evK_zero,Int.zero_mul,Int.zero_add]
   omega
  ·have h5:1002≤1002 ^ k:=Nat.le_self_pow h 1002
   omega
theorem evH_hv {x:Int}:∀{p:List Int},hvP x 1 p=(evH p x,1)
 | []=>rfl
 | c::p=>by rw[hvP,evH_hv (p:=p),evH_cons]; simp
theorem evH_P {p:List Int} {x:Int} (_:1≤p.length):evH p x=evP (lP p) (p.length-1) x:=by
 have h1:=(hvP_hm (a:=x) (b:=1) (cs:=p)).2
 rw[evH_hv] at h1
 simp only at h1
 rw[h1]
 unfold hm evP
 refine sumTo_congr fun i _=>?_
 rw[Int.one_pow,Int.mul_one]
def RedB (p:List Int):Prop:=p.length≠2∧((∃x,evH p x=0)∨(p.length=5∧∃a b c d:Int,nth p 3=a+c∧nth p 2=b+d+a*c∧nth p 1=a*d+b*c∧nth p 0=b*d))
open Classical in
noncomputable def redB (p:List Int):Bool:=if RedB p then true else false
theorem redB_t {p:List Int} (h:RedB p):redB p=true:=if_pos h
theorem redB_f {p:List Int} (h:¬RedB p):redB p=false:=if_neg h
theorem redB_P {p:List Int} (h3:3≤p.length) (h:¬RedB p):¬RedP (lP p) (p.length-1):=by
 have e:∀i,i<p.length→lP p i=nth p i:=fun i hi=>if_pos hi
 rintro (⟨x,hx⟩ | ⟨h4,a,b,c,d,q3,q2,q1,q0⟩)
 ·exact h ⟨by omega,.inl ⟨x,by rw[evH_P zo]; exact hx⟩⟩
 ·exact h ⟨by omega,.inr ⟨by omega,a,b,c,d,by rw[← e 3 zo]; exact q3,by rw[← e 2 zo]; exact q2,by rw[← e 1 zo]; exact q1,by rw[← e 0 zo]; exact q0⟩⟩
theorem root_dvd {p:List Int} {x:Int} (hp:1≤p.length) (h:evH p x=0):x∣nth p 0:=by
 match p,hp with
 | c::p,_ =>
  rw[evH_cons] at h
  show x∣c
  exact ⟨-evH p x,by rw[Int.mul_neg,Int.mul_comm]; omega⟩
theorem root_zero {p:List Int} (hp:1≤p.length):evH p 0=nth p 0:=by
 match p,hp with
 | c::p,_=>rw[evH_cons,Int.mul_zero,Int.zero_add]; rfl
theorem dvd_abs {x y:Int} (h:x∣y) (hy:y≠0):x≠0∧x.natAbs≤y.natAbs:=by
 obtain ⟨q,rfl⟩:=h
 refine ⟨fun e=>hy (by rw[e,Int.zero_mul]),?_⟩
 rw[Int.natAbs_mul]
 exact Nat.le_mul_of_pos_right _ (by have:q≠0:=fun e=>hy (by rw[e,Int.mul_zero]); omega)
def DvsP (n:Int) (q:Int→Bool) (m:Nat):Prop:=∃d:Nat,1≤d∧d<m∧(d:Int)∣n∧(q d=true∨q (-(d:Int))=true)
theorem dvs_all {n:Int} {q:Int→Bool} (hn:n≠0):DvsP n q (n.natAbs+1)↔∃x:Int,x∣n∧q x=true:=by
 constructor
 ·rintro ⟨d,h1,h2,h3,h4 | h4⟩
  ·exact ⟨d,h3,h4⟩
  ·exact ⟨-d,Int.neg_dvd.2 h3,h4⟩
 ·rintro ⟨x,h1,h2⟩
  obtain ⟨h3,h4⟩:=dvd_abs h1 hn
  refine ⟨x.natAbs,by omega,by omega,Int.ofNat_dvd_left.2 (Int.natAbs_dvd_natAbs.2 h1),?_⟩
  rcases Int.natAbs_eq x with e | e
  ·left; rw[← e]; exact h2
  ·right; rw[← e]; exact h2
theorem sum_abs {b d:Int} (hb:b≠0) (hd:d≠0):b.natAbs+d.natAbs≤(b*d).natAbs+1:=by
 rw[Int.natAbs_mul]
 obtain ⟨m,hm⟩:∃m,b.natAbs=m+1:=⟨b.natAbs-1,by omega⟩
 obtain ⟨n,hn⟩:∃n,d.natAbs=n+1:=⟨d.natAbs-1,by omega⟩
 rw[hm,hn,Nat.succ_mul,Nat.mul_succ]
 omega
theorem quad_bd {p2 p3 a b d:Int} (h2:p2.natAbs≤1000) (h3:p3.natAbs≤1000) (hb:b≠0) (hd:d≠0) (h0:(b*d).natAbs≤1000) (h:b+d+a*(p3-a)=p2):a.natAbs≤2001:=by
 have h1:=sum_abs hb hd
 by_cases e:p3-a=0
 ·omega
 ·have h4:(a*(p3-a)).natAbs≤2001:=by omega
  rw[Int.natAbs_mul] at h4
  have:=Nat.le_mul_of_pos_right a.natAbs (show 0<(p3-a).natAbs by omega)
  omega
def QuadP (p:List Int) (b:Int):Prop:=∃a d:Int,nth p 0=b*d∧a*(d-b)=nth p 1-b*nth p 3∧b+d+a*(nth p 3-a)=nth p 2
theorem quad_iff {p:List Int} (_:nth p 0≠0):(∃b,b∣nth p 0∧QuadP p b)↔∃a b c d:Int,nth p 3=a+c∧nth p 2=b+d+a*c∧nth p 1=a*d+b*c∧nth p 0=b*d:=by
 constructor
 ·rintro ⟨b,_,a,d,h1,h2,h3⟩
  refine ⟨a,b,nth p 3-a,d,by omega,h3.symm,?_,h1⟩
  rw[Int.mul_sub] at h2 ⊢
  rw[Int.mul_comm b a]
  omega
 ·rintro ⟨a,b,c,d,h3,h2,h1,h0'⟩
  refine ⟨b,⟨d,h0'⟩,a,d,h0',?_,?_⟩
  ·rw[h1,h3,Int.mul_sub,Int.mul_add,Int.mul_comm b a]; omega
  ·rw[h2,h3,show a+c-a=c by omega]
open Classical in
noncomputable def quadB (p:List Int) (b:Int):Bool:=if QuadP p b then true else false
theorem quadB_t {p:List Int} {b:Int}:quadB p b=true↔QuadP p b:=by unfold quadB; split<;>simp_all
theorem quadB_f {p:List Int} {b:Int} (h:¬QuadP p b):quadB p b=false:=if_neg h
section
variable {p:List Int} {b d:Int}
theorem quad_ne (hb:b≠0) (hd:nth p 0=b*d) (hne:d-b≠0):quadB p b=(decide ((nth p 1-b*nth p 3).tmod (d-b)=0)&&decide (b+d+(nth p 1-b*nth p 3).tdiv (d-b)*(nth p 3-(nth p 1-b*nth p 3).tdiv (d-b))=nth p 2)):=by
 have key:QuadP p b↔((nth p 1-b*nth p 3).tmod (d-b)=0∧b+d+(nth p 1-b*nth p 3).tdiv (d-b)*(nth p 3-(nth p 1-b*nth p 3).tdiv (d-b))=nth p 2):=by
  constructor
  ·rintro ⟨a,d',h1,h2,h3⟩
   have e:d'=d:=by
    have:b*d'=b*d:=by rw[← h1,← hd]
    exact Int.eq_of_mul_eq_mul_left hb this
   subst e
   rw[← h2,Int.mul_tmod_left,Int.mul_tdiv_cancel _ hne]
   exact ⟨rfl,h3⟩
  ·rintro ⟨h1,h2⟩
   refine ⟨_,d,hd,?_,h2⟩
   have:=Int.mul_tdiv_add_tmod (nth p 1-b*nth p 3) (d-b)
   rw[h1,Int.add_zero,Int.mul_comm] at this
   exact this
 rw[← Bool.decide_and,Bool.eq_iff_iff,quadB_t,decide_eq_true_eq]
 exact key
theorem quad_eq0 (hb:b≠0) (hd:nth p 0=b*b) (h:nth p 1≠b*nth p 3):quadB p b=false:=by
 refine quadB_f ?_
 rintro ⟨a,d',h1,h2,h3⟩
 have e:d'=b:=Int.eq_of_mul_eq_mul_left hb (by rw[← h1,← hd])
 subst e
 rw[Int.sub_self,Int.mul_zero] at h2
 omega
theorem quad_found {a:Int} (hd:nth p 0=b*b) (h:nth p 1=b*nth p 3) (ha:a*a-nth p 3*a+nth p 2-2*b=0):quadB p b=true:=by
 refine quadB_t.2 ⟨a,b,hd,by rw[Int.sub_self,Int.mul_zero]; omega,?_⟩
 rw[Int.mul_sub,Int.mul_comm a (nth p 3)]
 omega
theorem quad_none (hb:b≠0) (hd:nth p 0=b*b) (h0:(nth p 0).natAbs≤1000) (h2:(nth p 2).natAbs≤1000) (h3:(nth p 3).natAbs≤1000) (h:∀a:Int,-3000≤a→a≤3000→a*a-nth p 3*a+nth p 2-2*b≠0):quadB p b=false:=by
 refine quadB_f ?_
 rintro ⟨a,d',h1,_,q3⟩
 have e:d'=b:=Int.eq_of_mul_eq_mul_left hb (by rw[← h1,← hd])
 subst e
 have hbd:=quad_bd h2 h3 hb hb (by rw[← h1]; exact h0) q3
 refine h a zo zo ?_
 rw[Int.mul_sub,Int.mul_comm a (nth p 3)] at q3
 omega
end
theorem red_prog {p:List Int} (hl:3≤p.length) (h0:nth p 0≠0):RedB p↔DvsP (nth p 0) (fun d=>decide (evH p d=0)) ((nth p 0).natAbs+1)∨(p.length=5∧DvsP (nth p 0) (quadB p) ((nth p 0).natAbs+1)):=by
 rw[dvs_all h0,dvs_all h0]
 have e1:(∃x,x∣nth p 0∧decide (evH p x=0)=true)↔∃x,evH p x=0:=⟨fun ⟨x,_,h⟩=>⟨x,of_decide_eq_true h⟩,fun ⟨x,h⟩=>⟨x,root_dvd zo h,decide_eq_true h⟩⟩
 have e2:(∃x,x∣nth p 0∧quadB p x=true)↔∃b,b∣nth p 0∧QuadP p b:=exists_congr fun x=>and_congr_right fun _=>quadB_t
 rw[e1,e2,quad_iff h0]
 unfold RedB
 constructor
 ·rintro ⟨_,h⟩; exact h
 ·intro h; exact ⟨by omega,h⟩
theorem red_ref_root {p:List Int} (hl:1≤p.length) (hp:(nth p 0).natAbs≤1000):(∃x,evH p x=0)↔∃x,-1001≤x∧x≤1001∧evH p x=0:=by
 refine ⟨fun ⟨x,hx⟩=>?_,fun ⟨x,_,_,h⟩=>⟨x,h⟩⟩
 by_cases h:nth p 0=0
 ·exact ⟨0,by omega,by omega,by rw[root_zero hl,h]⟩
 ·have:=(dvd_abs (root_dvd hl hx) h).2
  exact ⟨x,by omega,by omega,hx⟩
def RefQ (p:List Int) (b a:Int):Prop:=b*(nth p 2-b-a*(nth p 3-a))=nth p 0∧a*(nth p 2-b-a*(nth p 3-a))+b*(nth p 3-a)=nth p 1
theorem red_ref_quad {p:List Int} (h0:nth p 0≠0) (hp:(nth p 0).natAbs≤1000) (h2:(nth p 2).natAbs≤1000) (h3:(nth p 3).natAbs≤1000):(∃a b c d:Int,nth p 3=a+c∧nth p 2=b+d+a*c∧nth p 1=a*d+b*c∧nth p 0=b*d)↔∃b,-1000≤b∧b≤1000∧b≠0∧b∣nth p 0∧∃a,-2002≤a∧a≤2002∧RefQ p b a:=by
 constructor
 ·rintro ⟨a,b,c,d,q3,q2,q1,q0⟩
  have hb:b≠0:=fun e=>h0 (by rw[q0,e,Int.zero_mul])
  have hd:d≠0:=fun e=>h0 (by rw[q0,e,Int.mul_zero])
  have hc:c=nth p 3-a:=by omega
  have hbd:=quad_bd h2 h3 hb hd (by rw[← q0]; exact hp) (a:=a) (by rw[← hc]; exact q2.symm)
  have hbb:=(dvd_abs (⟨d,q0⟩:b∣nth p 0) h0).2
  have hdd:nth p 2-b-a*(nth p 3-a)=d:=by rw[← hc]; omega
  exact ⟨b,by omega,by omega,hb,⟨d,q0⟩,a,by omega,by omega,by rw[hdd]; exact q0.symm,by rw[hdd,← hc]; exact q1.symm⟩
 ·rintro ⟨b,_,_,_,_,a,_,_,r1,r2⟩
  exact ⟨a,b,nth p 3-a,nth p 2-b-a*(nth p 3-a),by omega,by omega,r2.symm,r1.symm⟩
end Go.Fl

/- Chains of remainders (Sturm), as the program and the reference compute them: one root between two fractions means different signs. No program in sight. -/
namespace Go.Fl
open Go
theorem lP_nth {xs:List Int} {i:Nat}:lP xs i=nth xs i:=by
 unfold lP
 split
 ·rfl
 ·rename_i h; rw[nth_out zo]; rfl
def TrP (xs:List Int):Prop:=trimL xs=xs
theorem trim_trim {xs:List Int}:TrP (trimL xs):=by
 by_cases h:trimL xs=[]
 ·unfold TrP; rw[h]; rfl
 ·obtain ⟨ys,y,hy⟩:∃ys y,trimL xs=ys++[y]:=⟨_,_,(List.dropLast_concat_getLast h).symm⟩
  have hl:=trim_last h
  have hy0:y≠0:=by
   have e:(trimL xs).getLast h=y:=by simp[hy]
   rw[← e]; exact hl
  unfold TrP
  rw[hy]; exact trim_snoc hy0
theorem TrP.top {xs:List Int} (h:TrP xs) (h0:xs≠[]):1≤xs.length∧nth xs (xs.length-1)≠0:=by
 have hl:1≤xs.length:=List.length_pos_iff.2 h0
 refine ⟨hl,?_⟩
 have h1:trimL xs≠[]:=by rw[h]; exact h0
 have h2:=trim_last h1
 have e:(trimL xs).getLast h1=nth xs (xs.length-1):=by
  simp only[show trimL xs=xs from h]
  rw[List.getLast_eq_getElem]
  have:xs.length-1<xs.length:=by omega
  simp[nth,this]
 rw[← e]; exact h2
theorem TrP.neg {xs:List Int} (h:TrP xs):TrP (xs.map fun z=>-z):=by unfold TrP; rw[trim_map,h]
theorem trP_of {xs:List Int} (h:nth xs (xs.length-1)≠0):TrP xs:=by
 unfold TrP
 have:=trim_take (xs:=xs) (m:=xs.length) (Nat.le_refl _) (fun i h1 h2=>by omega) (.inr h)
 rw[this,List.take_length]
def agT (q r:List Int):List Int:=tab r.length fun i=>nth r i*(nth q (q.length-1)*nth q (q.length-1))+(if r.length-q.length≤i then -(nth r (r.length-1)*nth q (q.length-1)*nth q (i-(r.length-q.length))) else 0)
def agR (q r:List Int):List Int:=trimL (agT q r)
theorem agT_len {q r:List Int}:(agT q r).length=r.length:=tab_len
theorem agT_out {q r:List Int} {i:Nat} (hq:1≤q.length) (hr:q.length≤r.length) (hi:r.length-1≤i):nth (agT q r) i=0:=by
 by_cases h:i<r.length
 ·have e:i=r.length-1:=by omega
  subst e
  unfold agT
  rw[nth_tab h,if_pos zo,show r.length-1-(r.length-q.length)=q.length-1 by omega,Int.mul_assoc]; omega
 ·rw[nth_out (by rw[agT_len]; omega)]; rfl
theorem agR_len {q r:List Int} (hq:1≤q.length) (hr:q.length≤r.length):(agR q r).length≤r.length-1:=trim_len_le fun _ hi=>agT_out hq hr hi
def agF (q:List Int):Nat→List Int→List Int
 | 0,r=>r
 | f+1,r=>if r.length<q.length then r else agF q f (agR q r)
theorem agF_stab {q:List Int} (hq:1≤q.length):∀{f:Nat} {r:List Int},r.length≤f→agF q f r=agF q r.length r
 | 0,r,h=>by rw[show r.length=0 by omega]
 | f+1,r,h=>by
  by_cases hl:r.length<q.length
  ·rw[agF,if_pos hl]
   cases e:r.length with
   | zero=>rfl
   | succ m=>rw[agF,if_pos hl]
  ·have h1:=agR_len hq (r:=r) zo
   obtain ⟨m,hm⟩:∃m,r.length=m+1:=⟨r.length-1,by omega⟩
   rw[hm,agF,agF,if_neg hl,if_neg hl,agF_stab hq (f:=f) zo,agF_stab hq (f:=m) zo]
theorem agF_end {q r:List Int} (h:r.length<q.length):agF q r.length r=r:=by
 cases e:r.length with
 | zero=>rfl
 | succ m=>rw[agF,if_pos h]
theorem agF_go {q r:List Int} (hq:1≤q.length) (h:q.length≤r.length):agF q r.length r=agF q (agR q r).length (agR q r):=by
 have h1:=agR_len hq h
 obtain ⟨m,hm⟩:∃m,r.length=m+1:=⟨r.length-1,by omega⟩
 rw[hm,agF,if_neg zo,agF_stab hq zo]
theorem agF_ind {q:List Int} (hq:1≤q.length) (P:List Int→Prop) (hP:∀r,q.length≤r.length→P r→P (agR q r)):∀{f:Nat} {r:List Int},r.length≤f→P r→P (agF q f r)∧(agF q f r).length<q.length
 | 0,r,h,hr=>⟨hr,by rw[agF]; omega⟩
 | f+1,r,h,hr=>by
  by_cases hl:r.length<q.length
  ·rw[agF,if_pos hl]; exact ⟨hr,hl⟩
  ·have h1:=agR_len hq (r:=r) zo
   rw[agF,if_neg hl]
   exact agF_ind hq P hP zo (hP r zo hr)
def against (p q:List Int):List Int:=(agF q p.length p).map fun z=>-z
theorem agR_dl {q r:List Int} {X B:Nat} (hr:∀i,dl (nth r i)≤X) (hq:∀i,dl (nth q i)≤B) (i:Nat):dl (nth (agT q r) i)≤X+(2*B+1):=by
 by_cases hi:i<r.length
 ·unfold agT
  rw[nth_tab hi]
  have h1:=hr i
  have h2:=hr (r.length-1)
  have h3:=hq (q.length-1)
  have h4:=hq (i-(r.length-q.length))
  have m1:=dl_mul (nth q (q.length-1)) (nth q (q.length-1))
  have m2:=dl_mul (nth r i) (nth q (q.length-1)*nth q (q.length-1))
  have m3:=dl_mul (nth r (r.length-1)) (nth q (q.length-1))
  have m4:=dl_mul (nth r (r.length-1)*nth q (q.length-1)) (nth q (i-(r.length-q.length)))
  split
  ·have:=dl_add (nth r i*(nth q (q.length-1)*nth q (q.length-1))) (-(nth r (r.length-1)*nth q (q.length-1)*nth q (i-(r.length-q.length))))
   rw[dl_neg] at this
   omega
  ·rw[Int.add_zero]; omega
 ·rw[nth_out (by rw[agT_len]; omega)]
  show dl 0≤_
  rw[dl_zero.2 rfl]; omega
theorem against_ok {p q:List Int} {A B:Nat} (hq:1≤q.length) (hp:TrP p) (hA:∀i,dl (nth p i)≤A) (hB:∀i,dl (nth q i)≤B) (h5:p.length≤5):TrP (against p q)∧(against p q).length<q.length∧∀i,dl (nth (against p q) i)≤A+5*(2*B+1):=by
 obtain ⟨⟨h1,h2⟩,h3⟩:=agF_ind hq (fun r=>TrP r∧r.length≤p.length∧∀i,dl (nth r i)≤A+(p.length-r.length)*(2*B+1)) (fun r hl ⟨_,hn,hr⟩=>by
  have e:=agR_len hq hl
  refine ⟨trim_trim,by omega,fun i=>?_⟩
  unfold agR at e ⊢
  rw[nth_trim]
  have:=agR_dl hr hB i
  have k:=Nat.mul_le_mul_right (2*B+1) (show p.length-r.length+1≤p.length-(trimL (agT q r)).length by omega)
  rw[Nat.succ_mul] at k
  omega) (f:=p.length) (r:=p) (Nat.le_refl _) ⟨hp,Nat.le_refl _,fun i=>by have:=hA i; omega⟩
 refine ⟨h1.neg,by unfold against; rw[List.length_map]; exact h3,fun i=>?_⟩
 unfold against
 rw[nth_neg,dl_neg]
 have k:=Nat.mul_le_mul_right (2*B+1) (show p.length-(agF q p.length p).length≤5 by omega)
 have:=h2.2 i
 omega
theorem agR_P {q r:List Int} (hr:q.length≤r.length):lP (agR q r)=stpP (nth q (q.length-1)*nth q (q.length-1)) (nth r (r.length-1)*nth q (q.length-1)) (r.length-q.length) (lP r) (lP q):=by
 funext i
 unfold stpP shf
 rw[lP_nth,lP_nth,lP_nth]
 unfold agR
 rw[nth_trim]
 by_cases hi:i<r.length
 ·unfold agT
  rw[nth_tab hi,Int.mul_comm (nth r i)]
  split
  ·rw[Int.sub_eq_add_neg]
  ·rw[Int.mul_zero,Int.sub_zero,Int.add_zero]
 ·rw[nth_out (by rw[agT_len]; omega),nth_out (xs:=r) zo]
  have e:nth q (i-(r.length-q.length))=0:=nth_out zo
  rw[e]
  show (0:Int)=_*0-_
  split<;>simp
theorem BkP.neg {p f g:Pol} (h:BkP p f g):BkP p (fun i=>-f i) g:=by
 obtain ⟨s,q1,q2,d,h1,h2,h3,h4⟩:=h
 refine ⟨s,fun i=>-1*q1 i,q2,d,h1,fun i hi=>by show -1*q1 i=0; rw[h2 i hi]; rfl,h3,fun k=>?_⟩
 have e1:(fun i=>-f i)=fun i=>-1*f i:=by funext i; omega
 rw[e1,cnv_mulL,cnv_mulR,h4 k]
 show _=-1*(-1*cnv q1 f k)+_
 omega
theorem BkP.against {p:Pol} {a b:List Int} (hb:1≤b.length) (h0:nth b (b.length-1)≠0) (h:BkP p (lP a) (lP b)):BkP p (lP (Go.Fl.against a b)) (lP b):=by
 have:=(agF_ind hb (fun r=>BkP p (lP r) (lP b)) (fun r hl hr=>by rw[agR_P hl]; exact hr.stp (Int.mul_ne_zero h0 h0)) (f:=a.length) (r:=a) (Nat.le_refl _) h).1.neg
 have e:lP (Go.Fl.against a b)=fun i=>-lP (agF b a.length a) i:=by
  funext i
  rw[lP_nth,lP_nth]
  unfold Go.Fl.against
  exact nth_neg
 rw[e]; exact this
theorem bd_ex (l:List Int):∃B:Nat,∀i,dl (nth l i)≤B:=by
 induction l with
 | nil=>exact ⟨0,fun i=>by rw[nth_nil]; show dl 0≤0; rw[dl_zero.2 rfl]; omega⟩
 | cons x l ih =>
  obtain ⟨B,hB⟩:=ih
  refine ⟨max (dl x) B,fun i=>?_⟩
  match i with
  | 0=>exact Nat.le_max_left _ _
  | i+1=>exact Nat.le_trans (hB i) (Nat.le_max_right _ _)
def chF:Nat→List Int→List Int→List (List Int)
 | 0,_,_=>[]
 | f+1,a,b=>if against a b=[] then [] else against a b::chF f b (against a b)
def drv (p:List Int):List Int:=tab (p.length-1) fun i=>nth p (i+1)*((i:Int)+1)
def chS (p:List Int):List (List Int):=p::drv p::chF 5 p (drv p)
theorem ch_next:∀{f:Nat} {a b:List Int} {m:Nat},b.length≤f→TrP a→TrP b→b≠[]→a.length≤5→b.length≤5→2≤m→m≤(a::b::chF f a b).length →
  against (nth (a::b::chF f a b) (m-2)) (nth (a::b::chF f a b) (m-1))=(if m<(a::b::chF f a b).length then nth (a::b::chF f a b) m else [])∧(m<(a::b::chF f a b).length→nth (a::b::chF f a b) m≠[])
 | 0,a,b,m,h,_,_,h0,_,_,_,_=>absurd (List.length_eq_zero_iff.1 zo) h0
 | f+1,a,b,m,h,ta,tb,h0,ha,hb,h2,hm=>by
  obtain ⟨B,hB⟩:∃B:Nat,∀i,dl (nth b i)≤B:=bd_ex b
  obtain ⟨A,hA⟩:∃A:Nat,∀i,dl (nth a i)≤A:=bd_ex a
  obtain ⟨r1,r2,_⟩:=against_ok (List.length_pos_iff.2 h0) ta hA hB ha
  rw[chF] at hm ⊢
  by_cases e:against a b=[]
  ·rw[if_pos e] at hm ⊢
   have:m=2:=by simp at hm; omega
   subst this
   exact ⟨by rw[if_neg (by simp)]; exact e,fun h=>by simp at h⟩
  ·rw[if_neg e] at hm ⊢
   by_cases h3:m=2
   ·subst h3
    exact ⟨by rw[if_pos (by simp)]; rfl,fun _=>e⟩
   ·have ih:=ch_next (f:=f) (a:=b) (b:=against a b) (m:=m-1) zo tb r1 e hb zo zo (by simp at hm ⊢; omega)
    obtain ⟨n,rfl⟩:∃n,m=n+3:=⟨m-3,by omega⟩
    simp only[show n+3-1=n+2 by omega,show n+2-2=n by omega,show n+2-1=n+1 by omega,show n+3-2=n+1 by omega] at ih ⊢
    have s:∀(x:List Int) (l:List (List Int)) (k:Nat),nth (x::l) (k+1)=nth l k:=fun _ _ _=>rfl
    have hl:(n+3<(a::b::against a b::chF f b (against a b)).length)=(n+2<(b::against a b::chF f b (against a b)).length):=propext ⟨fun h=>by simp at h ⊢; omega,fun h=>by simp at h ⊢; omega⟩
    rw[s a,s a,s a]
    simp only[hl]
    exact ih
def bndG (A B:Nat):Nat→Nat
 | 0=>A
 | j+1=>bndG B (A+5*(2*B+1)) j
theorem ch_el:∀{f:Nat} {a b:List Int} {A B:Nat} {j:Nat},TrP a→TrP b→b≠[]→a.length≤5→b.length<a.length→(∀i,dl (nth a i)≤A)→(∀i,dl (nth b i)≤B)→j<(a::b::chF f a b).length →
  TrP (nth (a::b::chF f a b) j)∧(nth (a::b::chF f a b) j).length+j≤a.length∧∀i,dl (nth (nth (a::b::chF f a b) j) i)≤bndG A B j:=by
 intro f
 induction f with
 | zero =>
  intro a b A B j ta tb h0 ha hb hA hB hj
  rw[chF] at hj ⊢
  match j,hj with
  | 0,_=>exact ⟨ta,by show a.length+0≤_; omega,hA⟩
  | 1,_=>exact ⟨tb,by show b.length+1≤_; omega,hB⟩
  | j+2,hj=>exact absurd hj (by show ¬j+2<2; omega)
 | succ f ih =>
  intro a b A B j ta tb h0 ha hb hA hB hj
  obtain ⟨r1,r2,r3⟩:=against_ok (List.length_pos_iff.2 h0) ta hA hB ha
  match j,hj with
  | 0,_=>exact ⟨ta,by show a.length+0≤_; omega,hA⟩
  | 1,_=>exact ⟨tb,by show b.length+1≤_; omega,hB⟩
  | j+2,hj =>
   rw[chF] at hj ⊢
   by_cases e:against a b=[]
   ·rw[if_pos e] at hj
    exact absurd (show j+2<2 from hj) zo
   ·rw[if_neg e] at hj ⊢
    have s:∀(x:List Int) (l:List (List Int)) (k:Nat),nth (x::l) (k+1)=nth l k:=fun _ _ _=>rfl
    have q:=ih (a:=b) (b:=against a b) (A:=B) (B:=A+5*(2*B+1)) (j:=j+1) tb r1 e zo r2 hB r3 (by simp at hj ⊢; omega)
    rw[s a]
    obtain ⟨q1,q2,q3⟩:=q
    exact ⟨q1,by omega,q3⟩
theorem ch_last:∀{f:Nat} {a b:List Int} {p:Pol},b.length≤f→TrP a→TrP b→b≠[]→a.length≤5→b.length≤5→BkP p (lP a) (lP b)→∃e l,a::b::chF f a b=l++[e]∧TrP e∧e≠[]∧e.length≤b.length∧BkP p (lP []) (lP e)
 | 0,a,b,p,h,_,_,h0,_,_,_=>absurd (List.length_eq_zero_iff.1 zo) h0
 | f+1,a,b,p,h,ta,tb,h0,ha,hb,hk=>by
  obtain ⟨B,hB⟩:=bd_ex b
  obtain ⟨A,hA⟩:=bd_ex a
  obtain ⟨t1,t2⟩:=tb.top h0
  obtain ⟨r1,r2,_⟩:=against_ok t1 ta hA hB ha
  have hk2:=hk.against t1 t2
  rw[chF]
  by_cases e:against a b=[]
  ·rw[if_pos e]
   rw[e] at hk2
   exact ⟨b,[a],rfl,tb,h0,Nat.le_refl _,hk2⟩
  ·rw[if_neg e]
   obtain ⟨x,l,q1,q2,q3,q4,q5⟩:=ch_last (f:=f) (a:=b) (b:=against a b) (p:=p) zo tb r1 e hb zo hk2.swap
   exact ⟨x,a::l,by rw[q1]; rfl,q2,q3,by omega,q5⟩
def chgS (st:Nat×Int) (s:Int):Nat×Int:=(if s*st.2<0 then st.1+1 else st.1,if s≠0 then s else st.2)
def chg (l:List Int):Nat×Int:=l.foldl chgS (0,0)
theorem chg_succ {l:List Int} {k:Nat} (hk:k<l.length):chg (l.take (k+1))=chgS (chg (l.take k)) (nth l k):=by
 unfold chg
 rw[take_succ_nth hk,List.foldl_append]; rfl
theorem chg_le {l:List Int}:(chg l).1≤l.length:=by
 have key:∀(l:List Int) (st:Nat×Int),(l.foldl chgS st).1≤st.1+l.length:=by
  intro l
  induction l with
  | nil=>intro st; exact Nat.le_refl _
  | cons s l ih =>
   intro st
   rw[List.foldl_cons]
   have:=ih (chgS st s)
   have h1:(chgS st s).1≤st.1+1:=by unfold chgS; simp only; split<;>omega
   rw[List.length_cons]; omega
 have:=key l (0,0)
 unfold chg
 omega
theorem chg_par:∀{l:List Int} {st:Nat×Int},(∀s∈l,s=-1∨s=0∨s=1)→(st.2=-1∨st.2=1)→((l.foldl chgS st).2=-1∨(l.foldl chgS st).2=1)∧(((l.foldl chgS st).1+st.1)%2=0↔(l.foldl chgS st).2=st.2)
 | [],st,_,h=>⟨h,⟨fun _=>rfl,fun _=>by simp only[List.foldl_nil]; omega⟩⟩
 | s::l,st,hs,h=>by
  rw[List.foldl_cons]
  have hs1:=hs s List.mem_cons_self
  have h2:(chgS st s).2=-1∨(chgS st s).2=1:=by unfold chgS; simp only; split<;>omega
  obtain ⟨q1,q2⟩:=chg_par (l:=l) (st:=chgS st s) (fun x hx=>hs x (List.mem_cons_of_mem _ hx)) h2
  refine ⟨q1,?_⟩
  have h3:((chgS st s).1=st.1∧(chgS st s).2=st.2)∨((chgS st s).1=st.1+1∧(chgS st s).2=-st.2):=by
   unfold chgS; simp only
   rcases hs1 with rfl | rfl | rfl
   ·rcases h with e | e
    ·rw[e]; left; simp
    ·rw[e]; right; simp
   ·left; simp
   ·rcases h with e | e
    ·rw[e]; right; simp
    ·rw[e]; left; simp
  generalize (List.foldl chgS (chgS st s) l).1=n at *
  generalize (List.foldl chgS (chgS st s) l).2=v at *
  rcases h3 with ⟨e1,e2⟩ | ⟨e1,e2⟩<;>rw[e1,e2] at q2<;>omega
theorem chg_ends {s e:Int} {l:List Int} (hs:s=-1∨s=1) (he:e=-1∨e=1) (hl:∀x∈l,x=-1∨x=0∨x=1) (hlast:s::l=[s]∧e=s∨∃l',s::l=l'++[e]):(chg (s::l)).1%2=0↔e=s:=by
 have h0:chgS (0,0) s=(0,s):=by unfold chgS; simp only[Int.mul_zero]; rcases hs with rfl | rfl<;>rfl
 unfold chg
 rw[List.foldl_cons,h0]
 obtain ⟨q1,q2⟩:=chg_par (st:=(0,s)) hl hs
 have hv:(l.foldl chgS (0,s)).2=e:=by
  rcases hlast with ⟨h1,h2⟩ | ⟨l',h1⟩
  ·have:l=[]:=by simpa using h1
   subst this; exact h2.symm
  ·rcases List.eq_nil_or_concat l with rfl | ⟨l2,x,rfl⟩
   ·have:l'=[]∧s=e:=by
     have hlen:=congrArg List.length h1
     simp at hlen
     subst hlen
     simp at h1
     exact ⟨rfl,h1⟩
    exact this.2
   ·rw[List.concat_eq_append] at h1 ⊢
    have hx:x=e:=by
     have h2:(s::l2++[x]).getLast?=(l'++[e]).getLast?:=congrArg List.getLast? h1
     rw[List.getLast?_concat,List.getLast?_concat] at h2
     exact Option.some.inj h2
    subst hx
    rw[List.foldl_append]
    show (chgS _ x).2=x
    unfold chgS
    simp only
    rw[if_pos zo]
 rw[hv] at q2
 simpa using q2
def sgCh (p:List Int) (a b:Int):List Int:=(chS p).map fun q=>sgn (hvP a b q).1
theorem drv_len {p:List Int}:(drv p).length=p.length-1:=tab_len
theorem drv_nth {p:List Int} {i:Nat} (h:i<p.length-1):nth (drv p) i=nth p (i+1)*((i:Int)+1):=nth_tab h
section
variable {p:List Int} (h3:3≤p.length) (h5:p.length≤5) (h1:nth p (p.length-1)=1) (hs:∀i,(nth p i).natAbs≤1000)
include h3 h5 h1
theorem drv_tr:TrP p∧TrP (drv p)∧drv p≠[]:=by
 refine ⟨trP_of zo,trP_of ?_,fun e=>?_⟩
 ·rw[drv_len,drv_nth zo,show p.length-1-1+1=p.length-1 by omega,h1]; omega
 ·have:=congrArg List.length e
  rw[drv_len] at this
  simp at this; omega
include hs
theorem drv_dl:(∀i,dl (nth p i)≤1)∧∀i,dl (nth (drv p) i)≤1:=by
 refine ⟨fun i=>dl_le (by have:=hs i; have:=h3; have:=h1; simp[BP]; omega),fun i=>?_⟩
 by_cases hi:i<p.length-1
 ·rw[drv_nth hi]
  have h2:(nth p (i+1)*((i:Int)+1)).natAbs≤1000*5:=mul_ab (hs _) zo
  exact dl_le (by simp[BP]; omega)
 ·rw[nth_out (by rw[drv_len]; omega)]; show dl 0≤1; rw[dl_zero.2 rfl]; omega
theorem chS_el {j:Nat} (hj:j<(chS p).length):TrP (nth (chS p) j)∧(nth (chS p) j).length+j≤p.length∧∀i,dl (nth (nth (chS p) j) i)≤1681:=by
 obtain ⟨t1,t2,t3⟩:=drv_tr h3 h5 h1
 obtain ⟨d1,d2⟩:=drv_dl h3 h5 h1 hs
 have hj':j<(p::drv p::chF 5 p (drv p)).length:=hj
 obtain ⟨q1,q2,q3⟩:=ch_el (f:=5) (A:=1) (B:=1) t1 t2 t3 h5 (by rw[drv_len]; omega) d1 d2 hj'
 refine ⟨q1,q2,fun i=>Nat.le_trans (q3 i) ?_⟩
 have:j≤5:=by omega
 by_cases h:j=5
 ·have hl:(nth (p::drv p::chF 5 p (drv p)) j)=[]:=List.length_eq_zero_iff.1 zo
  exfalso
  have hn:=(ch_next (f:=5) (a:=p) (b:=drv p) (m:=j) (by rw[drv_len]; omega) t1 t2 t3 h5 (by rw[drv_len]; omega) zo zo).2 hj'
  exact hn hl
 ·rcases (show j=0∨j=1∨j=2∨j=3∨j=4 by omega) with rfl | rfl | rfl | rfl | rfl<;>decide
omit hs in
theorem chS_next {m:Nat} (h2:2≤m) (hm:m≤(chS p).length):against (nth (chS p) (m-2)) (nth (chS p) (m-1))=(if m<(chS p).length then nth (chS p) m else [])∧(m<(chS p).length→nth (chS p) m≠[]):=by
 obtain ⟨t1,t2,t3⟩:=drv_tr h3 h5 h1
 exact ch_next (f:=5) (by rw[drv_len]; omega) t1 t2 t3 h5 (by rw[drv_len]; omega) h2 hm
omit hs in
theorem chS_ne {m:Nat} (hm:m<(chS p).length):nth (chS p) m≠[]:=by
 obtain ⟨t1,t2,t3⟩:=drv_tr h3 h5 h1
 match m,hm with
 | 0,_=>show p≠[]; intro e; rw[e] at h3; simp at h3
 | 1,_=>exact t3
 | m+2,hm=>exact (chS_next h3 h5 h1 zo zo).2 hm
theorem chS_len:(chS p).length≤5:=by
 refine Classical.byContradiction fun hn=>?_
 have q:=(chS_el h3 h5 h1 hs (j:=5) zo).2.1
 exact chS_ne h3 h5 h1 (m:=5) zo (List.length_eq_zero_iff.1 zo)
omit hs in
theorem sturm (hred:¬RedP (lP p) (p.length-1)) {lo hi den:Int} (hd:0<den) (hr:((chg (sgCh p lo den)).1:Int)-(chg (sgCh p hi den)).1=1):sgn (hmL p lo den)*sgn (hmL p hi den)<0:=by
 obtain ⟨t1,t2,t3⟩:=drv_tr h3 h5 h1
 have hP1:lP p (p.length-1)=1:=by rw[lP_nth,h1]
 have hbk:BkP (lP p) (lP p) (lP (drv p)):=by
  refine ⟨1,oneP,nilP,0,by decide,fun i hi=>by unfold oneP; rw[if_neg zo],fun i hi=>rfl,fun k=>?_⟩
  rw[cnv_one,cnv_nil]; unfold nilP; omega
 obtain ⟨e,l,q1,q2,q3,q4,q5⟩:=ch_last (f:=5) (by rw[drv_len]; omega) t1 t2 t3 h5 (by rw[drv_len]; omega) hbk
 obtain ⟨e1,e2⟩:=q2.top q3
 rw[drv_len] at q4
 have hel:e.length=1:=by
  refine Classical.byContradiction fun hn=>hred (div_red zo zo lP_dg hP1 ?_)
  obtain ⟨s,g1,g2,d,s0,dg1,dg2,hs⟩:=q5
  refine ⟨s,lP e,g2,e.length-1,d,s0,by omega,by omega,lP_dg,by rw[lP_nth]; exact e2,dg2,fun k=>?_⟩
  have hn:cnv g1 (lP [])=nilP:=by
   have:lP []=nilP:=by funext i; rw[lP_nth]; rfl
   rw[this,cnv_comm,cnv_nil]
  rw[hs k,hn,cnv_comm (f:=lP e)]
  unfold nilP; omega
 obtain ⟨c,rfl⟩:∃c,e=[c]:=List.length_eq_one_iff.1 hel
 have hc:c≠0:=e2
 have hcv:∀a b:Int,(hvP a b [c]).1=c:=fun a b=>by simp[hvP]
 have hhv:∀a:Int,hmL p a den=(hvP a den p).1:=fun a=>(hvP_hm (a:=a) (b:=den) (cs:=p)).2.symm
 have hnr:∀a:Int,hmL p a den≠0:=fun a=>no_root zo zo lP_dg hP1 hred hd
 have sg1:∀z:Int,sgn z=-1∨sgn z=0∨sgn z=1:=fun z=>by rcases sgn_cases z with h | h | h<;>omega
 have sg2:∀z:Int,z≠0→sgn z=-1∨sgn z=1:=fun z hz=>by rcases sgn_cases z with h | h | h<;>omega
 have key:∀a:Int,(chg (sgCh p a den)).1%2=0↔sgn c=sgn (hmL p a den):=fun a=>by
  have hsl:sgCh p a den=sgn (hmL p a den)::((drv p::chF 5 p (drv p)).map fun q=>sgn (hvP a den q).1):=by rw[hhv]; rfl
  rw[hsl]
  refine chg_ends (sg2 _ (hnr a)) (sg2 _ hc) (fun x hx=>?_) (.inr ⟨l.map fun q=>sgn (hvP a den q).1,?_⟩)
  ·obtain ⟨q,_,rfl⟩:=List.mem_map.1 hx
   exact sg1 _
  ·rw[← hsl]
   unfold sgCh chS
   rw[q1,List.map_append,List.map_cons,List.map_nil,hcv]
 have k1:=key lo
 have k2:=key hi
 have a1:=sg2 _ (hnr lo)
 have a2:=sg2 _ (hnr hi)
 have a3:=sg2 _ hc
 have hne:sgn (hmL p lo den)≠sgn (hmL p hi den):=fun e=>by
  rw[e] at k1
  by_cases q:sgn c=sgn (hmL p hi den)
  ·have:=k1.2 q; have:=k2.2 q; omega
  ·have u1:¬(chg (sgCh p lo den)).1%2=0:=fun h=>q (k1.1 h)
   have u2:¬(chg (sgCh p hi den)).1%2=0:=fun h=>q (k2.1 h)
   omega
 rcases a1 with e1 | e1<;>rcases a2 with e2 | e2<;>rw[e1,e2]<;>first | decide | exact absurd (e1.trans e2.symm) hne
end
end Go.Fl

/- Contracts: values of polynomials, divisors. -/
namespace Go.Fl
open Go Go.Proofs
open TrL renaming op→tO
open RunD renaming op→rO
set_option maxRecDepth 100000

open Classical in
noncomputable def dvB (n:Int) (q:Int→Bool) (m:Nat):Bool:=if DvsP n q m then true else false
theorem dvB_t {n:Int} {q:Int→Bool} {m:Nat}:dvB n q m=true↔DvsP n q m:=by unfold dvB; split<;>simp_all
theorem dvB_f {n:Int} {q:Int→Bool} {m:Nat} (h:¬DvsP n q m):dvB n q m=false:=if_neg h
theorem dvs_succ {n:Int} {q:Int→Bool} {m:Nat} (h:¬DvsP n q m) (h2:¬((m:Int)∣n∧(q m=true∨q (-(m:Int))=true))):¬DvsP n q (m+1):=fun ⟨d,h3,h4,h5,h6⟩=>by
 by_cases e:d=m
 ·subst e; exact h2 ⟨h5,h6⟩
 ·exact h ⟨d,h3,by omega,h5,h6⟩
theorem evK_i {p:List Int} {x:Int} (hp:∀i,(nth p i).natAbs≤1000) (hx:x.natAbs≤1001) (h5:p.length≤5) {k:Nat} (hk:k≤p.length):-1020000000000000≤evK p x k∧evK p x k≤1020000000000000:=by
 have h1:=evK_bd hp hx hk
 have h2:1002 ^ k≤1002 ^ 5:=Nat.pow_le_pow_right zo zo
 have h3:(1002:Nat) ^ 5=1010040080080032:=by decide
 omega
theorem ct_fvalue (p:List Int) (x:Int) (h5:p.length≤5) (hs:∀i,(nth p i).natAbs≤1000) (hx:x.natAbs≤1001):Ct Tryz.prog 211 [kRd (eL eI) p,kI x] (kI (evH p x)):=by
 refine CtM.mk Tryz.func211 rfl Tryz.ntmps211 rfl (fun w J=>?_); refine jx2 ?_; refine jb 3 rfl ?_; refine jx5 ?_; refine ja 5 ?_; refine jx7 ?_; refine tO (ok_call (fun hp=>ct_backI _) (.a rfl uu<|.nil)) rfl rfl ?_; refine jx3 ?_
 refine Tr.back (e:=eI) (xs:=p) back_ints [⟨3,true,_,_⟩,⟨4,true,_,_⟩,⟨5,true,_,_⟩,⟨9,true,_,_⟩] [3,5] (fun k=>[⟨3,[],cBlk [kI x]⟩,⟨5,[],cBlk [kI (evK p x k)]⟩]) (fun k=>[⟨3,[],cBlk [kI x]⟩,⟨5,[],cBlk [kI (evK p x k)]⟩]) (fun k=>True) (fun k=>False) (Ent.mk (.k rfl rfl<|.k rfl rfl<|.k rfl rfl<|.k rfl rfl<|.nil) (.k rfl<|.e (by rw[evK_zero]) rfl<|.nil) rfl) rfl rfl (fun _=>rfl) (fun _=>rfl) (fun _=>inferInstance) (fun _=>inferInstance) rfl zi ?_ ?_ ?_
 ·intro k hk9 hR9 l9 w9 J9 b9 bks9
  refine jn ?_
  have hb1:=evK_i hs hx h5 (k:=k) zo
  have hb2:=evK_i hs hx h5 (k:=k+1) zo
  rw[evK_step zo] at hb2
  have hb3:=hs (p.length-1-k)
  refine jx3 ?_; refine End.asg (fun w1009 J1009 b1009=>?_); refine jn ?_; refine jx10 ?_; exact End.rnd trivial (Ent.mk (zk) (.k rfl<|.e (by rw[evK_step zo]) rfl<|.nil) rfl)
 ·intro hE9
  refine je ?_; refine jx9 ?_; refine Rts.mk ?_; exact Rts.res1 (fn:=Tryz.f211) rfl (.i rfl (by rw[evK_end])<|.nil)
 ·intro k hk9 hX9
  exact absurd hX9 id

theorem ct_divisors (n:Int) (f:Int→Bool) (hn:n.natAbs≤1000) (h0:n≠0):Ct Tryz.prog 209 [kI n,kFnC Tryz.prog (fun x:Int=>x∣n) (fun x:Int=>[kI x]) (fun x:Int=>kB (f x))] (kB (dvB n f (n.natAbs+1))):=by
 refine Ct.mk Tryz.func209 rfl Tryz.ntmps209 rfl (fun w J=>?_); refine jx11 ?_
 refine Tr.for1 (σ:=Nat) [⟨0,true,_,_⟩,⟨1,true,_,_⟩] [] (fun k=>[⟨5,true,[],kI (k:Int)⟩]) (fun k=>[]) (fun k=>(1≤k∧k≤n.natAbs+1)∧¬DvsP n f k) (fun k=>¬DvsP n f (n.natAbs+1)) (fun k=>n.natAbs+1-k) (1) ⟨by omega,fun ⟨d,h1,h2,_⟩=>by omega⟩ (Ent.mk (.i rfl zi<|zk) (.nil) rfl) ?_ ?_
 ·rintro k ⟨hk,hR⟩
  refine jn ?_; refine jx6 ?_; refine tO (ok_neg rfl uu (fun _=>zo)) rfl rfl ?_; refine tO (ok_max rfl uu rfl uu) rfl rfl ?_; refine jx3 ?_; refine jq ?_ ?_
  ·intro h2
   refine jx8 ?_; refine tO (ok_rem rfl uu rfl uu (fun _=>zo)) rfl rfl ?_; refine jx4 ?_; refine TrL.gd rfl rfl rfl (ok_callC (k:Int) rfl id (fun hp=>by simp at hp; exact Int.dvd_of_tmod_eq_zero hp) (.a rfl id<|.nil)) rfl rfl ?_; refine jx3 ?_; refine TrL.gd rfl rfl rfl (ok_neg rfl id (fun hp=>by simp at hp; omega)) rfl rfl ?_; refine TrL.gd rfl rfl rfl (ok_callC (-(k:Int)) rfl id (fun hp=>by have hp:=gdL hp; simp at hp; exact Int.neg_dvd.2 (Int.dvd_of_tmod_eq_zero hp)) (.a rfl id<|.nil)) rfl rfl ?_; refine TrL.gd rfl rfl rfl (ok_or rfl id rfl (fun hp h=>gdF2 (id hp) h)) rfl rfl ?_
   refine jx3 ?_; refine Tr.cnd rfl ?_ ?_
   ·intro h4
    simp only[Bool.and_eq_true,Bool.or_eq_true,decide_eq_true_eq] at h4
    have hyes:DvsP n f (n.natAbs+1):=⟨k,hk.1,by omega,Int.dvd_of_tmod_eq_zero h4.1,h4.2⟩
    refine jx12 ?_; exact Rts.res1 (fn:=Tryz.f209) rfl (.b rfl (dvB_t.2 hyes).symm<|.nil)
   ·intro h4
    have hno:¬((k:Int)∣n∧(f k=true∨f (-(k:Int))=true)):=fun ⟨q1,q2⟩=>by rw[decide_eq_true (Int.tmod_eq_zero_of_dvd q1)] at h4; rcases q2 with q2 | q2<;>simp[q2] at h4
    refine jx8 ?_
    exact End.lp (k+1) ⟨by omega,dvs_succ hR hno⟩ zo (Ent.mk (.i rfl zi<|zk) (.nil) rfl)
  ·intro h2
   replace h2:=Int.not_le.1 h2
   refine jx4 ?_
   exact End.cut (k) (by have:k=n.natAbs+1:=(by split at h2<;>omega); rw[← this]; exact hR) (Ent.mk (.i rfl zi<|zk) (.nil) rfl)
 ·intro k hE
  refine je ?_; refine jx7 ?_; exact Rts.res1 (fn:=Tryz.f209) rfl (.b rfl (dvB_f hE).symm<|.nil)

theorem ct_divided1 (p:List Int) (x:Int) (h5:p.length≤5) (hs:∀i,(nth p i).natAbs≤1000) (hx:x.natAbs≤1001):Ct Tryz.prog 210 [kI x,kPtr (eL eI) p] (kB (decide (evH p x=0))):=by
 refine Ct.mk Tryz.func210 rfl Tryz.ntmps210 rfl (fun w J=>?_); refine jx9 ?_; refine jc (ct_fvalue p x h5 hs hx) ?_; refine jx5 ?_
 exact Rts.res1 (fn:=Tryz.f210) rfl (.b rfl zi<|.nil)

theorem ct_dividedQ (p:List Int) (b:Int) (h5:p.length=5) (hs:∀i,(nth p i).natAbs≤1000) (h0:nth p 0≠0) (hb:b∣nth p 0):Ct Tryz.prog 212 [kI b,kPtr (eL eI) p] (kB (quadB p b)):=by
 obtain ⟨d,hd⟩:=hb
 have hb0:b≠0:=fun e=>h0 (by rw[hd,e,Int.zero_mul])
 have hd0:d≠0:=fun e=>h0 (by rw[hd,e,Int.mul_zero])
 have hs0:=hs 0
 have hs1:=hs 1
 have hs2:=hs 2
 have hs3:=hs 3
 have hbb:=(dvd_abs (⟨d,hd⟩:b∣nth p 0) h0).2
 have hdd:=(dvd_abs (⟨b,by rw[hd,Int.mul_comm]⟩:d∣nth p 0) h0).2
 have hq:(nth p 0).tdiv b=d:=by rw[hd,Int.mul_tdiv_cancel_left _ hb0]
 have hm3:(b*nth p 3).natAbs≤1000*1000:=mul_ab zo zo
 refine Ct.mk Tryz.func212 rfl Tryz.ntmps212 rfl (fun w J=>?_); refine jx8 ?_; refine tO (ok_idxN (i:=0) rfl uu rfl uu rfl (fun _=>zo)) rfl rfl ?_; refine jx2 ?_; refine tO (ok_quo rfl uu rfl uu (fun _=>zo)) rfl rfl ?_
 rw[hq]
 refine jx11 ?_; refine jq ?_ ?_
 ·intro h2
  have hne:d-b≠0:=by omega
  have hAb:((nth p 1-b*nth p 3).tdiv (d-b)).natAbs≤1001000:=by rw[Int.natAbs_tdiv]; exact Nat.le_trans (Nat.div_le_self _ _) zo
  have hAm:(((nth p 1-b*nth p 3).tdiv (d-b))*(nth p 3-((nth p 1-b*nth p 3).tdiv (d-b)))).natAbs≤1001000*1002000:=mul_ab hAb zo
  have hqn:=quad_ne hb0 hd hne
  refine jx1 ?_; refine Tr.draw 8 mixed (by kernel_rfl) ?_; refine jx1 ?_; refine rO (ok_idxN (i:=1) rfl uu rfl uu rfl (fun _=>zo)) rfl rfl ?_; refine jx3 ?_; refine rO (ok_idxN (i:=3) rfl uu rfl uu rfl (fun _=>zo)) rfl rfl ?_; refine jx13 ?_; refine tO (ok_quo rfl uu rfl uu (fun _=>zo)) rfl rfl ?_; refine jx4 ?_; refine Tr.draw 21 mixed (by kernel_rfl) ?_; refine jx4 ?_; refine rO (ok_rem rfl uu rfl uu (fun _=>zo)) rfl rfl ?_; refine jx4 ?_; refine RunD.gd rfl rfl rfl (ok_add rfl id rfl id (fun hp=>by simp at hp; omega)) rfl rfl ?_; refine jx2 ?_
  refine RunD.gd rfl rfl rfl (ok_idxN (i:=3) rfl id rfl uu rfl (fun _=>zo)) rfl rfl ?_; refine jx2 ?_; refine RunD.gd rfl rfl rfl (ok_sub rfl id rfl id (fun hp=>by simp at hp; omega)) rfl rfl ?_; refine RunD.gd rfl rfl rfl (ok_mul rfl id rfl id (fun hp=>by simp at hp; omega)) rfl rfl ?_; refine RunD.gd rfl rfl rfl (ok_add rfl id rfl id (fun hp=>by simp at hp; omega)) rfl rfl ?_; refine jx1 ?_; refine RunD.gd rfl rfl rfl (ok_idxN (i:=2) rfl id rfl uu rfl (fun _=>zo)) rfl rfl ?_; refine jx9 ?_; exact Rts.res1 (fn:=Tryz.f212) rfl (.b rfl (by rw[hqn])<|.nil)
 ·intro h2
  replace h2:=Classical.not_not.1 h2
  have hdb:d=b:=by omega
  subst hdb
  refine jx4 ?_; refine Tr.draw 8 mixed (by kernel_rfl) ?_; refine jx1 ?_; refine rO (ok_idxN (i:=1) rfl uu rfl uu rfl (fun _=>zo)) rfl rfl ?_; refine jx3 ?_; refine rO (ok_idxN (i:=3) rfl uu rfl uu rfl (fun _=>zo)) rfl rfl ?_; refine jx6 ?_; refine jq ?_ ?_
  ·intro h6
   have hcase:nth p 1≠d*nth p 3:=h6
   refine jx7 ?_; exact Rts.res1 (fn:=Tryz.f212) rfl (.b rfl (by rw[quad_eq0 hb0 hd hcase])<|.nil)
  ·intro h6
   replace h6:=Classical.not_not.1 h6
   have hcase:nth p 1=d*nth p 3:=by omega
   refine jx8 ?_
   refine Tr.for1 (σ:=Nat) [⟨0,true,_,_⟩,⟨1,true,_,_⟩] [] (fun k=>[⟨7,true,[],kI ((k:Int)-3000)⟩]) (fun k=>[]) (fun k=>k≤6001∧∀j:Nat,j<k→((j:Int)-3000)*((j:Int)-3000)-nth p 3*((j:Int)-3000)+nth p 2-2*d≠0) (fun k=>∀j:Nat,j<6001→((j:Int)-3000)*((j:Int)-3000)-nth p 3*((j:Int)-3000)+nth p 2-2*d≠0) (fun k=>6001-k) (0) ⟨by omega,fun j h=>absurd h (Nat.not_lt_zero _)⟩ (Ent.mk (.i rfl zi<|zk) (.nil) rfl) ?_ ?_
   ·rintro k ⟨hk,hR⟩
    refine jn ?_
    have m1:(((k:Int)-3000)*((k:Int)-3000)).natAbs≤3002*3002:=mul_ab zo zo
    have m2:(nth p 3*((k:Int)-3000)).natAbs≤1000*3002:=mul_ab zo zo
    refine jx7 ?_; refine jq ?_ ?_
    ·intro h9
     refine jx5 ?_; refine Tr.draw 15 mixed (by kernel_rfl) ?_; refine jx4 ?_; refine rO (ok_idxN (i:=3) rfl uu rfl uu rfl (fun _=>zo)) rfl rfl ?_; refine jx5 ?_; refine rO (ok_idxN (i:=2) rfl uu rfl uu rfl (fun _=>zo)) rfl rfl ?_; refine jx9 ?_; refine jq ?_ ?_
     ·intro h11
      have hyes:=quad_found hd hcase (a:=(k:Int)-3000) zo
      refine jx12 ?_; exact Rts.res1 (fn:=Tryz.f212) rfl (.b rfl (by rw[hyes])<|.nil)
     ·intro h11
      have hno:((k:Int)-3000)*((k:Int)-3000)-nth p 3*((k:Int)-3000)+nth p 2-2*d≠0:=by omega
      refine jx8 ?_
      exact End.lp (k+1) ⟨by omega,fun j hj=>by by_cases e:j=k; (subst e; exact hno); exact hR j zo⟩ zo (Ent.mk (.i rfl zi<|zk) (.nil) rfl)
    ·intro h9
     replace h9:=Int.not_le.1 h9
     refine jx4 ?_
     exact End.cut (k) (fun j hj=>hR j zo) (Ent.mk (.i rfl zi<|zk) (.nil) rfl)
   ·intro k hE
    refine je ?_; refine jx7 ?_; exact Rts.res1 (fn:=Tryz.f212) rfl (.b rfl (by rw[quad_none hb0 hd hs0 hs2 hs3 (fun a h1 h2=>by have:=hE (a+3000).toNat zo; rw[show (((a+3000).toNat:Nat):Int)-3000=a by omega] at this; exact this)])<|.nil)

theorem ct_divided (p:List Int) (h2:2≤p.length) (h5:p.length≤5) (hs:∀i,(nth p i).natAbs≤1000):Ct Tryz.prog 188 [kRd (eL eI) p] (kB (redB p)):=by
 have hs0:=hs 0
 refine Ct.mk Tryz.func188 rfl Tryz.ntmps188 rfl (fun w J=>?_); refine jx2 ?_; refine jb 1 rfl ?_; refine jx4 ?_; refine Tr.frzB 1 [1] (eL eI) ⟨rfl,trivial⟩ rfl ?_; refine jn ?_; refine jx16 ?_; refine Tr.cnd rfl ?_ ?_
 ·intro h2
  try simp only[decide_eq_true_eq] at h2
  have hr:=redB_f (p:=p) (fun e=>e.1 zo)
  refine jx8 ?_; exact Rts.res1 (fn:=Tryz.f188) rfl (.b rfl (by rw[hr])<|.nil)
 ·intro h2
  try simp only[decide_eq_false_iff_not] at h2
  have hl3:3≤p.length:=by omega
  refine jx3 ?_; refine tO (ok_idxN (i:=0) rfl uu rfl uu rfl (fun _=>zo)) rfl rfl ?_; refine jx5 ?_; refine Tr.cnd rfl ?_ ?_
  ·intro h4
   try simp only[decide_eq_true_eq] at h4
   have hr:=redB_t (p:=p) ⟨by omega,.inl ⟨0,by rw[root_zero zo]; exact h4⟩⟩
   refine jx8 ?_; exact Rts.res1 (fn:=Tryz.f188) rfl (.b rfl (by rw[hr])<|.nil)
  ·intro h4
   try simp only[decide_eq_false_iff_not] at h4
   have hp0:nth p 0≠0:=h4
   have hrp:=red_prog hl3 hp0
   refine jx3 ?_; refine tO (ok_idxN (i:=0) rfl uu rfl uu rfl (fun _=>zo)) rfl rfl ?_; refine jx1 ?_; refine tO (ok_clo (.cons rfl uu<|.nil)) rfl rfl ?_; refine tO (ok_call (fun hp=>ct_divisors (nth p 0) (fun d=>decide (evH p d=0)) hs0 hp0) (.a rfl uu<|.cons rfl uu (fun g u h=>kFnC_clo (fun a ha=>ct_divided1 p a h5 hs (by have:=(dvd_abs ha hp0).2; omega)) g u h)<|.nil)) rfl rfl ?_; refine jx3 ?_; refine Tr.cnd rfl ?_ ?_
   ·intro h6
    have hr:=redB_t (hrp.2 (.inl (dvB_t.1 h6)))
    refine jx8 ?_; exact Rts.res1 (fn:=Tryz.f188) rfl (.b rfl (by rw[hr])<|.nil)
   ·intro h6
    have hn6:¬DvsP (nth p 0) (fun d=>decide (evH p d=0)) ((nth p 0).natAbs+1):=fun e=>by rw[dvB_t.2 e] at h6; cases h6
    refine jx7 ?_; refine Tr.cnd rfl ?_ ?_
    ·intro h8
     try simp only[decide_eq_true_eq] at h8
     have hr:=redB_f (fun e=>(hrp.1 e).elim hn6 (fun e=>by omega))
     refine jx8 ?_; exact Rts.res1 (fn:=Tryz.f188) rfl (.b rfl (by rw[hr])<|.nil)
    ·intro h8
     try simp only[decide_eq_false_iff_not,Int.not_lt] at h8
     have hl5:p.length=5:=by omega
     refine jx6 ?_; refine tO (ok_idxN (i:=0) rfl uu rfl uu rfl (fun _=>zo)) rfl rfl ?_; refine jx1 ?_; refine tO (ok_clo (.cons rfl uu<|.nil)) rfl rfl ?_; refine tO (ok_call (fun hp=>ct_divisors (nth p 0) (quadB p) hs0 hp0) (.a rfl uu<|.cons rfl uu (fun g u h=>kFnC_clo (fun a ha=>ct_dividedQ p a hl5 hs hp0 ha) g u h)<|.nil)) rfl rfl ?_; refine jx4 ?_; exact Rts.res1 (fn:=Tryz.f188) rfl (.b rfl (by rw[Bool.eq_iff_iff,dvB_t]; constructor; (intro e; exact redB_t (hrp.2 (.inr ⟨hl5,e⟩))); (intro e; by_cases e2:RedB p; (exact ((hrp.1 e2).resolve_left hn6).2); (rw[redB_f e2] at e; cases e)))<|.nil)

end Go.Fl

/- Contracts: derivatives and remainders of polynomials. -/
namespace Go.Fl
open Go Go.Proofs
open TrL renaming op→tO
open RunD renaming op→rO
set_option maxRecDepth 100000

theorem drv_take {p:List Int} {k:Nat} (h1:1≤k) (hk:k<p.length):(drv p).take (k-1)++[nth p k*(k:Int)]=(drv p).take k:=by
 obtain ⟨j,rfl⟩:∃j,k=j+1:=⟨k-1,by omega⟩
 rw[Nat.add_sub_cancel,take_succ_nth (xs:=drv p) (by rw[drv_len]; omega),drv_nth zo]
 congr 3
def agI (q ys:List Int) (m k:Nat):List Int:=tab ys.length fun i=>if i<k then nth (agT q (ys.take m)) i else nth ys i
theorem agI_len {q ys:List Int} {m k:Nat}:(agI q ys m k).length=ys.length:=tab_len
theorem agI_zero {q ys:List Int} {m:Nat}:ys=agI q ys m 0:=by
 conv=>lhs; rw[tab_nth (rfl:ys.length=ys.length)]
 exact tab_congr fun i _=>(if_neg (Nat.not_lt_zero _)).symm
theorem agI_at {q ys:List Int} {m k:Nat} (hk:k<ys.length):nth (agI q ys m k) k=nth ys k:=by unfold agI; rw[nth_tab hk,if_neg (Nat.lt_irrefl _)]
theorem agI_set {q ys:List Int} {m k:Nat} {x:Int} (hx:x=nth (agT q (ys.take m)) k):(agI q ys m k).set k x=agI q ys m (k+1):=by
 subst hx
 unfold agI
 rw[tab_set]
 refine tab_congr fun i _=>?_
 by_cases e:i=k
 ·subst e; rw[if_pos rfl,if_pos zo]
 ·rw[if_neg e]
  by_cases h:i<k
  ·rw[if_pos h,if_pos zo]
  ·rw[if_neg h,if_neg zo]
theorem agI_set2 {q ys:List Int} {m k:Nat} {x y:Int} (hx:x=nth (agT q (ys.take m)) k):((agI q ys m k).set k y).set k x=agI q ys m (k+1):=by
 rw[List.set_set]; exact agI_set hx
theorem agI_take {q ys:List Int} {m:Nat} (hm:m≤ys.length):(agI q ys m m).take m=agT q (ys.take m):=by
 have hl:(ys.take m).length=m:=by rw[List.length_take]; omega
 have h1:((agI q ys m m).take m).length=m:=by rw[List.length_take,agI_len]; omega
 refine ext_nth (by rw[h1,agT_len,hl]) fun i hi=>?_
 rw[h1] at hi
 rw[nth_take' hi]
 unfold agI
 rw[nth_tab zo,if_pos hi]
theorem agT_at {q ys:List Int} {m k:Nat} (hm:m≤ys.length) (hk:k<m):nth (agT q (ys.take m)) k=nth ys k*(nth q (q.length-1)*nth q (q.length-1))+(if m-q.length≤k then -(nth ys (m-1)*nth q (q.length-1)*nth q (k-(m-q.length))) else 0):=by
 have hl:(ys.take m).length=m:=by rw[List.length_take]; omega
 unfold agT
 rw[hl,nth_tab hk,nth_take' hk,nth_take' (show m-1<m by omega)]
theorem ag_round {q ys:List Int} {m:Nat} (hm:m≤ys.length):(agI q ys m m).take (trimL ((agI q ys m m).take m)).length=agR q (ys.take m):=by
 rw[agI_take hm]
 have h1:(trimL (agT q (ys.take m))).length≤m:=by
  have:=trim_len (xs:=agT q (ys.take m))
  rw[agT_len,List.length_take] at this
  omega
 have h2:=trim_pre (xs:=agT q (ys.take m))
 rw[← agI_take hm,List.take_take,Nat.min_eq_left (by rw[agI_take hm]; exact h1),agI_take hm] at h2
 exact h2
theorem cut_end {ys:List Int} {m j:Nat} (hm:m≤ys.length) (hj:j≤m) (hR:∀i,j≤i→i<m→nth ys i=0) (hnz:¬(0<j∧nth ys (j-1)=0)):(trimL (ys.take m)).length=j:=by
 have hlm:(ys.take m).length=m:=by rw[List.length_take]; omega
 have:=trim_take (xs:=ys.take m) (m:=j) zo (fun i h1 h2=>by rw[nth_take' zo]; exact hR i h1 zo) (by
  by_cases e:j=0
  ·exact .inl e
  ·exact .inr (by rw[nth_take' zo]; exact fun e2=>hnz ⟨by omega,e2⟩))
 rw[this,List.length_take,List.length_take]; omega
theorem ag_next {p q ys:List Int} {m A B:Nat} (hq1:1≤q.length) (hyl:ys.length=p.length) (hm:m≤p.length) (hqm:q.length≤m) (hag:agF q m (ys.take m)=agF q p.length p) (hyb:∀i,i<m→dl (nth ys i)≤A+(p.length-m)*(2*B+1)) (hB:∀i,dl (nth q i)≤B) :
  (agI q ys m m).length=p.length∧(agR q (ys.take m)).length≤p.length∧agF q (agR q (ys.take m)).length ((agI q ys m m).take (agR q (ys.take m)).length)=agF q p.length p∧∀i,i<(agR q (ys.take m)).length→dl (nth (agI q ys m m) i)≤A+(p.length-(agR q (ys.take m)).length)*(2*B+1):=by
 have htl:(ys.take m).length=m:=by rw[List.length_take]; omega
 have h1:=agR_len hq1 (r:=ys.take m) zo
 have h2:=ag_round (q:=q) (ys:=ys) (m:=m) zo
 rw[agI_take zo] at h2
 have h2':(agI q ys m m).take (agR q (ys.take m)).length=agR q (ys.take m):=h2
 refine ⟨by rw[agI_len,hyl],by omega,?_,fun i hi=>?_⟩
 ·rw[h2',← hag]
  have:=agF_go hq1 (r:=ys.take m) zo
  rw[htl] at this
  exact this.symm
 ·have e:nth (agI q ys m m) i=nth (agT q (ys.take m)) i:=by unfold agI; rw[nth_tab zo,if_pos zo]
  rw[e]
  have q1:=agR_dl (q:=q) (r:=ys.take m) (X:=A+(p.length-m)*(2*B+1)) (fun j=>by
   by_cases hj:j<m
   ·rw[nth_take' hj]; exact hyb j hj
   ·rw[nth_out (by rw[htl]; omega)]; show dl 0≤_; rw[dl_zero.2 rfl]; omega) hB i
  have q2:=Nat.mul_le_mul_right (2*B+1) (show p.length-m+1≤p.length-(agR q (ys.take m)).length by omega)
  rw[Nat.succ_mul] at q2
  omega
def ngI (ys:List Int) (k:Nat):List Int:=tab ys.length fun i=>if i<k then -nth ys i else nth ys i
theorem ngI_zero {ys:List Int}:ys=ngI ys 0:=by
 conv=>lhs; rw[tab_nth (rfl:ys.length=ys.length)]
 exact tab_congr fun i _=>(if_neg (Nat.not_lt_zero _)).symm
theorem ngI_at {ys:List Int} {k:Nat} (hk:k<ys.length):nth (ngI ys k) k=nth ys k:=by unfold ngI; rw[nth_tab hk,if_neg (Nat.lt_irrefl _)]
theorem ngI_set {ys:List Int} {k:Nat} (hk:k<ys.length):(ngI ys k).set k (-nth (ngI ys k) k)=ngI ys (k+1):=by
 rw[ngI_at hk]
 unfold ngI
 rw[tab_set]
 refine tab_congr fun i _=>?_
 by_cases e:i=k
 ·subst e; rw[if_pos rfl,if_pos zo]
 ·rw[if_neg e]
  by_cases h:i<k
  ·rw[if_pos h,if_pos zo]
  ·rw[if_neg h,if_neg zo]
theorem ngI_take {ys:List Int} {m:Nat} (hm:m≤ys.length):(ngI ys m).take m=(ys.take m).map fun z=>-z:=by
 have hl:(ys.take m).length=m:=by rw[List.length_take]; omega
 have h1:((ngI ys m).take m).length=m:=by rw[List.length_take]; unfold ngI; rw[tab_len]; omega
 refine ext_nth (by rw[h1,List.length_map,hl]) fun i hi=>?_
 rw[h1] at hi
 rw[nth_take' hi,nth_neg,nth_take' hi]
 unfold ngI
 rw[nth_tab zo,if_pos hi]
theorem ct_fderived (p:List Int) (h2:2≤p.length) (h5:p.length≤5) (hd:∀i,dl (nth p i)≤1):Ct Tryz.prog 221 [kRd (eL eZ) p] (kRd (eL eZ) (drv p)):=by
 refine Ct.mk Tryz.func221 rfl Tryz.ntmps221 rfl (fun w J=>?_); refine jx18 ?_; refine Tr.grow (s:=3) rfl rfl 33 rfl 160 eZ rfl ?_
 refine Tr.for1 (σ:=Nat) [⟨6,true,_,_⟩,⟨7,true,_,_⟩] [] (fun k=>[⟨3,true,[33],kOsl 33 (k-1)⟩,⟨8,true,[],kI (k:Int)⟩]) (fun k=>[⟨33,[],cArr true 160 eZ ((drv p).take (k-1)) (k-1)⟩]) (fun k=>k≤p.length) (fun k=>k=p.length) (fun k=>p.length-k) (0) zi (Ent.mk (.o rfl zi rfl<|.i rfl zi<|zk) (.a (by rfl) zi<|.nil) rfl) ?_ ?_
 ·intro k hR0
  refine jn ?_
  have hdk:=hd k
  refine jx6 ?_; refine jq ?_ ?_
  ·intro h3
   refine jx9 ?_; refine ja 5 ?_; refine jx10 ?_; refine jq ?_ ?_
   ·intro h5
    refine Tr.draw 6 mixed (by kernel_rfl) ?_; refine jx3 ?_; refine jd (ct_fsmall (k:Int) zo) ?_; refine jd (ct_wtimes (nth p k) (k:Int) zo (by have:=dl_small (F:=(k:Int)) zo zo; omega)) ?_; refine RunD.new (ok_bsl eZ 20 (fun hp=>.cons rfl<|.nil) rfl rfl rfl rfl) rfl rfl rfl rfl ?_; refine jx2 ?_; refine jl ?_; refine jx8 ?_
    exact End.lp (k+1) zi zo (Ent.mk (.o rfl (by simp only[List.length_cons,List.length_nil]; omega) rfl<|.i rfl zi<|zk) (.a (by rw[drv_take zo zo,Nat.add_sub_cancel]) (by simp only[List.length_cons,List.length_nil]; omega)<|.nil) rfl)
   ·intro h5
    replace h5:=Int.not_lt.1 h5
    refine jx7 ?_
    exact End.lp (k+1) zi zo (Ent.mk (.o rfl zo rfl<|.i rfl zi<|zk) (.a (by rw[show k=0 by omega]) zo<|.nil) rfl)
  ·intro h3
   replace h3:=Int.not_lt.1 h3
   refine jx4 ?_
   exact End.cut (k) zo (Ent.mk (.o rfl zi rfl<|.i rfl zi<|zk) (zk) rfl)
 ·rintro k hkn
  refine je ?_
  have htk:(drv p).take (k-1)=drv p:=List.take_of_length_le (by rw[drv_len]; omega)
  refine jx7 ?_; refine Tr.frz 33 [2] ⟨rfl,trivial⟩ (by simp only[lenMax]; omega) rfl ?_; refine jx1 ?_; exact Rts.res1 (fn:=Tryz.f221) rfl (.r rfl (by rw[htk])<|.nil)

theorem ct_fcut (ys:List Int) (m L:Nat) (hl:ys.length=L) (hm:m≤L) (hL:L≤1000000):CtLr Tryz.prog 228 [kOsq 0 2 0 m] (cArr false 160 eZ ys L) (cArr false 160 eZ ys L) (kOsq 0 2 0 (trimL (ys.take m)).length):=by
 refine CtLr.mk Tryz.func228 rfl Tryz.ntmps228 rfl rfl (fun w J bb cap=>?_); refine jn ?_; refine jx5 ?_
 refine Tr.for (σ:=Nat) [⟨522,true,_,_⟩] [⟨0,_,_⟩] (fun j=>[⟨0,true,[0],kOsq 0 2 0 j⟩]) (fun j=>[]) (fun j=>j≤m∧∀i,j≤i→i<m→nth ys i=0) (fun j=>(trimL (ys.take m)).length=j) (fun j=>j) (m) ⟨Nat.le_refl _,fun i h1 h2=>by omega⟩ (Ent.mk (.q rfl zi zi rfl<|zk) (zk) rfl) ?_ ?_
 ·rintro j ⟨hj,hR⟩
  refine jn ?_; refine jx4 ?_; refine tO (ok_lenQ rfl uu) rfl rfl ?_; refine jx4 ?_; refine TrL.gd rfl rfl rfl (ok_lenQ rfl id) rfl rfl ?_; refine TrL.gd rfl rfl rfl (ok_sub rfl id rfl uu (fun hp=>by simp at hp; omega)) rfl rfl ?_; refine TrL.gd rfl rfl rfl (ok_idxQw L rfl id rfl id (fun hp=>by simp at hp; omega)) rfl rfl ?_; refine TrL.gd rfl rfl rfl (ok_ldEA rfl id rfl rfl rfl rfl) rfl rfl ?_; refine TrL.gd rfl rfl rfl (ok_call (fun hp=>ct_wsign (nth ys (0+((j:Int)-1).toNat))) (.a rfl id<|.nil)) rfl rfl ?_; refine jx4 ?_; refine Tr.cnd rfl ?_ ?_
  ·intro h1
   try simp only[decide_eq_true_eq,Bool.and_eq_true] at h1
   have hz:0<j∧nth ys (j-1)=0:=⟨by omega,by have:=cmpZ_z.1 h1.2; rwa [show 0+((j:Int)-1).toNat=j-1 by omega] at this⟩
   refine jx6 ?_; refine tO (ok_lenQ rfl uu) rfl rfl ?_; refine jx1 ?_; refine tO (ok_slQh rfl uu rfl uu (fun _=>zo)) rfl rfl ?_; refine jx3 ?_; exact End.lp (j-1) ⟨by omega,fun i h1 h2=>by by_cases e:i=j-1; (rw[e]; exact hz.2); exact hR i zo h2⟩ zo (Ent.mk (.q rfl rfl zo rfl<|zk) (zk) rfl)
  ·intro h1
   try simp only[decide_eq_true_eq,decide_eq_false_iff_not,Bool.and_eq_false_imp] at h1
   have hnz:¬(0<j∧nth ys (j-1)=0):=fun ⟨q1,q2⟩=>h1 zo (cmpZ_z.2 (by rw[show 0+((j:Int)-1).toNat=j-1 by omega]; exact q2))
   refine jx4 ?_
   exact End.cut (j) (cut_end zo hj hR hnz) (Ent.mk (.q rfl zi zi rfl<|zk) (zk) rfl)
 ·intro j hE
  refine jn ?_; refine jx7 ?_; exact Rts.loanR (fn:=Tryz.f228) (s:=522) (t:=2) rfl rfl rfl (fun _ _ h=>cArr_go rfl h) (fun _ _ hm h=>osq_back hm ((by rw[hE]; exact h)))

theorem ct_cloneP (p:List Int) (hn:p.length≤1000000):CtN Tryz.prog 227 [kRd (eL eZ) p] (fun t=>kOsl t p.length) (cArr false 160 eZ p p.length):=by
 refine CtN.mk Tryz.func227 rfl Tryz.ntmps227 rfl (fun w J=>?_); refine jx9 ?_; refine tO (ok_eqlNilJ rfl uu) rfl rfl ?_; refine jx2 ?_; refine Tr.exB (s:=4) rfl (fun b1 q1=>?_); refine Tr.cnd rfl ?_ ?_
 ·intro h1
  have he1:[]=p:=(q1 h1).symm
  have he2:0=p.length:=by rw[← he1]; rfl
  refine jx5 ?_; refine Tr.grow (s:=2) rfl rfl 9 rfl 160 eZ rfl ?_; refine jx2 ?_
  exact Rts.resN (fn:=Tryz.f227) (u:=9) rfl rfl (arr_res zi zi) (osl_res zi) inferInstance
 ·intro h1
  refine jx4 ?_; refine TrL.new (ok_bsl0 eZ 5) rfl rfl rfl rfl ?_; refine jx2 ?_; refine jl ?_; refine jx4 ?_
  exact Rts.resN (fn:=Tryz.f227) (u:=5) rfl rfl (arr_res zi zi) (osl_res zi) inferInstance

set_option maxHeartbeats 2000000 in
theorem ct_fagainst (p q:List Int) (A B:Nat) (hp1:1≤p.length) (h5:p.length≤5) (hq1:1≤q.length) (hq5:q.length≤5) (hA:∀i,dl (nth p i)≤A) (hB:∀i,dl (nth q i)≤B) (hA2:A≤10000) (hB2:B≤10000):Ct Tryz.prog 222 [kRd (eL eZ) p,kRd (eL eZ) q] (kRd (eL eZ) (against p q)):=by
 have hqt:((q.length:Int)-1).toNat=q.length-1:=by omega
 have hBt:=hB (q.length-1)
 have hBt2:=dl_mul (nth q (q.length-1)) (nth q (q.length-1))
 refine Ct.mk Tryz.func222 rfl Tryz.ntmps222 rfl (fun w J=>?_); refine jx8 ?_; refine TrL.new (ok_callN 13 (fun hp=>ct_cloneP _ zo) (.a rfl uu<|.nil)) rfl rfl rfl rfl ?_; refine jx10 ?_
 rw[hqt]
 refine jx1 ?_; refine ja 6 ?_; refine jx7 ?_; refine jc (ct_wtimes (nth q (q.length-1)) (nth q (q.length-1)) zo zo) ?_; refine ja 7 ?_; refine jx3 ?_; refine Tr.osq 5 2 rfl zo ?_
 refine Tr.for (σ:=List Int×Nat) [⟨1,true,_,_⟩,⟨6,true,_,_⟩,⟨7,true,_,_⟩] [⟨6,_,_⟩,⟨7,_,_⟩] (fun (ys,m)=>[⟨5,true,[13],kOsq 13 2 0 m⟩]) (fun (ys,m)=>[⟨13,[],cArr false 160 eZ ys p.length⟩]) (fun (ys,m)=>ys.length=p.length∧m≤p.length∧agF q m (ys.take m)=agF q p.length p∧∀i,i<m→dl (nth ys i)≤A+(p.length-m)*(2*B+1)) (fun (ys,m)=>ys.length=p.length∧m≤p.length∧ys.take m=agF q p.length p) (fun (ys,m)=>m) ((p,p.length)) ⟨rfl,Nat.le_refl _,by rw[List.take_length],fun i _=>by have:=hA i; omega⟩ (Ent.mk (.q rfl zi zi rfl<|zk) (zk) rfl) ?_ ?_
 ·rintro ⟨ys,m⟩ ⟨hyl,hm,hag,hyb⟩
  refine jn ?_
  have htl:(ys.take m).length=m:=by rw[List.length_take]; omega
  have hmB:(p.length-m)*(2*B+1)≤5*20001:=Nat.mul_le_mul zo zo
  refine jx4 ?_; refine tO (ok_lenQ rfl uu) rfl rfl ?_; refine jx5 ?_; refine jq ?_ ?_
  ·intro h4
   refine jx4 ?_; refine Tr.draw 9 mixed (by kernel_rfl) ?_; refine jx2 ?_; refine rO (ok_lenQ rfl uu) rfl rfl ?_; refine jx1 ?_; refine rO (ok_idxQw p.length rfl uu rfl uu (fun _=>zo)) rfl rfl ?_; refine rO (ok_ldEA rfl uu rfl rfl rfl rfl) rfl rfl ?_; refine jx1 ?_; refine jd (ct_wtimes (nth ys (0+((m:Int)-1).toNat)) (nth q (q.length-1)) (by have h:=hyb (m-1) zo; rw[show 0+((m:Int)-1).toNat=m-1 by omega]; omega) zo) ?_; refine RunD.new (ok_alloc 8) rfl rfl rfl rfl ?_; refine jx7 ?_; refine tO (ok_lenQ rfl uu) rfl rfl ?_; refine jx10 ?_
   refine tO (ok_lenQ rfl uu) rfl rfl ?_; refine jx3 ?_
   refine Tr.for1 (σ:=Nat) [⟨1,true,_,_⟩,⟨5,true,_,_⟩,⟨6,true,_,_⟩,⟨7,true,_,_⟩,⟨8,true,_,_⟩,⟨9,true,_,_⟩,⟨42,true,_,_⟩] [⟨6,_,_⟩,⟨7,_,_⟩,⟨8,_,_⟩] (fun k=>[⟨43,true,[],kI (k:Int)⟩]) (fun k=>[⟨13,[],cArr false 160 eZ (agI q ys m k) p.length⟩]) (fun k=>k≤m) (fun k=>k=m) (fun k=>m-k) (0) zi (Ent.mk (.i rfl zi<|zk) (.a agI_zero zi<|zk) rfl) ?_ ?_
   ·intro k hR1
    refine jn ?_
    have hyk:=fun (h:k<m)=>hyb k h
    have hat:=fun (h:k<ys.length)=>agI_at (q:=q) (ys:=ys) (m:=m) h
    have hst:=fun (h:k<m) (x:Int)=>(show nth ((agI q ys m k).set k x) k=x by rw[nth_set (by rw[agI_len]; omega),if_pos rfl])
    refine jx6 ?_; refine jq ?_ ?_
    ·intro h8
     refine jx11 ?_; refine Tr.draw 8 mixed (by kernel_rfl) ?_; refine jx4 ?_; refine rO (ok_idxQw p.length rfl uu rfl uu (fun _=>zo)) rfl rfl ?_; refine rO (ok_ldEA rfl uu rfl rfl rfl rfl) rfl rfl ?_; refine jx1 ?_; refine jd (ct_wtimes (nth (agI q ys m k) (0+(k:Int).toNat)) ((nth q (q.length-1))*(nth q (q.length-1))) (by rw[show 0+(k:Int).toNat=k by omega,hat zo]; have:=hyk zo; omega) zo) ?_; refine jx1 ?_; refine tO (ok_idxQw p.length rfl uu rfl uu (fun _=>zo)) rfl rfl ?_; refine jx10 ?_; refine jq ?_ ?_
     ·intro h11
      refine Tr.draw 16 mixed (by kernel_rfl) ?_; refine jx4 ?_; refine rO (ok_idxQw p.length rfl uu rfl uu (fun _=>zo)) rfl rfl ?_; refine rO (ok_ldEA rfl uu rfl rfl rfl rfl) rfl rfl ?_; refine jx7 ?_; refine rO (ok_call (fun hp=>ct_wtimes (nth ys (0+((m:Int)-1).toNat)*(nth q (q.length-1))) (nth q ((k:Int)-((m:Int)-(q.length:Int))).toNat) (by have h:=hyb (m-1) zo; rw[show 0+((m:Int)-1).toNat=m-1 by omega]; have h2:=dl_mul (nth ys (m-1)) (nth q (q.length-1)); omega) (Nat.le_trans (hB _) zo)) (.se rfl uu rfl rfl<|.a rfl uu<|.nil)) rfl rfl ?_
      refine jd (ct_wminus (nth ys (0+((m:Int)-1).toNat)*(nth q (q.length-1))*nth q ((k:Int)-((m:Int)-(q.length:Int))).toNat)) ?_; refine rO (ok_call (fun hp=>ct_wplus _ _ (by rw[show 0+(k:Int).toNat=k by omega,hst zo,hat zo]; have:=hyk zo; have h2:=dl_mul (nth ys k) (nth q (q.length-1)*nth q (q.length-1)); omega) (by rw[dl_neg,show 0+((m:Int)-1).toNat=m-1 by omega]; have h:=hyb (m-1) zo; have h2:=dl_mul (nth ys (m-1)) (nth q (q.length-1)); have h3:=dl_mul (nth ys (m-1)*nth q (q.length-1)) (nth q ((k:Int)-((m:Int)-(q.length:Int))).toNat); have h4:=hB ((k:Int)-((m:Int)-(q.length:Int))).toNat; omega)) (.a rfl uu<|.a rfl uu<|.nil)) rfl rfl ?_
      refine jx1 ?_; refine tO (ok_idxQw p.length rfl uu rfl uu (fun _=>zo)) rfl rfl ?_; refine jx8 ?_
      exact End.lp (k+1) zi zo (Ent.mk (.i rfl zi<|zk) (.a (by rw[show 0+(k:Int).toNat=k by omega,hst zo,hat zo,show 0+((m:Int)-1).toNat=m-1 by omega,show ((k:Int)-((m:Int)-(q.length:Int))).toNat=k-(m-q.length) by omega]; exact agI_set2 (by rw[agT_at zo zo,if_pos zo])) zi<|zk) rfl)
     ·intro h11
      replace h11:=Int.not_le.1 h11
      refine jx7 ?_
      exact End.lp (k+1) zi zo (Ent.mk (.i rfl zi<|zk) (.a (by rw[show 0+(k:Int).toNat=k by omega,hat zo]; exact agI_set (by rw[agT_at zo zo,if_neg zo,Int.add_zero])) zi<|zk) rfl)
    ·intro h8
     replace h8:=Int.not_lt.1 h8
     refine jx4 ?_
     exact End.cut (k) zo (Ent.mk (.i rfl zi<|zk) (zk) rfl)
   ·rintro k hkm
    refine je ?_; refine jx3 ?_; refine TrL.loanR (u:=13) (ct_fcut (agI q ys m m) m p.length (by rw[agI_len]; omega) zo zo) (.a rfl<|.nil) zo (by rw[hkm]) rfl ?_; refine jx3 ?_; exact End.lp ((agI q ys m m,(agR q (ys.take m)).length)) (ag_next hq1 hyl hm zo hag hyb hB) (by have:=agR_len hq1 (r:=ys.take m) zo; show (agR q (ys.take m)).length<m; omega) (Ent.mk (.q rfl rfl (by rw[agI_take zo]; rfl) rfl<|zk) (zk) rfl)
  ·intro h4
   replace h4:=Int.not_le.1 h4
   refine jx4 ?_
   exact End.cut ((ys,m)) ⟨hyl,hm,by rw[← hag]; have:=agF_end (q:=q) (r:=ys.take m) zo; rw[htl] at this; exact this.symm⟩ (Ent.mk (.q rfl zi zi rfl<|zk) (zk) rfl)
 ·rintro ⟨ys,m⟩ ⟨hyl,hm,hag⟩
  refine jn ?_
  have htl:(ys.take m).length=m:=by rw[List.length_take]; omega
  refine jx4 ?_; refine tO (ok_lenQ rfl uu) rfl rfl ?_; refine jx3 ?_
  refine Tr.for1 (σ:=Nat) [⟨5,true,_,_⟩,⟨79,true,_,_⟩] [] (fun k=>[⟨80,true,[],kI (k:Int)⟩]) (fun k=>[⟨13,[],cArr false 160 eZ (ngI ys k) p.length⟩]) (fun k=>k≤m) (fun k=>k=m) (fun k=>m-k) (0) zi (Ent.mk (.i rfl zi<|zk) (.a ngI_zero zi<|.nil) rfl) ?_ ?_
  ·intro k hR2
   refine jn ?_; refine jx6 ?_; refine jq ?_ ?_
   ·intro h16
    refine jx15 ?_; refine tO (ok_idxQw p.length rfl uu rfl uu (fun _=>zo)) rfl rfl ?_; refine tO (ok_ldEA rfl uu rfl rfl rfl rfl) rfl rfl ?_; refine jc (ct_wminus (nth (ngI ys k) (0+(k:Int).toNat))) ?_; refine tO (ok_idxQw p.length rfl uu rfl uu (fun _=>zo)) rfl rfl ?_; refine jx8 ?_
    exact End.lp (k+1) zi zo (Ent.mk (.i rfl zi<|zk) (.a (by rw[show 0+(k:Int).toNat=k by omega]; exact ngI_set zo) zi<|.nil) rfl)
   ·intro h16
    replace h16:=Int.not_lt.1 h16
    refine jx4 ?_
    exact End.cut (k) zo (Ent.mk (.i rfl zi<|zk) (zk) rfl)
  ·rintro k hkm2
   refine je ?_; refine jx4 ?_; refine TrL.frzQ 13 [92] ⟨rfl,trivial⟩ ⟨by omega,by simp only[lenMax]; omega⟩ rfl ?_; refine jl ?_; refine jx4 ?_; exact Rts.res1 (fn:=Tryz.f222) rfl (.r rfl (by unfold against; rw[← hag,hkm2,ngI_take zo])<|.nil)

end Go.Fl

/- Contracts: roots between two fractions, fields. -/
namespace Go.Fl
open Go Go.Proofs
open TrL renaming op→tO
open RunD renaming op→rO
set_option maxRecDepth 100000

def oneB (f:FdT):Bool:=if f.1.length=2 then decide (f.2.1≤-nth f.1 0*f.2.2.2∧-nth f.1 0*f.2.2.2≤f.2.2.1) else decide (((chg (sgCh f.1 f.2.1 f.2.2.2)).1:Int)-(chg (sgCh f.1 f.2.2.1 f.2.2.2)).1=1)
noncomputable def chkF (f:FdT):Int :=
 if ¬(2≤f.1.length∧f.1.length≤5) then 10
 else if f.1.any outCf=true then 2
 else if ¬((1≤f.2.2.2∧f.2.2.2≤1000000)∧(-1000000≤f.2.1∧f.2.1≤1000000)∧(-1000000≤f.2.2.1∧f.2.2.1≤1000000)) then 2
 else if nth f.1 (f.1.length-1)≠1∨redB f.1=true then 3
 else if f.2.1>f.2.2.1 then 9
 else if oneB f=false then 11 else 0
theorem chg_sn (l:List Int) (h:∀s∈l,-1≤s∧s≤1):-1≤(chg l).2∧(chg l).2≤1:=by
 have key:∀(l:List Int) (st:Nat×Int),(∀s∈l,-1≤s∧s≤1)→(-1≤st.2∧st.2≤1)→-1≤(l.foldl chgS st).2∧(l.foldl chgS st).2≤1:=by
  intro l
  induction l with
  | nil=>intro st _ h; exact h
  | cons s l ih =>
   intro st h1 h2
   rw[List.foldl_cons]
   refine ih _ (fun x hx=>h1 x (List.mem_cons_of_mem _ hx)) ?_
   have:=h1 s List.mem_cons_self
   unfold chgS; simp only; split<;>assumption
 exact key l (0,0) h (by decide)
theorem mul_one3 {s l:Int} (h1:-1≤s∧s≤1) (h2:-1≤l∧l≤1):-1≤s*l∧s*l≤1:=by
 rcases (show s=-1∨s=0∨s=1 by omega) with rfl | rfl | rfl<;>omega
theorem outCf_ok {p:List Int} (h:p.any outCf≠true) (i:Nat):(nth p i).natAbs≤1000:=by
 by_cases hi:i<p.length
 ·have:=List.any_eq_false.1 (by simpa using h) (nth p i) (nth_mem hi)
  unfold outCf at this
  simp at this
  omega
 ·rw[nth_out zo]; show (0:Int).natAbs≤_; omega
theorem nth_takeG {α:Type} [Inhabited α] {xs:List α} {i k:Nat} (h:i<k):nth (xs.take k) i=nth xs i:=by simp[nth,List.getD,h]
theorem ct_roots1 (a d:Int) (ch:List (List Int)) (ha:-1000000≤a∧a≤1000000) (hd:1≤d∧d≤1000000) (hl:ch.length≤5) (hc:∀j,j<ch.length→(nth ch j).length≤5∧∀i,dl (nth (nth ch j) i)≤1681):Ct Tryz.prog 223 [kI a,kPtr (eL (eL eZ)) ch,kPtr eI d] (kI ((chg (ch.map fun q=>sgn (hvP a d q).1)).1:Int)):=by
 obtain ⟨sl,hsl⟩:∃sl,sl=(ch.map fun q=>sgn (hvP a d q).1):=⟨_,rfl⟩
 have hll:sl.length=ch.length:=by rw[hsl,List.length_map]
 have hsn:∀j,j<ch.length→nth sl j=sgn (hvP a d (nth ch j)).1:=fun j hj=>by rw[hsl]; simp[nth,hj]
 have hsb:∀s∈sl,-1≤s∧s≤1:=fun s hs=>by rw[hsl] at hs; obtain ⟨q,_,rfl⟩:=List.mem_map.1 hs; exact sgn_bd _
 have hcle:=fun k=>chg_le (l:=sl.take k)
 have htk:∀k,(sl.take k).length≤5:=fun k=>by rw[List.length_take]; omega
 rw[← hsl]
 have had:=dl_small (F:=d) zo zo
 have haa:dl a≤1:=dl_le (by simp[BP]; omega)
 refine Ct.mk Tryz.func223 rfl Tryz.ntmps223 rfl (fun w J=>?_); refine jx19 ?_
 refine Tr.for1 (σ:=Nat) [⟨0,true,_,_⟩,⟨2,true,_,_⟩,⟨10,true,_,_⟩,⟨11,true,_,_⟩] [] (fun k=>[⟨5,true,[],kI ((chg (sl.take k)).1:Int)⟩,⟨6,true,[],kI (chg (sl.take k)).2⟩,⟨12,true,[],kI (k:Int)⟩]) (fun k=>[]) (fun k=>k≤ch.length) (fun k=>k=ch.length) (fun k=>ch.length-k) (0) zi (Ent.mk (.i rfl (by rfl)<|.i rfl (by rfl)<|.i rfl zi<|zk) (.nil) rfl) ?_ ?_
 ·intro k hR0
  refine jn ?_
  have hck:=fun (h:k<ch.length)=>hc k h
  have hcs:=fun (h:k<ch.length)=>chg_succ (l:=sl) (k:=k) zo
  have hsk:=fun (h:k<ch.length)=>hsn k h
  have hb1:=sgn_bd (hvP a d (nth ch k)).1
  have hb2:=chg_sn (sl.take k) (fun s hs=>hsb s (List.mem_of_mem_take hs))
  have hb3:=mul_one3 hb1 hb2
  have hb4:=hcle k
  have hb5:=htk k
  refine jx6 ?_; refine jq ?_ ?_
  ·intro h3
   refine jx12 ?_; refine Tr.draw 5 mixed (by kernel_rfl) ?_
   replace hck:=hck zo
   refine jx2 ?_; refine jd (ct_fsmall a zo) ?_; refine jx1 ?_; refine jd (ct_fsmall d zo) ?_; refine jx1 ?_; refine jc (ct_signAt (nth ch k) a d 1 1681 zo hck.2 haa had zo zo) ?_; refine jx12 ?_; refine jq ?_ ?_
   ·intro h6
    refine jx12 ?_; refine jq ?_ ?_
    ·intro h8
     refine jx10 ?_
     exact End.lp (k+1) zi zo (Ent.mk (.i rfl (by rw[hcs zo,hsk zo]; unfold chgS; simp only; split<;>omega)<|.i rfl (by rw[hcs zo,hsk zo]; unfold chgS; simp only; split<;>omega)<|.i rfl zi<|zk) (.nil) rfl)
    ·intro h8
     replace h8:=Classical.not_not.1 h8
     refine jx7 ?_
     exact End.lp (k+1) zi zo (Ent.mk (.i rfl (by rw[hcs zo,hsk zo]; unfold chgS; simp only; split<;>omega)<|.i rfl (by rw[hcs zo,hsk zo]; unfold chgS; simp only; split<;>omega)<|.i rfl zi<|zk) (.nil) rfl)
   ·intro h6
    replace h6:=Int.not_lt.1 h6
    refine jx8 ?_; refine jq ?_ ?_
    ·intro h8
     refine jx10 ?_
     exact End.lp (k+1) zi zo (Ent.mk (.i rfl (by rw[hcs zo,hsk zo]; unfold chgS; simp only; split<;>omega)<|.i rfl (by rw[hcs zo,hsk zo]; unfold chgS; simp only; split<;>omega)<|.i rfl zi<|zk) (.nil) rfl)
    ·intro h8
     replace h8:=Classical.not_not.1 h8
     refine jx7 ?_
     exact End.lp (k+1) zi zo (Ent.mk (.i rfl (by rw[hcs zo,hsk zo]; unfold chgS; simp only; split<;>omega)<|.i rfl (by rw[hcs zo,hsk zo]; unfold chgS; simp only; split<;>omega)<|.i rfl zi<|zk) (.nil) rfl)
  ·intro h3
   replace h3:=Int.not_lt.1 h3
   refine jx4 ?_
   exact End.cut (k) zo (Ent.mk (.i rfl zi<|.i rfl zi<|.i rfl zi<|zk) (.nil) rfl)
 ·rintro k hkn
  refine je ?_
  have htl:sl.take k=sl:=List.take_of_length_le zo
  refine jx8 ?_; exact Rts.res1 (fn:=Tryz.f223) rfl (.i rfl (by rw[htl])<|.nil)

set_option maxHeartbeats 1000000 in
theorem ct_froots (p:List Int) (lo hi d:Int) (h3':3≤p.length) (h5':p.length≤5) (h1':nth p (p.length-1)=1) (hs:∀i,(nth p i).natAbs≤1000) (hlo:-1000000≤lo∧lo≤1000000) (hhi:-1000000≤hi∧hi≤1000000) (hd:1≤d∧d≤1000000):Ct Tryz.prog 213 [kRd (eL eZ) p,kI lo,kI hi,kI d] (kI (((chg (sgCh p lo d)).1:Int)-(chg (sgCh p hi d)).1)):=by
 have hdd:=(drv_dl h3' h5' h1' hs).1
 have hL5:=chS_len h3' h5' h1' hs
 have hel:=fun (j:Nat) (hj:j<(chS p).length)=>chS_el h3' h5' h1' hs hj
 have hne:=fun (j:Nat) (hj:j<(chS p).length)=>List.length_pos_iff.2 (chS_ne h3' h5' h1' hj)
 have hL2:2≤(chS p).length:=by unfold chS; simp
 have hcl:∀a:Int,(chg (sgCh p a d)).1≤5:=fun a=>by have:=chg_le (l:=sgCh p a d); unfold sgCh at this ⊢; rw[List.length_map] at this; omega
 have hc1:(chg ((chS p).map fun q=>sgn (hvP lo d q).1)).1≤5:=hcl lo
 have hc2:(chg ((chS p).map fun q=>sgn (hvP hi d q).1)).1≤5:=hcl hi
 refine Ct.mk Tryz.func213 rfl Tryz.ntmps213 rfl (fun w J=>?_); refine jx2 ?_; refine jb 7 rfl ?_; refine jx7 ?_; refine jc (ct_fderived p zo h5' hdd) ?_; refine TrL.new (ok_bsl (eL eZ) 15 (fun hp=>.cons rfl<|.cons rfl<|.nil) rfl rfl rfl rfl) rfl rfl rfl rfl ?_; refine ja 9 ?_; refine jx3 ?_
 refine Tr.for (σ:=Nat) [⟨1,true,_,_⟩,⟨2,true,_,_⟩,⟨7,true,_,_⟩,⟨9,true,_,_⟩] [⟨7,_,_⟩] (fun m=>[]) (fun m=>[⟨9,[15],cBlk [kOsl 15 m]⟩,⟨15,[],cArr false 193 (eL eZ) ((chS p).take m) m⟩]) (fun m=>2≤m∧m≤(chS p).length) (fun m=>m=(chS p).length) (fun m=>(chS p).length-m) (2) ⟨Nat.le_refl _,hL2⟩ (Ent.mk (zk) (.k rfl<|.a (by rfl) zi<|zk) rfl) ?_ ?_
 ·intro m hR0
  refine jn ?_
  have hX:nth ((chS p).take m) ((m:Int)-2).toNat=nth (chS p) (m-2):=by rw[show ((m:Int)-2).toNat=m-2 by omega]; exact nth_takeG zo
  have hY:nth ((chS p).take m) ((m:Int)-1).toNat=nth (chS p) (m-1):=by rw[show ((m:Int)-1).toNat=m-1 by omega]; exact nth_takeG zo
  refine jx2 ?_; refine Tr.draw 12 mixed (by kernel_rfl) ?_; refine jx2 ?_; refine rO (ok_lenO rfl uu) rfl rfl ?_; refine jx3 ?_
  rw[hX]
  refine jx2 ?_; refine rO (ok_lenO rfl uu) rfl rfl ?_; refine jx3 ?_
  rw[hY]
  refine jx1 ?_; refine tO (ok_call (fun hp=>ct_fagainst (nth (chS p) (m-2)) (nth (chS p) (m-1)) 1681 1681 (hne _ zo) (by have:=(hel (m-2) zo).2.1; omega) (hne _ zo) (by have:=(hel (m-1) zo).2.1; omega) (hel _ zo).2.2 (hel _ zo).2.2 zo zo) (.a rfl uu<|.a rfl uu<|.nil)) rfl rfl ?_; refine jx11 ?_; refine jq ?_ ?_
  ·intro h3
   have hmL:m=(chS p).length:=Classical.byContradiction fun e=>by have hq:=chS_next h3' h5' h1' hR0.1 hR0.2; rw[if_pos zo] at hq; have:=List.length_pos_iff.2 (hq.2 zo); rw[← hq.1] at this; omega
   refine jx5 ?_; exact End.cut (m) hmL (Ent.mk (zk) (zk) rfl)
  ·intro h3
   have hq:=chS_next h3' h5' h1' hR0.1 hR0.2
   have hmL:m<(chS p).length:=Classical.byContradiction fun e=>by rw[if_neg e] at hq; rw[hq.1] at h3; exact h3 rfl
   rw[if_pos hmL] at hq
   rw[hq.1]
   refine jx5 ?_; refine TrL.new (ok_bsl (eL eZ) 34 (fun hp=>.cons rfl<|.nil) rfl rfl rfl rfl) rfl rfl rfl rfl ?_; refine TrL.wkC 9 (.any<|.nil) rfl ?_; refine jx1 ?_; refine jl ?_; refine jx3 ?_
   exact End.lp (m+1) zi zo (Ent.mk (zk) (.e (by rfl) rfl<|.a (by rw[take_succ_nth hmL]) zi<|zk) rfl)
 ·rintro m hmL
  refine jn ?_
  have htk:(chS p).take m=chS p:=by rw[hmL,List.take_length]
  rw[htk]
  refine jx1 ?_; refine Tr.frzC 15 9 (by simp only[lenMax]; omega) rfl rfl ?_; refine jn ?_; refine Tr.frzB 9 [9] (eL (eL eZ)) ⟨rfl,trivial⟩ rfl ?_; refine Tr.frzB 7 [7] eI ⟨rfl,trivial⟩ rfl ?_; refine jn ?_; refine jx1 ?_; refine tO (ok_clo (.cons rfl uu<|.cons rfl uu<|.nil)) rfl rfl ?_; refine jx7 ?_; refine tO (ok_callK rfl uu (fun hp=>ct_roots1 lo d (chS p) hlo hd hL5 (fun j hj=>⟨by have:=(hel j hj).2.1; omega,(hel j hj).2.2⟩)) (.a rfl uu<|.nil)) rfl rfl ?_; refine jx2 ?_; refine tO (ok_callK rfl uu (fun hp=>ct_roots1 hi d (chS p) hhi hd hL5 (fun j hj=>⟨by have:=(hel j hj).2.1; omega,(hel j hj).2.2⟩)) (.a rfl uu<|.nil)) rfl rfl ?_
  refine jx5 ?_; exact Rts.res1 (fn:=Tryz.f213) rfl (.i rfl (by rfl)<|.nil)

theorem ct_fone (f:FdT) (h2':2≤f.1.length) (h5':f.1.length≤5) (h1':nth f.1 (f.1.length-1)=1) (hs:∀i,(nth f.1 i).natAbs≤1000) (hd:1≤f.2.2.2∧f.2.2.2≤1000000) (hlo:-1000000≤f.2.1∧f.2.1≤1000000) (hhi:-1000000≤f.2.2.1∧f.2.2.1≤1000000):Ct Tryz.prog 189 [kRd eFd f] (kB (oneB f)):=by
 have hm0:(-nth f.1 0*f.2.2.2).natAbs≤1000*1000000:=mul_ab (by rw[Int.natAbs_neg]; exact hs 0) zo
 have hs0:=hs 0
 have hf:∀i,-9223372036854775808≤nth f.1 i∧nth f.1 i≤9223372036854775807:=fun i=>by have:=hs i; omega
 refine Ct.mk Tryz.func189 rfl Tryz.ntmps189 rfl (fun w J=>?_); refine jx2 ?_; refine jb 1 rfl ?_; refine jx5 ?_; refine Tr.frzB 1 [1] eFd (x:=f) ⟨rfl,trivial⟩ rfl ?_; refine jn ?_; refine jx7 ?_; refine jq ?_ ?_
 ·intro h1
  have hb:oneB f=decide (f.2.1≤-nth f.1 0*f.2.2.2∧-nth f.1 0*f.2.2.2≤f.2.2.1):=if_pos zo
  refine jx1 ?_; refine Tr.draw 12 mixed (by kernel_rfl) ?_; refine jx2 ?_; refine rO (ok_idxN (i:=0) rfl uu rfl uu rfl (fun _=>zo)) rfl rfl ?_; refine jx1 ?_; refine rO (ok_neg rfl uu (fun _=>zo)) rfl rfl ?_; refine jx8 ?_; refine tO (ok_call (fun hp=>ct_between _ _ _) (.a rfl uu<|.a rfl uu<|.a rfl uu<|.nil)) rfl rfl ?_; refine jx5 ?_; exact Rts.res1 (fn:=Tryz.f189) rfl (.b rfl (by rw[hb])<|.nil)
 ·intro h1
  have hb:oneB f=decide (((chg (sgCh f.1 f.2.1 f.2.2.2)).1:Int)-(chg (sgCh f.1 f.2.2.1 f.2.2.2)).1=1):=if_neg zo
  refine jx3 ?_; refine Tr.draw 8 mixed (by kernel_rfl) ?_; refine jx1 ?_; refine jd (ct_polyOf f hf zo) ?_; refine jx7 ?_; refine jc (ct_froots f.1 f.2.1 f.2.2.1 f.2.2.2 zo h5' h1' hs hlo hhi hd) ?_; refine jx5 ?_; exact Rts.res1 (fn:=Tryz.f189) rfl (.b rfl (by rw[hb])<|.nil)

end Go.Fl

/- Contracts: errors of fields, opening. -/
namespace Go.Fl
open Go Go.Proofs
open TrL renaming op→tO
open RunD renaming op→rO
set_option maxRecDepth 100000

theorem chkF_0 {f:FdT} (h:chkF f=0):((2≤f.1.length∧f.1.length≤5)∧(∀i,(nth f.1 i).natAbs≤1000)∧((1≤f.2.2.2∧f.2.2.2≤1000000)∧(-1000000≤f.2.1∧f.2.1≤1000000)∧(-1000000≤f.2.2.1∧f.2.2.1≤1000000)))∧nth f.1 (f.1.length-1)=1∧redB f.1=false∧f.2.1≤f.2.2.1∧oneB f=true:=by
 unfold chkF at h
 by_cases c1:2≤f.1.length∧f.1.length≤5
 ·rw[if_neg (fun e=>e c1)] at h
  by_cases c2:f.1.any outCf=true
  ·rw[if_pos c2] at h; exact absurd h (by decide)
  ·rw[if_neg c2] at h
   by_cases c3:(1≤f.2.2.2∧f.2.2.2≤1000000)∧(-1000000≤f.2.1∧f.2.1≤1000000)∧(-1000000≤f.2.2.1∧f.2.2.1≤1000000)
   ·rw[if_neg (fun e=>e c3)] at h
    by_cases c4:nth f.1 (f.1.length-1)≠1∨redB f.1=true
    ·rw[if_pos c4] at h; exact absurd h (by decide)
    ·rw[if_neg c4] at h
     by_cases c5:f.2.1>f.2.2.1
     ·rw[if_pos c5] at h; exact absurd h (by decide)
     ·rw[if_neg c5] at h
      by_cases c6:oneB f=false
      ·rw[if_pos c6] at h; exact absurd h (by decide)
      ·refine ⟨⟨c1,outCf_ok c2,c3⟩,Classical.byContradiction fun e=>c4 (.inl e),?_,by omega,by simpa using c6⟩
       cases hr:redB f.1 with
       | false=>rfl
       | true=>exact absurd (.inr hr) c4
   ·rw[if_pos c3] at h; exact absurd h (by decide)
 ·rw[if_pos c1] at h; exact absurd h (by decide)
def ivF (f:FdT):Iv:=⟨f.2.1,f.2.2.1,f.2.2.2⟩
theorem fld_ok {f:FdT} (h:chkF f=0) (h3:3≤f.1.length):FldOk f.1 (ivF f):=by
 obtain ⟨⟨c1,c2,c3,c4,c5⟩,c6,c7,c8,c9⟩:=chkF_0 h
 have hred:¬RedP (lP f.1) (f.1.length-1):=redB_P h3 fun e=>by rw[redB_t e] at c7; cases c7
 refine ⟨⟨c1,fun i=>dl_le (by have:=c2 i; simp[BP]; omega)⟩,h3,c6,fun c hc=>?_,⟨c8,by show 0<f.2.2.2; omega⟩,?_,?_,?_,c3.2,hred,?_⟩
 ·obtain ⟨i,hi,rfl⟩:=List.mem_iff_getElem.1 hc
  have:=c2 i
  simpa [nth,hi] using this
 ·show -(1000000*f.2.2.2)≤f.2.1; omega
 ·show f.2.2.1≤1000000*f.2.2.2; omega
 ·show f.2.2.1-f.2.1≤2000000; omega
 ·unfold oneB at c9
  rw[if_neg zo,decide_eq_true_eq] at c9
  exact sturm h3 c1.2 c6 hred (by show 0<f.2.2.2; omega) c9
def psT (p l:List Int) (n k i:Nat):Int:=nth p (n-(k+1))*((k:Int)+1)+sumTo (fun j=>nth p (n-(j+1))*nth l (k-j)) i
def trT (p:List Int) (n:Nat):Nat→List Int
 | 0=>[(n:Int)]
 | k+1=>trT p n k++[-psT p (trT p n k) n k k]
theorem trT_len {p:List Int} {n:Nat}:∀{k:Nat},(trT p n k).length=k+1
 | 0=>rfl
 | k+1=>by rw[trT,List.length_append,trT_len]; rfl
theorem psT_succ {p l:List Int} {n k i:Nat}:psT p l n k (i+1)=psT p l n k i+nth p (n-(i+1))*nth l (k-i):=by unfold psT; rw[sumTo_succ]; omega
theorem psT_dl {p l:List Int} {n k B:Nat} (hp:∀i,dl (nth p i)≤1) (hl:∀i,dl (nth l i)≤B) (hk:k≤4) (hB:1≤B):∀{i:Nat},dl (psT p l n k i)≤B+2+i
 | 0=>by
  unfold psT
  have h1:=hp (n-(k+1))
  have h2:=dl_small (F:=(k:Int)+1) zo zo
  have h3:=dl_mul (nth p (n-(k+1))) ((k:Int)+1)
  simp only[sumTo,Int.add_zero]
  omega
 | i+1=>by
  have ih:=psT_dl (n:=n) hp hl hk hB (i:=i)
  rw[psT_succ]
  have h1:=hp (n-(i+1))
  have h2:=hl (k-i)
  have h3:=dl_mul (nth p (n-(i+1))) (nth l (k-i))
  have h4:=dl_add (psT p l n k i) (nth p (n-(i+1))*nth l (k-i))
  omega
theorem trT_dl {p:List Int} {n:Nat} (hp:∀i,dl (nth p i)≤1) (hn:n≤4):∀{k:Nat},k≤4→∀i,dl (nth (trT p n k) i)≤1+8*k
 | 0,_,i=>by
  match i with
  | 0=>exact dl_small (F:=(n:Int)) zo zo
  | i+1=>rw[nth_out (by rw[trT_len]; omega)]; show dl 0≤_; rw[dl_zero.2 rfl]; omega
 | k+1,hk,i=>by
  have ih:=trT_dl hp hn (k:=k) zo
  rw[trT]
  by_cases h:i<(trT p n k).length
  ·have e:nth (trT p n k++[-psT p (trT p n k) n k k]) i=nth (trT p n k) i:=by simp[nth,List.getD,List.getElem?_append_left h]
   rw[e]; have:=ih i; omega
  ·by_cases h2:i=(trT p n k).length
   ·subst h2
    have e:nth (trT p n k++[-psT p (trT p n k) n k k]) (trT p n k).length=-psT p (trT p n k) n k k:=by simp[nth]
    rw[e,dl_neg]
    have:=psT_dl (n:=n) hp ih (k:=k) zo zo (i:=k)
    omega
   ·rw[nth_out (by rw[List.length_append]; simp; omega)]; show dl 0≤_; rw[dl_zero.2 rfl]; omega
def opI (f:FdT):Iv:=if f.1.length=2 then ivF f else ivK f.1 (ivF f) 64
def openR (f:FdT):RlT:=(f,f.1,trT f.1 (f.1.length-1) (f.1.length-2),(opI f).lo,(opI f).hi,(opI f).den)
theorem op_size {f:FdT} (h:chkF f=0) (h3:3≤f.1.length) {k:Nat} (hk:k≤64):dl (ivK f.1 (ivF f) k).lo≤73000∧dl (ivK f.1 (ivF f) k).hi≤73000∧dl (ivK f.1 (ivF f) k).den≤73000:=by
 have hf:=fld_ok h h3
 have h5:=hf.len4
 obtain ⟨K,q1,_,q3⟩:=hf.bound (cs:=List.replicate (f.1.length-1) 1) (M:=1) (by simp) ⟨1,List.mem_replicate.2 ⟨by omega,rfl⟩,by decide⟩ (fun c hc=>by rw[(List.mem_replicate.1 hc).2]; exact dl_small zo zo) zo zo
 exact q3 k zo
theorem ct_fCheckG (f:FdT):Ct Tryz.prog 157 [kRd eFd f] (kI (chkF f)):=by
 refine Ct.mk Tryz.func157 rfl Tryz.ntmps157 rfl (fun w J=>?_); refine jx2 ?_; refine jb 1 rfl ?_; refine jx4 ?_; refine Tr.frzB 1 [1] eFd (x:=f) ⟨rfl,trivial⟩ rfl ?_; refine jn ?_; refine jx12 ?_; refine tO (ok_call (fun hp=>ct_between _ _ _) (.a rfl uu<|.a rfl uu<|.a rfl uu<|.nil)) rfl rfl ?_; refine jx4 ?_; refine Tr.cnd rfl ?_ ?_
 ·intro h2
  try simp only[decide_eq_false_iff_not,Bool.not_eq_true'] at h2
  have hc1:¬(2≤f.1.length∧f.1.length≤5):=by omega
  have he:chkF f=10:=if_pos hc1
  refine jx8 ?_; exact Rts.res1 (fn:=Tryz.f157) rfl (.i rfl (by rw[he])<|.nil)
 ·intro h2
  try simp only[decide_eq_true_eq,Bool.not_eq_false'] at h2
  have hc1:2≤f.1.length∧f.1.length≤5:=by omega
  have he1:=(if_neg (fun e=>e hc1):chkF f=_)
  refine jx4 ?_; refine tO (ok_call (fun hp=>ct_ContainsFunc _ 187 outCf (fun x=>ct_fCheck1 x)) (.a rfl uu<|.a rfl uu<|.nil)) rfl rfl ?_; refine jx3 ?_; refine Tr.cnd rfl ?_ ?_
  ·intro h4
   have he:chkF f=2:=he1.trans (if_pos h4)
   refine jx8 ?_; exact Rts.res1 (fn:=Tryz.f157) rfl (.i rfl (by rw[he])<|.nil)
  ·intro h4
   have hc2:f.1.any outCf≠true:=by rw[h4]; decide
   have hs:=outCf_ok hc2
   have he2:=he1.trans (if_neg hc2)
   refine jx4 ?_; refine tO (ok_call (fun hp=>ct_between _ _ _) (.a rfl uu<|.a rfl uu<|.a rfl uu<|.nil)) rfl rfl ?_; refine jx4 ?_; refine TrL.gd rfl rfl rfl (ok_call (fun hp=>ct_between _ _ _) (.a rfl id<|.a rfl uu<|.a rfl uu<|.nil)) rfl rfl ?_; refine jx5 ?_; refine TrL.gd rfl rfl rfl (ok_call (fun hp=>ct_between _ _ _) (.a rfl id<|.a rfl uu<|.a rfl uu<|.nil)) rfl rfl ?_; refine jx5 ?_; refine Tr.cnd rfl ?_ ?_
   ·intro h6
    have hc3:¬((1≤f.2.2.2∧f.2.2.2≤1000000)∧(-1000000≤f.2.1∧f.2.1≤1000000)∧(-1000000≤f.2.2.1∧f.2.2.1≤1000000)):=fun ⟨q1,q2,q3⟩=>by simp[q1,q2,q3] at h6
    have he:chkF f=2:=he2.trans (if_pos hc3)
    refine jx8 ?_; exact Rts.res1 (fn:=Tryz.f157) rfl (.i rfl (by rw[he])<|.nil)
   ·intro h6
    have hc3:(1≤f.2.2.2∧f.2.2.2≤1000000)∧(-1000000≤f.2.1∧f.2.1≤1000000)∧(-1000000≤f.2.2.1∧f.2.2.1≤1000000):=by simp at h6; omega
    have he3:=he2.trans (if_neg (fun e=>e hc3))
    refine jx2 ?_
    have hix:((f.1.length:Int)-1).toNat=f.1.length-1:=by omega
    refine jx10 ?_; refine TrL.gd rfl rfl rfl (ok_call (fun hp=>ct_divided f.1 hc1.1 hc1.2 hs) (.a rfl id<|.nil)) rfl rfl ?_; refine jx4 ?_; refine Tr.cnd rfl ?_ ?_
    ·intro h8
     have hc4:nth f.1 (f.1.length-1)≠1∨redB f.1=true:=by simp[hix] at h8; simpa using h8
     have he:chkF f=3:=he3.trans (if_pos hc4)
     refine jx8 ?_; exact Rts.res1 (fn:=Tryz.f157) rfl (.i rfl (by rw[he])<|.nil)
    ·intro h8
     have hc4:nth f.1 (f.1.length-1)=1∧redB f.1=false:=by simp[hix] at h8; simpa using h8
     have he4:=he3.trans (if_neg (fun e=>e.elim (fun e=>e hc4.1) (fun e=>by rw[hc4.2] at e; cases e)))
     refine jx10 ?_; refine Tr.cnd rfl ?_ ?_
     ·intro h10
      try simp only[decide_eq_true_eq] at h10
      have he:chkF f=9:=he4.trans (if_pos h10)
      refine jx8 ?_; exact Rts.res1 (fn:=Tryz.f157) rfl (.i rfl (by rw[he])<|.nil)
     ·intro h10
      try simp only[decide_eq_false_iff_not,Int.not_lt] at h10
      have he5:=he4.trans (if_neg (show ¬f.2.1>f.2.2.1 by omega))
      refine jx3 ?_; refine jc (ct_fone f hc1.1 hc1.2 hc4.1 hs hc3.1 hc3.2.1 hc3.2.2) ?_; refine jx4 ?_; refine Tr.cnd rfl ?_ ?_
      ·intro h12
       have hc6:oneB f=false:=by simpa using h12
       have he:chkF f=11:=he5.trans (if_pos hc6)
       refine jx8 ?_; exact Rts.res1 (fn:=Tryz.f157) rfl (.i rfl (by rw[he])<|.nil)
      ·intro h12
       have hc6:oneB f=true:=by simpa using h12
       have he:chkF f=0:=he5.trans (if_neg (by rw[hc6]; decide))
       refine jx9 ?_; exact Rts.res1 (fn:=Tryz.f157) rfl (.i rfl (by rw[he])<|.nil)

theorem ct_fOpenE (f:FdT) (h0:chkF f≠0):Ct Tryz.prog 113 [kRd eFd f] (kTup [kDet (.pointer none),kI (chkF f)]):=by
 refine Ct.mk Tryz.func113 rfl Tryz.ntmps113 rfl (fun w J=>?_); refine jx2 ?_; refine jb 1 rfl ?_; refine jx8 ?_; refine jc (ct_fCheckG f) ?_; refine jx9 ?_; refine Tr.cnd rfl ?_ ?_
 ·intro h2
  refine jx9 ?_
  exact Rts.res (fn:=Tryz.f113) (ts:=[2,3]) rfl rfl (.k rfl<|.i rfl zi<|.nil)
 ·intro h2
  exact absurd (of_decide_eq_false h2) (fun e=>e h0)

set_option maxHeartbeats 2000000 in
theorem ct_fOpenG (f:FdT) (h0:chkF f=0):Ct Tryz.prog 113 [kRd eFd f] (kTup [kPtr eReal (openR f),kI 0]):=by
 obtain ⟨⟨c1,c2,c3,c4,c5⟩,c6,c7,c8,c9⟩:=chkF_0 h0
 have hf:∀i,-9223372036854775808≤nth f.1 i∧nth f.1 i≤9223372036854775807:=fun i=>by have:=c2 i; omega
 have hdp:∀i,dl (nth f.1 i)≤1:=fun i=>dl_le (by have:=c2 i; simp[BP]; omega)
 have hdg:Ct Tryz.prog 160 [kPtr eReal (f,f.1,[],f.2.1,f.2.2.1,f.2.2.2)] (kI ((f.1.length:Int)-1)):=ct_degree (f,f.1,[],f.2.1,f.2.2.1,f.2.2.2) c1
 have htr:=fun (k:Nat) (hk:k≤4)=>trT_dl (n:=f.1.length-1) hdp zo hk
 refine Ct.mk Tryz.func113 rfl Tryz.ntmps113 rfl (fun w J=>?_); refine jx2 ?_; refine jb 1 rfl ?_; refine jx8 ?_; refine jc (ct_fCheckG f) ?_; refine jx9 ?_; refine Tr.cnd rfl ?_ ?_
 ·intro h2
  exact absurd h0 (of_decide_eq_true h2)
 ·intro h2
  refine jx6 ?_; refine tO (ok_call (fun hp=>ct_cloneI _ zo) (.a rfl uu<|.nil)) rfl rfl ?_; refine jx5 ?_; refine Tr.draw 12 mixed (by kernel_rfl) ?_; refine jx2 ?_; refine jd (ct_polyOf f hf zo) ?_; refine jx2 ?_; refine jd (ct_fsmall f.2.1 zo) ?_; refine jx2 ?_; refine jd (ct_fsmall f.2.2.1 zo) ?_; refine jx2 ?_; refine jd (ct_fsmall f.2.2.2 zo) ?_; refine jx1 ?_; refine tO (ok_build (fun hp=>.cons rfl rfl rfl<|.cons rfl rfl rfl<|.cons rfl rfl rfl<|.cons rfl rfl rfl<|.cons rfl rfl rfl<|.nil)) rfl rfl ?_; refine jb 32 rfl ?_; refine jx6 ?_
  refine tO (ok_lendP (fun hp=>hdg) rfl rfl uu (.nil)) rfl rfl ?_; refine jx7 ?_; refine jc (ct_fsmall ((f.1.length:Int)-1) zo) ?_; refine TrL.new (ok_bsl eZ 38 (fun hp=>.cons rfl<|.nil) rfl rfl rfl rfl) rfl rfl rfl rfl ?_; refine tO (ok_nilO rfl uu) rfl rfl ?_; refine jx10 ?_
  refine Tr.for1 (σ:=Nat) [⟨5,true,_,_⟩,⟨6,true,_,_⟩] [] (fun k=>[⟨7,true,[],kI ((k:Int)+1)⟩]) (fun k=>[⟨32,[38],cBlk [kRd (eL eI) f.1,kI f.2.1,kI f.2.2.1,kI f.2.2.2,kRd (eL eZ) f.1,kOsl 38 (k+1),kB (decide ((ivF f).lo<0)),kRd (eL eI) (digN ((ivF f).lo).natAbs),kB (decide ((ivF f).hi<0)),kRd (eL eI) (digN ((ivF f).hi).natAbs),kB (decide ((ivF f).den<0)),kRd (eL eI) (digN ((ivF f).den).natAbs)]⟩,⟨38,[],cArr false 160 eZ (trT f.1 (f.1.length-1) k) (k+1)⟩]) (fun k=>k+2≤f.1.length) (fun k=>k+2=f.1.length) (fun k=>f.1.length-k) (0) zo (Ent.mk (.i rfl zi<|zk) (.e (by rfl) rfl<|.a (by show [(f.1.length:Int)-1]=[((f.1.length-1:Nat):Int)]; congr 1; omega) zi<|.nil) rfl) ?_ ?_
  ·intro k hR0
   refine jn ?_
   have hix:((f.1.length:Int)-1-((k:Int)+1)).toNat=(f.1.length-1-(k+1)):=by omega
   refine jx8 ?_; refine jq ?_ ?_
   ·intro h9
    refine jx5 ?_; refine Tr.draw 13 mixed (by kernel_rfl) ?_; refine jx1 ?_; refine rO (ok_nilO rfl uu) rfl rfl ?_; refine jx6 ?_
    rw[hix]
    refine jx2 ?_; refine jd (ct_fsmall ((k:Int)+1) zo) ?_; refine jd (ct_wtimes (nth f.1 (f.1.length-1-(k+1))) ((k:Int)+1) (by have:=hdp (f.1.length-1-(k+1)); omega) (by have:=dl_small (F:=(k:Int)+1) zo zo; omega)) ?_; refine RunD.new (ok_alloc 8) rfl rfl rfl rfl ?_; refine jx10 ?_
    refine Tr.for1 (σ:=Nat) [⟨5,true,_,_⟩,⟨6,true,_,_⟩,⟨7,true,_,_⟩,⟨8,true,_,_⟩] [⟨32,_,_⟩,⟨38,_,_⟩] (fun i=>[⟨9,true,[],kI ((i:Int)+1)⟩]) (fun i=>[⟨8,[],cBlk [kB (decide ((psT f.1 (trT f.1 (f.1.length-1) k) (f.1.length-1) k i)<0)),kRd (eL eI) (digN ((psT f.1 (trT f.1 (f.1.length-1) k) (f.1.length-1) k i)).natAbs)]⟩]) (fun i=>i≤k) (fun i=>i=k) (fun i=>k-i) (0) zi (Ent.mk (.i rfl zi<|zk) (.conv (cB_eq (dcell (by unfold psT; simp only[sumTo,Int.add_zero]))) rfl<|zk) rfl) ?_ ?_
    ·intro i hR1
     refine jn ?_
     have hiy:((f.1.length:Int)-1-((i:Int)+1)).toNat=(f.1.length-1-(i+1)):=by omega
     have hiz:((k:Int)+1-((i:Int)+1)).toNat=k-i:=by omega
     have hb1:=hdp (f.1.length-1-(i+1))
     have hb2:=htr k zo (k-i)
     have hb3:=dl_mul (nth f.1 (f.1.length-1-(i+1))) (nth (trT f.1 (f.1.length-1) k) (k-i))
     have hb4:=psT_dl (n:=f.1.length-1) hdp (htr k zo) (k:=k) zo zo (i:=i)
     refine jx8 ?_; refine jq ?_ ?_
     ·intro h13
      refine jx4 ?_; refine Tr.draw 20 mixed (by kernel_rfl) ?_; refine jx2 ?_; refine rO (ok_nilO rfl uu) rfl rfl ?_; refine jx6 ?_
      rw[hiy]
      refine jx2 ?_; refine rO (ok_nilO rfl uu) rfl rfl ?_; refine jx6 ?_
      rw[hiz]
      refine rO (ok_ldEA rfl uu rfl rfl rfl rfl) rfl rfl ?_; refine jd (ct_wtimes (nth f.1 (f.1.length-1-(i+1))) (nth (trT f.1 (f.1.length-1) k) (k-i)) zo zo) ?_; refine jx1 ?_; refine jc (ct_wplus (psT f.1 (trT f.1 (f.1.length-1) k) (f.1.length-1) k i) (nth f.1 (f.1.length-1-(i+1))*nth (trT f.1 (f.1.length-1) k) (k-i)) zo zo) ?_; refine jx9 ?_
      exact End.lp (i+1) zi zo (Ent.mk (.i rfl zi<|zk) (.conv (cB_eq (dcell (by rw[psT_succ]))) rfl<|zk) rfl)
     ·intro h13
      replace h13:=Int.not_lt.1 h13
      refine jx4 ?_
      exact End.cut (i) zo (Ent.mk (.i rfl zi<|zk) (zk) rfl)
    ·rintro i hik
     refine je ?_; refine jx1 ?_; refine Tr.drawM (m:=8) mixed (by kernel_rfl) rfl (by kernel_rfl) (by kernel_rfl) (by kernel_rfl) ?_; refine jx2 ?_; refine rO (ok_nilO rfl uu) rfl rfl ?_; refine jx3 ?_; refine jd (ct_wminus (psT f.1 (trT f.1 (f.1.length-1) k) (f.1.length-1) k i)) ?_; refine RunD.new (ok_bsl eZ 91 (fun hp=>.cons rfl<|.nil) rfl rfl rfl rfl) rfl rfl rfl rfl ?_; refine jx1 ?_; refine TrL.wkC 32 (.k<|.k<|.k<|.k<|.k<|.any<|.k<|.k<|.k<|.k<|.k<|.k<|.nil) rfl ?_; refine jx1 ?_; refine jl ?_; refine tO (ok_nilO rfl uu) rfl rfl ?_; refine jx2 ?_
     refine TrL.finN ?_; refine jx7 ?_
     exact End.lp (k+1) zi zo (Ent.mk (.i rfl zi<|zk) (.e (by rfl) rfl<|.a (by rw[hik]; rfl) zi<|.nil) rfl)
   ·intro h9
    replace h9:=Int.not_lt.1 h9
    refine jx4 ?_
    exact End.cut (k) zo (Ent.mk (.i rfl zi<|zk) (zk) rfl)
  ·rintro k hkn
   refine je ?_; refine jx3 ?_; refine Tr.frzC 38 32 (by simp only[lenMax]; omega) rfl rfl ?_; refine jn ?_; refine jx5 ?_; refine jq ?_ ?_
   ·intro h17
    have hl3:3≤f.1.length:=by omega
    refine jx5 ?_
    refine Tr.for1 (σ:=Nat) [⟨5,true,_,_⟩] [] (fun h=>[⟨97,true,[],kI (h:Int)⟩]) (fun h=>[⟨32,[],cBlk [kRd (eL eI) f.1,kI f.2.1,kI f.2.2.1,kI f.2.2.2,kRd (eL eZ) f.1,kRd (eL eZ) (trT f.1 (f.1.length-1) k),kB (decide ((ivK f.1 (ivF f) h).lo<0)),kRd (eL eI) (digN ((ivK f.1 (ivF f) h).lo).natAbs),kB (decide ((ivK f.1 (ivF f) h).hi<0)),kRd (eL eI) (digN ((ivK f.1 (ivF f) h).hi).natAbs),kB (decide ((ivK f.1 (ivF f) h).den<0)),kRd (eL eI) (digN ((ivK f.1 (ivF f) h).den).natAbs)]⟩]) (fun h=>h≤64) (fun h=>h=64) (fun h=>64-h) (0) zi (Ent.mk (.i rfl zi<|zk) (.e (by rfl) rfl<|.nil) rfl) ?_ ?_
    ·intro h hR2
     refine jn ?_; refine jx6 ?_; refine jq ?_ ?_
     ·intro h19
      refine jx6 ?_; refine TrL.mutP (ct_halve (kRd (eL eI) f.1) (kI f.2.1) (kI f.2.2.1) (kI f.2.2.2) (kRd (eL eZ) (trT f.1 (f.1.length-1) k)) f.1 (ivK f.1 (ivF f) h) 73000 zo hdp (op_size h0 hl3 zo).1 (op_size h0 hl3 zo).2.1 (op_size h0 hl3 zo).2.2 zo) rfl (.nil) (fun g b cap o h=>cBlk_J (g:=g) (g':=g1 g.J b cap) rfl h) (fun {J b cap o g} h=>cBlk_J (g:=g1 J b cap) (g':=⟨J,g.M⟩) rfl h) rfl ?_; refine jx7 ?_
      exact End.lp (h+1) zi zo (Ent.mk (.i rfl zi<|zk) (.e (by rfl) rfl<|.nil) rfl)
     ·intro h19
      replace h19:=Int.not_lt.1 h19
      refine jx4 ?_
      exact End.cut (h) zo (Ent.mk (.i rfl zi<|zk) (zk) rfl)
    ·rintro _ rfl
     refine je ?_; refine jx2 ?_; refine Tr.frzB 32 [5] eReal ⟨rfl,trivial⟩ rfl ?_; refine jn ?_; refine jx7 ?_; exact Rts.res (fn:=Tryz.f113) (ts:=[2,3]) rfl rfl (.p rfl (by unfold openR opI; rw[if_neg zo,show k=f.1.length-2 by omega])<|.i rfl (by rfl)<|.nil)
   ·intro h17
    replace h17:=Int.not_lt.1 h17
    have hl2:f.1.length=2:=by omega
    refine jx3 ?_; refine Tr.frzB 32 [5] eReal ⟨rfl,trivial⟩ rfl ?_; refine jn ?_; refine jx7 ?_; exact Rts.res (fn:=Tryz.f113) (ts:=[2,3]) rfl rfl (.p rfl (by unfold openR opI; rw[if_pos hl2,show k=f.1.length-2 by omega])<|.i rfl (by rfl)<|.nil)

end Go.Fl

/- Numbers as the reference of chapter 1 reckons them: the same as the program's. No program in sight. -/
namespace Go.Fl
open Go
def linL (a b:Int) (xs ys:List Int):List Int:=tab xs.length fun i=>nth xs i*a+nth ys i*b
theorem linL_len {a b:Int} {xs ys:List Int}:(linL a b xs ys).length=xs.length:=tab_len
theorem linL_nth {a b:Int} {xs ys:List Int} (h:xs.length=ys.length) (i:Nat):nth (linL a b xs ys) i=nth xs i*a+nth ys i*b:=by
 by_cases hi:i<xs.length
 ·exact nth_tab hi
 ·rw[nth_out (by rw[linL_len]; omega),nth_out (xs:=xs) zo,nth_out (xs:=ys) zo]
  show (0:Int)=0*a+0*b
  rw[Int.zero_mul,Int.zero_mul]; rfl
theorem app0_nth {xs:List Int} {k i:Nat}:nth (xs++List.replicate k 0) i=nth xs i:=by
 rw[nth_app0]
 split
 ·rfl
 ·rw[nth_out zo]; rfl
theorem linL_pad {a b:Int} {xs ys:List Int} {k:Nat} (h:xs.length=ys.length):linL a b xs ys++List.replicate k 0=linL a b (xs++List.replicate k 0) (ys++List.replicate k 0):=by
 refine ext_nth (by simp[linL_len]) fun i _=>?_
 rw[app0_nth,linL_nth h,linL_nth (by simp[h]),app0_nth,app0_nth]
theorem red1_lin {p:List Int} {n:Nat} {a b:Int} {xs ys:List Int} (h:xs.length=ys.length):red1 p n (linL a b xs ys)=linL a b (red1 p n xs) (red1 p n ys):=by
 refine ext_nth (by rw[red1_len,linL_len,linL_len,red1_len]) fun i hi=>?_
 rw[red1_len,linL_len] at hi
 rw[linL_nth (by rw[red1_len,red1_len,h])]
 unfold red1
 rw[linL_len,nth_tab hi,nth_tab hi,nth_tab zo,← h,linL_nth h,linL_nth h]
 split
 ·generalize nth p _=q
  generalize nth xs i=x1
  generalize nth ys i=y1
  generalize nth xs (xs.length-1)=x2
  generalize nth ys (xs.length-1)=y2
  have e1:(x2*a+y2*b)*q=x2*q*a+y2*q*b:=by rw[Int.add_mul,Int.mul_right_comm,Int.mul_right_comm y2]
  rw[e1,Int.sub_mul,Int.sub_mul]; omega
 ·rw[Int.sub_zero,Int.sub_zero,Int.sub_zero]
theorem redF_lin {p:List Int} {n:Nat} {a b:Int}:∀{f:Nat} {xs ys:List Int},xs.length=ys.length→redF p n f (linL a b xs ys)=linL a b (redF p n f xs) (redF p n f ys)
 | 0,xs,ys,h=>by rw[redF,redF,redF,linL_len,← h,linL_pad h]
 | f+1,xs,ys,h=>by
  rw[redF,redF,redF,linL_len,← h]
  split
  ·rw[linL_pad h]
  ·rw[red1_lin h,redF_lin (by rw[red1_len,red1_len,h])]
theorem red_lin {p:List Int} {a b:Int} {xs ys:List Int} (h:xs.length=ys.length):red p (linL a b xs ys)=linL a b (red p xs) (red p ys):=by
 unfold red
 rw[linL_len,← h]
 exact redF_lin h
theorem red_snoc0 {p xs:List Int}:red p (xs++[0])=red p xs:=by
 by_cases hl:(xs++[0]).length≤p.length-1
 ·rw[red_short rfl hl]
  have h2:xs.length≤p.length-1:=by rw[List.length_append] at hl; omega
  rw[red_short rfl h2,List.append_assoc]
  congr 1
  rw[List.length_append,List.length_singleton] at hl ⊢
  rw[show p.length-1-xs.length=p.length-1-(xs.length+1)+1 by omega,List.replicate_succ]; rfl
 ·rw[← red_red1 rfl zo]
  congr 1
  refine ext_nth (by rw[red1_len,List.length_append]; simp) fun i hi=>?_
  rw[red1_len,List.length_append,List.length_singleton,Nat.add_sub_cancel] at hi
  unfold red1
  rw[List.length_append,List.length_singleton,Nat.add_sub_cancel,nth_tab hi]
  have e1:nth (xs++[0]) xs.length=0:=by simp[nth]
  have e2:nth (xs++[0]) i=nth xs i:=by simp[nth,List.getD,List.getElem?_append_left hi]
  rw[e1,e2]
  split
  ·rw[Int.zero_mul,Int.sub_zero]
  ·rw[Int.sub_zero]
theorem red_pad0 {p xs:List Int}:∀{k:Nat},red p (xs++List.replicate k 0)=red p xs
 | 0=>by rw[List.replicate_zero,List.append_nil]
 | k+1=>by rw[List.replicate_succ',← List.append_assoc,red_snoc0,red_pad0]
theorem pad_lin {p xs ys:List Int} {a b:Int} {m:Nat} (h1:xs.length≤m) (h2:ys.length≤m):pad p (tab m fun i=>nth xs i*a+nth ys i*b)=tab 4 fun i=>nth (pad p xs) i*a+nth (pad p ys) i*b:=by
 have e:(tab m fun i=>nth xs i*a+nth ys i*b)=linL a b (xs++List.replicate (m-xs.length) 0) (ys++List.replicate (m-ys.length) 0):=by
  unfold linL
  rw[List.length_append,List.length_replicate,show xs.length+(m-xs.length)=m by omega]
  exact tab_congr fun i _=>by rw[app0_nth,app0_nth]
 rw[e]
 unfold pad
 rw[red_lin (by simp; omega),red_pad0,red_pad0]
 refine tab_congr fun i hi=>?_
 rw[linL_nth (by rw[red_len,red_len]),nth_tab hi,nth_tab hi]
theorem pad_neg {p xs:List Int}:pad p (xs.map fun z=>-z)=(pad p xs).map fun z=>-z:=by
 have e:(xs.map fun z=>-z)=tab xs.length fun i=>nth xs i*(-1)+nth xs i*0:=by
  conv=>lhs; rw[neg_tab rfl]
  exact tab_congr fun i _=>by omega
 rw[e,pad_lin (Nat.le_refl _) (Nat.le_refl _)]
 conv=>rhs; rw[neg_tab pad_len]
 exact tab_congr fun i _=>by omega
theorem adV_low {cs cs':List Int} {a b:Int} (ha:a≠0) (hb:b≠0):adV (loN cs a) (loN cs' b)=loN (tab 4 fun i=>nth cs i*b+nth cs' i*a) (a*b):=by
 have p1:=low_pos (cs:=cs) ha
 have p2:=low_pos (cs:=cs') hb
 have p3:=Int.mul_pos p1 p2
 refine low_eq zo (Int.mul_ne_zero ha hb) ?_
 rw[tab_mul,tab_mul]
 refine tab_congr fun i _=>?_
 have e1:=low_cross (cs:=cs) ha i
 have e2:=low_cross (cs:=cs') hb i
 generalize nth (loN cs a).1 i=x at *
 generalize nth (loN cs' b).1 i=y at *
 generalize (loN cs a).2=c at *
 generalize (loN cs' b).2=d at *
 generalize nth cs i=u at *
 generalize nth cs' i=v at *
 calc (x*d+y*c)*(a*b)=x*a*(d*b)+y*b*(c*a):=by rw[Int.add_mul]; congr 1<;>ac_rfl
  _=u*c*(d*b)+v*d*(c*a):=by rw[e1,e2]
  _=(u*b+v*a)*(c*d):=by rw[Int.add_mul]; congr 1<;>ac_rfl
abbrev NumL:=List (List Int)×List Int
def valC (x:NumL):List Int:=x.1.map val
theorem rAdd_eq {p:List Int} {x y:NumL} {m:Nat} (h1:x.1.length≤m) (h2:y.1.length≤m):loN (pad p (tab m fun i=>nth (valC x) i*denN y.2+nth (valC y) i*denN x.2)) (denN x.2*denN y.2)=adV (takeN p x) (takeN p y):=by
 unfold takeN
 rw[adV_low denN_ne denN_ne,pad_lin (by unfold valC; rw[List.length_map]; exact h1) (by unfold valC; rw[List.length_map]; exact h2)]
 rfl
theorem rNeg_eq {p:List Int} {x:NumL}:loN (pad p ((valC x).map fun z=>-z)) (denN x.2)=negV (takeN p x):=by
 rw[pad_neg,low_negc]
 rfl
def cnvL (xs ys:List Int):List Int:=tab (xs.length+ys.length-1) fun i=>sumTo (fun k=>nth xs k*nth ys (i-k)) (i+1)
theorem cnvL_neg {xs:List Int}:cnvL xs [-1]=xs.map fun z=>-z:=by
 unfold cnvL
 rw[show xs.length+[(-1:Int)].length-1=xs.length by simp]
 conv=>rhs; rw[neg_tab rfl]
 refine tab_congr fun i hi=>?_
 rw[sumTo_one (j:=i) zo fun k hk hne=>?_]
 ·simp only[Nat.sub_self]
  show nth xs i*-1=_
  omega
 ·have:nth ([-1]:List Int) (i-k)=0:=nth_out (by simp; omega)
  rw[this,Int.mul_zero]
theorem tab_app {cs:List Int} (h:cs.length≤4):tab 4 (nth cs)=cs++List.replicate (4-cs.length) 0:=by
 refine ext_nth (by rw[tab_len]; simp; omega) fun i hi=>?_
 rw[tab_len] at hi
 rw[nth_tab hi,app0_nth]
theorem give_low4 {cs:List Int} {d:Int} (h:cs.length≤4):giveN (loN cs d)=giveN (loN (tab 4 (nth cs)) d):=by
 rw[tab_app h,low_pad]
 unfold giveN
 simp only[trim_pad]
theorem give_red {p xs:List Int} {d:Int} (h5:p.length≤5):giveN (loN (red p xs) d)=giveN (loN (pad p xs) d):=give_low4 (by rw[red_len]; omega)
def rd1L (p:List Int) (n:Nat) (xs:List (List Int)):List (List Int):=tab (xs.length-1) fun j=>if xs.length-1-n≤j then lstZ (val (nth xs j)-val (nth xs (xs.length-1))*nth p (j-(xs.length-1-n))) else nth xs j
theorem rd1L_len {p:List Int} {n:Nat} {xs:List (List Int)}:(rd1L p n xs).length=xs.length-1:=tab_len
def rdFL (p:List Int) (n:Nat):Nat→List (List Int)→List (List Int)
 | 0,xs=>xs++List.replicate (n-xs.length) []
 | f+1,xs=>if xs.length≤n then xs++List.replicate (n-xs.length) [] else rdFL p n f (rd1L p n xs)
def rdcL (p:List Int) (xs:List (List Int)):List (List Int):=rdFL p (p.length-1) (xs.length-(p.length-1)) xs
theorem rd1L_val {p:List Int} {n:Nat} {xs:List (List Int)}:(rd1L p n xs).map val=red1 p n (xs.map val):=by
 refine ext_nth (by rw[List.length_map,rd1L_len,red1_len,List.length_map]) fun i hi=>?_
 rw[List.length_map,rd1L_len] at hi
 rw[nth_mapv]
 unfold rd1L red1
 rw[List.length_map,nth_tab hi,nth_tab hi,nth_mapv,nth_mapv]
 split
 ·rw[lst_val]
 ·rw[Int.sub_zero]
theorem rdFL_val {p:List Int} {n:Nat}:∀{f:Nat} {xs:List (List Int)},(rdFL p n f xs).map val=redF p n f (xs.map val)
 | 0,xs=>by rw[rdFL,redF,List.map_append,List.map_replicate,List.length_map]; rfl
 | f+1,xs=>by
  rw[rdFL,redF,List.length_map]
  split
  ·rw[List.map_append,List.map_replicate]; rfl
  ·rw[rdFL_val,rd1L_val]
theorem rdcL_val {p:List Int} {xs:List (List Int)}:(rdcL p xs).map val=red p (xs.map val):=by unfold rdcL red; rw[rdFL_val,List.length_map]
theorem rdcL_len {p:List Int} {xs:List (List Int)}:(rdcL p xs).length=p.length-1:=by
 have:=congrArg List.length (rdcL_val (p:=p) (xs:=xs))
 rw[List.length_map,red_len] at this
 exact this
def LOk (B:Nat) (xs:List (List Int)):Prop:=∀i,InI (nth xs i)∧(nth xs i).length≤B∧dl (val (nth xs i))≤B
theorem inI_nil:InI []:=fun _ h=>absurd h (Nat.not_lt_zero _)
theorem LOk.app {B k:Nat} {xs:List (List Int)} (h:LOk B xs):LOk B (xs++List.replicate k []):=fun i=>by
 by_cases hi:i<xs.length
 ·have e:nth (xs++List.replicate k []) i=nth xs i:=by simp[nth,List.getD,List.getElem?_append_left hi]
  rw[e]; exact h i
 ·have e:nth (xs++List.replicate k []) i=[]:=by
   simp only[nth,List.getD,List.getElem?_append_right (Nat.le_of_not_lt hi),List.getElem?_replicate]
   split<;>rfl
  rw[e]
  exact ⟨inI_nil,Nat.zero_le _,by rw[val_nil,dl_zero.2 rfl]; omega⟩
theorem LOk.mono {B C:Nat} {xs:List (List Int)} (h:LOk B xs) (hBC:B≤C):LOk C xs:=fun i=>⟨(h i).1,Nat.le_trans (h i).2.1 hBC,Nat.le_trans (h i).2.2 hBC⟩
theorem lst_ok {z:Int} {B:Nat} (h:dl z≤B):InI (lstZ z)∧(lstZ z).length≤B∧dl (val (lstZ z))≤B:=⟨lst_in _,by rw[lst_len]; exact h,by rw[lst_val]; exact h⟩
theorem rdFL_ok {p:List Int} {n:Nat} (hp:∀i,dl (nth p i)≤1):∀{f B:Nat} {xs:List (List Int)},LOk B xs→LOk (B+2*f) (rdFL p n f xs)
 | 0,B,xs,h=>by rw[rdFL]; exact h.app
 | f+1,B,xs,h=>by
  rw[rdFL]
  split
  ·exact h.app.mono zo
  ·have h1:LOk (B+2) (rd1L p n xs):=fun j=>by
    by_cases hj:j<xs.length-1
    ·unfold rd1L
     rw[nth_tab hj]
     split
     ·refine lst_ok ?_
      rw[Int.sub_eq_add_neg]
      have:=dl_step (h j).2.2 (h (xs.length-1)).2.2 (hp (j-(xs.length-1-n)))
      omega
     ·have:=h j; exact ⟨this.1,by omega,by omega⟩
    ·rw[nth_out (by rw[rd1L_len]; omega)]
     exact ⟨inI_nil,Nat.zero_le _,by show dl (val [])≤_; rw[val_nil,dl_zero.2 rfl]; omega⟩
   exact (rdFL_ok hp h1).mono zo
theorem rdcL_ok {p:List Int} {xs:List (List Int)} {B:Nat} (hp:∀i,dl (nth p i)≤1) (h:LOk B xs):LOk (B+2*xs.length) (rdcL p xs):=(rdFL_ok hp h).mono zo
theorem num_LOk {x:NumL} {k:Nat} (h:NumOk k x):LOk (k+3) x.1:=fun i=>by
 have:=dl_val (h.c i).1
 have:=(h.c i).2
 exact ⟨(h.c i).1,by omega,by omega⟩
theorem take_give_red {p:List Int} {c:List (List Int)} {d:Int} (h5:p.length≤5):giveN (loN ((rdcL p c).map val) d)=giveN (loN (pad p (c.map val)) d):=by rw[rdcL_val,give_red h5]
theorem enc_pad {I:Iv} (hI:0<I.den):∀{xs:List Int},enc I (xs++[0])=(I.den*(enc I xs).1,I.den*(enc I xs).2.1,I.den*(enc I xs).2.2)
 | []=>by simp[enc,min4,max4]
 | c::xs=>by
  rw[List.cons_append,enc,enc_pad hI,enc]
  simp only[Int.mul_assoc,min4_mul (Int.le_of_lt hI),max4_mul (Int.le_of_lt hI)]
  refine Prod.ext ?_ (Prod.ext ?_ rfl)
  ·simp only; rw[Int.mul_add,← Int.mul_assoc c,← Int.mul_assoc I.den c,Int.mul_comm I.den c]
  ·simp only; rw[Int.mul_add,← Int.mul_assoc c,← Int.mul_assoc I.den c,Int.mul_comm I.den c]
theorem enc_sg {I:Iv} (hI:0<I.den) {xs:List Int}:∀{k:Nat},(0<(enc I (xs++List.replicate k 0)).1↔0<(enc I xs).1)∧((enc I (xs++List.replicate k 0)).2.1<0↔(enc I xs).2.1<0)
 | 0=>by simp
 | k+1=>by
  obtain ⟨h1,h2⟩:=enc_sg hI (xs:=xs) (k:=k)
  rw[List.replicate_succ',← List.append_assoc,enc_pad hI,← h1,← h2]
  constructor
  ·exact ⟨fun h=>Classical.byContradiction fun hn=>by have:=Int.mul_nonneg (Int.le_of_lt hI) (show 0≤-(enc I (xs++List.replicate k 0)).1 by omega); rw[Int.mul_neg] at this; simp only at h; omega,fun h=>Int.mul_pos hI h⟩
  ·exact ⟨fun h=>Classical.byContradiction fun hn=>by have:=Int.mul_nonneg (Int.le_of_lt hI) (show 0≤(enc I (xs++List.replicate k 0)).2.1 by omega); simp only at h; omega,fun h=>Int.mul_neg_of_pos_of_neg hI h⟩
theorem take_trim {v:List Int} {n:Nat} (h4:v.length=4) (hn:n≤4) (hz:∀i,n≤i→nth v i=0):v.take n=trimL v++List.replicate (n-(trimL v).length) 0:=by
 have h1:=trim_len_le hz
 refine ext_nth (by simp; omega) fun i hi=>?_
 rw[List.length_take] at hi
 rw[nth_take' zo,app0_nth,nth_trim]
theorem halve_ref {p:List Int} {I:Iv} (h1:sgn (hvP I.lo I.den p).1≠0) (h2:sgn (hvP (I.lo+I.hi) (I.den*2) p).1≠0):halveI p I=if sgn (hvP I.lo I.den p).1≠sgn (hvP (I.lo+I.hi) (I.den*2) p).1 then ⟨I.lo*2,I.lo+I.hi,I.den*2⟩ else ⟨I.lo+I.hi,I.hi*2,I.den*2⟩:=by
 unfold halveI
 rw[show I.den+I.den=I.den*2 by omega,show I.lo+I.lo=I.lo*2 by omega,show I.hi+I.hi=I.hi*2 by omega]
 have b1:=sgn_cases (hvP I.lo I.den p).1
 have b2:=sgn_cases (hvP (I.lo+I.hi) (I.den*2) p).1
 generalize sgn (hvP I.lo I.den p).1=s at *
 generalize sgn (hvP (I.lo+I.hi) (I.den*2) p).1=t at *
 have a1:s=-1∨s=1:=by omega
 have a2:t=-1∨t=1:=by omega
 rcases a1 with rfl | rfl<;>rcases a2 with rfl | rfl<;>rfl
def plL (f:Int×Int×Int) (I:Iv) (k:Nat):List Int×List Int×List Int:=if k=0 then ([f.1],[f.2.1],[f.2.2]) else (lstZ I.lo,lstZ I.hi,lstZ I.den)
end Go.Fl

/- Contracts: fields of the reference. -/
namespace Go.Fl
open Go Go.Proofs
open TrL renaming op→tO
open RunD renaming op→rO
set_option maxRecDepth 100000

theorem pol_open {f:FdT} (h:chkF f=0):PolOk f.1:=by
 obtain ⟨⟨c1,c2,_⟩,_⟩:=chkF_0 h
 exact ⟨c1,fun i=>dl_le (by have:=c2 i; simp[BP]; omega)⟩
theorem sgV_rat {p:List Int} {I:Iv} {v:NvT} (h:ratB v.1=true):sgV p I v=cmpZ (nth v.1 0) 0:=if_pos h
theorem opI_big {f:FdT} (h:¬f.1.length=2):ivK f.1 (ivF f) 64=opI f:=by unfold opI; rw[if_neg h]
theorem openR_iv {f:FdT}:(⟨(openR f).2.2.2.1,(openR f).2.2.2.2.1,(openR f).2.2.2.2.2⟩:Iv)=opI f:=by simp only[openR]
def NoRt (p:List Int):Prop:=¬∃x,evH p x=0
def QYes (p:List Int) (b:Int):Prop:=(b≠0∧b∣nth p 0)∧∃a,-2002≤a∧a≤2002∧RefQ p b a
theorem noRt_of {p:List Int} (hl:1≤p.length) (hp:(nth p 0).natAbs≤1000) (h:∀j:Nat,j<2003→evH p ((j:Int)-1001)≠0):NoRt p:=fun e=>by
 obtain ⟨x,h1,h2,h3⟩:=(red_ref_root hl hp).1 e
 have:=h (x+1001).toNat zo
 rw[show (((x+1001).toNat:Nat):Int)-1001=x by omega] at this
 exact this h3
theorem noRt_0 {p:List Int} (hl:1≤p.length) (h:NoRt p):nth p 0≠0:=fun e=>h ⟨0,by rw[root_zero hl,e]⟩
theorem noRed_of {p:List Int} (_:3≤p.length) (hs:∀i,(nth p i).natAbs≤1000) (hn:NoRt p) (h:p.length=5→∀j:Nat,j<2001→¬QYes p ((j:Int)-1000)):¬RedB p:=fun ⟨_,e⟩=>by
 rcases e with e | ⟨h5,e⟩
 ·exact hn e
 ·obtain ⟨b,h1,h2,h3,h4,h6⟩:=(red_ref_quad (noRt_0 zo hn) (hs 0) (hs 2) (hs 3)).1 e
  have:=h h5 (b+1000).toNat zo
  rw[show (((b+1000).toNat:Nat):Int)-1000=b by omega] at this
  exact this ⟨⟨h3,h4⟩,h6⟩
theorem red_of {p:List Int} (h5:p.length=5) (hs:∀i,(nth p i).natAbs≤1000) (hn:NoRt p) {b:Int} (hb:-1000≤b∧b≤1000) (h:QYes p b):RedB p :=
 ⟨by omega,.inr ⟨h5,(red_ref_quad (noRt_0 zo hn) (hs 0) (hs 2) (hs 3)).2 ⟨b,hb.1,hb.2,h.1.1,h.1.2,h.2⟩⟩⟩
theorem qNo_of {p:List Int} {b:Int} (h:∀j:Nat,j<4005→¬RefQ p b ((j:Int)-2002)):¬QYes p b:=fun ⟨_,a,h1,h2,h3⟩=>by
 have:=h (a+2002).toNat zo
 rw[show (((a+2002).toNat:Nat):Int)-2002=a by omega] at this
 exact this h3
theorem sgnC_rat {r:RlT} {I:Iv} (hpo:PolOk r.2.1) (h2:r.2.1.length=2):SgnC r (sgV r.2.1 I):=by
 have hr:∀x:NumT,ratB (takeN r.2.1 x).1=true:=fun x=>ratB_pad h2
 refine ⟨fun x hx=>?_,fun x y hx hy=>?_⟩
 ·rw[sgV_rat (hr x)]
  exact ct_fSignQ r x 250 hpo h2 hx zo
 ·have e:sgV r.2.1 I (subV (takeN r.2.1 x) (takeN r.2.1 y))=cmpZ (nth (subV (takeN r.2.1 x) (takeN r.2.1 y)).1 0) 0:=sgV_rat (ratB_add (hr x) (ratB_neg (hr y)))
  rw[e]
  exact ct_fCmpQ r x y 250 hpo hx hy zo h2
theorem sgnC_big {r:RlT} {I:Iv} (hf:FldOk r.2.1 I) (hI:ivK r.2.1 I 64=⟨r.2.2.2.1,r.2.2.2.2.1,r.2.2.2.2.2⟩):SgnC r (sgV r.2.1 I) :=
 ⟨fun x hx=>ct_fSignF r I x hf hI hx,fun x y hx hy=>ct_fCmpF r I x y hf hI hx hy⟩
theorem sgnC_open {f:FdT} (h:chkF f=0):SgnC (openR f) (sgV f.1 (ivF f)):=by
 have e:(openR f).2.1=f.1:=rfl
 have hpo:=pol_open h
 rw[← e] at hpo ⊢
 by_cases h2:f.1.length=2
 ·rw[← e] at h2
  exact sgnC_rat hpo h2
 ·obtain ⟨⟨c1,_⟩,_⟩:=chkF_0 h
  have hf:=fld_ok h zo
  have hI:=opI_big h2
  rw[← openR_iv] at hI
  generalize openR f=r at *
  rw[← e] at hf hI
  exact sgnC_big hf hI
theorem ct_rvalue (p:List Int) (x:Int) (h5:p.length≤5) (hs:∀i,(nth p i).natAbs≤1000) (hx:x.natAbs≤1001):Ct Tryz.prog 171 [kRd (eL eI) p,kI x] (kI (evH p x)):=by
 refine Ct.mk Tryz.func171 rfl Tryz.ntmps171 rfl (fun w J=>?_); refine jx19 ?_
 refine Tr.for1 (σ:=Nat) [⟨0,true,_,_⟩,⟨1,true,_,_⟩] [] (fun k=>[⟨5,true,[],kI (evK p x k)⟩,⟨6,true,[],kI ((p.length:Int)-1-k)⟩]) (fun k=>[]) (fun k=>k≤p.length) (fun k=>k=p.length) (fun k=>p.length-k) (0) zi (Ent.mk (.i rfl (by rw[evK_zero])<|.i rfl zi<|zk) (.nil) rfl) ?_ ?_
 ·intro k hR0
  refine jn ?_
  have hb1:=fun (h:k<p.length)=>evK_i hs hx h5 (k:=k+1) zo
  have hb2:=evK_i hs hx h5 (k:=k) zo
  have hb3:=hs (p.length-1-k)
  have hix:=fun (h:k<p.length)=>(show ((p.length:Int)-1-(k:Int)).toNat=p.length-1-k by omega)
  refine jx7 ?_; refine jq ?_ ?_
  ·intro h3
   refine jx5 ?_
   have hixk:=hix zo
   have hbk:=hb1 zo
   rw[evK_step zo] at hbk
   refine jx6 ?_
   rw[hixk]
   refine jx11 ?_
   exact End.lp (k+1) zi zo (Ent.mk (.i rfl (by rw[evK_step zo])<|.i rfl zi<|zk) (.nil) rfl)
  ·intro h3
   replace h3:=Int.not_le.1 h3
   refine jx4 ?_
   exact End.cut (k) zo (Ent.mk (.i rfl zi<|.i rfl zi<|zk) (.nil) rfl)
 ·rintro k hkn
  refine je ?_; refine jx8 ?_; exact Rts.res1 (fn:=Tryz.f171) rfl (.i rfl (by rw[hkn,evK_end])<|.nil)

theorem ct_rReducible (p:List Int) (h2':2≤p.length) (h5':p.length≤5) (hs:∀i,(nth p i).natAbs≤1000):Ct Tryz.prog 126 [kRd (eL eI) p] (kB (redB p)):=by
 have hs0:=hs 0
 have hs1:=hs 1
 have hs2:=hs 2
 have hs3:=hs 3
 refine Ct.mk Tryz.func126 rfl Tryz.ntmps126 rfl (fun w J=>?_); refine jx20 ?_; refine jq ?_ ?_
 ·intro h2
  have hr:=redB_f (p:=p) (fun e=>e.1 zo)
  refine jx7 ?_; exact Rts.res1 (fn:=Tryz.f126) rfl (.b rfl (by rw[hr])<|.nil)
 ·intro h2
  have hl3:3≤p.length:=by omega
  refine jx8 ?_
  refine Tr.for1 (σ:=Nat) [⟨0,true,_,_⟩,⟨3,true,_,_⟩] [] (fun k=>[⟨4,true,[],kI ((k:Int)-1001)⟩]) (fun k=>[]) (fun k=>k≤2003∧∀j:Nat,j<k→evH p ((j:Int)-1001)≠0) (fun k=>NoRt p) (fun k=>2003-k) (0) ⟨by omega,fun j h=>absurd h (Nat.not_lt_zero _)⟩ (Ent.mk (.i rfl zi<|zk) (.nil) rfl) ?_ ?_
  ·rintro k ⟨hk,hR⟩
   refine jn ?_; refine jx7 ?_; refine jq ?_ ?_
   ·intro h5
    refine jx8 ?_; refine jc (ct_rvalue p ((k:Int)-1001) h5' hs zo) ?_; refine jx3 ?_; refine jq ?_ ?_
    ·intro h7
     have hr:=redB_t (p:=p) ⟨by omega,.inl ⟨(k:Int)-1001,h7⟩⟩
     refine jx12 ?_; exact Rts.res1 (fn:=Tryz.f126) rfl (.b rfl (by rw[hr])<|.nil)
    ·intro h7
     have hno:evH p ((k:Int)-1001)≠0:=h7
     refine jx8 ?_
     exact End.lp (k+1) ⟨by omega,fun j hj=>by by_cases e:j=k; (subst e; exact hno); exact hR j zo⟩ zo (Ent.mk (.i rfl zi<|zk) (.nil) rfl)
   ·intro h5
    replace h5:=Int.not_le.1 h5
    refine jx4 ?_
    exact End.cut (k) (noRt_of zo hs0 (fun j hj=>hR j zo)) (Ent.mk (.i rfl zi<|zk) (.nil) rfl)
  ·intro k hnr
   refine je ?_
   have hp0:nth p 0≠0:=noRt_0 zo hnr
   refine jx7 ?_
   refine Tr.for1 (σ:=Nat) [⟨0,true,_,_⟩,⟨3,true,_,_⟩] [] (fun k=>[⟨5,true,[],kI ((k:Int)-1000)⟩]) (fun k=>[]) (fun k=>k≤2001∧(p.length=5→∀j:Nat,j<k→¬QYes p ((j:Int)-1000))) (fun k=>redB p=false) (fun k=>2001-k) (0) ⟨by omega,fun _ j h=>absurd h (Nat.not_lt_zero _)⟩ (Ent.mk (.i rfl zi<|zk) (.nil) rfl) ?_ ?_
   ·rintro k ⟨hk,hR⟩
    refine jn ?_; refine jx11 ?_; refine Tr.cnd rfl ?_ ?_
    ·intro h10
     have hk5:k<2001∧p.length=5:=by simp at h10; omega
     refine jx11 ?_; refine TrL.gd rfl rfl rfl (ok_idxN (i:=0) rfl id rfl uu rfl (fun _=>zo)) rfl rfl ?_; refine jx2 ?_; refine TrL.gd rfl rfl rfl (ok_rem rfl id rfl id (fun hp=>by simp at hp; omega)) rfl rfl ?_; refine jx4 ?_; refine Tr.cnd rfl ?_ ?_
     ·intro h12
      have hnb:¬QYes p ((k:Int)-1000):=fun e=>by simp[Int.tmod_eq_zero_of_dvd e.1.2] at h12; exact e.1.1 zo
      refine jx9 ?_
      exact End.lp (k+1) ⟨by omega,fun h5 j hj=>by by_cases e:j=k; (subst e; exact hnb); exact hR h5 j zo⟩ zo (Ent.mk (.i rfl zi<|zk) (.nil) rfl)
     ·intro h12
      have hb0:((k:Int)-1000)≠0∧((k:Int)-1000)∣nth p 0:=by simp at h12; exact ⟨by omega,Int.dvd_of_tmod_eq_zero h12.2⟩
      refine jx7 ?_
      refine Tr.for1 (σ:=Nat) [⟨0,true,_,_⟩,⟨3,true,_,_⟩,⟨5,true,_,_⟩] [] (fun i=>[⟨6,true,[],kI ((i:Int)-2002)⟩]) (fun i=>[]) (fun i=>i≤4005∧∀j:Nat,j<i→¬RefQ p ((k:Int)-1000) ((j:Int)-2002)) (fun i=>¬QYes p ((k:Int)-1000)) (fun i=>4005-i) (0) ⟨by omega,fun j h=>absurd h (Nat.not_lt_zero _)⟩ (Ent.mk (.i rfl zi<|zk) (.nil) rfl) ?_ ?_
      ·rintro i ⟨hi,hRi⟩
       refine jn ?_
       have m1:(((i:Int)-2002)*(nth p 3-((i:Int)-2002))).natAbs≤2003*3003:=mul_ab zo zo
       have m2:(((k:Int)-1000)*(nth p 2-((k:Int)-1000)-((i:Int)-2002)*(nth p 3-((i:Int)-2002)))).natAbs≤1001*6020000:=mul_ab zo zo
       have m3:(((i:Int)-2002)*(nth p 2-((k:Int)-1000)-((i:Int)-2002)*(nth p 3-((i:Int)-2002)))).natAbs≤2003*6020000:=mul_ab zo zo
       have m4:(((k:Int)-1000)*(nth p 3-((i:Int)-2002))).natAbs≤1001*3003:=mul_ab zo zo
       refine jx7 ?_; refine jq ?_ ?_
       ·intro h14
        refine jx7 ?_; refine tO (ok_idxN (i:=3) rfl uu rfl uu rfl (fun _=>zo)) rfl rfl ?_; refine jx9 ?_; refine tO (ok_idxN (i:=2) rfl uu rfl uu rfl (fun _=>zo)) rfl rfl ?_; refine jx16 ?_; refine tO (ok_idxN (i:=0) rfl uu rfl uu rfl (fun _=>zo)) rfl rfl ?_; refine jx5 ?_; refine TrL.gd rfl rfl rfl (ok_mul rfl id rfl id (fun hp=>by simp at hp; omega)) rfl rfl ?_; refine jx2 ?_; refine TrL.gd rfl rfl rfl (ok_mul rfl id rfl id (fun hp=>by simp at hp; omega)) rfl rfl ?_; refine TrL.gd rfl rfl rfl (ok_add rfl id rfl id (fun hp=>by simp at hp; omega)) rfl rfl ?_
        refine jx1 ?_; refine TrL.gd rfl rfl rfl (ok_idxN (i:=1) rfl id rfl uu rfl (fun _=>zo)) rfl rfl ?_; refine jx5 ?_; refine Tr.cnd rfl ?_ ?_
        ·intro h18
         have hq:RefQ p ((k:Int)-1000) ((i:Int)-2002):=by simp at h18; exact h18
         have hr:redB p=true:=redB_t (red_of hk5.2 hs hnr zo ⟨hb0,((i:Int)-2002),by omega,by omega,hq⟩)
         refine jx17 ?_; exact Rts.res1 (fn:=Tryz.f126) rfl (.b rfl (by rw[hr])<|.nil)
        ·intro h18
         have hnri:¬RefQ p ((k:Int)-1000) ((i:Int)-2002):=fun e=>by simp[e.1,e.2] at h18
         refine jx8 ?_
         exact End.lp (i+1) ⟨by omega,fun j hj=>by by_cases e:j=i; (subst e; exact hnri); exact hRi j zo⟩ zo (Ent.mk (.i rfl zi<|zk) (.nil) rfl)
       ·intro h14
        replace h14:=Int.not_le.1 h14
        refine jx4 ?_
        exact End.cut (i) (qNo_of (fun j hj=>hRi j zo)) (Ent.mk (.i rfl zi<|zk) (.nil) rfl)
      ·intro i hnb
       refine je ?_; refine jx7 ?_
       exact End.lp (k+1) ⟨by omega,fun h5 j hj=>by by_cases e:j=k; (subst e; exact hnb); exact hR h5 j zo⟩ zo (Ent.mk (.i rfl zi<|zk) (.nil) rfl)
    ·intro h10
     have hk5:p.length=5→k=2001:=by simp at h10; omega
     refine jx4 ?_
     exact End.cut (k) (redB_f (noRed_of hl3 hs hnr (fun h5 j hj=>hR h5 j (by have:=hk5 h5; omega)))) (Ent.mk (.i rfl zi<|zk) (.nil) rfl)
   ·intro k hnq
    refine je ?_; refine jx7 ?_; exact Rts.res1 (fn:=Tryz.f126) rfl (.b rfl (by rw[hnq])<|.nil)

end Go.Fl

/- Contracts: remainders, values at fractions and changes of sign, as the reference finds them. -/
namespace Go.Fl
open Go Go.Proofs
open TrL renaming op→tO
open RunD renaming op→rO
set_option maxRecDepth 100000

theorem lst_1:lstZ 1=[1]:=by decide
theorem short_end {xs:List (List Int)} {n:Nat} (hn:n≤xs.length) (hz:∀i,n≤i→i<xs.length→val (nth xs i)=0) (hnz:¬(0<n∧val (nth xs (n-1))=0)):(trimL (xs.map val)).length=n:=by
 have hl:(xs.map val).length=xs.length:=List.length_map ..
 have:=cut_end (ys:=xs.map val) (m:=xs.length) (j:=n) zo hn (fun i h1 h2=>by rw[nth_mapv]; exact hz i h1 h2) (fun ⟨h1,h2⟩=>hnz ⟨h1,by rw[nth_mapv] at h2; exact h2⟩)
 rw[List.take_of_length_le zo] at this
 exact this
theorem map_lst_val {xs:List Int}:(xs.map lstZ).map val=xs:=map_val
theorem take_lst {xs:List Int}:(xs.map lstZ).take (trimL ((xs.map lstZ).map val)).length=(trimL xs).map lstZ:=by
 rw[map_lst_val,← List.map_take,trim_pre]
theorem lstL_ok {xs:List Int} {B:Nat} (h:∀i,dl (nth xs i)≤B):LOk B (xs.map lstZ):=fun i=>by
 by_cases hi:i<xs.length
 ·have e:nth (xs.map lstZ) i=lstZ (nth xs i):=by simp[nth,hi]
  rw[e]; exact lst_ok (h i)
 ·rw[nth_out (by rw[List.length_map]; omega)]
  exact ⟨inI_nil,Nat.zero_le _,by show dl (val [])≤_; rw[val_nil,dl_zero.2 rfl]; omega⟩
theorem LOk.dl {B:Nat} {xs:List (List Int)} (h:LOk B xs) (i:Nat):dl (nth (xs.map val) i)≤B:=by rw[nth_mapv]; exact (h i).2.2
theorem tab_lst {xs:List Int} {k:Nat} (h:xs.length=k):(tab k fun j=>lstZ (nth xs j))=xs.map lstZ:=by
 conv=>rhs; rw[tab_nth h]
 simp[tab]
theorem mul_neg3 {s l:Int} (h1:-1≤s∧s≤1) (h2:-1≤l∧l≤1):s*l<0↔s≠0∧l≠0∧s≠l:=by
 rcases (show s=-1∨s=0∨s=1 by omega) with rfl | rfl | rfl<;>omega
theorem chg7 {c d:Nat×Int} {s t:Int} (h:c=chgS d t) (ht:t=sgn s) (h1:-1≤cmpZ s 0∧cmpZ s 0≤1) (h2:-1≤d.2∧d.2≤1) (q1:cmpZ s 0≠0) (q2:d.2≠0) (q3:cmpZ s 0≠d.2):(d.1:Int)+1=(c.1:Int):=by
 rw[h,ht]
 have:(chgS d (sgn s)).1=d.1+1:=if_pos ((mul_neg3 (s:=sgn s) h1 h2).2 ⟨q1,q2,q3⟩)
 omega
theorem chg7n {c d:Nat×Int} {s t:Int} (h:c=chgS d t) (ht:t=sgn s) (h1:-1≤cmpZ s 0∧cmpZ s 0≤1) (h2:-1≤d.2∧d.2≤1) (q:¬(cmpZ s 0≠0∧d.2≠0∧cmpZ s 0≠d.2)):(d.1:Int)=(c.1:Int):=by
 rw[h,ht]
 have:(chgS d (sgn s)).1=d.1:=if_neg fun e=>q ((mul_neg3 (s:=sgn s) h1 h2).1 e)
 omega
theorem chg8 {c d:Nat×Int} {s t:Int} (h:c=chgS d t) (ht:t=sgn s) (q:cmpZ s 0≠0):cmpZ s 0=c.2:=by
 rw[h,ht]; exact (if_pos q:(chgS d (sgn s)).2=sgn s).symm
theorem chg8n {c d:Nat×Int} {s t:Int} (h:c=chgS d t) (ht:t=sgn s) (q:cmpZ s 0=0):d.2=c.2:=by
 rw[h,ht]; exact (if_neg (fun e=>e q):(chgS d (sgn s)).2=d.2).symm
theorem rest_el1 {ql rs:List (List Int)} {k:Nat} (hq:1≤ql.length∧ql.length≤rs.length) (hk:k<rs.length) (h:0≤(k:Int)-(rs.length:Int)+(ql.length:Int)):((tab k fun j=>lstZ (nth (agT (ql.map val) (rs.map val)) j))++[lstZ (val (nth rs k)*val (nth ql ((ql.length:Int)-1).toNat)*val (nth ql ((ql.length:Int)-1).toNat)-val (nth rs ((rs.length:Int)-1).toNat)*val (nth ql ((ql.length:Int)-1).toNat)*val (nth ql ((k:Int)-(rs.length:Int)+(ql.length:Int)).toNat))])=tab (k+1) fun j=>lstZ (nth (agT (ql.map val) (rs.map val)) j):=by
 have e:nth (agT (ql.map val) (rs.map val)) k=val (nth rs k)*val (nth ql ((ql.length:Int)-1).toNat)*val (nth ql ((ql.length:Int)-1).toNat)-val (nth rs ((rs.length:Int)-1).toNat)*val (nth ql ((ql.length:Int)-1).toNat)*val (nth ql ((k:Int)-(rs.length:Int)+(ql.length:Int)).toNat):=by
  unfold agT
  rw[List.length_map,List.length_map,nth_tab hk,if_pos zo,nth_mapv,nth_mapv,nth_mapv,nth_mapv,show ((ql.length:Int)-1).toNat=ql.length-1 by omega,show ((rs.length:Int)-1).toNat=rs.length-1 by omega,show ((k:Int)-(rs.length:Int)+(ql.length:Int)).toNat=k-(rs.length-ql.length) by omega,Int.mul_assoc (val (nth rs k)),Int.sub_eq_add_neg]
 rw[tab_succ,e]
theorem rest_el2 {ql rs:List (List Int)} {k:Nat} (hq:1≤ql.length∧ql.length≤rs.length) (hk:k<rs.length) (h:(k:Int)-(rs.length:Int)+(ql.length:Int)<0):((tab k fun j=>lstZ (nth (agT (ql.map val) (rs.map val)) j))++[lstZ (val (nth rs k)*val (nth ql ((ql.length:Int)-1).toNat)*val (nth ql ((ql.length:Int)-1).toNat))])=tab (k+1) fun j=>lstZ (nth (agT (ql.map val) (rs.map val)) j):=by
 have e:nth (agT (ql.map val) (rs.map val)) k=val (nth rs k)*val (nth ql ((ql.length:Int)-1).toNat)*val (nth ql ((ql.length:Int)-1).toNat):=by
  unfold agT
  rw[List.length_map,List.length_map,nth_tab hk,if_neg zo,nth_mapv,nth_mapv,show ((ql.length:Int)-1).toNat=ql.length-1 by omega,Int.mul_assoc (val (nth rs k)),Int.add_zero]
 rw[tab_succ,e]
theorem rest_next {pl ql rs:List (List Int)} {A B:Nat} (hq1:1≤ql.length) (hqr:ql.length≤rs.length) (hrl:rs.length≤pl.length) (hag:agF (ql.map val) rs.length (rs.map val)=agF (ql.map val) pl.length (pl.map val)) (hro:LOk (A+(pl.length-rs.length)*(2*B+1)) rs) (hql:LOk B ql) :
  ((agR (ql.map val) (rs.map val)).map lstZ).length≤pl.length∧agF (ql.map val) ((agR (ql.map val) (rs.map val)).map lstZ).length (((agR (ql.map val) (rs.map val)).map lstZ).map val)=agF (ql.map val) pl.length (pl.map val)∧LOk (A+(pl.length-((agR (ql.map val) (rs.map val)).map lstZ).length)*(2*B+1)) ((agR (ql.map val) (rs.map val)).map lstZ)∧((agR (ql.map val) (rs.map val)).map lstZ=pl∨(agR (ql.map val) (rs.map val)).map lstZ=(((agR (ql.map val) (rs.map val)).map lstZ).map val).map lstZ):=by
 have hmq:(ql.map val).length=ql.length:=List.length_map ..
 have hmr:(rs.map val).length=rs.length:=List.length_map ..
 have h1:=agR_len (q:=ql.map val) (r:=rs.map val) zo zo
 rw[map_lst_val,List.length_map]
 refine ⟨by omega,?_,?_,.inr rfl⟩
 ·rw[← hag]
  have:=agF_go (q:=ql.map val) (r:=rs.map val) zo zo
  rw[hmr] at this
  exact this.symm
 ·refine lstL_ok fun i=>?_
  unfold agR
  rw[nth_trim]
  have q1:=agR_dl hro.dl hql.dl i
  have q2:=Nat.mul_le_mul_right (2*B+1) (show pl.length-rs.length+1≤pl.length-(trimL (agT (ql.map val) (rs.map val))).length by unfold agR at h1; omega)
  rw[Nat.succ_mul] at q2
  omega
theorem ct_rshortP (xs:List (List Int)) (B:Nat) (hx:LOk B xs) (hB:B≤1000000) (hl:xs.length≤1000):Ct Tryz.prog 197 [kRd (eL (eL eI)) xs] (kRd (eL (eL eI)) (xs.take (trimL (xs.map val)).length)):=by
 refine Ct.mk Tryz.func197 rfl Tryz.ntmps197 rfl (fun w J=>?_); refine jx12 ?_
 refine Tr.for (σ:=Nat) [⟨0,true,_,_⟩] [] (fun n=>[⟨3,true,[],kI (n:Int)⟩]) (fun n=>[]) (fun n=>n≤xs.length∧∀i,n≤i→i<xs.length→val (nth xs i)=0) (fun n=>(trimL (xs.map val)).length=n∧n≤xs.length) (fun n=>n) (xs.length) ⟨Nat.le_refl _,fun i h1 h2=>absurd h1 zo⟩ (Ent.mk (.i rfl zi<|zk) (.nil) rfl) ?_ ?_
 ·rintro n ⟨hn,hz⟩
  refine jn ?_; refine jx8 ?_; refine TrL.gd rfl rfl rfl (ok_sub rfl id rfl uu (fun hp=>by simp at hp; omega)) rfl rfl ?_
  first | refine TrL.gd rfl rfl rfl (ok_idxN rfl id rfl id rfl (fun hp=>by simp at hp; omega)) rfl rfl ?_ | refine TrL.gd rfl rfl rfl (ok_idxP rfl id rfl id rfl (fun hp=>by simp at hp; omega)) rfl rfl ?_
  refine jx1 ?_; refine TrL.gd rfl rfl rfl (ok_call (fun hp=>ct_rSign _ (hx _).1 (by have:=(hx ((n:Int)-1).toNat).2.1; omega)) (.a rfl id<|.nil)) rfl rfl ?_; refine jx4 ?_; refine Tr.cnd rfl ?_ ?_
  ·intro h2
   try simp only[decide_eq_true_eq,Bool.and_eq_true] at h2
   have hzz:0<n∧val (nth xs (n-1))=0:=⟨by omega,by have:=cmpZ_z.1 h2.2; rwa [show ((n:Int)-1).toNat=n-1 by omega] at this⟩
   refine jx9 ?_
   exact End.lp (n-1) ⟨by omega,fun i h2 h3=>by by_cases e:i=n-1; (rw[e]; exact hzz.2); exact hz i zo h3⟩ zo (Ent.mk (.i rfl zi<|zk) (.nil) rfl)
  ·intro h2
   try simp only[decide_eq_true_eq,decide_eq_false_iff_not,Bool.and_eq_false_imp] at h2
   have hnz:¬(0<n∧val (nth xs (n-1))=0):=fun ⟨q1,q2⟩=>h2 zo (cmpZ_z.2 (by rw[show ((n:Int)-1).toNat=n-1 by omega]; exact q2))
   refine jx4 ?_
   exact End.cut (n) ⟨short_end hn hz hnz,hn⟩ (Ent.mk (.i rfl zi<|zk) (.nil) rfl)
 ·rintro n ⟨ht,hn⟩
  refine jn ?_
  have htn:((n:Int)).toNat=n:=Int.toNat_natCast n
  refine jx4 ?_; refine tO (ok_slJh rfl uu rfl uu (fun _=>zo)) rfl rfl ?_; refine jx4 ?_; exact Rts.res1 (fn:=Tryz.f197) rfl (.r rfl (by rw[ht,htn])<|.nil)

theorem ct_rat (pl:List (List Int)) (a b:List Int) (B C:Nat) (hpl:LOk C pl) (hl:pl.length≤6) (ha:InI a∧a.length≤B) (hb:InI b∧b.length≤B) (hda:dl (val a)≤B) (hdb:dl (val b)≤B) (hB:B≤75000) (hC:C≤20000):Ct Tryz.prog 131 [kRd (eL (eL eI)) pl,kRd (eL eI) a,kRd (eL eI) b] (kRd (eL eI) (lstZ (hvP (val a) (val b) (pl.map val)).1)):=by
 have hml:(pl.map val).length=pl.length:=List.length_map ..
 refine Ct.mk Tryz.func131 rfl Tryz.ntmps131 rfl (fun w J=>?_); refine jx12 ?_; refine TrL.new (ok_bsl eI 10 (fun hp=>.cons rfl<|.nil) rfl rfl rfl rfl) rfl rfl rfl rfl ?_; refine TrL.frz 10 [10] ⟨rfl,trivial⟩ (by decide) rfl ?_; refine jl ?_; refine jx12 ?_
 refine Tr.for1 (σ:=Nat) [⟨0,true,_,_⟩,⟨1,true,_,_⟩,⟨2,true,_,_⟩] [] (fun k=>[⟨7,true,[],kRd (eL eI) (lstZ (hvK (val a) (val b) (pl.map val) k).1)⟩,⟨8,true,[],kRd (eL eI) (lstZ (hvK (val a) (val b) (pl.map val) k).2)⟩,⟨9,true,[],kI ((pl.length:Int)-1-k)⟩]) (fun k=>[]) (fun k=>k≤pl.length) (fun k=>k=pl.length) (fun k=>pl.length-k) (0) zi (Ent.mk (.n rfl (by rw[hvK_zero]; rfl)<|.r rfl (by rw[hvK_zero]; exact lst_1.symm)<|.i rfl zi<|zk) (.nil) rfl) ?_ ?_
 ·intro k hR0
  refine jn ?_
  have hbd:=fun (h:k≤(pl.map val).length)=>hvK_dl (p:=pl.map val) (B:=B) (C:=C) hpl.dl hda hdb (k:=k) h
  have hix:=fun (h:k<pl.length)=>(show ((pl.length:Int)-1-(k:Int)).toNat=(pl.map val).length-1-k by omega)
  have hk5:=fun (h:k<pl.length)=>Nat.mul_le_mul (show k≤5 by omega) (show B+1≤75001 by omega)
  have hk6:=fun (h:k<pl.length)=>Nat.mul_le_mul (show k≤5 by omega) (show B≤75000 by omega)
  refine jx7 ?_; refine jq ?_ ?_
  ·intro h4
   refine jx5 ?_; refine Tr.draw 8 mixed (by kernel_rfl) ?_
   have hbk:=hbd zo
   replace hk5:=hk5 zo
   replace hk6:=hk6 zo
   have hixk:=hix zo
   have hq1:=dl_mul (hvK (val a) (val b) (pl.map val) k).1 (val a)
   have hq2:=dl_mul (val (nth pl ((pl.length:Int)-1-k).toNat)) (hvK (val a) (val b) (pl.map val) k).2
   have hq3:=(hpl ((pl.length:Int)-1-k).toNat).2.2
   refine jx2 ?_; refine rO (ok_call (fun hp=>ct_rMul (lstZ (hvK (val a) (val b) (pl.map val) k).1) a (lst_in _) ha.1 (by rw[lst_len]; omega) zo) (.a rfl uu<|.a rfl uu<|.nil)) rfl rfl ?_; refine jx6 ?_; refine tO (ok_call (fun hp=>ct_rMul (nth pl ((pl.length:Int)-1-k).toNat) (lstZ (hvK (val a) (val b) (pl.map val) k).2) (hpl _).1 (lst_in _) (by have:=(hpl ((pl.length:Int)-1-k).toNat).2.1; omega) (by rw[lst_len]; omega)) (.a rfl uu<|.a rfl uu<|.nil)) rfl rfl ?_; refine tO (ok_call (fun hp=>ct_rAdd (lstZ (val (lstZ (hvK (val a) (val b) (pl.map val) k).1)*val a)) (lstZ (val (nth pl ((pl.length:Int)-1-k).toNat)*val (lstZ (hvK (val a) (val b) (pl.map val) k).2))) (lst_in _) (lst_in _) (by rw[lst_len,lst_val]; omega) (by rw[lst_len,lst_val]; omega)) (.a rfl uu<|.a rfl uu<|.nil)) rfl rfl ?_
   refine jx6 ?_; refine tO (ok_call (fun hp=>ct_rMul (lstZ (hvK (val a) (val b) (pl.map val) k).2) b (lst_in _) hb.1 (by rw[lst_len]; omega) zo) (.a rfl uu<|.a rfl uu<|.nil)) rfl rfl ?_; refine jx9 ?_
   exact End.lp (k+1) zi zo (Ent.mk (.r rfl (by rw[hvK_step zo,hixk,lst_val,lst_val,lst_val,lst_val,nth_mapv])<|.r rfl (by rw[hvK_step zo,lst_val])<|.i rfl zi<|zk) (.nil) rfl)
  ·intro h4
   replace h4:=Int.not_le.1 h4
   refine jx4 ?_
   exact End.cut (k) zo (Ent.mk (.r rfl zi<|.r rfl zi<|.i rfl zi<|zk) (.nil) rfl)
 ·rintro k hkn
  refine je ?_; refine jx8 ?_; exact Rts.res1 (fn:=Tryz.f131) rfl (.r rfl (by rw[hkn,← hml,hvK_end])<|.nil)

theorem ct_rchanges (cl:List (List (List Int))) (a b:List Int) (hl:cl.length≤5) (hc:∀j,j<cl.length→(nth cl j).length≤5∧LOk 1690 (nth cl j)) (ha:InI a∧a.length≤4) (hb:InI b∧b.length≤4) (hda:dl (val a)≤4) (hdb:dl (val b)≤4):Ct Tryz.prog 173 [kRd (eL (eL (eL eI))) cl,kRd (eL eI) a,kRd (eL eI) b] (kI ((chg (cl.map fun q=>sgn (hvP (val a) (val b) (q.map val)).1)).1:Int)):=by
 obtain ⟨sl,hsl⟩:∃sl,sl=(cl.map fun q=>sgn (hvP (val a) (val b) (q.map val)).1):=⟨_,rfl⟩
 have hll:sl.length=cl.length:=by rw[hsl,List.length_map]
 have hsn:∀j,j<cl.length→nth sl j=sgn (hvP (val a) (val b) ((nth cl j).map val)).1:=fun j hj=>by rw[hsl]; simp[nth,hj]
 have hsb:∀s∈sl,-1≤s∧s≤1:=fun s hs=>by rw[hsl] at hs; obtain ⟨q,_,rfl⟩:=List.mem_map.1 hs; exact sgn_bd _
 have hcle:=fun k=>chg_le (l:=sl.take k)
 have htk:∀k,(sl.take k).length≤5:=fun k=>by rw[List.length_take]; omega
 rw[← hsl]
 refine Ct.mk Tryz.func173 rfl Tryz.ntmps173 rfl (fun w J=>?_); refine jx17 ?_
 refine Tr.for1 (σ:=Nat) [⟨0,true,_,_⟩,⟨1,true,_,_⟩,⟨2,true,_,_⟩] [] (fun k=>[⟨7,true,[],kI ((chg (sl.take k)).1:Int)⟩,⟨8,true,[],kI (chg (sl.take k)).2⟩,⟨9,true,[],kI (k:Int)⟩]) (fun k=>[]) (fun k=>k≤cl.length) (fun k=>k=cl.length) (fun k=>cl.length-k) (0) zi (Ent.mk (.i rfl (by rfl)<|.i rfl (by rfl)<|.i rfl zi<|zk) (.nil) rfl) ?_ ?_
 ·intro k hR0
  refine jn ?_
  have hcq:=fun (h:k<cl.length)=>hc k h
  have hcs:=fun (h:k<cl.length)=>chg_succ (l:=sl) (k:=k) zo
  have hsk:=fun (h:k<cl.length)=>hsn k h
  have hb2:=chg_sn (sl.take k) (fun s hs=>hsb s (List.mem_of_mem_take hs))
  have hb1:-1≤cmpZ (hvP (val a) (val b) ((nth cl k).map val)).1 0∧cmpZ (hvP (val a) (val b) ((nth cl k).map val)).1 0≤1:=sgn_bd _
  have hb4:=hcle k
  have hb5:=htk k
  refine jx9 ?_; refine jq ?_ ?_
  ·intro h3
   refine jx6 ?_
   have hck:=hcq zo
   have hvb:=hvK_dl (p:=(nth cl k).map val) (B:=4) (C:=1690) hck.2.dl hda hdb (k:=(nth cl k).length) (by rw[List.length_map]; exact Nat.le_refl _)
   have hve:hvK (val a) (val b) ((nth cl k).map val) (nth cl k).length=hvP (val a) (val b) ((nth cl k).map val):=by have:=hvK_end (a:=val a) (d:=val b) (p:=(nth cl k).map val); rw[List.length_map] at this; exact this
   rw[hve] at hvb
   refine jx6 ?_; refine jc (ct_rat (nth cl k) a b 4 1690 hck.2 zo ha hb hda hdb zo zo) ?_; refine tO (ok_call (fun hp=>ct_rSign (lstZ (hvP (val a) (val b) ((nth cl k).map val)).1) (lst_in _) (by rw[lst_len]; omega)) (.a rfl uu<|.nil)) rfl rfl ?_
   rw[lst_val]
   refine jx9 ?_; refine jq ?_ ?_
   ·intro h6
    refine jx12 ?_; refine Tr.cnd rfl ?_ ?_
    ·intro h7
     have hyy:(chg (sl.take k)).2≠0∧cmpZ (hvP (val a) (val b) ((nth cl k).map val)).1 0≠(chg (sl.take k)).2:=by simpa using h7
     have hy1:=hyy.1
     have hy2:=hyy.2
     refine jx17 ?_
     exact End.lp (k+1) zi zo (Ent.mk (.i rfl (chg7 (hcs zo) (hsk zo) hb1 hb2 zo zo zo)<|.i rfl (chg8 (hcs zo) (hsk zo) h6)<|.i rfl zi<|zk) (.nil) rfl)
    ·intro h7
     have hno:¬(cmpZ (hvP (val a) (val b) ((nth cl k).map val)).1 0≠0∧(chg (sl.take k)).2≠0∧cmpZ (hvP (val a) (val b) ((nth cl k).map val)).1 0≠(chg (sl.take k)).2):=fun e=>by simp[e.2.1,e.2.2] at h7
     refine jx13 ?_
     exact End.lp (k+1) zi zo (Ent.mk (.i rfl (chg7n (hcs zo) (hsk zo) hb1 hb2 hno)<|.i rfl (chg8 (hcs zo) (hsk zo) h6)<|.i rfl zi<|zk) (.nil) rfl)
   ·intro h6
    replace h6:=Classical.not_not.1 h6
    refine jx8 ?_
    exact End.lp (k+1) zi zo (Ent.mk (.i rfl (chg7n (hcs zo) (hsk zo) hb1 hb2 (fun e=>absurd h6 e.1))<|.i rfl (chg8n (hcs zo) (hsk zo) h6)<|.i rfl zi<|zk) (.nil) rfl)
  ·intro h3
   replace h3:=Int.not_lt.1 h3
   refine jx4 ?_
   exact End.cut (k) zo (Ent.mk (.i rfl zi<|.i rfl zi<|.i rfl zi<|zk) (.nil) rfl)
 ·rintro k hkn
  refine je ?_
  have htl:sl.take k=sl:=List.take_of_length_le zo
  refine jx8 ?_; exact Rts.res1 (fn:=Tryz.f173) rfl (.i rfl (by rw[htl])<|.nil)

set_option maxHeartbeats 2000000 in
theorem ct_rrest (pl ql:List (List Int)) (A B:Nat) (hpl:LOk A pl) (hql:LOk B ql) (hq1:1≤ql.length) (hqp:ql.length≤pl.length) (h5:pl.length≤5) (hA2:A≤10000) (hB2:B≤10000):Ct Tryz.prog 172 [kRd (eL (eL eI)) pl,kRd (eL (eL eI)) ql] (kRd (eL (eL eI)) ((agF (ql.map val) pl.length (pl.map val)).map lstZ)):=by
 have hmp:(pl.map val).length=pl.length:=List.length_map ..
 have hmq:(ql.map val).length=ql.length:=List.length_map ..
 have hqx:((ql.length:Int)-1).toNat=ql.length-1:=by omega
 refine Ct.mk Tryz.func172 rfl Tryz.ntmps172 rfl (fun w J=>?_); refine jx18 ?_; refine TrL.new (ok_bsl0 (eL eI) 18) rfl rfl rfl rfl ?_; refine jx2 ?_; refine jl ?_; refine jx3 ?_; refine Tr.frz 18 [20,6] ⟨rfl,rfl,trivial⟩ (by simp only[lenMax]; omega) rfl ?_; refine jn ?_; refine Tr.for (σ:=List (List Int)) [⟨1,true,_,_⟩,⟨5,true,_,_⟩] [] (fun rs=>[⟨6,true,[],kRd (eL (eL eI)) rs⟩]) (fun rs=>[]) (fun rs=>rs.length≤pl.length∧agF (ql.map val) rs.length (rs.map val)=agF (ql.map val) pl.length (pl.map val)∧LOk (A+(pl.length-rs.length)*(2*B+1)) rs∧(rs=pl∨rs=(rs.map val).map lstZ)) (fun rs=>rs=(agF (ql.map val) pl.length (pl.map val)).map lstZ) (fun rs=>rs.length) (pl) ⟨Nat.le_refl _,rfl,hpl.mono zo,.inl rfl⟩ (Ent.mk (.r rfl (by rfl)<|zk) (.nil) rfl) ?_ ?_
 ·rintro rs ⟨hrl,hag,hro,hrp⟩
  refine jn ?_
  have hmr:(rs.map val).length=rs.length:=List.length_map ..
  have hmB:(pl.length-rs.length)*(2*B+1)≤5*20001:=Nat.mul_le_mul zo zo
  refine jx10 ?_; refine jq ?_ ?_
  ·intro h3
   refine jx25 ?_; refine Tr.grow (s:=8) rfl rfl 88 rfl 22 (eL eI) rfl ?_
   refine Tr.for1 (σ:=Nat) [⟨1,true,_,_⟩,⟨5,true,_,_⟩,⟨6,true,_,_⟩,⟨7,true,_,_⟩] [] (fun k=>[⟨8,true,[88],kOsl 88 k⟩,⟨9,true,[],kI (k:Int)⟩]) (fun k=>[⟨88,[],cArr true 22 (eL eI) (tab k fun j=>lstZ (nth (agT (ql.map val) (rs.map val)) j)) k⟩]) (fun k=>k≤rs.length) (fun k=>k=rs.length) (fun k=>rs.length-k) (0) zi (Ent.mk (.o rfl zi rfl<|.i rfl zi<|zk) (.a (by rfl) zi<|.nil) rfl) ?_ ?_
   ·intro k hR1
    refine jn ?_
    have hrx:((rs.length:Int)-1).toNat=rs.length-1:=by omega
    have hro1:=hro k
    have hro2:=hro ((rs.length:Int)-1).toNat
    have hqo:=hql ((ql.length:Int)-1).toNat
    have hqk:=hql ((k:Int)-(rs.length:Int)+(ql.length:Int)).toNat
    have hm1:=dl_mul (val (nth rs k)) (val (nth ql ((ql.length:Int)-1).toNat))
    have hm2:=dl_mul (val (nth rs k)*val (nth ql ((ql.length:Int)-1).toNat)) (val (nth ql ((ql.length:Int)-1).toNat))
    have hm3:=dl_mul (val (nth rs ((rs.length:Int)-1).toNat)) (val (nth ql ((ql.length:Int)-1).toNat))
    have hm4:=dl_mul (val (nth rs ((rs.length:Int)-1).toNat)*val (nth ql ((ql.length:Int)-1).toNat)) (val (nth ql ((k:Int)-(rs.length:Int)+(ql.length:Int)).toNat))
    refine jx9 ?_; refine jq ?_ ?_
    ·intro h7
     refine jx11 ?_; refine jc (ct_rMul (nth rs k) (nth ql ((ql.length:Int)-1).toNat) hro1.1 hqo.1 zo zo) ?_; refine jx1 ?_; refine tO (ok_call (fun hp=>ct_rMul (lstZ (val (nth rs k)*val (nth ql ((ql.length:Int)-1).toNat))) (nth ql ((ql.length:Int)-1).toNat) (lst_in _) hqo.1 (by rw[lst_len]; omega) zo) (.a rfl uu<|.a rfl uu<|.nil)) rfl rfl ?_
     rw[lst_val]
     refine jx22 ?_; refine jq ?_ ?_
     ·intro h11
      refine Tr.draw 9 mixed (by kernel_rfl) ?_; refine jx3 ?_; refine jd (ct_rMul (nth rs ((rs.length:Int)-1).toNat) (nth ql ((ql.length:Int)-1).toNat) hro2.1 hqo.1 zo zo) ?_; refine jx4 ?_; refine rO (ok_call (fun hp=>ct_rMul (lstZ (val (nth rs ((rs.length:Int)-1).toNat)*val (nth ql ((ql.length:Int)-1).toNat))) (nth ql ((k:Int)-(rs.length:Int)+(ql.length:Int)).toNat) (lst_in _) hqk.1 (by rw[lst_len]; omega) zo) (.a rfl uu<|.a rfl uu<|.nil)) rfl rfl ?_
      rw[lst_val]
      refine jx1 ?_; refine tO (ok_call (fun hp=>ct_rSub (lstZ (val (nth rs k)*val (nth ql ((ql.length:Int)-1).toNat)*val (nth ql ((ql.length:Int)-1).toNat))) (lstZ (val (nth rs ((rs.length:Int)-1).toNat)*val (nth ql ((ql.length:Int)-1).toNat)*val (nth ql ((k:Int)-(rs.length:Int)+(ql.length:Int)).toNat))) (lst_in _) (lst_in _) (by rw[lst_len]; omega) (by rw[lst_len]; omega)) (.a rfl uu<|.a rfl uu<|.nil)) rfl rfl ?_
      rw[lst_val,lst_val]
      refine jx6 ?_; refine TrL.new (ok_bsl (eL eI) 67 (fun hp=>.cons rfl<|.nil) rfl rfl rfl rfl) rfl rfl rfl rfl ?_; refine jx1 ?_; refine jl ?_; refine jx9 ?_
      exact End.lp (k+1) zi zo (Ent.mk (.o rfl zi rfl<|.i rfl zi<|zk) (.a (rest_el1 zo zo zo) zi<|.nil) rfl)
     ·intro h11
      replace h11:=Int.not_le.1 h11
      refine jx5 ?_; refine TrL.new (ok_bsl (eL eI) 67 (fun hp=>.cons rfl<|.nil) rfl rfl rfl rfl) rfl rfl rfl rfl ?_; refine jx1 ?_; refine jl ?_; refine jx9 ?_
      exact End.lp (k+1) zi zo (Ent.mk (.o rfl zi rfl<|.i rfl zi<|zk) (.a (rest_el2 zo zo zo) zi<|.nil) rfl)
    ·intro h7
     replace h7:=Int.not_lt.1 h7
     refine jx4 ?_
     exact End.cut (k) zo (Ent.mk (.o rfl zi rfl<|.i rfl zi<|zk) (zk) rfl)
   ·rintro k hkr
    refine je ?_
    rw[hkr]
    refine jx3 ?_; refine TrL.frz 88 [8,69] ⟨rfl,rfl,trivial⟩ (by simp only[lenMax]; omega) rfl ?_; refine jl ?_; refine jc (ct_rshortP (tab rs.length fun j=>lstZ (nth (agT (ql.map val) (rs.map val)) j)) 200000 (by rw[tab_lst (xs:=agT (ql.map val) (rs.map val)) (by rw[agT_len]; omega)]; exact lstL_ok (fun i=>Nat.le_trans (agR_dl hro.dl hql.dl i) zo)) zo (by rw[tab_len]; omega)) ?_; refine jx3 ?_; exact End.lp ((agR (ql.map val) (rs.map val)).map lstZ) (rest_next zo zo zo hag hro hql) (by have:=agR_len (q:=(ql.map val)) (r:=(rs.map val)) zo zo; show ((agR (ql.map val) (rs.map val)).map lstZ).length<rs.length; rw[List.length_map]; omega) (Ent.mk (.r rfl (by rw[tab_lst (xs:=agT (ql.map val) (rs.map val)) (by rw[agT_len]; omega)]; exact take_lst)<|zk) (.nil) rfl)
  ·intro h3
   replace h3:=Int.not_le.1 h3
   refine jx4 ?_
   exact End.cut (rs) (by rw[← hag]; have h1:=agF_end (q:=(ql.map val)) (r:=(rs.map val)) zo; rw[hmr] at h1; rw[h1]; exact hrp.resolve_left (fun e=>by rw[e] at h3; omega)) (Ent.mk (.r rfl zi<|zk) (.nil) rfl)
 ·rintro rs hre
  refine jn ?_; refine jx7 ?_; exact Rts.res1 (fn:=Tryz.f172) rfl (.r rfl (by rw[hre])<|.nil)

end Go.Fl

/- Contracts: fields of the reference. -/
namespace Go.Fl
open Go Go.Proofs
open TrL renaming op→tO
open RunD renaming op→rO
set_option maxRecDepth 100000

abbrev RrT:=FdT×Unit
def eRr:Enc RrT:=eC (fun v:RrT=>(v.1,())) (eP eFd eU)
instance {v:RrT}:CellsK (kRd eRr v) [kRd (eL eI) (v.1.1),kI (v.1.2.1),kI (v.1.2.2.1),kI (v.1.2.2.2)]:=inferInstanceAs (CellsK (kRd (eC (fun v:RrT=>(v.1,())) (eP eFd eU)) v) _)
instance {v:RrT} {tl:List Know}:EncCells eRr v tl (kRd (eL eI) (v.1.1)::kI (v.1.2.1)::kI (v.1.2.2.1)::kI (v.1.2.2.2)::tl):=inferInstanceAs (EncCells (eC (fun v:RrT=>(v.1,())) (eP eFd eU)) v tl _)
instance {v:RrT}:Norm eRr v (kRd eRr v):=⟨fun h=>h⟩
instance {v:RrT}:FieldP eRr v 0 eFd (v.1) 0:=inferInstanceAs (FieldP (eC (fun v:RrT=>(v.1,())) (eP eFd eU)) v 0 _ _ _)
instance {ks r:List Know} {f:FdT} [h:RdOf ks (eP eFd eU) (f,()) r]:RdOf ks eRr ((f,())) r:=⟨fun h'=>h.imp h'⟩
def rch (p:List Int):List (List (List Int)):=(p.map fun c=>[c])::((drv p).map fun c=>[c])::((chF 5 p (drv p)).map fun (q:List Int)=>q.map lstZ)
theorem rch_len {p:List Int}:(rch p).length=(chS p).length:=by unfold rch chS; simp
theorem one_val {xs:List Int}:((xs.map fun c=>[c]).map val)=xs:=by
 rw[List.map_map]
 conv=>rhs; rw[← List.map_id xs]
 exact List.map_congr_left fun c _=>val_one
theorem rch_val {p:List Int} {j:Nat} (hj:j<(chS p).length):(nth (rch p) j).map val=nth (chS p) j:=by
 match j,hj with
 | 0,_=>exact one_val
 | 1,_=>exact one_val
 | j+2,hj =>
  have hl:j<(chF 5 p (drv p)).length:=by unfold chS at hj; simpa using hj
  show (nth ((chF 5 p (drv p)).map fun (q:List Int)=>q.map lstZ) j).map val=nth (chF 5 p (drv p)) j
  have e:nth ((chF 5 p (drv p)).map fun (q:List Int)=>q.map lstZ) j=(nth (chF 5 p (drv p)) j).map lstZ:=by simp[nth,hl]
  rw[e,map_lst_val]
theorem rch_at {p:List Int} {j:Nat} (h2:2≤j) (hj:j<(chS p).length):nth (rch p) j=(nth (chS p) j).map lstZ:=by
 match j,h2,hj with
 | j+2,_,hj =>
  have hl:j<(chF 5 p (drv p)).length:=by unfold chS at hj; simpa using hj
  show nth ((chF 5 p (drv p)).map fun (q:List Int)=>q.map lstZ) j=(nth (chF 5 p (drv p)) j).map lstZ
  simp[nth,hl]
theorem one_ok {xs:List Int} {B:Nat} (hx:∀i,(nth xs i).natAbs≤5000) (hB:1≤B):LOk B (xs.map fun c=>[c]):=fun i=>by
 by_cases hi:i<xs.length
 ·have e:nth (xs.map fun c=>[c]) i=[nth xs i]:=by simp[nth,hi]
  rw[e,val_one]
  have:=hx i
  exact ⟨in1 zo,hB,Nat.le_trans (dl_le (k:=1) (by simp[BP]; omega)) hB⟩
 ·rw[nth_out (by rw[List.length_map]; omega)]
  exact ⟨inI_nil,Nat.zero_le _,by show dl (val [])≤_; rw[val_nil,dl_zero.2 rfl]; omega⟩
section
variable {p:List Int} (h3:3≤p.length) (h5:p.length≤5) (h1:nth p (p.length-1)=1) (hs:∀i,(nth p i).natAbs≤1000)
include h3 h5 h1 hs
theorem drv_bd (i:Nat):(nth (drv p) i).natAbs≤5000:=by
 by_cases hi:i<p.length-1
 ·rw[drv_nth hi]; have:=h3; have:=h1; exact mul_ab (m:=1000) (n:=5) (hs _) zo
 ·rw[nth_out (by rw[drv_len]; omega)]; show (0:Int).natAbs≤_; omega
theorem rch_ok {j:Nat} (hj:j<(chS p).length):(nth (rch p) j).length+j≤p.length∧LOk 1681 (nth (rch p) j):=by
 have hl:=congrArg List.length (rch_val hj)
 rw[List.length_map] at hl
 obtain ⟨q1,q2,q3⟩:=chS_el h3 h5 h1 hs hj
 refine ⟨by omega,?_⟩
 match j,hj with
 | 0,_=>exact one_ok (fun i=>Nat.le_trans (hs i) zo) zo
 | 1,_=>exact one_ok (drv_bd h3 h5 h1 hs) zo
 | j+2,hj=>rw[rch_at zo hj]; exact lstL_ok q3
theorem rch_dec {m:Nat} (h2:2≤m) (hm:m≤(chS p).length):1≤(nth (rch p) (m-1)).length∧(nth (rch p) (m-1)).length≤(nth (rch p) (m-2)).length:=by
 have e1:=congrArg List.length (rch_val (p:=p) (j:=m-1) zo)
 have e2:=congrArg List.length (rch_val (p:=p) (j:=m-2) zo)
 rw[List.length_map] at e1 e2
 have n1:=List.length_pos_iff.2 (chS_ne h3 h5 h1 (m:=m-1) zo)
 refine ⟨by omega,?_⟩
 rw[e1,e2]
 by_cases h:m=2
 ·subst h
  show (drv p).length≤p.length
  rw[drv_len]; omega
 ·obtain ⟨hq,_⟩:=chS_next h3 h5 h1 (m:=m-1) zo zo
  rw[if_pos zo] at hq
  rw[← hq,show m-1-1=m-2 by omega]
  obtain ⟨a1,a2,a3⟩:=chS_el h3 h5 h1 hs (j:=m-1-2) zo
  obtain ⟨b1,b2,b3⟩:=chS_el h3 h5 h1 hs (j:=m-2) zo
  have n2:=List.length_pos_iff.2 (chS_ne h3 h5 h1 (m:=m-2) zo)
  have:=(against_ok n2 a1 a3 b3 zo).2.1
  omega
end
theorem rch_sg {p:List Int} {a b:List Int}:((rch p).map fun (q:List (List Int))=>sgn (hvP (val a) (val b) (q.map val)).1)=sgCh p (val a) (val b):=by
 unfold sgCh
 refine ext_nth (by rw[List.length_map,List.length_map,rch_len]) fun i hi=>?_
 rw[List.length_map,rch_len] at hi
 have e1:nth ((rch p).map fun (q:List (List Int))=>sgn (hvP (val a) (val b) (q.map val)).1) i=sgn (hvP (val a) (val b) ((nth (rch p) i).map val)).1:=by simp[nth,rch_len,hi]
 have e2:nth ((chS p).map fun q=>sgn (hvP (val a) (val b) q).1) i=sgn (hvP (val a) (val b) (nth (chS p) i)).1:=by simp[nth,hi]
 rw[e1,e2,rch_val hi]
theorem neg_RL {a b:List Int} {RL:List (List Int)} (h:RL=(agF b a.length a).map lstZ):(tab RL.length fun j=>lstZ (-val (nth RL j)))=(against a b).map lstZ:=by
 subst h
 unfold against
 rw[List.length_map]
 refine ext_nth (by rw[tab_len,List.length_map,List.length_map]) fun i hi=>?_
 rw[tab_len] at hi
 rw[nth_tab hi]
 have e1:nth ((agF b a.length a).map lstZ) i=lstZ (nth (agF b a.length a) i):=by simp[nth,hi]
 have e2:nth (((agF b a.length a).map fun z=>-z).map lstZ) i=lstZ (-nth (agF b a.length a) i):=by simp[nth,hi]
 rw[e1,e2,lst_val]
def rtsF (f:FdT):Int:=if f.1.length=2 then (if f.2.1≤-nth f.1 0*f.2.2.2∧-nth f.1 0*f.2.2.2≤f.2.2.1 then 1 else 0) else ((chg (sgCh f.1 f.2.1 f.2.2.2)).1:Int)-(chg (sgCh f.1 f.2.2.1 f.2.2.2)).1
theorem rtsF_one {f:FdT}:rtsF f=1↔oneB f=true:=by
 unfold rtsF oneB
 split
 ·rw[decide_eq_true_eq]; split<;>simp_all
 ·rw[decide_eq_true_eq]
theorem take_map1 {xs:List Int} {k:Nat} (hk:k<xs.length):(xs.map fun c=>[c]).take k++[[nth xs k]]=(xs.map fun c=>[c]).take (k+1):=by
 rw[← List.map_take,← List.map_take,take_succ_nth hk,List.map_append]; rfl
theorem drv_take1 {p:List Int} {k:Nat} (h1:1≤k) (hk:k<p.length):((drv p).map fun c=>[c]).take (k-1)++[[(k:Int)*nth p k]]=((drv p).map fun c=>[c]).take k:=by
 rw[← List.map_take,← List.map_take,← drv_take h1 hk,List.map_append,Int.mul_comm]; rfl
set_option maxHeartbeats 2000000 in
theorem ct_rRoots (f:FdT) (h2':2≤f.1.length) (h5':f.1.length≤5) (h1':nth f.1 (f.1.length-1)=1) (hs:∀i,(nth f.1 i).natAbs≤1000) (hd:1≤f.2.2.2∧f.2.2.2≤1000000) (hlo:-1000000≤f.2.1∧f.2.1≤1000000) (hhi:-1000000≤f.2.2.1∧f.2.2.1≤1000000):Ct Tryz.prog 127 [kRd eFd f] (kI (rtsF f)):=by
 have hm0:(-nth f.1 0*f.2.2.2).natAbs≤1000*1000000:=mul_ab (by rw[Int.natAbs_neg]; exact hs 0) zo
 have hs0:=hs 0
 refine Ct.mk Tryz.func127 rfl Tryz.ntmps127 rfl (fun w J=>?_); refine jx2 ?_; refine jb 1 rfl ?_; refine jx5 ?_; refine Tr.frzB 1 [1] eFd (x:=f) ⟨rfl,trivial⟩ rfl ?_; refine jn ?_; refine jx7 ?_; refine jq ?_ ?_
 ·intro h1
  have hl2:f.1.length=2:=by omega
  refine jx2 ?_; refine Tr.draw 22 mixed (by kernel_rfl) ?_; refine jx2 ?_; refine rO (ok_idxN (i:=0) rfl uu rfl uu rfl (fun _=>zo)) rfl rfl ?_; refine jx1 ?_; refine rO (ok_neg rfl uu (fun _=>zo)) rfl rfl ?_; refine jx9 ?_; refine RunD.gd rfl rfl rfl (ok_idxN (i:=0) rfl id rfl uu rfl (fun _=>zo)) rfl rfl ?_; refine jx1 ?_; refine RunD.gd rfl rfl rfl (ok_neg rfl id (fun hp=>by simp at hp; omega)) rfl rfl ?_; refine jx2 ?_; refine RunD.gd rfl rfl rfl (ok_mul rfl id rfl id (fun hp=>by simp at hp; omega)) rfl rfl ?_; refine jx7 ?_; refine Tr.cnd rfl ?_ ?_
  ·intro h2
   have hr:rtsF f=1:=by unfold rtsF; rw[if_pos hl2,if_pos (by simpa using h2)]
   refine jx8 ?_; exact Rts.res1 (fn:=Tryz.f127) rfl (.i rfl (by rw[hr])<|.nil)
  ·intro h2
   have hr:rtsF f=0:=by unfold rtsF; rw[if_pos hl2,if_neg (fun e=>by simp[e.1,e.2] at h2)]
   refine jx9 ?_; exact Rts.res1 (fn:=Tryz.f127) rfl (.i rfl (by rw[hr])<|.nil)
 ·intro h1
  have h3':3≤f.1.length:=by omega
  have hL5:=chS_len h3' h5' h1' hs
  have hL2:2≤(chS f.1).length:=by unfold chS; simp
  have hel:=fun (j:Nat) (hj:j<(chS f.1).length)=>rch_ok h3' h5' h1' hs hj
  have hrl:=rch_len (p:=f.1)
  have hdl:=drv_len (p:=f.1)
  have hcl:∀a:Int,(chg (sgCh f.1 a f.2.2.2)).1≤5:=fun a=>by have:=chg_le (l:=sgCh f.1 a f.2.2.2); unfold sgCh at this ⊢; rw[List.length_map] at this; omega
  have hc1:=hcl f.2.1
  have hc2:=hcl f.2.2.1
  have hov:dl f.2.1≤1:=dl_le (by simp[BP]; omega)
  have hov2:dl f.2.2.1≤1:=dl_le (by simp[BP]; omega)
  have hov3:dl f.2.2.2≤1:=dl_le (by simp[BP]; omega)
  refine jx14 ?_; refine Tr.grow (s:=3) rfl rfl 33 rfl 22 (eL eI) rfl ?_; refine Tr.grow (s:=4) rfl rfl 44 rfl 22 (eL eI) rfl ?_
  refine Tr.for1 (σ:=Nat) [⟨1,true,_,_⟩] [] (fun k=>[⟨3,true,[33],kOsl 33 k⟩,⟨4,true,[44],kOsl 44 (k-1)⟩,⟨5,true,[],kI (k:Int)⟩]) (fun k=>[⟨33,[],cArr true 22 (eL eI) ((f.1.map fun c=>[c]).take k) k⟩,⟨44,[],cArr true 22 (eL eI) (((drv f.1).map fun c=>[c]).take (k-1)) (k-1)⟩]) (fun k=>k≤f.1.length) (fun k=>k=f.1.length) (fun k=>f.1.length-k) (0) zi (Ent.mk (.o rfl zi rfl<|.o rfl zi rfl<|.i rfl zi<|zk) (.a (by rfl) zi<|.a (by rfl) zi<|.nil) rfl) ?_ ?_
  ·intro k hR0
   refine jn ?_
   have hsk:=hs k
   have hkm:((k:Int)*nth f.1 k).natAbs≤6*1000:=mul_ab zo hsk
   refine jx10 ?_; refine jq ?_ ?_
   ·intro h7
    refine jx12 ?_; refine tO (ok_bslJ eI (fun hp=>.cons rfl<|.nil) rfl rfl rfl rfl) rfl rfl ?_; refine TrL.new (ok_bsl (eL eI) 52 (fun hp=>.cons rfl<|.nil) rfl rfl rfl rfl) rfl rfl rfl rfl ?_; refine jx1 ?_; refine jl ?_; refine jx9 ?_; refine jq ?_ ?_
    ·intro h10
     refine jx9 ?_; refine tO (ok_bslJ eI (fun hp=>.cons rfl<|.nil) rfl rfl rfl rfl) rfl rfl ?_; refine TrL.new (ok_bsl (eL eI) 65 (fun hp=>.cons rfl<|.nil) rfl rfl rfl rfl) rfl rfl rfl rfl ?_; refine jx1 ?_; refine jl ?_; refine jx9 ?_
     exact End.lp (k+1) zi zo (Ent.mk (.o rfl zi rfl<|.o rfl (by simp only[List.length_cons,List.length_nil]; omega) rfl<|.i rfl zi<|zk) (.a (take_map1 zo) zi<|.a (by rw[drv_take1 zo zo,Nat.add_sub_cancel]) (by simp only[List.length_cons,List.length_nil]; omega)<|.nil) rfl)
    ·intro h10
     replace h10:=Int.not_lt.1 h10
     refine jx8 ?_
     exact End.lp (k+1) zi zo (Ent.mk (.o rfl zi rfl<|.o rfl zo rfl<|.i rfl zi<|zk) (.a (take_map1 zo) zi<|.a (by rw[show k=0 by omega]) zo<|.nil) rfl)
   ·intro h7
    replace h7:=Int.not_lt.1 h7
    refine jx4 ?_
    exact End.cut (k) zo (Ent.mk (.o rfl zi rfl<|.o rfl zi rfl<|.i rfl zi<|zk) (zk) rfl)
  ·rintro k hkn
   refine je ?_
   have htk1:(f.1.map fun c=>[c]).take k=f.1.map fun c=>[c]:=List.take_of_length_le (by rw[List.length_map]; omega)
   have htk2:((drv f.1).map fun c=>[c]).take (k-1)=(drv f.1).map fun c=>[c]:=List.take_of_length_le (by rw[List.length_map,drv_len]; omega)
   rw[htk1,htk2]
   refine jx2 ?_; refine Tr.frz 33 [3] ⟨rfl,trivial⟩ (by simp only[lenMax]; omega) rfl ?_; refine Tr.frz 44 [4] ⟨rfl,trivial⟩ (by simp only[lenMax]; omega) rfl ?_; refine jn ?_; refine jx3 ?_; refine TrL.new (ok_bsl (eL (eL eI)) 69 (fun hp=>.cons rfl<|.cons rfl<|.nil) rfl rfl rfl rfl) rfl rfl rfl rfl ?_; refine jx3 ?_
   refine Tr.for (σ:=Nat) [⟨1,true,_,_⟩] [] (fun m=>[⟨6,true,[69],kOsl 69 m⟩]) (fun m=>[⟨69,[],cArr false 173 (eL (eL eI)) ((rch f.1).take m) m⟩]) (fun m=>2≤m∧m≤(chS f.1).length) (fun m=>m=(chS f.1).length) (fun m=>(chS f.1).length-m) (2) ⟨Nat.le_refl _,hL2⟩ (Ent.mk (.o rfl zi rfl<|zk) (.a (by rfl) zi<|.nil) rfl) ?_ ?_
   ·intro m hR1
    refine jn ?_
    have hX:nth ((rch f.1).take m) ((m:Int)-2).toNat=nth (rch f.1) (m-2):=by rw[show ((m:Int)-2).toNat=m-2 by omega]; exact nth_takeG zo
    have hY:nth ((rch f.1).take m) ((m:Int)-1).toNat=nth (rch f.1) (m-1):=by rw[show ((m:Int)-1).toNat=m-1 by omega]; exact nth_takeG zo
    have hdec:=rch_dec h3' h5' h1' hs hR1.1 hR1.2
    have hvl:(nth (rch f.1) (m-2)).length=(nth (chS f.1) (m-2)).length:=by have:=congrArg List.length (rch_val (p:=f.1) (j:=m-2) zo); rwa [List.length_map] at this
    have hrv1:=rch_val (p:=f.1) (j:=m-1) zo
    have hrv2:=rch_val (p:=f.1) (j:=m-2) zo
    have e1:=hel (m-2) zo
    have e2:=hel (m-1) zo
    refine jx2 ?_; refine Tr.draw 12 mixed (by kernel_rfl) ?_; refine jx2 ?_; refine rO (ok_lenO rfl uu) rfl rfl ?_; refine jx3 ?_
    rw[hX]
    refine jx2 ?_; refine rO (ok_lenO rfl uu) rfl rfl ?_; refine jx3 ?_
    rw[hY]
    refine jx1 ?_; refine jc (ct_rrest (nth (rch f.1) (m-2)) (nth (rch f.1) (m-1)) 1681 1681 e1.2 e2.2 hdec.1 hdec.2 zo zo zo) ?_; refine jx11 ?_; refine jq ?_ ?_
    ·intro h14
     rw[hrv1,hrv2,hvl] at h14
     have hmL:m=(chS f.1).length:=Classical.byContradiction fun e=>by have hq:=chS_next h3' h5' h1' hR1.1 hR1.2; rw[if_pos zo] at hq; have:=List.length_pos_iff.2 (hq.2 zo); rw[← hq.1] at this; unfold against at this; rw[List.length_map] at this; rw[List.length_map] at h14; omega
     refine jx5 ?_
     exact End.cut (m) hmL (Ent.mk (.o rfl zi rfl<|zk) (zk) rfl)
    ·intro h14
     have hq:=chS_next h3' h5' h1' hR1.1 hR1.2
     rw[hrv1,hrv2,hvl] at h14
     have hmL:m<(chS f.1).length:=Classical.byContradiction fun e=>by rw[if_neg e] at hq; have hq2:=congrArg List.length hq.1; unfold against at hq2; rw[List.length_map,List.length_nil] at hq2; rw[List.length_map] at h14; omega
     rw[if_pos hmL] at hq
     obtain ⟨RL,hRL⟩:∃RL,RL=(agF ((nth (rch f.1) (m-1)).map val) (nth (rch f.1) (m-2)).length ((nth (rch f.1) (m-2)).map val)).map lstZ:=⟨_,rfl⟩
     rw[← hRL]
     have hag2:=against_ok (A:=1681) (B:=1681) (by have:=hdec.1; have:=congrArg List.length hrv1; rw[List.length_map] at this; omega) (chS_el h3' h5' h1' hs (j:=m-2) zo).1 (chS_el h3' h5' h1' hs (j:=m-2) zo).2.2 (chS_el h3' h5' h1' hs (j:=m-1) zo).2.2 (by have:=(chS_el h3' h5' h1' hs (j:=m-2) zo).2.1; omega)
     rw[hrv1,hrv2,hvl] at hRL
     have hRo:LOk 18500 RL:=by rw[hRL]; refine lstL_ok fun i=>?_; have:=hag2.2.2 i; unfold against at this; rw[nth_neg,dl_neg] at this; omega
     have hRn:(tab RL.length fun j=>lstZ (-val (nth RL j)))=nth (rch f.1) m:=by rw[rch_at zo hmL,← hq.1]; exact neg_RL hRL
     have hRl5:RL.length≤5:=by rw[hRL,List.length_map]; have:=hag2.2.1; unfold against at this; rw[List.length_map] at this; have:=(chS_el h3' h5' h1' hs (j:=m-1) zo).2.1; omega
     refine jx13 ?_; refine Tr.grow (s:=8) rfl rfl 88 rfl 22 (eL eI) rfl ?_
     refine Tr.for1 (σ:=Nat) [⟨1,true,_,_⟩,⟨6,true,_,_⟩,⟨7,true,_,_⟩] [⟨69,_,_⟩] (fun k=>[⟨8,true,[88],kOsl 88 k⟩,⟨9,true,[],kI (k:Int)⟩]) (fun k=>[⟨88,[],cArr true 22 (eL eI) (tab k fun j=>lstZ (-val (nth RL j))) k⟩]) (fun k=>k≤RL.length) (fun k=>k=RL.length) (fun k=>RL.length-k) (0) zi (Ent.mk (.o rfl zi rfl<|.i rfl zi<|zk) (.a (by rfl) zi<|zk) rfl) ?_ ?_
     ·intro k hR2
      refine jn ?_
      have hRk:=hRo k
      refine jx9 ?_; refine jq ?_ ?_
      ·intro h17
       refine jx10 ?_; refine jc (ct_rNeg (nth RL k) hRk.1 (by have:=hRk.2.1; omega)) ?_; refine TrL.new (ok_bsl (eL eI) 98 (fun hp=>.cons rfl<|.nil) rfl rfl rfl rfl) rfl rfl rfl rfl ?_; refine jx1 ?_; refine jl ?_; refine jx9 ?_
       exact End.lp (k+1) zi zo (Ent.mk (.o rfl zi rfl<|.i rfl zi<|zk) (.a tab_succ.symm zi<|zk) rfl)
      ·intro h17
       replace h17:=Int.not_lt.1 h17
       refine jx4 ?_
       exact End.cut (k) zo (Ent.mk (.o rfl zi rfl<|.i rfl zi<|zk) (zk) rfl)
     ·rintro k hkR
      refine je ?_
      rw[hkR]
      refine jx1 ?_; refine Tr.frz 88 [8] ⟨rfl,trivial⟩ (by simp only[lenMax]; omega) rfl ?_; refine jn ?_; refine jx3 ?_; refine TrL.new (ok_bsl (eL (eL eI)) 102 (fun hp=>.cons rfl<|.nil) rfl rfl rfl rfl) rfl rfl rfl rfl ?_; refine jx1 ?_; refine jl ?_; refine jx3 ?_
      exact End.lp (m+1) zi zo (Ent.mk (.o rfl zi rfl<|zk) (.a (by rw[hRn,take_succ_nth zo]) zi<|.nil) rfl)
   ·rintro m hmL
    refine jn ?_
    have htk:(rch f.1).take m=rch f.1:=List.take_of_length_le zo
    rw[htk]
    refine jx1 ?_; refine Tr.frz 69 [6] ⟨rfl,trivial⟩ (by simp only[lenMax]; omega) rfl ?_; refine jn ?_; refine Tr.draw 15 mixed (by kernel_rfl) ?_; refine jx3 ?_; refine rO (ok_bslJ eI (fun hp=>.cons rfl<|.nil) rfl rfl rfl rfl) rfl rfl ?_; refine jx2 ?_; refine rO (ok_bslJ eI (fun hp=>.cons rfl<|.nil) rfl rfl rfl rfl) rfl rfl ?_; refine jd (ct_rchanges (rch f.1) [f.2.1] [f.2.2.2] zo (fun j hj=>⟨by have:=(hel j zo).1; omega,(hel j zo).2.mono zo⟩) ⟨in1 zo,by show 1≤4; omega⟩ ⟨in1 zo,by show 1≤4; omega⟩ (by rw[val_one]; omega) (by rw[val_one]; omega)) ?_
    rw[rch_sg,val_one,val_one]
    refine jx3 ?_; refine rO (ok_bslJ eI (fun hp=>.cons rfl<|.nil) rfl rfl rfl rfl) rfl rfl ?_; refine jx2 ?_; refine rO (ok_bslJ eI (fun hp=>.cons rfl<|.nil) rfl rfl rfl rfl) rfl rfl ?_; refine jx1 ?_; refine jc (ct_rchanges (rch f.1) [f.2.2.1] [f.2.2.2] zo (fun j hj=>⟨by have:=(hel j zo).1; omega,(hel j zo).2.mono zo⟩) ⟨in1 zo,by show 1≤4; omega⟩ ⟨in1 zo,by show 1≤4; omega⟩ (by rw[val_one]; omega) (by rw[val_one]; omega)) ?_
    rw[rch_sg,val_one,val_one]
    refine jx5 ?_; exact Rts.res1 (fn:=Tryz.f127) rfl (.i rfl (by unfold rtsF; rw[if_neg zo])<|.nil)

end Go.Fl

/- Contracts: fields of the reference: errors, opening. -/
namespace Go.Fl
open Go Go.Proofs
open TrL renaming op→tO
open RunD renaming op→rO
set_option maxRecDepth 100000

theorem any_out {p:List Int} {k:Nat} (hk:k<p.length) (h:¬(-1000≤nth p k∧nth p k≤1000)):p.any outCf=true:=by
 refine List.any_eq_true.2 ⟨nth p k,nth_mem hk,?_⟩
 unfold outCf
 rw[decide_eq_false h]; rfl
theorem not_any_out {p:List Int} (h:∀i,i<p.length→-1000≤nth p i∧nth p i≤1000):p.any outCf≠true:=fun e=>by
 obtain ⟨x,hx,h2⟩:=List.any_eq_true.1 e
 obtain ⟨i,hi,rfl⟩:=List.mem_iff_getElem.1 hx
 have:=h i hi
 have e1:nth p i=p[i]:=by simp[nth,hi]
 rw[e1] at this
 unfold outCf at h2
 rw[decide_eq_true this] at h2
 cases h2
theorem ct_rwithin (n a b:Int):Ct Tryz.prog 125 [kI n,kI a,kI b] (kB (decide (a≤n∧n≤b))):=by
 refine Ct.mk Tryz.func125 rfl Tryz.ntmps125 rfl (fun w J=>?_); refine jx19 ?_; exact Rts.res1 (fn:=Tryz.f125) rfl (.b rfl (by symm; exact Bool.decide_and _ _)<|.nil)

theorem ct_rCheck1 (f:FdT):Ct Tryz.prog 74 [kRd eFd f] (kI (chkF f)):=by
 refine Ct.mk Tryz.func74 rfl Tryz.ntmps74 rfl (fun w J=>?_); refine jx2 ?_; refine jb 1 rfl ?_; refine jx4 ?_; refine Tr.frzB 1 [1] eFd (x:=f) ⟨rfl,trivial⟩ rfl ?_; refine jn ?_; refine jx18 ?_; refine Tr.cnd rfl ?_ ?_
 ·intro h2
  have hc1:¬(2≤f.1.length∧f.1.length≤5):=by simp at h2; omega
  have he:chkF f=10:=if_pos hc1
  refine jx7 ?_; exact Rts.res1 (fn:=Tryz.f74) rfl (.i rfl (by rw[he])<|.nil)
 ·intro h2
  have hc1:2≤f.1.length∧f.1.length≤5:=by simp at h2; omega
  have he1:=(if_neg (fun e=>e hc1):chkF f=_)
  refine jx8 ?_
  refine Tr.for1 (σ:=Nat) [⟨1,true,_,_⟩,⟨3,true,_,_⟩] [] (fun k=>[⟨4,true,[],kI (k:Int)⟩]) (fun k=>[]) (fun k=>k≤f.1.length∧∀i,i<k→-1000≤nth f.1 i∧nth f.1 i≤1000) (fun k=>∀i,i<f.1.length→-1000≤nth f.1 i∧nth f.1 i≤1000) (fun k=>f.1.length-k) (0) ⟨by omega,fun i h=>absurd h (Nat.not_lt_zero _)⟩ (Ent.mk (.i rfl zi<|zk) (.nil) rfl) ?_ ?_
  ·rintro k ⟨hk,hR⟩
   refine jn ?_; refine jx8 ?_; refine jq ?_ ?_
   ·intro h5
    refine jx11 ?_; refine tO (ok_call (fun hp=>ct_rwithin _ _ _) (.a rfl uu<|.a rfl uu<|.a rfl uu<|.nil)) rfl rfl ?_; refine jx3 ?_; refine Tr.cnd rfl ?_ ?_
    ·intro h7
     have he:chkF f=2:=he1.trans (if_pos (any_out (k:=k) zo (by simp at h7; omega)))
     refine jx12 ?_; exact Rts.res1 (fn:=Tryz.f74) rfl (.i rfl (by rw[he])<|.nil)
    ·intro h7
     have hok:-1000≤nth f.1 k∧nth f.1 k≤1000:=by simp at h7; omega
     refine jx8 ?_
     exact End.lp (k+1) ⟨by omega,fun i hi=>by by_cases e:i=k; (rw[e]; exact hok); exact hR i zo⟩ zo (Ent.mk (.i rfl zi<|zk) (.nil) rfl)
   ·intro h5
    replace h5:=Int.not_lt.1 h5
    refine jx4 ?_
    exact End.cut (k) (fun i hi=>hR i zo) (Ent.mk (.i rfl zi<|zk) (.nil) rfl)
  ·intro k hE
   refine je ?_
   have hc2:=not_any_out hE
   have hs:=outCf_ok hc2
   have he2:=he1.trans (if_neg hc2)
   refine jx6 ?_; refine tO (ok_call (fun hp=>ct_rwithin _ _ _) (.a rfl uu<|.a rfl uu<|.a rfl uu<|.nil)) rfl rfl ?_; refine jx4 ?_; refine TrL.gd rfl rfl rfl (ok_call (fun hp=>ct_rwithin _ _ _) (.a rfl id<|.a rfl uu<|.a rfl uu<|.nil)) rfl rfl ?_; refine jx5 ?_; refine TrL.gd rfl rfl rfl (ok_call (fun hp=>ct_rwithin _ _ _) (.a rfl id<|.a rfl uu<|.a rfl uu<|.nil)) rfl rfl ?_; refine jx4 ?_; refine Tr.cnd rfl ?_ ?_
   ·intro h9
    have hc3:¬((1≤f.2.2.2∧f.2.2.2≤1000000)∧(-1000000≤f.2.1∧f.2.1≤1000000)∧(-1000000≤f.2.2.1∧f.2.2.1≤1000000)):=fun ⟨q1,q2,q3⟩=>by simp[q1,q2,q3] at h9
    have he:chkF f=2:=he2.trans (if_pos hc3)
    refine jx7 ?_; exact Rts.res1 (fn:=Tryz.f74) rfl (.i rfl (by rw[he])<|.nil)
   ·intro h9
    have hc3:(1≤f.2.2.2∧f.2.2.2≤1000000)∧(-1000000≤f.2.1∧f.2.1≤1000000)∧(-1000000≤f.2.2.1∧f.2.2.1≤1000000):=by simp at h9; omega
    have he3:=he2.trans (if_neg (fun e=>e hc3))
    refine jx5 ?_
    have hix:((f.1.length:Int)-1).toNat=f.1.length-1:=by omega
    refine jx10 ?_; refine TrL.gd rfl rfl rfl (ok_call (fun hp=>ct_rReducible f.1 hc1.1 hc1.2 hs) (.a rfl id<|.nil)) rfl rfl ?_; refine jx3 ?_; refine Tr.cnd rfl ?_ ?_
    ·intro h11
     have hc4:nth f.1 (f.1.length-1)≠1∨redB f.1=true:=by simp[hix] at h11; simpa using h11
     have he:chkF f=3:=he3.trans (if_pos hc4)
     refine jx7 ?_; exact Rts.res1 (fn:=Tryz.f74) rfl (.i rfl (by rw[he])<|.nil)
    ·intro h11
     have hc4:nth f.1 (f.1.length-1)=1∧redB f.1=false:=by simp[hix] at h11; simpa using h11
     have he4:=he3.trans (if_neg (fun e=>e.elim (fun e=>e hc4.1) (fun e=>by rw[hc4.2] at e; cases e)))
     refine jx12 ?_; refine jq ?_ ?_
     ·intro h13
      have he:chkF f=9:=he4.trans (if_pos h13)
      refine jx7 ?_; exact Rts.res1 (fn:=Tryz.f74) rfl (.i rfl (by rw[he])<|.nil)
     ·intro h13
      replace h13:=Int.not_lt.1 h13
      have he5:=he4.trans (if_neg (show ¬f.2.1>f.2.2.1 by omega))
      refine jx6 ?_; refine jc (ct_rRoots f hc1.1 hc1.2 hc4.1 hs hc3.1 hc3.2.1 hc3.2.2) ?_; refine jx3 ?_; refine jq ?_ ?_
      ·intro h15
       have hc6:oneB f=false:=Bool.eq_false_iff.2 (fun e=>h15 (rtsF_one.2 e))
       have he:chkF f=11:=he5.trans (if_pos hc6)
       refine jx7 ?_; exact Rts.res1 (fn:=Tryz.f74) rfl (.i rfl (by rw[he])<|.nil)
      ·intro h15
       replace h15:=Classical.not_not.1 h15
       have hc6:oneB f=true:=rtsF_one.1 h15
       have he:chkF f=0:=he5.trans (if_neg (by rw[hc6]; decide))
       refine jx8 ?_; exact Rts.res1 (fn:=Tryz.f74) rfl (.i rfl (by rw[he])<|.nil)

theorem ct_rOpen (f:FdT) (h0:chkF f=0):Ct Tryz.prog 24 [kRd eFd f] (kTup [kRd eRr (f,()),kI 0]):=by
 obtain ⟨⟨c1,_⟩,_⟩:=chkF_0 h0
 refine Ct.mk Tryz.func24 rfl Tryz.ntmps24 rfl (fun w J=>?_); refine jx2 ?_; refine jb 1 rfl ?_; refine ja 2 ?_; refine jx7 ?_; refine jc (ct_rCheck1 f) ?_; refine jx9 ?_; refine Tr.cnd rfl ?_ ?_
 ·intro h2
  exact absurd h0 (of_decide_eq_true h2)
 ·intro h2
  refine jx4 ?_; refine TrL.new (ok_bsl0 eI 11) rfl rfl rfl rfl ?_; refine jx3 ?_; refine jl ?_; refine jx7 ?_; refine tO (ok_build (fun hp=>.cons rfl rfl rfl<|.nil)) rfl rfl ?_; refine jx4 ?_; refine Tr.ent (S':=[⟨2,true,_,_⟩,⟨3,true,_,_⟩]) (M':=[⟨2,_,_⟩,⟨11,_,_⟩]) (Ent.mk (zk) (zk) rfl) ?_; refine Tr.frzC 11 2 (by simp only[lenMax]; omega) rfl rfl ?_; refine jx1 ?_; exact Rts.resC (fn:=Tryz.f24) (ts:=[3]) rfl rfl rfl (aggRd rfl (by rfl)) (.i rfl (by rfl)<|.nil)

theorem ct_rDegree (f:FdT) (hn:2≤f.1.length∧f.1.length≤5):Ct Tryz.prog 144 [kRd eRr (f,())] (kI ((f.1.length:Int)-1)):=by
 have hff:((f,()):RrT).1.1.length=f.1.length:=rfl
 refine Ct.mk Tryz.func144 rfl Tryz.ntmps144 rfl (fun w J=>?_); refine jx2 ?_; refine jb 1 rfl ?_; refine jx14 ?_
 exact Rts.res1 (fn:=Tryz.f144) rfl (.i rfl zi<|.nil)

end Go.Fl

/- Contracts: numbers of the reference: normal forms, sums, products. -/
namespace Go.Fl
open Go Go.Proofs
open TrL renaming op→tO
open RunD renaming op→rO
set_option maxRecDepth 100000

def stL (p:List Int) (ys:List (List Int)) (n i k:Nat):List (List Int):=tab ys.length fun j=>if i-n≤j∧j<i-n+k then lstZ (val (nth ys j)-val (nth ys i)*nth p (j-(i-n))) else nth ys j
theorem stL_len {p:List Int} {ys:List (List Int)} {n i k:Nat}:(stL p ys n i k).length=ys.length:=tab_len
theorem stL_zero {p:List Int} {ys:List (List Int)} {n i:Nat}:ys=stL p ys n i 0:=by
 conv=>lhs; rw[tab_nth (rfl:ys.length=ys.length)]
 exact tab_congr fun j _=>(if_neg zo).symm
theorem stL_out {p:List Int} {ys:List (List Int)} {n i k j:Nat} (hj:j<ys.length) (h:j<i-n∨i-n+k≤j):nth (stL p ys n i k) j=nth ys j:=by
 unfold stL
 rw[nth_tab hj,if_neg zo]
theorem stL_succ {p:List Int} {ys:List (List Int)} {n i k:Nat} (_:k<n) (hn:n≤i) (_:i<ys.length):(stL p ys n i k).set (i-n+k) (lstZ (val (nth ys (i-n+k))-val (nth ys i)*nth p k))=stL p ys n i (k+1):=by
 unfold stL
 rw[tab_set]
 refine tab_congr fun j hj=>?_
 by_cases e:j=i-n+k
 ·subst e
  rw[if_pos rfl,if_pos ⟨zo,zo⟩,Nat.add_sub_cancel_left]
 ·rw[if_neg e]
  by_cases h:i-n≤j∧j<i-n+k
  ·rw[if_pos h,if_pos ⟨h.1,by omega⟩]
  ·rw[if_neg h,if_neg zo]
theorem stL_take {p:List Int} {ys:List (List Int)} {n i:Nat} (hn:n≤i) (hi:i<ys.length):(stL p ys n i n).take i=rd1L p n (ys.take (i+1)):=by
 have hl:(ys.take (i+1)).length=i+1:=by rw[List.length_take]; omega
 have e1:((stL p ys n i n).take i).length=i:=by rw[List.length_take,stL_len]; omega
 refine ext_nth (by rw[e1,rd1L_len,hl]; omega) fun j hj=>?_
 rw[e1] at hj
 unfold rd1L
 rw[hl,Nat.add_sub_cancel,nth_tab hj,nth_takeG hj,nth_takeG (show j<i+1 by omega),nth_takeG (show i<i+1 by omega)]
 unfold stL
 rw[nth_tab zo]
 by_cases h:i-n≤j
 ·rw[if_pos ⟨zo,zo⟩,if_pos h]
 ·rw[if_neg zo,if_neg h]
theorem rdF_go {p:List Int} {n m:Nat} {xs:List (List Int)} (hl:xs.length=m) (hm:n<m):rdFL p n (m-n) xs=rdFL p n (m-1-n) (rd1L p n xs):=by
 obtain ⟨f,hf⟩:∃f,m-n=f+1:=⟨m-n-1,by omega⟩
 rw[hf,rdFL,if_neg zo,show m-1-n=f by omega]
theorem rdF_end {p:List Int} {n:Nat} {xs:List (List Int)} (hl:xs.length=n):rdFL p n (n-n) xs=xs:=by
 rw[Nat.sub_self,rdFL,hl,Nat.sub_self,List.replicate_zero,List.append_nil]
theorem rdc_pad {p:List Int} {c:List (List Int)} {n k L:Nat} (hn:p.length-1=n) (hk:k=n-c.length) (hL:L=c.length+k):rdFL p n (L-n) ((c++List.replicate k []).take L)=rdcL p c:=by
 unfold rdcL
 rw[hn,List.take_of_length_le (by simp; omega)]
 by_cases h:c.length≤n
 ·have e1:n-(c++List.replicate k ([]:List Int)).length=0:=by rw[List.length_append,List.length_replicate]; omega
  rw[show L-n=0 by omega,show c.length-n=0 by omega,rdFL,rdFL,e1,List.replicate_zero,List.append_nil,hk]
 ·rw[show k=0 by omega,List.replicate_zero,List.append_nil,hL,show k=0 by omega,Nat.add_zero]
theorem stL_ok {p:List Int} {ys:List (List Int)} {n i k B:Nat} (hy:LOk B ys) (hp:∀j,dl (nth p j)≤1):LOk (B+2) (stL p ys n i k):=fun j=>by
 by_cases hj:j<ys.length
 ·unfold stL
  rw[nth_tab hj]
  split
  ·refine lst_ok ?_
   rw[Int.sub_eq_add_neg]
   have:=dl_step (hy j).2.2 (hy i).2.2 (hp (j-(i-n)))
   omega
  ·exact hy.mono zo j
 ·rw[nth_out (by rw[stL_len]; omega)]
  exact ⟨inI_nil,Nat.zero_le _,by show Go.Fl.dl (val [])≤_; rw[val_nil,dl_zero.2 rfl]; omega⟩
theorem ct_rbelow (x:NumT) (hx:InI x.2) (hl:x.2.length≤500000):Ct Tryz.prog 87 [kRd eNum x] (kRd (eL eI) (lstZ (denN x.2))):=by
 refine Ct.mk Tryz.func87 rfl Tryz.ntmps87 rfl (fun w J=>?_); refine jx2 ?_; refine jb 1 rfl ?_; refine jx5 ?_; refine Tr.frzB 1 [1] eNum (x:=x) ⟨rfl,trivial⟩ rfl ?_; refine jn ?_; refine jx3 ?_; refine jc (ct_rSign x.2 hx zo) ?_; refine jx3 ?_; refine jq ?_ ?_
 ·intro h1
  have hv0:=cmpZ_z.1 h1
  have hd:denN x.2=1:=if_pos hv0
  refine jx2 ?_; refine TrL.new (ok_bsl eI 7 (fun hp=>.cons rfl<|.nil) rfl rfl rfl rfl) rfl rfl rfl rfl ?_; refine jx3 ?_; refine Tr.frz 7 [2] ⟨rfl,trivial⟩ (by simp only[lenMax]; omega) rfl ?_; refine jx2 ?_; exact Rts.res1 (fn:=Tryz.f87) rfl (.r rfl (by rw[hd,lst_1])<|.nil)
 ·intro h1
  have hd:denN x.2=val x.2:=if_neg (fun e=>h1 (cmpZ_z.2 e))
  refine jx6 ?_; refine jc (ct_rNormal x.2 hx zo) ?_; refine jx4 ?_; exact Rts.res1 (fn:=Tryz.f87) rfl (.r rfl (by rw[hd])<|.nil)

set_option maxHeartbeats 1000000 in
theorem ct_rreduced (f:FdT) (c:List (List Int)) (B:Nat) (hpo:PolOk f.1) (hs:∀i,(nth f.1 i).natAbs≤1000) (hc:LOk B c) (hl:c.length≤16) (hB:B≤200000):Ct Tryz.prog 86 [kRd eRr (f,()),kRd (eL (eL eI)) c] (kRd (eL (eL eI)) (rdcL f.1 c)):=by
 obtain ⟨n,hn1⟩:∃n,f.1.length=n+1:=⟨f.1.length-1,by have:=hpo.1.1; omega⟩
 have hn2:f.1.length-1=n:=by omega
 have hn5:=hpo.1
 have hdp:=hpo.2
 have hff:((f,()):RrT).1.1.length=f.1.length:=rfl
 refine Ct.mk Tryz.func86 rfl Tryz.ntmps86 rfl (fun w J=>?_); refine jx2 ?_; refine jb 2 rfl ?_; refine jx4 ?_; refine Tr.frzB 2 [2] eRr (x:=(f,())) ⟨rfl,trivial⟩ rfl ?_; refine jn ?_; refine jx2 ?_; refine jc (ct_rDegree f hn5) ?_; refine jx5 ?_; refine TrL.new (ok_bsl0 (eL eI) 12) rfl rfl rfl rfl ?_; refine jx2 ?_; refine jl ?_; refine jx3 ?_
 refine Tr.for (σ:=Nat) [⟨2,true,_,_⟩,⟨5,true,_,_⟩] [] (fun k=>[⟨6,true,[12],kOsl 12 (c.length+k)⟩]) (fun k=>[⟨12,[],cArr false 22 (eL eI) (c++List.replicate k []) (c.length+k)⟩]) (fun k=>k≤n-c.length) (fun k=>k=n-c.length) (fun k=>n-c.length-k) (0) zi (Ent.mk (.o rfl (by simp) rfl<|zk) (.a (by simp) (by simp)<|.nil) rfl) ?_ ?_
 ·intro k hR0
  refine jn ?_; refine jx4 ?_; refine tO (ok_lenO rfl uu) rfl rfl ?_; refine jx4 ?_; refine jq ?_ ?_
  ·intro h3
   refine jx5 ?_; refine TrL.new (ok_bsl (eL eI) 20 (fun hp=>.cons rfl<|.nil) rfl rfl rfl rfl) rfl rfl rfl rfl ?_; refine jx1 ?_; refine jl ?_; refine jx3 ?_
   exact End.lp (k+1) zi zo (Ent.mk (.o rfl zi rfl<|zk) (.a (by rw[List.replicate_succ',List.append_assoc]) zi<|.nil) rfl)
  ·intro h3
   replace h3:=Int.not_lt.1 h3
   refine jx4 ?_
   exact End.cut (k) zo (Ent.mk (.o rfl zi rfl<|zk) (zk) rfl)
 ·rintro k hk0
  refine jn ?_; refine Tr.osq 6 1 rfl zo ?_
  refine Tr.for (σ:=List (List Int)×Nat) [⟨2,true,_,_⟩,⟨5,true,_,_⟩] [] (fun (ys,m)=>[⟨6,true,[12],kOsq 12 1 0 m⟩]) (fun (ys,m)=>[⟨12,[],cArr false 22 (eL eI) ys (c.length+k)⟩]) (fun (ys,m)=>(ys.length=c.length+k∧n≤m∧m≤c.length+k)∧rdFL f.1 n (m-n) (ys.take m)=rdcL f.1 c∧LOk (B+2*(c.length+k-m)) ys) (fun (ys,m)=>(ys.length=c.length+k∧m=n)∧ys.take m=rdcL f.1 c) (fun (ys,m)=>m) ((c++List.replicate k [],c.length+k)) ⟨⟨by simp,by omega,Nat.le_refl _⟩,rdc_pad hn2 hk0 rfl,hc.app.mono zo⟩ (Ent.mk (.q rfl zi zi rfl<|zk) (zk) rfl) ?_ ?_
  ·rintro ⟨ys,m⟩ ⟨hym,hrd,hyo⟩
   refine jn ?_
   have hmx:((m:Int)-1).toNat=m-1:=by omega
   have hm0:nth ys (0+((m:Int)-1).toNat)=nth ys (m-1):=by rw[Nat.zero_add,hmx]
   refine jx4 ?_; refine tO (ok_lenQ rfl uu) rfl rfl ?_; refine jx4 ?_; refine jq ?_ ?_
   ·intro h5
    refine jx7 ?_; refine tO (ok_lenQ rfl uu) rfl rfl ?_; refine jx1 ?_; refine tO (ok_idxQw (c.length+k) rfl uu rfl uu (fun _=>zo)) rfl rfl ?_; refine jx1 ?_
    rw[hm0]
    refine jx7 ?_; refine tO (ok_lenQ rfl uu) rfl rfl ?_; refine jx1 ?_; refine tO (ok_slQh rfl uu rfl uu (fun _=>zo)) rfl rfl ?_
    rw[hmx]
    refine jx8 ?_
    refine Tr.for1 (σ:=Nat) [⟨2,true,_,_⟩,⟨5,true,_,_⟩,⟨6,true,_,_⟩,⟨7,true,_,_⟩] [] (fun i=>[⟨8,true,[],kI (i:Int)⟩]) (fun i=>[⟨12,[],cArr false 22 (eL eI) (stL f.1 ys n (m-1) i) (c.length+k)⟩]) (fun i=>i≤n) (fun i=>i=n) (fun i=>n-i) (0) zi (Ent.mk (.i rfl zi<|zk) (.a stL_zero zi<|.nil) rfl) ?_ ?_
    ·intro i hR2
     refine jn ?_
     have hix:(0+(((m-1:Nat):Int)-((f.1.length:Int)-1)+(i:Int)).toNat)=m-1-n+i:=by omega
     have hso:=stL_ok (n:=n) (i:=m-1) (k:=i) hyo hdp
     have hs1:=hso (m-1-n+i)
     have hyt:=hyo (m-1)
     have hpi:=hdp i
     have hbi:=dl_mul (val (nth ys (m-1))) (nth f.1 i)
     refine jx8 ?_; refine jq ?_ ?_
     ·intro h9
      refine jx7 ?_; refine tO (ok_lenQ rfl uu) rfl rfl ?_; refine jx7 ?_; refine Tr.draw 16 mixed (by kernel_rfl) ?_; refine jx4 ?_; refine rO (ok_idxQw (c.length+k) rfl uu rfl uu (fun _=>zo)) rfl rfl ?_; refine jx1 ?_
      rw[hix]
      refine jx7 ?_; refine rO (ok_bslJ eI (fun hp=>.cons rfl<|.nil) rfl rfl rfl rfl) rfl rfl ?_; refine rO (ok_call (fun hp=>ct_rMul (nth ys (m-1)) [nth f.1 i] hyt.1 (in1 (by have:=hs i; omega)) zo (by show 1≤_; omega)) (.a rfl uu<|.a rfl uu<|.nil)) rfl rfl ?_
      rw[val_one]
      refine rO (ok_call (fun hp=>ct_rSub (nth (stL f.1 ys n (m-1) i) (m-1-n+i)) (lstZ (val (nth ys (m-1))*nth f.1 i)) hs1.1 (lst_in _) zo (by rw[lst_len]; omega)) (.a rfl uu<|.a rfl uu<|.nil)) rfl rfl ?_
      rw[lst_val]
      refine jx1 ?_; refine tO (ok_idxQw (c.length+k) rfl uu rfl uu (fun _=>zo)) rfl rfl ?_; refine jx9 ?_
      exact End.lp (i+1) zi zo (Ent.mk (.i rfl zi<|zk) (.a (by rw[hix,stL_out zo zo]; exact stL_succ zo zo zo) zi<|.nil) rfl)
     ·intro h9
      replace h9:=Int.not_lt.1 h9
      refine jx4 ?_
      exact End.cut (i) zo (Ent.mk (.i rfl zi<|zk) (zk) rfl)
    ·rintro i hkn
     refine je ?_; refine jx1 ?_
     exact End.lp ((stL f.1 ys n (m-1) n,m-1)) ⟨⟨by rw[stL_len]; exact hym.1,by omega,by omega⟩,by rw[stL_take zo zo,show m-1+1=m by omega,← rdF_go (by rw[List.length_take]; omega) zo]; exact hrd,(stL_ok hyo hdp).mono zo⟩ (by show m-1<m; omega) (Ent.mk (.q rfl zi zi rfl<|zk) (.a (by rw[hkn]) zi<|.nil) rfl)
   ·intro h5
    replace h5:=Int.not_lt.1 h5
    refine jx4 ?_
    exact End.cut ((ys,m)) ⟨⟨hym.1,by omega⟩,by rw[← hrd,show m=n by omega,rdF_end (by rw[List.length_take]; omega)]⟩ (Ent.mk (.q rfl zi zi rfl<|zk) (zk) rfl)
  ·rintro ⟨ys,m⟩ ⟨hym,hrd⟩
   refine jn ?_; refine jx3 ?_; refine TrL.frzQ 12 [65] ⟨rfl,trivial⟩ ⟨by omega,by simp only[lenMax]; omega⟩ rfl ?_; refine jl ?_; refine jx4 ?_; exact Rts.res1 (fn:=Tryz.f86) rfl (.r rfl (by rw[hrd])<|.nil)

end Go.Fl

/- Contracts: numbers of the reference: normal forms, sums, products. -/
namespace Go.Fl
open Go Go.Proofs
open TrL renaming op→tO
open RunD renaming op→rO
set_option maxRecDepth 100000

theorem tabL_ok {F:Nat→Int} {m B:Nat} (h:∀j,j<m→dl (F j)≤B):LOk B (tab m fun j=>lstZ (F j)):=fun i=>by
 by_cases hi:i<m
 ·rw[nth_tab hi]; exact lst_ok (h i hi)
 ·rw[nth_out (by rw[tab_len]; omega)]
  exact ⟨inI_nil,Nat.zero_le _,by show Go.Fl.dl (val [])≤_; rw[val_nil,dl_zero.2 rfl]; omega⟩
theorem tabL_val {F:Nat→Int} {m:Nat}:((tab m fun j=>lstZ (F j)).map val)=tab m F:=by
 unfold tab
 rw[List.map_map]
 exact List.map_congr_left fun j _=>lst_val _
def mlN (p:List Int) (x y:NumL):NvT:=loN (pad p (cnvL (valC x) (valC y))) (denN x.2*denN y.2)
theorem take_neg1 {p:List Int} {x:NumL}:mlN p x (giveN (loN [-1] 1))=negV (takeN p x):=by
 have e:giveN (loN [-1] 1)=([lstZ (-1)],lstZ 1):=by rw[low_one]; rfl
 rw[e]
 unfold mlN
 have e2:valC ([lstZ (-1)],lstZ 1)=[-1]:=by show [val (lstZ (-1))]=[-1]; rw[lst_val]
 have e3:denN ([lstZ (-1)],lstZ 1).2=1:=by unfold denN; rw[lst_val,if_neg (by decide)]
 rw[e2,e3,cnvL_neg,Int.mul_one]
 exact rNeg_eq
theorem nth_valC {x:NumL} {i:Nat}:nth (valC x) i=val (nth x.1 i):=nth_mapv
theorem dl_num {x:NumL} {k:Nat} (h:NumOk k x) (i:Nat):dl (val (nth x.1 i))≤k+3:=by have:=dl_val (h.c i).1; have:=(h.c i).2; omega
theorem sum_dl {F:Nat→Int} {B:Nat} (h:∀i,dl (F i)≤B):∀{k:Nat},dl (sumTo F k)≤B+k
 | 0=>by rw[show sumTo F 0=0 from rfl,dl_zero.2 rfl]; omega
 | k+1=>by
  rw[sumTo_succ]
  have:=sum_dl h (k:=k)
  have:=h k
  have:=dl_add (sumTo F k) (F k)
  omega
theorem cnv_dl {x y:NumL} {k:Nat} (hx:NumOk k x) (hy:NumOk k y) (i j:Nat):dl (val (nth x.1 i)*val (nth y.1 j))≤2*k+6:=by
 have:=dl_num hx i
 have:=dl_num hy j
 have:=dl_mul (val (nth x.1 i)) (val (nth y.1 j))
 omega
theorem ct_rcoef (c:List (List Int)) (i:Nat):Ct Tryz.prog 124 [kRd (eL (eL eI)) c,kI (i:Int)] (kRd (eL eI) (nth c i)):=by
 refine Ct.mk Tryz.func124 rfl Tryz.ntmps124 rfl (fun w J=>?_); refine jx14 ?_; refine jq ?_ ?_
 ·intro h1
  refine jx11 ?_; exact Rts.res1 (fn:=Tryz.f124) rfl (.r rfl (by rfl)<|.nil)
 ·intro h1
  replace h1:=Int.not_lt.1 h1
  refine jx8 ?_; exact Rts.res1 (fn:=Tryz.f124) rfl (.n rfl (by rw[nth_out zo]; rfl)<|.nil)

theorem ct_rNormalN (f:FdT) (x:NumT) (k:Nat) (hpo:PolOk f.1) (hs:∀i,(nth f.1 i).natAbs≤1000) (hx:NumOk k x) (hk:k≤50000):Ct Tryz.prog 32 [kRd eRr (f,()),kRd eNum x] (kRd eNum (giveN (takeN f.1 x))):=by
 have hro:=rdcL_ok hpo.2 (num_LOk hx)
 have hxl:=hx.len
 have hdd:=dl_den hx.d.1 hx.d.2
 have hdl:=hx.d.2
 have hne:=denN_ne (d:=x.2)
 refine Ct.mk Tryz.func32 rfl Tryz.ntmps32 rfl (fun w J=>?_); refine jx2 ?_; refine jb 2 rfl ?_; refine jb 3 rfl ?_; refine ja 4 ?_; refine jx3 ?_; refine Tr.frzB 2 [2] eRr (x:=(f,())) ⟨rfl,trivial⟩ rfl ?_; refine Tr.frzB 3 [3] eNum (x:=x) ⟨rfl,trivial⟩ rfl ?_; refine jn ?_; refine Tr.draw 5 mixed (by kernel_rfl) ?_; refine jx3 ?_; refine jd (ct_rreduced f x.1 (k+3) hpo hs (num_LOk hx) zo zo) ?_; refine jx2 ?_; refine jc (ct_rbelow x hx.d.1 zo) ?_; refine tO (ok_call (fun hp=>ct_rlowest (rdcL f.1 x.1) (lstZ (denN x.2)) (fun i=>⟨(hro i).1,Nat.le_trans (hro i).2.1 zo⟩) ⟨lst_in _,by rw[lst_len]; omega⟩ (by rw[lst_val]; exact hne) (by rw[rdcL_len]; have:=hpo.1; omega)) (.a rfl uu<|.a rfl uu<|.nil)) rfl rfl ?_
 refine jx4 ?_; exact Rts.resC1 (fn:=Tryz.f32) rfl rfl (aggRd rfl (by rw[lst_val,take_give_red hpo.1.2]; rfl))

set_option maxHeartbeats 1000000 in
theorem ct_rAddN (f:FdT) (x y:NumT) (k:Nat) (hpo:PolOk f.1) (hs:∀i,(nth f.1 i).natAbs≤1000) (hx:NumOk k x) (hy:NumOk k y) (hk:k≤30000):Ct Tryz.prog 72 [kRd eRr (f,()),kRd eNum x,kRd eNum y] (kRd eNum (giveN (adV (takeN f.1 x) (takeN f.1 y)))):=by
 have hxl:=hx.len
 have hyl:=hy.len
 have hdx:=dl_den hx.d.1 hx.d.2
 have hdy:=dl_den hy.d.1 hy.d.2
 have hdl:=hx.d.2
 have hdl2:=hy.d.2
 have hne:=Int.mul_ne_zero (denN_ne (d:=x.2)) (denN_ne (d:=y.2))
 have hsj:∀j,dl (val (nth x.1 j)*denN y.2+val (nth y.1 j)*denN x.2)≤2*k+7:=fun j=>by have a1:=dl_num hx j; have a2:=dl_num hy j; have a3:=dl_mul (val (nth x.1 j)) (denN y.2); have a4:=dl_mul (val (nth y.1 j)) (denN x.2); have a5:=dl_add (val (nth x.1 j)*denN y.2) (val (nth y.1 j)*denN x.2); omega
 have hab:=dl_mul (denN x.2) (denN y.2)
 refine Ct.mk Tryz.func72 rfl Tryz.ntmps72 rfl (fun w J=>?_); refine jx2 ?_; refine jb 3 rfl ?_; refine jb 4 rfl ?_; refine jb 5 rfl ?_; refine ja 6 ?_; refine jx3 ?_; refine Tr.frzB 3 [3] eRr (x:=(f,())) ⟨rfl,trivial⟩ rfl ?_; refine Tr.frzB 4 [4] eNum (x:=x) ⟨rfl,trivial⟩ rfl ?_; refine Tr.frzB 5 [5] eNum (x:=y) ⟨rfl,trivial⟩ rfl ?_; refine jn ?_; refine Tr.draw 3 mixed (by kernel_rfl) ?_; refine jx1 ?_; refine jd (ct_rbelow x hx.d.1 zo) ?_; refine jx2 ?_; refine jc (ct_rbelow y hy.d.1 zo) ?_; refine jx15 ?_; refine Tr.grow (s:=9) rfl rfl 99 rfl 22 (eL eI) rfl ?_
 refine Tr.for1 (σ:=Nat) [⟨3,true,_,_⟩,⟨4,true,_,_⟩,⟨5,true,_,_⟩,⟨6,true,_,_⟩,⟨7,true,_,_⟩,⟨8,true,_,_⟩] [⟨6,_,_⟩] (fun i=>[⟨9,true,[99],kOsl 99 i⟩,⟨10,true,[],kI (i:Int)⟩]) (fun i=>[⟨99,[],cArr true 22 (eL eI) (tab i fun j=>lstZ (val (nth x.1 j)*denN y.2+val (nth y.1 j)*denN x.2)) i⟩]) (fun i=>i≤max x.1.length y.1.length) (fun i=>i=max x.1.length y.1.length) (fun i=>max x.1.length y.1.length-i) (0) zi (Ent.mk (.o rfl zi rfl<|.i rfl zi<|zk) (.a (by rfl) zi<|zk) rfl) ?_ ?_
 ·intro i hR0
  refine jn ?_
  have hsm1:=Nat.le_trans (dl_mul (val (nth x.1 i)) (denN y.2)) (Nat.add_le_add (dl_num hx i) hdy)
  have hsm2:=Nat.le_trans (dl_mul (val (nth y.1 i)) (denN x.2)) (Nat.add_le_add (dl_num hy i) hdx)
  refine jx17 ?_; refine Tr.cnd rfl ?_ ?_
  ·intro h4
   have him:i<max x.1.length y.1.length:=by simp at h4; omega
   refine jx4 ?_; refine Tr.draw 15 mixed (by kernel_rfl) ?_; refine jx4 ?_; refine jd (ct_rcoef x.1 i) ?_; refine jx1 ?_; refine rO (ok_call (fun hp=>ct_rMul (nth x.1 i) (lstZ (denN y.2)) (hx.c i).1 (lst_in _) (by have:=(hx.c i).2; omega) (by rw[lst_len]; omega)) (.a rfl uu<|.a rfl uu<|.nil)) rfl rfl ?_
   rw[lst_val]
   refine jx3 ?_; refine jd (ct_rcoef y.1 i) ?_; refine jx1 ?_; refine rO (ok_call (fun hp=>ct_rMul (nth y.1 i) (lstZ (denN x.2)) (hy.c i).1 (lst_in _) (by have:=(hy.c i).2; omega) (by rw[lst_len]; omega)) (.a rfl uu<|.a rfl uu<|.nil)) rfl rfl ?_
   rw[lst_val]
   refine rO (ok_call (fun hp=>ct_rAdd (lstZ (val (nth x.1 i)*denN y.2)) (lstZ (val (nth y.1 i)*denN x.2)) (lst_in _) (lst_in _) (by rw[lst_len]; have:=hsm1; omega) (by rw[lst_len]; have:=hsm2; omega)) (.a rfl uu<|.a rfl uu<|.nil)) rfl rfl ?_
   rw[lst_val,lst_val]
   refine RunD.new (ok_bsl (eL eI) 43 (fun hp=>.cons rfl<|.nil) rfl rfl rfl rfl) rfl rfl rfl rfl ?_; refine jx2 ?_; refine jl ?_; refine jx9 ?_
   exact End.lp (i+1) zi zo (Ent.mk (.o rfl zi rfl<|.i rfl zi<|zk) (.a tab_succ.symm zi<|zk) rfl)
  ·intro h4
   have him:max x.1.length y.1.length≤i:=by simp at h4; omega
   refine jx4 ?_
   exact End.cut (i) zo (Ent.mk (.o rfl zi rfl<|.i rfl zi<|zk) (zk) rfl)
 ·rintro i him
  refine je ?_
  rw[him]
  have hro:=rdcL_ok (p:=f.1) hpo.2 (tabL_ok (m:=max x.1.length y.1.length) (F:=fun j=>val (nth x.1 j)*denN y.2+val (nth y.1 j)*denN x.2) (B:=2*k+7) fun j _=>hsj j)
  refine jx5 ?_; refine TrL.frz 99 [9,46] ⟨rfl,rfl,trivial⟩ (by simp only[lenMax]; omega) rfl ?_; refine jl ?_; refine tO (ok_call (fun hp=>ct_rreduced f (tab (max x.1.length y.1.length) fun j=>lstZ (val (nth x.1 j)*denN y.2+val (nth y.1 j)*denN x.2)) (2*k+7) hpo hs (tabL_ok fun j _=>hsj j) (by rw[tab_len]; omega) zo) (.a rfl uu<|.a rfl uu<|.nil)) rfl rfl ?_; refine jx2 ?_; refine tO (ok_call (fun hp=>ct_rMul (lstZ (denN x.2)) (lstZ (denN y.2)) (lst_in _) (lst_in _) (by rw[lst_len]; omega) (by rw[lst_len]; omega)) (.a rfl uu<|.a rfl uu<|.nil)) rfl rfl ?_
  rw[lst_val,lst_val]
  refine tO (ok_call (fun hp=>ct_rlowest (rdcL f.1 (tab (max x.1.length y.1.length) fun j=>lstZ (val (nth x.1 j)*denN y.2+val (nth y.1 j)*denN x.2))) (lstZ (denN x.2*denN y.2)) (fun i=>⟨(hro i).1,Nat.le_trans (hro i).2.1 (by rw[tab_len]; omega)⟩) ⟨lst_in _,by rw[lst_len]; omega⟩ (by rw[lst_val]; exact hne) (by rw[rdcL_len]; have:=hpo.1; omega)) (.a rfl uu<|.a rfl uu<|.nil)) rfl rfl ?_; refine jx4 ?_; exact Rts.resC1 (fn:=Tryz.f72) rfl rfl (aggRd rfl (by rw[lst_val,take_give_red hpo.1.2,tabL_val,← rAdd_eq (p:=f.1) (x:=x) (y:=y) (m:=max x.1.length y.1.length) zo zo]; refine congrArg (fun l=>giveN (loN (pad f.1 l) _)) (tab_congr fun j _=>?_); rw[nth_valC,nth_valC]))

end Go.Fl

/- Contracts: numbers of the reference: products, differences. -/
namespace Go.Fl
open Go Go.Proofs
open TrL renaming op→tO
open RunD renaming op→rO
set_option maxRecDepth 100000

theorem cnv_val {x y:NumL}:tab (x.1.length+y.1.length-1) (fun i=>sumTo (fun j=>val (nth x.1 j)*val (nth y.1 (i-j))) (i+1))=cnvL (valC x) (valC y):=by
 unfold cnvL
 rw[show (valC x).length=x.1.length from List.length_map ..,show (valC y).length=y.1.length from List.length_map ..]
 refine tab_congr fun i _=>sumTo_congr fun j _=>?_
 rw[nth_valC,nth_valC]
theorem dl_four1 (i:Nat):dl (nth ([-1,0,0,0]:List Int) i)≤1:=by
 match i with
 | 0=>exact dl_le (by decide)
 | 1=>show dl 0≤1; rw[dl_zero.2 rfl]; omega
 | 2=>show dl 0≤1; rw[dl_zero.2 rfl]; omega
 | 3=>show dl 0≤1; rw[dl_zero.2 rfl]; omega
 | i+4=>rw[nth_out (by simp)]; show dl 0≤1; rw[dl_zero.2 rfl]; omega
set_option maxHeartbeats 1000000 in
theorem ct_rMulN (f:FdT) (x y:NumT) (k:Nat) (hpo:PolOk f.1) (hs:∀i,(nth f.1 i).natAbs≤1000) (hx:NumOk k x) (hy:NumOk k y) (hk:k≤30000):Ct Tryz.prog 79 [kRd eRr (f,()),kRd eNum x,kRd eNum y] (kRd eNum (giveN (mlN f.1 x y))):=by
 have hxl:=hx.len
 have hyl:=hy.len
 have hdx:=dl_den hx.d.1 hx.d.2
 have hdy:=dl_den hy.d.1 hy.d.2
 have hdl:=hx.d.2
 have hdl2:=hy.d.2
 have hne:=Int.mul_ne_zero (denN_ne (d:=x.2)) (denN_ne (d:=y.2))
 have hsj:∀i m,dl (sumTo (fun j=>val (nth x.1 j)*val (nth y.1 (i-j))) (m))≤2*k+6+m:=fun i m=>sum_dl (fun j=>cnv_dl hx hy j (i-j))
 have hab:=dl_mul (denN x.2) (denN y.2)
 refine Ct.mk Tryz.func79 rfl Tryz.ntmps79 rfl (fun w J=>?_); refine jx2 ?_; refine jb 3 rfl ?_; refine jb 4 rfl ?_; refine jb 5 rfl ?_; refine ja 6 ?_; refine jx3 ?_; refine Tr.frzB 3 [3] eRr (x:=(f,())) ⟨rfl,trivial⟩ rfl ?_; refine Tr.frzB 4 [4] eNum (x:=x) ⟨rfl,trivial⟩ rfl ?_; refine Tr.frzB 5 [5] eNum (x:=y) ⟨rfl,trivial⟩ rfl ?_; refine jn ?_; refine jx10 ?_; refine Tr.grow (s:=7) rfl rfl 99 rfl 22 (eL eI) rfl ?_
 refine Tr.for1 (σ:=Nat) [⟨3,true,_,_⟩,⟨4,true,_,_⟩,⟨5,true,_,_⟩,⟨6,true,_,_⟩] [⟨6,_,_⟩] (fun i=>[⟨7,true,[99],kOsl 99 i⟩,⟨8,true,[],kI (i:Int)⟩]) (fun i=>[⟨99,[],cArr true 22 (eL eI) (tab i fun i=>lstZ (sumTo (fun j=>val (nth x.1 j)*val (nth y.1 (i-j))) (i+1))) i⟩]) (fun i=>i≤(x.1.length+y.1.length-1)) (fun i=>i=(x.1.length+y.1.length-1)) (fun i=>(x.1.length+y.1.length-1)-i) (0) zi (Ent.mk (.o rfl zi rfl<|.i rfl zi<|zk) (.a (by rfl) zi<|zk) rfl) ?_ ?_
 ·intro i hR0
  refine jn ?_; refine jx15 ?_; refine jq ?_ ?_
  ·intro h3
   refine jx15 ?_
   refine Tr.for1 (σ:=Nat) [⟨3,true,_,_⟩,⟨4,true,_,_⟩,⟨5,true,_,_⟩,⟨6,true,_,_⟩,⟨7,true,_,_⟩,⟨8,true,_,_⟩] [⟨6,_,_⟩,⟨99,_,_⟩] (fun j=>[⟨9,true,[],kRd (eL eI) (lstZ (sumTo (fun j=>val (nth x.1 j)*val (nth y.1 (i-j))) (j)))⟩,⟨10,true,[],kI (j:Int)⟩]) (fun j=>[]) (fun j=>j≤i+1) (fun j=>j=i+1) (fun j=>i+1-j) (0) zi (Ent.mk (.n rfl (by rfl)<|.i rfl zi<|zk) (zk) rfl) ?_ ?_
   ·intro j hR1
    refine jn ?_
    have hsb:=hsj i j
    have hcb:=cnv_dl hx hy j (i-j)
    have hij:=fun (h:j≤i)=>(show (i:Int)-(j:Int)=((i-j:Nat):Int) by omega)
    refine jx8 ?_; refine jq ?_ ?_
    ·intro h7
     refine jx4 ?_; refine Tr.draw 12 mixed (by kernel_rfl) ?_; refine jx4 ?_; refine jd (ct_rcoef x.1 j) ?_; refine jx5 ?_
     rw[hij zo]
     refine jd (ct_rcoef y.1 (i-j)) ?_; refine rO (ok_call (fun hp=>ct_rMul (nth x.1 j) (nth y.1 (i-j)) (hx.c j).1 (hy.c _).1 (by have:=(hx.c j).2; omega) (by have:=(hy.c (i-j)).2; omega)) (.a rfl uu<|.a rfl uu<|.nil)) rfl rfl ?_; refine jx1 ?_; refine tO (ok_call (fun hp=>ct_rAdd (lstZ (sumTo (fun j=>val (nth x.1 j)*val (nth y.1 (i-j))) (j))) (lstZ (val (nth x.1 j)*val (nth y.1 (i-j)))) (lst_in _) (lst_in _) (by rw[lst_len]; omega) (by rw[lst_len]; omega)) (.a rfl uu<|.a rfl uu<|.nil)) rfl rfl ?_
     rw[lst_val,lst_val]
     refine jx9 ?_
     exact End.lp (j+1) zi zo (Ent.mk (.r rfl (by rw[sumTo_succ])<|.i rfl zi<|zk) (zk) rfl)
    ·intro h7
     replace h7:=Int.not_le.1 h7
     refine jx4 ?_
     exact End.cut (j) zo (Ent.mk (.r rfl zi<|.i rfl zi<|zk) (zk) rfl)
   ·rintro j hji
    refine je ?_; refine jx4 ?_; refine TrL.new (ok_bsl (eL eI) 43 (fun hp=>.cons rfl<|.nil) rfl rfl rfl rfl) rfl rfl rfl rfl ?_; refine jx1 ?_; refine jl ?_; refine jx9 ?_
    exact End.lp (i+1) zi zo (Ent.mk (.o rfl zi rfl<|.i rfl zi<|zk) (.a (by rw[hji]; exact tab_succ.symm) zi<|zk) rfl)
  ·intro h3
   replace h3:=Int.not_lt.1 h3
   refine jx4 ?_
   exact End.cut (i) zo (Ent.mk (.o rfl zi rfl<|.i rfl zi<|zk) (zk) rfl)
 ·rintro i him
  refine je ?_
  rw[him]
  have hto:LOk (2*k+30) (tab (x.1.length+y.1.length-1) fun i=>lstZ (sumTo (fun j=>val (nth x.1 j)*val (nth y.1 (i-j))) (i+1))):=tabL_ok (m:=(x.1.length+y.1.length-1)) (F:=fun i=>sumTo (fun j=>val (nth x.1 j)*val (nth y.1 (i-j))) (i+1)) (B:=2*k+30) fun i hi=>Nat.le_trans (hsj i (i+1)) zo
  have hro:=rdcL_ok (p:=f.1) hpo.2 hto
  refine jx2 ?_; refine Tr.frz 99 [7] ⟨rfl,trivial⟩ (by simp only[lenMax]; omega) rfl ?_; refine jn ?_; refine Tr.draw 6 mixed (by kernel_rfl) ?_; refine jx2 ?_; refine jd (ct_rreduced f (tab (x.1.length+y.1.length-1) fun i=>lstZ (sumTo (fun j=>val (nth x.1 j)*val (nth y.1 (i-j))) (i+1))) (2*k+30) hpo hs hto (by rw[tab_len]; omega) zo) ?_; refine jx1 ?_; refine jd (ct_rbelow x hx.d.1 zo) ?_; refine jx2 ?_; refine jc (ct_rbelow y hy.d.1 zo) ?_; refine tO (ok_call (fun hp=>ct_rMul (lstZ (denN x.2)) (lstZ (denN y.2)) (lst_in _) (lst_in _) (by rw[lst_len]; omega) (by rw[lst_len]; omega)) (.a rfl uu<|.a rfl uu<|.nil)) rfl rfl ?_
  rw[lst_val,lst_val]
  refine tO (ok_call (fun hp=>ct_rlowest (rdcL f.1 (tab (x.1.length+y.1.length-1) fun i=>lstZ (sumTo (fun j=>val (nth x.1 j)*val (nth y.1 (i-j))) (i+1)))) (lstZ (denN x.2*denN y.2)) (fun i=>⟨(hro i).1,Nat.le_trans (hro i).2.1 (by rw[tab_len]; omega)⟩) ⟨lst_in _,by rw[lst_len]; omega⟩ (by rw[lst_val]; exact hne) (by rw[rdcL_len]; have:=hpo.1; omega)) (.a rfl uu<|.a rfl uu<|.nil)) rfl rfl ?_; refine jx4 ?_; exact Rts.resC1 (fn:=Tryz.f79) rfl rfl (aggRd rfl (by rw[lst_val,take_give_red hpo.1.2,tabL_val,cnv_val]; rfl))

theorem ct_rNegN (f:FdT) (x:NumT) (k:Nat) (hpo:PolOk f.1) (hs:∀i,(nth f.1 i).natAbs≤1000) (hx:NumOk k x) (hk:k≤20000):Ct Tryz.prog 132 [kRd eRr (f,()),kRd eNum x] (kRd eNum (giveN (negV (takeN f.1 x)))):=by
 have hx1:NumOk (k+1) x:=hx.mono zo
 have hw:NumOk (k+1) (giveN (loN [-1] 1)):=by rw[give_int]; exact (give_NumOk (⟨fun i=>dl_four1 i,by show dl 1≤1; exact dl_small zo zo,by show (0:Int)<1; omega,rfl⟩:NBd 1 (intV (-1)))).mono zo
 refine Ct.mk Tryz.func132 rfl Tryz.ntmps132 rfl (fun w J=>?_); refine jx2 ?_; refine jb 2 rfl ?_; refine jb 3 rfl ?_; refine ja 4 ?_; refine jx3 ?_; refine Tr.frzB 2 [2] eRr (x:=(f,())) ⟨rfl,trivial⟩ rfl ?_; refine Tr.frzB 3 [3] eNum (x:=x) ⟨rfl,trivial⟩ rfl ?_; refine jn ?_; refine Tr.draw 3 mixed (by kernel_rfl) ?_; refine jx2 ?_; refine jd (ct_rWhole (-1) zo) ?_; refine jx1 ?_; refine jc (ct_rMulN f x (giveN (loN [-1] 1)) (k+1) hpo hs hx1 hw zo) ?_; refine jx4 ?_; exact Rts.resC1 (fn:=Tryz.f132) rfl rfl (aggRd rfl (by rw[take_neg1]))

theorem ct_rSubN (f:FdT) (x y:NumT) (k:Nat) (hpo:PolOk f.1) (hs:∀i,(nth f.1 i).natAbs≤1000) (hx:NumOk k x) (hy:NumOk k y) (hk:k≤10000):Ct Tryz.prog 78 [kRd eRr (f,()),kRd eNum x,kRd eNum y] (kRd eNum (giveN (subV (takeN f.1 x) (takeN f.1 y)))):=by
 have ny:NBd (k+15) (takeN f.1 y):=take_NBd hpo hy
 have ry:RedN f.1 (takeN f.1 y):=take_RedN hpo
 have hn:=give_NumOk (neg_NBd ny)
 have htg:=take_give (neg_RedN ry)
 refine Ct.mk Tryz.func78 rfl Tryz.ntmps78 rfl (fun w J=>?_); refine jx2 ?_; refine jb 3 rfl ?_; refine jb 4 rfl ?_; refine jb 5 rfl ?_; refine ja 6 ?_; refine jx3 ?_; refine Tr.frzB 3 [3] eRr (x:=(f,())) ⟨rfl,trivial⟩ rfl ?_; refine Tr.frzB 4 [4] eNum (x:=x) ⟨rfl,trivial⟩ rfl ?_; refine Tr.frzB 5 [5] eNum (x:=y) ⟨rfl,trivial⟩ rfl ?_; refine jn ?_; refine Tr.draw 5 mixed (by kernel_rfl) ?_; refine jx4 ?_; refine jd (ct_rNegN f y k hpo hs hy zo) ?_; refine jx1 ?_; refine jc (ct_rAddN f x (giveN (negV (takeN f.1 y))) (k+15) hpo hs (hx.mono zo) hn zo) ?_; refine jx4 ?_
 exact Rts.resC1 (fn:=Tryz.f78) rfl rfl (aggRd rfl (by rw[htg]; rfl))

end Go.Fl

/- Contracts: enclosures and halving of the reference. -/
namespace Go.Fl
open Go Go.Proofs
open TrL renaming op→tO
open RunD renaming op→rO
set_option maxRecDepth 100000

abbrev PlT:=List Int×List Int×List Int
def ePl:Enc PlT:=eC (fun v:PlT=>(v.1,v.2.1,v.2.2,())) (eP (eL eI) (eP (eL eI) (eP (eL eI) eU)))
instance {v:PlT}:CellsK (kRd ePl v) [kRd (eL eI) (v.1),kRd (eL eI) (v.2.1),kRd (eL eI) (v.2.2)]:=inferInstanceAs (CellsK (kRd (eC (fun v:PlT=>(v.1,v.2.1,v.2.2,())) (eP (eL eI) (eP (eL eI) (eP (eL eI) eU)))) v) _)
instance {v:PlT} {tl:List Know}:EncCells ePl v tl (kRd (eL eI) (v.1)::kRd (eL eI) (v.2.1)::kRd (eL eI) (v.2.2)::tl):=inferInstanceAs (EncCells (eC (fun v:PlT=>(v.1,v.2.1,v.2.2,())) (eP (eL eI) (eP (eL eI) (eP (eL eI) eU)))) v tl _)
instance {v:PlT}:Norm ePl v (kRd ePl v):=⟨fun h=>h⟩
instance {v:PlT}:FieldP ePl v 0 (eL eI) (v.1) 0:=inferInstanceAs (FieldP (eC (fun v:PlT=>(v.1,v.2.1,v.2.2,())) (eP (eL eI) (eP (eL eI) (eP (eL eI) eU)))) v 0 _ _ _)
instance {v:PlT}:FieldP ePl v 1 (eL eI) (v.2.1) 1:=inferInstanceAs (FieldP (eC (fun v:PlT=>(v.1,v.2.1,v.2.2,())) (eP (eL eI) (eP (eL eI) (eP (eL eI) eU)))) v 1 _ _ _)
instance {v:PlT}:FieldP ePl v 2 (eL eI) (v.2.2) 2:=inferInstanceAs (FieldP (eC (fun v:PlT=>(v.1,v.2.1,v.2.2,())) (eP (eL eI) (eP (eL eI) (eP (eL eI) eU)))) v 2 _ _ _)
instance {ks r:List Know} {a b c:List Int} [h:RdOf ks (eP (eL eI) (eP (eL eI) (eP (eL eI) eU))) (a,b,c,()) r]:RdOf ks ePl ((a,b,c)) r:=⟨fun h'=>h.imp h'⟩
instance {a b c d:List Int} {r:List Know}:RdOf (kRd (eL eI) a::kRd (eL eI) b::kRd (eL eI) c::kRd (eL eI) d::r) (eArr 4 (eL eI)) [a,b,c,d] r:=⟨fun {g cs} h=>by
 obtain ⟨c1,t1,rfl,q1,h⟩:=(inferInstance:RdOf (kRd (eL eI) a::kRd (eL eI) b::kRd (eL eI) c::kRd (eL eI) d::r) (eL eI) a _).imp h
 obtain ⟨c2,t2,rfl,q2,h⟩:=(inferInstance:RdOf (kRd (eL eI) b::kRd (eL eI) c::kRd (eL eI) d::r) (eL eI) b _).imp h
 obtain ⟨c3,t3,rfl,q3,h⟩:=(inferInstance:RdOf (kRd (eL eI) c::kRd (eL eI) d::r) (eL eI) c _).imp h
 obtain ⟨c4,t4,rfl,q4,h⟩:=(inferInstance:RdOf (kRd (eL eI) d::r) (eL eI) d _).imp h
 exact ⟨c1++c2++c3++c4,t4,by simp,⟨rfl,c1,c2++c3++c4,by simp,q1,c2,c3++c4,by simp,q2,c3,c4,by simp,q3,c4,[],by simp,q4,rfl⟩,h⟩⟩
instance {a b c d:List Int} {tl:List Know}:EncCells (eArr 4 (eL eI)) [a,b,c,d] tl (kRd (eL eI) a::kRd (eL eI) b::kRd (eL eI) c::kRd (eL eI) d::tl):=⟨fun {g cs ds} h h'=>by
 obtain ⟨_,c1,t1,rfl,q1,c2,t2,rfl,q2,c3,t3,rfl,q3,c4,t4,rfl,q4,h⟩:=h
 have h:t4=[]:=h
 subst h
 have r4:=(inferInstance:EncCells (eL eI) d tl (kRd (eL eI) d::tl)).imp q4 h'
 have r3:=(inferInstance:EncCells (eL eI) c (kRd (eL eI) d::tl) _).imp q3 r4
 have r2:=(inferInstance:EncCells (eL eI) b (kRd (eL eI) c::kRd (eL eI) d::tl) _).imp q2 r3
 have r1:=(inferInstance:EncCells (eL eI) a (kRd (eL eI) b::kRd (eL eI) c::kRd (eL eI) d::tl) _).imp q1 r2
 simpa using r1⟩
instance {a b c d:List Int}:CellsK (kRd (eArr 4 (eL eI)) [a,b,c,d]) [kRd (eL eI) a,kRd (eL eI) b,kRd (eL eI) c,kRd (eL eI) d]:=⟨fun {g v} hk=>by
 have h1:=hk.cells
 have h2:=(inferInstance:EncCells (eArr 4 (eL eI)) [a,b,c,d] [] _).imp (g:=g) (ds:=[]) h1 trivial
 exact ⟨by simpa using h2,List.all_eq_true.2 fun x hx=>Enc.all1 _ h1 x hx⟩⟩
theorem nth_lst4 {zs:List Int} {i:Nat} (h:i<zs.length):nth (zs.map lstZ) i=lstZ (nth zs i):=by simp[nth,h]
theorem cmp_sub {y z:Int}:cmpZ (y-z) 0=cmpZ y z:=by unfold cmpZ; split<;>split<;>(try split)<;>(try split)<;>omega
theorem ct_rCmp (y z:Int) (hy:dl y≤800000) (hz:dl z≤800000):Ct Tryz.prog 177 [kRd (eL eI) (lstZ y),kRd (eL eI) (lstZ z)] (kI (cmpZ y z)):=by
 have hyz:=dl_add y (-z)
 rw[dl_neg,← Int.sub_eq_add_neg] at hyz
 refine Ct.mk Tryz.func177 rfl Tryz.ntmps177 rfl (fun w J=>?_); refine jx9 ?_; refine tO (ok_call (fun hp=>ct_rSub (lstZ y) (lstZ z) (lst_in _) (lst_in _) (by rw[lst_len]; omega) (by rw[lst_len]; omega)) (.a rfl uu<|.a rfl uu<|.nil)) rfl rfl ?_; refine tO (ok_call (fun hp=>ct_rSign (lstZ (val (lstZ y)-val (lstZ z))) (lst_in _) (by rw[lst_len,lst_val,lst_val]; omega)) (.a rfl uu<|.nil)) rfl rfl ?_; refine jx4 ?_; exact Rts.res1 (fn:=Tryz.f177) rfl (.i rfl (by rw[lst_val,lst_val,lst_val]; exact cmp_sub)<|.nil)

theorem ct_rbounds (z0 z1 z2 z3:Int) (hz:∀z∈[z0,z1,z2,z3],dl z≤800000):Ct Tryz.prog 130 [kRd (eArr 4 (eL eI)) [lstZ z0,lstZ z1,lstZ z2,lstZ z3]] (kTup [kRd (eL eI) (lstZ (min4 z0 z1 z2 z3)),kRd (eL eI) (lstZ (max4 z0 z1 z2 z3))]):=by
 obtain ⟨zs,hzs⟩:∃zs,zs=[z0,z1,z2,z3]:=⟨_,rfl⟩
 have hll:zs.length=4:=by rw[hzs]; rfl
 have hzl:∀i,i<4→nth [lstZ z0,lstZ z1,lstZ z2,lstZ z3] i=lstZ (nth zs i):=fun i hi=>by have:=nth_lst4 (zs:=zs) (i:=i) zo; rw[← this,hzs]; rfl
 have hzb:∀i,i<4→dl (nth zs i)≤800000:=fun i hi=>hz _ (by rw[← hzs]; exact nth_mem zo)
 have hmb:∀i,i<4→dl (mnW zs i)≤800000∧dl (mxW zs i)≤800000:=fun i hi=>⟨hz _ (by rw[← hzs]; exact (mnW_mem zo).1),hz _ (by rw[← hzs]; exact (mnW_mem zo).2)⟩
 refine Ct.mk Tryz.func130 rfl Tryz.ntmps130 rfl (fun w J=>?_); refine jx2 ?_; refine jb 1 rfl ?_; refine jx5 ?_; refine Tr.frzB 1 [1] (eArr 4 (eL eI)) ⟨rfl,trivial⟩ rfl ?_; refine jn ?_; refine Tr.draw 5 mixed (by kernel_rfl) ?_; refine rO (ok_idxArrP rfl uu rfl uu rfl (fun _=>zo)) rfl rfl ?_; refine jx1 ?_; refine rO (ok_idxArrP rfl uu rfl uu rfl (fun _=>zo)) rfl rfl ?_; refine jx12 ?_
 refine Tr.for1 (σ:=Nat) [⟨1,true,_,_⟩] [] (fun j=>[⟨4,true,[],kRd (eL eI) (lstZ (mnW zs j))⟩,⟨5,true,[],kRd (eL eI) (lstZ (mxW zs j))⟩,⟨6,true,[],kI ((j:Int)+1)⟩]) (fun j=>[]) (fun j=>j+1≤4) (fun j=>j=3) (fun j=>4-j) (0) zi (Ent.mk (.r rfl (by rw[hzs]; rfl)<|.r rfl (by rw[hzs]; rfl)<|.i rfl zi<|zk) (.nil) rfl) ?_ ?_
 ·intro j hR0
  refine jn ?_
  have hjn:((j:Int)+1).toNat=j+1:=by omega
  have hb2:=hmb j zo
  have hz1:=fun (h:j+1<4)=>hzl (j+1) h
  have hz2:=fun (h:j+1<4)=>hzb (j+1) h
  refine jx7 ?_; refine jq ?_ ?_
  ·intro h3
   refine jx8 ?_; refine tO (ok_idxArrP rfl uu rfl uu rfl (fun _=>zo)) rfl rfl ?_; refine jx1 ?_
   rw[hjn,hz1 zo]
   refine jx1 ?_; refine jc (ct_rCmp (nth zs (j+1)) (mnW zs j) (hz2 zo) hb2.1) ?_; refine jx3 ?_; refine jq ?_ ?_
   ·intro h5
    have hm:mnW zs (j+1)=nth zs (j+1):=if_pos (cmZlt.1 h5)
    refine jx2 ?_; refine tO (ok_idxArrP rfl uu rfl uu rfl (fun _=>zo)) rfl rfl ?_; refine jx1 ?_
    rw[hjn,hz1 zo]
    refine jx6 ?_; refine tO (ok_idxArrP rfl uu rfl uu rfl (fun _=>zo)) rfl rfl ?_; refine jx1 ?_
    rw[hjn,hz1 zo]
    refine jx1 ?_; refine jc (ct_rCmp (nth zs (j+1)) (mxW zs j) (hz2 zo) hb2.2) ?_; refine jx3 ?_; refine jq ?_ ?_
    ·intro h7
     have hx:mxW zs (j+1)=nth zs (j+1):=if_pos (cmZgt.1 h7)
     refine jx2 ?_; refine tO (ok_idxArrP rfl uu rfl uu rfl (fun _=>zo)) rfl rfl ?_; refine jx1 ?_
     rw[hjn,hz1 zo]
     refine jx9 ?_
     exact End.lp (j+1) zi zo (Ent.mk (.r rfl (by rw[hm])<|.r rfl (by rw[hx])<|.i rfl zi<|zk) (.nil) rfl)
    ·intro h7
     replace h7:=Int.not_lt.1 h7
     have hx:mxW zs (j+1)=mxW zs j:=if_neg (fun e=>absurd (cmZgt.2 e) zo)
     refine jx8 ?_
     exact End.lp (j+1) zi zo (Ent.mk (.r rfl (by rw[hm])<|.r rfl (by rw[hx])<|.i rfl zi<|zk) (.nil) rfl)
   ·intro h5
    replace h5:=Int.not_lt.1 h5
    have hm:mnW zs (j+1)=mnW zs j:=if_neg (fun e=>absurd (cmZlt.2 e) zo)
    refine jx5 ?_; refine tO (ok_idxArrP rfl uu rfl uu rfl (fun _=>zo)) rfl rfl ?_; refine jx1 ?_
    rw[hjn,hz1 zo]
    refine jx1 ?_; refine jc (ct_rCmp (nth zs (j+1)) (mxW zs j) (hz2 zo) hb2.2) ?_; refine jx3 ?_; refine jq ?_ ?_
    ·intro h7
     have hx:mxW zs (j+1)=nth zs (j+1):=if_pos (cmZgt.1 h7)
     refine jx2 ?_; refine tO (ok_idxArrP rfl uu rfl uu rfl (fun _=>zo)) rfl rfl ?_; refine jx1 ?_
     rw[hjn,hz1 zo]
     refine jx9 ?_
     exact End.lp (j+1) zi zo (Ent.mk (.r rfl (by rw[hm])<|.r rfl (by rw[hx])<|.i rfl zi<|zk) (.nil) rfl)
    ·intro h7
     replace h7:=Int.not_lt.1 h7
     have hx:mxW zs (j+1)=mxW zs j:=if_neg (fun e=>absurd (cmZgt.2 e) zo)
     refine jx8 ?_
     exact End.lp (j+1) zi zo (Ent.mk (.r rfl (by rw[hm])<|.r rfl (by rw[hx])<|.i rfl zi<|zk) (.nil) rfl)
  ·intro h3
   replace h3:=Int.not_lt.1 h3
   refine jx4 ?_
   exact End.cut (j) zo (Ent.mk (.r rfl zi<|.r rfl zi<|.i rfl zi<|zk) (.nil) rfl)
 ·rintro j rfl
  refine je ?_
  have hfin:=mnW4 (a:=z0) (b:=z1) (c:=z2) (d:=z3)
  rw[hzs]
  refine jx10 ?_; exact Rts.res (fn:=Tryz.f130) (ts:=[2,3]) rfl rfl (.r rfl (by rw[hfin.1])<|.r rfl (by rw[hfin.2])<|.nil)

end Go.Fl

/- Contracts: enclosures, halving and signs of the reference. -/
namespace Go.Fl
open Go Go.Proofs
open TrL renaming op→tO
open RunD renaming op→rO
set_option maxRecDepth 100000

theorem in2:InI [2]:=in1 zo
theorem plK_val {f:FdT} {k:Nat}:(ivK f.1 (ivF f) k).lo=val (plL (f.2.1,f.2.2.1,f.2.2.2) (ivK f.1 (ivF f) k) k).1∧(ivK f.1 (ivF f) k).hi=val (plL (f.2.1,f.2.2.1,f.2.2.2) (ivK f.1 (ivF f) k) k).2.1∧(ivK f.1 (ivF f) k).den=val (plL (f.2.1,f.2.2.1,f.2.2.2) (ivK f.1 (ivF f) k) k).2.2:=by
 unfold plL
 by_cases h:k=0
 ·subst h
  rw[if_pos rfl]
  exact ⟨val_one.symm,val_one.symm,val_one.symm⟩
 ·rw[if_neg h]
  exact ⟨(lst_val _).symm,(lst_val _).symm,(lst_val _).symm⟩
theorem plK_in {f:FdT} {k B:Nat} (hf:(1≤f.2.2.2∧f.2.2.2≤1000000)∧(-1000000≤f.2.1∧f.2.1≤1000000)∧(-1000000≤f.2.2.1∧f.2.2.1≤1000000)) (hB:1≤B) (hz:dl (ivK f.1 (ivF f) k).lo≤B∧dl (ivK f.1 (ivF f) k).hi≤B∧dl (ivK f.1 (ivF f) k).den≤B) :
  (InI (plL (f.2.1,f.2.2.1,f.2.2.2) (ivK f.1 (ivF f) k) k).1∧(plL (f.2.1,f.2.2.1,f.2.2.2) (ivK f.1 (ivF f) k) k).1.length≤B)∧(InI (plL (f.2.1,f.2.2.1,f.2.2.2) (ivK f.1 (ivF f) k) k).2.1∧(plL (f.2.1,f.2.2.1,f.2.2.2) (ivK f.1 (ivF f) k) k).2.1.length≤B)∧(InI (plL (f.2.1,f.2.2.1,f.2.2.2) (ivK f.1 (ivF f) k) k).2.2∧(plL (f.2.1,f.2.2.1,f.2.2.2) (ivK f.1 (ivF f) k) k).2.2.length≤B):=by
 unfold plL
 by_cases h:k=0
 ·subst h
  rw[if_pos rfl]
  exact ⟨⟨in1 (x:=f.2.1) zo,hB⟩,⟨in1 (x:=f.2.2.1) zo,hB⟩,⟨in1 (x:=f.2.2.2) zo,hB⟩⟩
 ·rw[if_neg h]
  exact ⟨⟨lst_in _,by rw[lst_len]; exact hz.1⟩,⟨lst_in _,by rw[lst_len]; exact hz.2.1⟩,⟨lst_in _,by rw[lst_len]; exact hz.2.2⟩⟩
theorem sgn_hm {p:List Int} {a b:Int} (h:hmL p a b≠0):sgn (hvP a b p).1≠0:=by
 have e:(hvP a b p).1=hmL p a b:=(hvP_hm (a:=a) (b:=b) (cs:=p)).2
 rw[e]
 rcases sgn_cases (hmL p a b) with ⟨_,q⟩ | ⟨q,_⟩ | ⟨_,q⟩
 ·rw[q]; decide
 ·exact absurd q h
 ·rw[q]; decide
theorem trim_rat {v:List Int} (_:v.length=4) (h:(trimL v).length≤1):ratB v=true:=ratB_of fun i h1 h2=>by
 rw[← nth_trim,nth_out zo]; rfl
theorem trim_big {p:List Int} {v:NvT} (hv:RedN p v) (h:2≤(trimL v.1).length):ratB v.1≠true∧3≤p.length:=by
 have h4:=hv.len
 have hne:trimL v.1≠[]:=fun e=>by rw[e] at h; simp at h
 have h1:=(trim_trim (xs:=v.1)).top hne
 rw[nth_trim] at h1
 have hle:=trim_len (xs:=v.1)
 refine ⟨fun e=>h1.2 (ratB_iff.1 e _ zo zo),Classical.byContradiction fun hp=>h1.2 (hv.hi _ zo)⟩
theorem sg_tr {p:List Int} {I:Iv} {v:NvT} (hv:RedN p v) (h5:p.length≤5) (hI:I.Ok) {k:Nat}:(0<(enc (ivK p I k) (trimL v.1)).1↔0<(enc (ivK p I k) (v.1.take (p.length-1))).1)∧((enc (ivK p I k) (trimL v.1)).2.1<0↔(enc (ivK p I k) (v.1.take (p.length-1))).2.1<0):=by
 rw[take_trim hv.len (show p.length-1≤4 by omega) hv.hi]
 have:=enc_sg (ivK_ok hI (p:=p) (k:=k)).pos (xs:=trimL v.1) (k:=p.length-1-(trimL v.1).length)
 exact ⟨this.1.symm,this.2.symm⟩
set_option maxHeartbeats 1000000 in
theorem ct_renclosed (cs:List Int) (pl:PlT) (I:Iv) (hI1:I.lo=val pl.1) (hI2:I.hi=val pl.2.1) (hI3:I.den=val pl.2.2) (hn1:InI pl.1∧pl.1.length≤73000) (hn2:InI pl.2.1∧pl.2.1.length≤73000) (hn3:InI pl.2.2∧pl.2.2.length≤73000) (hz:dl I.lo≤73000∧dl I.hi≤73000∧dl I.den≤73000) (hcl:cs.length≤4) (hcd:∀i,dl (nth cs i)≤540):Ct Tryz.prog 76 [kRd (eL (eL eI)) (cs.map lstZ),kRd ePl pl] (kTup [kRd (eL eI) (lstZ (enc I cs).1),kRd (eL eI) (lstZ (enc I cs).2.1),kRd (eL eI) (lstZ (enc I cs).2.2)]):=by
 have hml:(cs.map lstZ).length=cs.length:=List.length_map ..
 refine Ct.mk Tryz.func76 rfl Tryz.ntmps76 rfl (fun w J=>?_); refine jx2 ?_; refine jb 3 rfl ?_; refine jx6 ?_; refine Tr.frzB 3 [3] ePl (x:=pl) ⟨rfl,trivial⟩ rfl ?_; refine jn ?_; refine jx7 ?_; refine TrL.new (ok_bsl eI 11 (fun hp=>.cons rfl<|.nil) rfl rfl rfl rfl) rfl rfl rfl rfl ?_; refine TrL.frz 11 [11] ⟨rfl,trivial⟩ (by decide) rfl ?_; refine jl ?_; refine jx12 ?_
 refine Tr.for1 (σ:=Nat) [⟨0,true,_,_⟩,⟨3,true,_,_⟩] [] (fun j=>[⟨7,true,[],kRd (eL eI) (lstZ (encK I cs j).1)⟩,⟨8,true,[],kRd (eL eI) (lstZ (encK I cs j).2.1)⟩,⟨9,true,[],kRd (eL eI) (lstZ (encK I cs j).2.2)⟩,⟨10,true,[],kI ((cs.length:Int)-1-j)⟩]) (fun j=>[]) (fun j=>j≤cs.length) (fun j=>j=cs.length) (fun j=>cs.length-j) (0) zi (Ent.mk (.n rfl (by rw[encK_zero]; rfl)<|.n rfl (by rw[encK_zero]; rfl)<|.r rfl (by rw[encK_zero]; exact lst_1.symm)<|.i rfl zi<|zk) (.nil) rfl) ?_ ?_
 ·intro j hR0
  refine jn ?_
  have hb:=encK_dl (A:=73000) (C:=540) hz.1 hz.2.1 hz.2.2 hcd (k:=j) zo
  have hj5:j*(73000+1)≤4*73001:=Nat.mul_le_mul zo zo
  have hj6:j*73000≤4*73000:=Nat.mul_le_mul zo zo
  have hcj:=hcd (cs.length-1-j)
  have hm1:=dl_mul (encK I cs j).1 I.lo
  have hm2:=dl_mul (encK I cs j).1 I.hi
  have hm3:=dl_mul (encK I cs j).2.1 I.lo
  have hm4:=dl_mul (encK I cs j).2.1 I.hi
  have hm5:=dl_mul (encK I cs j).2.2 I.den
  have hm6:=dl_mul (nth cs (cs.length-1-j)) ((encK I cs j).2.2*I.den)
  have hco:∀x∈([(encK I cs j).1*I.lo,(encK I cs j).1*I.hi,(encK I cs j).2.1*I.lo,(encK I cs j).2.1*I.hi]:List Int),dl x≤800000:=fun x hx=>by simp only[List.mem_cons,List.not_mem_nil,or_false] at hx; rcases hx with rfl | rfl | rfl | rfl<;>omega
  have hmm:=dl_min4 (n:=370000) (a:=(encK I cs j).1*I.lo) (b:=(encK I cs j).1*I.hi) (c:=(encK I cs j).2.1*I.lo) (d:=(encK I cs j).2.1*I.hi) zo zo zo zo
  have hcx:=fun (h:j<cs.length)=>(show nth (cs.map lstZ) ((cs.length:Int)-1-(j:Int)).toNat=lstZ (nth cs (cs.length-1-j)) by rw[show ((cs.length:Int)-1-(j:Int)).toNat=cs.length-1-j by omega]; exact nth_lst4 zo)
  refine jx7 ?_; refine jq ?_ ?_
  ·intro h4
   refine jx5 ?_; refine Tr.draw 22 mixed (by kernel_rfl) ?_; refine jx3 ?_; refine rO (ok_call (fun hp=>ct_rMul (lstZ (encK I cs j).1) pl.1 (lst_in _) hn1.1 (by rw[lst_len]; omega) zo) (.a rfl uu<|.a rfl uu<|.nil)) rfl rfl ?_
   rw[lst_val,← hI1]
   refine jx3 ?_; refine rO (ok_call (fun hp=>ct_rMul (lstZ (encK I cs j).1) pl.2.1 (lst_in _) hn2.1 (by rw[lst_len]; omega) zo) (.a rfl uu<|.a rfl uu<|.nil)) rfl rfl ?_
   rw[lst_val,← hI2]
   refine jx3 ?_; refine rO (ok_call (fun hp=>ct_rMul (lstZ (encK I cs j).2.1) pl.1 (lst_in _) hn1.1 (by rw[lst_len]; omega) zo) (.a rfl uu<|.a rfl uu<|.nil)) rfl rfl ?_
   rw[lst_val,← hI1]
   refine jx3 ?_; refine rO (ok_call (fun hp=>ct_rMul (lstZ (encK I cs j).2.1) pl.2.1 (lst_in _) hn2.1 (by rw[lst_len]; omega) zo) (.a rfl uu<|.a rfl uu<|.nil)) rfl rfl ?_
   rw[lst_val,← hI2]
   refine rO (ok_buildL [(0,1),(1,1),(2,1),(3,1)] rfl (fun hp=>.cons rfl rfl rfl<|.cons rfl rfl rfl<|.cons rfl rfl rfl<|.cons rfl rfl rfl<|.nil)) rfl rfl ?_; refine jd (ct_rbounds ((encK I cs j).1*I.lo) ((encK I cs j).1*I.hi) ((encK I cs j).2.1*I.lo) ((encK I cs j).2.1*I.hi) hco) ?_; refine jx13 ?_; refine tO (ok_call (fun hp=>ct_rMul (lstZ (encK I cs j).2.2) pl.2.2 (lst_in _) hn3.1 (by rw[lst_len]; omega) zo) (.a rfl uu<|.a rfl uu<|.nil)) rfl rfl ?_
   rw[lst_val,← hI3]
   refine jx3 ?_; refine Tr.draw 15 mixed (by kernel_rfl) ?_; refine jx5 ?_
   rw[hcx zo]
   refine jx1 ?_; refine rO (ok_call (fun hp=>ct_rMul (lstZ (nth cs (cs.length-1-j))) (lstZ ((encK I cs j).2.2*I.den)) (lst_in _) (lst_in _) (by rw[lst_len]; omega) (by rw[lst_len]; omega)) (.a rfl uu<|.a rfl uu<|.nil)) rfl rfl ?_
   rw[lst_val,lst_val]
   refine rO (ok_call (fun hp=>ct_rAdd (lstZ (min4 ((encK I cs j).1*I.lo) ((encK I cs j).1*I.hi) ((encK I cs j).2.1*I.lo) ((encK I cs j).2.1*I.hi))) (lstZ ((nth cs (cs.length-1-j))*((encK I cs j).2.2*I.den))) (lst_in _) (lst_in _) (by rw[lst_len]; omega) (by rw[lst_len]; omega)) (.a rfl uu<|.a rfl uu<|.nil)) rfl rfl ?_
   rw[lst_val,lst_val]
   refine jx5 ?_
   rw[hcx zo]
   refine jx1 ?_; refine rO (ok_call (fun hp=>ct_rMul (lstZ (nth cs (cs.length-1-j))) (lstZ ((encK I cs j).2.2*I.den)) (lst_in _) (lst_in _) (by rw[lst_len]; omega) (by rw[lst_len]; omega)) (.a rfl uu<|.a rfl uu<|.nil)) rfl rfl ?_
   rw[lst_val,lst_val]
   refine jx1 ?_; refine tO (ok_call (fun hp=>ct_rAdd (lstZ (max4 ((encK I cs j).1*I.lo) ((encK I cs j).1*I.hi) ((encK I cs j).2.1*I.lo) ((encK I cs j).2.1*I.hi))) (lstZ ((nth cs (cs.length-1-j))*((encK I cs j).2.2*I.den))) (lst_in _) (lst_in _) (by rw[lst_len]; omega) (by rw[lst_len]; omega)) (.a rfl uu<|.a rfl uu<|.nil)) rfl rfl ?_
   rw[lst_val,lst_val]
   refine jx10 ?_
   exact End.lp (j+1) zi zo (Ent.mk (.r rfl (by rw[encK_step zo])<|.r rfl (by rw[encK_step zo])<|.r rfl (by rw[encK_step zo])<|.i rfl zi<|zk) (.nil) rfl)
  ·intro h4
   replace h4:=Int.not_le.1 h4
   refine jx4 ?_
   exact End.cut (j) zo (Ent.mk (.r rfl zi<|.r rfl zi<|.r rfl zi<|.i rfl zi<|zk) (.nil) rfl)
 ·rintro j hjn
  refine je ?_
  rw[hjn,encK_end]
  refine jx12 ?_; exact Rts.res (fn:=Tryz.f76) (ts:=[4,5,6]) rfl rfl (.r rfl (by rfl)<|.r rfl (by rfl)<|.r rfl (by rfl)<|.nil)

set_option maxHeartbeats 1000000 in
theorem ct_rhalved (f:FdT) (pl:PlT) (I:Iv) (hI1:I.lo=val pl.1) (hI2:I.hi=val pl.2.1) (hI3:I.den=val pl.2.2) (hn1:InI pl.1∧pl.1.length≤73000) (hn2:InI pl.2.1∧pl.2.1.length≤73000) (hn3:InI pl.2.2∧pl.2.2.length≤73000) (hz:dl I.lo≤73000∧dl I.hi≤73000∧dl I.den≤73000) (hpo:PolOk f.1) (hs:∀i,(nth f.1 i).natAbs≤1000) (hs1:sgn (hvP I.lo I.den f.1).1≠0) (hs2:sgn (hvP (I.lo+I.hi) (I.den*2) f.1).1≠0):Ct Tryz.prog 77 [kRd eRr (f,()),kRd ePl pl] (kRd ePl (lstZ (halveI f.1 I).lo,lstZ (halveI f.1 I).hi,lstZ (halveI f.1 I).den)):=by
 have hff:((f,()):RrT).1.1.length=f.1.length:=rfl
 have hn5:=hpo.1
 have hlo:LOk 1 (f.1.map fun c=>[c]):=one_ok (fun i=>Nat.le_trans (hs i) zo) zo
 have ha1:=dl_add I.lo I.hi
 have ha2:=dl_mul I.den 2
 have ha3:=dl_mul I.lo 2
 have ha4:=dl_mul I.hi 2
 have ha5:=dl_small (F:=2) zo zo
 have hv2:val [2]=2:=val_one
 have hhr:=halve_ref hs1 hs2
 refine Ct.mk Tryz.func77 rfl Tryz.ntmps77 rfl (fun w J=>?_); refine jx2 ?_; refine jb 2 rfl ?_; refine jb 3 rfl ?_; refine ja 4 ?_; refine jx3 ?_; refine Tr.frzB 2 [2] eRr (x:=(f,())) ⟨rfl,trivial⟩ rfl ?_; refine Tr.frzB 3 [3] ePl (x:=pl) ⟨rfl,trivial⟩ rfl ?_; refine jn ?_; refine jx10 ?_; refine Tr.grow (s:=5) rfl rfl 55 rfl 22 (eL eI) rfl ?_
 refine Tr.for1 (σ:=Nat) [⟨2,true,_,_⟩,⟨3,true,_,_⟩,⟨4,true,_,_⟩] [⟨4,_,_⟩] (fun k=>[⟨5,true,[55],kOsl 55 k⟩,⟨6,true,[],kI (k:Int)⟩]) (fun k=>[⟨55,[],cArr true 22 (eL eI) ((f.1.map fun c=>[c]).take k) k⟩]) (fun k=>k≤f.1.length) (fun k=>k=f.1.length) (fun k=>f.1.length-k) (0) zi (Ent.mk (.o rfl zi rfl<|.i rfl zi<|zk) (.a (by rfl) zi<|zk) rfl) ?_ ?_
 ·intro k hR0
  refine jn ?_; refine jx11 ?_; refine jq ?_ ?_
  ·intro h3
   refine jx12 ?_; refine tO (ok_bslJ eI (fun hp=>.cons rfl<|.nil) rfl rfl rfl rfl) rfl rfl ?_; refine TrL.new (ok_bsl (eL eI) 26 (fun hp=>.cons rfl<|.nil) rfl rfl rfl rfl) rfl rfl rfl rfl ?_; refine jx1 ?_; refine jl ?_; refine jx9 ?_
   exact End.lp (k+1) zi zo (Ent.mk (.o rfl zi rfl<|.i rfl zi<|zk) (.a (take_map1 zo) zi<|zk) rfl)
  ·intro h3
   replace h3:=Int.not_lt.1 h3
   refine jx4 ?_
   exact End.cut (k) zo (Ent.mk (.o rfl zi rfl<|.i rfl zi<|zk) (zk) rfl)
 ·rintro k hkn
  refine je ?_
  have htk1:(f.1.map fun c=>[c]).take k=f.1.map fun c=>[c]:=List.take_of_length_le (by rw[List.length_map]; omega)
  rw[htk1]
  refine jx3 ?_; refine TrL.new (ok_bsl eI 28 (fun hp=>.cons rfl<|.nil) rfl rfl rfl rfl) rfl rfl rfl rfl ?_; refine TrL.frz 28 [28] ⟨rfl,trivial⟩ (by decide) rfl ?_; refine jl ?_; refine jx4 ?_; refine Tr.draw 8 mixed (by kernel_rfl) ?_; refine jx4 ?_; refine jd (ct_rAdd pl.1 pl.2.1 hn1.1 hn2.1 zo zo) ?_
  rw[← hI1,← hI2]
  refine jx4 ?_; refine tO (ok_call (fun hp=>ct_rMul pl.2.2 [2] hn3.1 in2 zo (by show 1≤_; omega)) (.a rfl uu<|.a rfl uu<|.nil)) rfl rfl ?_
  rw[← hI3,hv2]
  refine jx6 ?_; refine Tr.frz 55 [5] ⟨rfl,trivial⟩ (by simp only[lenMax]; omega) rfl ?_; refine jn ?_; refine jx1 ?_
  have hvb1:dl (hvP I.lo I.den f.1).1≤5*73003:=by have:=(hvK_dl (p:=f.1) (B:=73000) (C:=1) hpo.2 hz.1 hz.2.2 (k:=f.1.length) (Nat.le_refl _)).1; rw[hvK_end] at this; have h5:f.1.length*(73000+1)≤5*73001:=Nat.mul_le_mul zo zo; omega
  have hvb2:dl (hvP (I.lo+I.hi) (I.den*2) f.1).1≤5*73005:=by have:=(hvK_dl (p:=f.1) (B:=73001) (C:=1) (a:=I.lo+I.hi) (d:=I.den*2) hpo.2 zo zo (k:=f.1.length) (Nat.le_refl _)).1; rw[hvK_end] at this; have h5:f.1.length*(73001+1)≤5*73002:=Nat.mul_le_mul zo zo; omega
  refine jx5 ?_; refine jc (ct_rat (f.1.map fun c=>[c]) pl.1 pl.2.2 73001 1 hlo (by rw[List.length_map]; omega) ⟨hn1.1,by omega⟩ ⟨hn3.1,by omega⟩ (by rw[← hI1]; omega) (by rw[← hI3]; omega) zo zo) ?_
  rw[one_val,← hI1,← hI3]
  refine tO (ok_call (fun hp=>ct_rSign (lstZ (hvP I.lo I.den f.1).1) (lst_in _) (by rw[lst_len]; exact Nat.le_trans hvb1 zo)) (.a rfl uu<|.nil)) rfl rfl ?_
  rw[lst_val]
  refine jx3 ?_; refine tO (ok_call (fun hp=>ct_rat (f.1.map fun c=>[c]) (lstZ (I.lo+I.hi)) (lstZ (I.den*2)) 73002 1 hlo (by rw[List.length_map]; omega) ⟨lst_in _,by rw[lst_len]; omega⟩ ⟨lst_in _,by rw[lst_len]; omega⟩ (by rw[lst_val]; omega) (by rw[lst_val]; omega) zo zo) (.a rfl uu<|.a rfl uu<|.a rfl uu<|.nil)) rfl rfl ?_
  rw[one_val,lst_val,lst_val]
  refine tO (ok_call (fun hp=>ct_rSign (lstZ (hvP (I.lo+I.hi) (I.den*2) f.1).1) (lst_in _) (by rw[lst_len]; exact Nat.le_trans hvb2 zo)) (.a rfl uu<|.nil)) rfl rfl ?_
  rw[lst_val]
  refine jx3 ?_; refine jq ?_ ?_
  ·intro h8
   replace hhr:=hhr.trans (if_pos h8)
   refine jx5 ?_; refine tO (ok_call (fun hp=>ct_rMul pl.1 [2] hn1.1 in2 zo (by show 1≤_; omega)) (.a rfl uu<|.a rfl uu<|.nil)) rfl rfl ?_
   rw[← hI1,hv2]
   refine jx2 ?_; refine tO (ok_build (fun hp=>.cons rfl rfl rfl<|.cons rfl rfl rfl<|.cons rfl rfl rfl<|.nil)) rfl rfl ?_; refine jx5 ?_; exact Rts.resC1 (fn:=Tryz.f77) rfl rfl (aggRd rfl (by rw[hhr]))
  ·intro h8
   replace h8:=Classical.not_not.1 h8
   replace hhr:=hhr.trans (if_neg (fun e=>e h8))
   refine jx8 ?_; refine tO (ok_call (fun hp=>ct_rMul pl.2.1 [2] hn2.1 in2 zo (by show 1≤_; omega)) (.a rfl uu<|.a rfl uu<|.nil)) rfl rfl ?_
   rw[← hI2,hv2]
   refine jx1 ?_; refine tO (ok_build (fun hp=>.cons rfl rfl rfl<|.cons rfl rfl rfl<|.cons rfl rfl rfl<|.nil)) rfl rfl ?_; refine jx4 ?_; exact Rts.resC1 (fn:=Tryz.f77) rfl rfl (aggRd rfl (by rw[hhr]))

set_option maxHeartbeats 1000000 in
theorem ct_rSignN (f:FdT) (x:NumT) (h0:chkF f=0) (hx:NumOk 560 x) (hvb:NBd 540 (takeN f.1 x)):Ct Tryz.prog 25 [kRd eRr (f,()),kRd eNum x] (kI (sgV f.1 (ivF f) (takeN f.1 x))):=by
 obtain ⟨⟨c1,c2,c3⟩,c6⟩:=chkF_0 h0
 have hpo:=pol_open h0
 have hv:RedN f.1 (takeN f.1 x):=take_RedN hpo
 have hvl:=hv.len
 have htl:=trim_len (xs:=(takeN f.1 x).1)
 have hml:(giveN (takeN f.1 x)).1.length=(trimL (takeN f.1 x).1).length:=List.length_map ..
 refine Ct.mk Tryz.func25 rfl Tryz.ntmps25 rfl (fun w J=>?_); refine jx2 ?_; refine jb 2 rfl ?_; refine jb 3 rfl ?_; refine jx4 ?_; refine Tr.frzB 2 [2] eRr (x:=(f,())) ⟨rfl,trivial⟩ rfl ?_; refine jn ?_; refine jx3 ?_; refine jc (ct_rNormalN f x 560 hpo c2 hx zo) ?_; refine jx5 ?_; refine Tr.frzB 3 [3] eNum (x:=giveN (takeN f.1 x)) ⟨rfl,trivial⟩ rfl ?_; refine jn ?_; refine jx7 ?_; refine jq ?_ ?_
 ·intro h2
  have hr:=trim_rat hvl zo
  have hz0:nth (takeN f.1 x).1 0=0:=by rw[← nth_trim,nth_out zo]; rfl
  have hsv:sgV f.1 (ivF f) (takeN f.1 x)=0:=by rw[sgV_rat hr,hz0]; rfl
  refine jx7 ?_; exact Rts.res1 (fn:=Tryz.f25) rfl (.i rfl (by rw[hsv])<|.nil)
 ·intro h2
  refine jx11 ?_; refine jq ?_ ?_
  ·intro h4
   have hr:=trim_rat hvl zo
   have hsv:sgV f.1 (ivF f) (takeN f.1 x)=cmpZ (nth (takeN f.1 x).1 0) 0:=sgV_rat hr
   have hn0:nth (giveN (takeN f.1 x)).1 0=lstZ (nth (trimL (takeN f.1 x).1) 0):=nth_lst4 zo
   refine jx4 ?_; refine tO (ok_idxN (i:=0) rfl uu rfl uu rfl (fun _=>zo)) rfl rfl ?_; refine jx1 ?_
   rw[hn0]
   refine tO (ok_call (fun hp=>ct_rSign (lstZ (nth (trimL (takeN f.1 x).1) 0)) (lst_in _) (by rw[lst_len,nth_trim]; exact Nat.le_trans (hvb.c 0) zo)) (.a rfl uu<|.nil)) rfl rfl ?_
   rw[lst_val,nth_trim]
   refine jx5 ?_; exact Rts.res1 (fn:=Tryz.f25) rfl (.i rfl (by rw[hsv])<|.nil)
  ·intro h4
   have hbig:=trim_big hv zo
   have hf:=fld_ok h0 hbig.2
   obtain ⟨K,q1,q2,q3⟩:=hf.bound (M:=540) (cs:=(takeN f.1 x).1.take (f.1.length-1)) (by rw[List.length_take]; omega) (rat_ne hbig.2 hv hbig.1).2 (fun c hc=>by obtain ⟨i,hi,rfl⟩:=List.mem_iff_getElem.1 hc; have e:((takeN f.1 x).1.take (f.1.length-1))[i]=nth (takeN f.1 x).1 i:=(by rw[List.length_take] at hi; rw[List.getElem_take]; have:i<(takeN f.1 x).1.length:=zo; simp[nth,this]); rw[e]; exact hvb.c i) zo zo
   have hsF:sgV f.1 (ivF f) (takeN f.1 x)=sgnF f.1 (ivF f) ((takeN f.1 x).1.take (f.1.length-1)):=if_neg hbig.1
   refine jx7 ?_; refine tO (ok_bslJ eI (fun hp=>.cons rfl<|.nil) rfl rfl rfl rfl) rfl rfl ?_; refine jx3 ?_; refine tO (ok_bslJ eI (fun hp=>.cons rfl<|.nil) rfl rfl rfl rfl) rfl rfl ?_; refine jx3 ?_; refine tO (ok_bslJ eI (fun hp=>.cons rfl<|.nil) rfl rfl rfl rfl) rfl rfl ?_; refine tO (ok_build (fun hp=>.cons rfl rfl rfl<|.cons rfl rfl rfl<|.cons rfl rfl rfl<|.nil)) rfl rfl ?_; refine ja 5 ?_; refine jx3 ?_
   refine Tr.for1 (σ:=Nat) [⟨2,true,_,_⟩,⟨3,true,_,_⟩,⟨5,true,_,_⟩] [] (fun k=>[]) (fun k=>[⟨5,[],cBlk [kRd (eL eI) (plL (f.2.1,f.2.2.1,f.2.2.2) (ivK f.1 (ivF f) (k)) (k)).1,kRd (eL eI) (plL (f.2.1,f.2.2.1,f.2.2.2) (ivK f.1 (ivF f) (k)) (k)).2.1,kRd (eL eI) (plL (f.2.1,f.2.2.1,f.2.2.2) (ivK f.1 (ivF f) (k)) (k)).2.2]⟩]) (fun k=>k≤K) (fun k=>False) (fun k=>K-k) (0) zi (Ent.mk (zk) (.e (by rfl) rfl<|.nil) rfl) ?_ ?_
   ·intro k hR0
    refine jn ?_
    have hz:=q3 k hR0
    have pv:=plK_val (f:=f) (k:=k)
    have pin:=plK_in c3 zo hz
    have hst:=sg_tr hv c1.2 hf.iv (k:=k)
    have hip:=(ivK_ok hf.iv (p:=f.1) (k:=k)).pos
    have heb:=encK_dl (I:=(ivK f.1 (ivF f) k)) (A:=73000) (C:=540) hz.1 hz.2.1 hz.2.2 (fun i=>by rw[nth_trim]; exact hvb.c i) (cs:=(trimL (takeN f.1 x).1)) (k:=(trimL (takeN f.1 x).1).length) (Nat.le_refl _)
    rw[encK_end] at heb
    have hj5:(trimL (takeN f.1 x).1).length*(73000+1)≤4*73001:=Nat.mul_le_mul zo zo
    refine jx6 ?_; refine jc (ct_renclosed (trimL (takeN f.1 x).1) (plL (f.2.1,f.2.2.1,f.2.2.2) (ivK f.1 (ivF f) (k)) (k)) (ivK f.1 (ivF f) k) pv.1 pv.2.1 pv.2.2 pin.1 pin.2.1 pin.2.2 hz zo (fun i=>by rw[nth_trim]; exact hvb.c i)) ?_; refine jx13 ?_; refine tO (ok_call (fun hp=>ct_rSign (lstZ (enc (ivK f.1 (ivF f) k) (trimL (takeN f.1 x).1)).1) (lst_in _) (by rw[lst_len]; omega)) (.a rfl uu<|.nil)) rfl rfl ?_
    rw[lst_val]
    refine jx3 ?_; refine jq ?_ ?_
    ·intro h8
     have hsv:sgV f.1 (ivF f) (takeN f.1 x)=1:=by rw[hsF]; exact sgnF_pos (hst.1.1 (cmZgt.1 h8))
     refine jx11 ?_; exact Rts.res1 (fn:=Tryz.f25) rfl (.i rfl (by rw[hsv])<|.nil)
    ·intro h8
     replace h8:=Int.not_lt.1 h8
     have hn8:¬0<(enc (ivK f.1 (ivF f) k) (trimL (takeN f.1 x).1)).1:=fun e=>absurd (cmZgt.2 e) zo
     refine jx6 ?_; refine tO (ok_call (fun hp=>ct_rSign (lstZ (enc (ivK f.1 (ivF f) k) (trimL (takeN f.1 x).1)).2.1) (lst_in _) (by rw[lst_len]; omega)) (.a rfl uu<|.nil)) rfl rfl ?_
     rw[lst_val]
     refine jx3 ?_; refine jq ?_ ?_
     ·intro h10
      have hsv:sgV f.1 (ivF f) (takeN f.1 x)=-1:=by rw[hsF]; exact sgnF_neg hf.iv (hst.2.1 (cmZlt.1 h10))
      refine jx11 ?_; exact Rts.res1 (fn:=Tryz.f25) rfl (.i rfl (by rw[hsv])<|.nil)
     ·intro h10
      replace h10:=Int.not_lt.1 h10
      have hn10:¬(enc (ivK f.1 (ivF f) k) (trimL (takeN f.1 x).1)).2.1<0:=fun e=>absurd (cmZlt.2 e) zo
      have hkK:k<K:=Classical.byContradiction fun e=>(q2 k zo).elim (fun e=>hn8 (hst.1.2 e)) (fun e=>hn10 (hst.2.2 e))
      refine jx5 ?_; refine tO (ok_call (fun hp=>ct_rhalved f (plL (f.2.1,f.2.2.1,f.2.2.2) (ivK f.1 (ivF f) (k)) (k)) (ivK f.1 (ivF f) k) pv.1 pv.2.1 pv.2.2 pin.1 pin.2.1 pin.2.2 hz hpo c2 (sgn_hm (hf.noroot _ _ hip)) (sgn_hm (hf.noroot _ _ zo))) (.a rfl uu<|.se rfl uu rfl rfl<|.nil)) rfl rfl ?_; refine jx3 ?_; exact End.lp (k+1) zo zo (Ent.mk (zk) (.e (by rfl) rfl<|.nil) rfl)
   ·intro k hE0
    exact hE0.elim

theorem ct_rCmpN (f:FdT) (x y:NumT) (h0:chkF f=0) (hx:NumOk 250 x) (hy:NumOk 250 y):Ct Tryz.prog 26 [kRd eRr (f,()),kRd eNum x,kRd eNum y] (kI (sgV f.1 (ivF f) (subV (takeN f.1 x) (takeN f.1 y)))):=by
 obtain ⟨⟨c1,c2,c3⟩,c6⟩:=chkF_0 h0
 have hpo:=pol_open h0
 have nb:=sub_NBd (take_NBd hpo hx) (take_NBd hpo hy)
 have rz:RedN f.1 (subV (takeN f.1 x) (takeN f.1 y)):=sub_RedN (take_RedN hpo) (take_RedN hpo)
 have htg:=take_give rz
 refine Ct.mk Tryz.func26 rfl Tryz.ntmps26 rfl (fun w J=>?_); refine jx2 ?_; refine jb 3 rfl ?_; refine jb 4 rfl ?_; refine jb 5 rfl ?_; refine jx4 ?_; refine Tr.frzB 3 [3] eRr (x:=(f,())) ⟨rfl,trivial⟩ rfl ?_; refine Tr.frzB 4 [4] eNum (x:=x) ⟨rfl,trivial⟩ rfl ?_; refine Tr.frzB 5 [5] eNum (x:=y) ⟨rfl,trivial⟩ rfl ?_; refine jn ?_; refine Tr.draw 5 mixed (by kernel_rfl) ?_; refine jx4 ?_; refine jd (ct_rSubN f x y 250 hpo c2 hx hy zo) ?_; refine jx1 ?_; refine jc (ct_rSignN f (giveN (subV (takeN f.1 x) (takeN f.1 y))) h0 ((give_NumOk nb).mono zo) (by rw[htg]; exact nb.mono zo)) ?_
 refine jx4 ?_; exact Rts.res1 (fn:=Tryz.f26) rfl (.i rfl (by rw[htg])<|.nil)

end Go.Fl

/- Sums of lengths in any order; orbits. No program in sight. -/
namespace Go.Fl
open Go
theorem adV_same {D:Int} {cs cs':List Int} (hD:0<D):adV (loN cs D) (loN cs' D)=loN (tab 4 fun i=>nth cs i+nth cs' i) D:=by
 have hD0:D≠0:=by omega
 have p1:=low_pos (cs:=cs) hD0
 have p2:=low_pos (cs:=cs') hD0
 have p3:=Int.mul_pos p1 p2
 refine low_eq zo hD0 ?_
 rw[tab_mul,tab_mul]
 refine tab_congr fun i _=>?_
 have e1:=low_cross (cs:=cs) hD0 i
 have e2:=low_cross (cs:=cs') hD0 i
 generalize nth (loN cs D).1 i=a at *
 generalize nth (loN cs' D).1 i=b at *
 generalize (loN cs D).2=c at *
 generalize (loN cs' D).2=d at *
 generalize nth cs i=u at *
 generalize nth cs' i=v at *
 calc (a*d+b*c)*D=(a*D)*d+(b*D)*c:=by rw[Int.add_mul]; congr 1<;>ac_rfl
  _=u*c*d+v*d*c:=by rw[e1,e2]
  _=(u+v)*(c*d):=by rw[Int.add_mul]; congr 1<;>ac_rfl
def smV (ls:List NvT):Nat→NvT
 | 0=>intV 0
 | k+1=>adV (smV ls k) (nth ls k)
theorem int0_low {D:Int} (hD:0<D):intV 0=loN (tab 4 fun _=>0) D:=by
 have:intV 0=loN [0,0,0,0] 1:=low_one.symm
 rw[this]
 exact low_eq (by decide) zo (by simp[tab,List.range,List.range.loop])
theorem LenOk.cs {p:List Int} {D:Int} {M n:Nat} {ls:List NvT} (h:LenOk p D M n ls):∃cs:Nat→List Int,∀a,a<n→nth ls a=loN (cs a) D:=by
 have:∀a,∃c:List Int,a<n→nth ls a=loN c D:=fun a=>by
  by_cases ha:a<n
  ·obtain ⟨c,_,h2,_⟩:=h.hb a ha
   exact ⟨c,fun _=>h2⟩
  ·exact ⟨[],fun h=>absurd h ha⟩
 exact ⟨fun a=>(this a).choose,fun a ha=>(this a).choose_spec ha⟩
def orV (sg:NvT→Int) (o:List Int×List Int) (ls:List NvT) (pv:NvT):Nat→NvT
 | 0=>pv
 | k+1=>imgV o ls (orV sg o ls pv k) (letV sg (plV ls o.1) o.1 (orV sg o ls pv k) (o.1.length-1))
def ltV (sg:NvT→Int) (o:List Int×List Int) (ls:List NvT) (pv:NvT) (k:Nat):Int:=letV sg (plV ls o.1) o.1 (orV sg o ls pv k) (o.1.length-1)
theorem or_ok {sg:NvT→Int} {p:List Int} {D:Int} {M:Nat} {ls:List NvT} {o:List Int×List Int} {pv:NvT} (hp:PolOk p) (h:LenOk p D M o.1.length ls) (h1:pmR o.1 o.1.length) (h2:pmR o.2 o.1.length) (h0:1≤o.1.length) (hr:RedN p pv) (hb:HB D M pv):∀k,RedN p (orV sg o ls pv k)∧HB D ((1+k*(2*o.1.length))*M) (orV sg o ls pv k)
 | 0=>⟨hr,by rw[Nat.zero_mul,Nat.add_zero,Nat.one_mul]; exact hb⟩
 | k+1=>by
  obtain ⟨q1,q2⟩:=or_ok hp h h1 h2 h0 hr hb k (sg:=sg)
  have hl:=letV_rg (sg:=sg) (tops:=plV ls o.1) (pv:=orV sg o ls pv k) h1 (show o.1.length-1<o.1.length by omega)
  obtain ⟨a1,a2⟩:=aw_ok hp h h1 h2 (a:=(letV sg (plV ls o.1) o.1 (orV sg o ls pv k) (o.1.length-1)).toNat) zo
  refine ⟨add_RedN q1 a1,?_⟩
  rw[show (1+(k+1)*(2*o.1.length))*M=(1+k*(2*o.1.length))*M+2*o.1.length*M by rw[Nat.succ_mul,← Nat.add_assoc,Nat.add_mul]]
  exact q2.add h.pos a2
theorem or_bd {sg:NvT→Int} {p:List Int} {D:Int} {M:Nat} {ls:List NvT} {o:List Int×List Int} {pv:NvT} (hp:PolOk p) (h:LenOk p D M o.1.length ls) (h1:pmR o.1 o.1.length) (h2:pmR o.2 o.1.length) (h0:1≤o.1.length∧o.1.length≤8) (hr:RedN p pv) (hb:HB D M pv) {k:Nat} (hk:k≤2001):NBd 200 (orV sg o ls pv k):=by
 refine h.nbd (or_ok hp h h1 h2 h0.1 hr hb k).2 ?_
 have:=Nat.mul_le_mul hk (show 2*o.1.length≤16 by omega)
 omega
end Go.Fl

/- Contracts: exchanges of the reference: errors, places, shifts. -/
namespace Go.Fl
open Go Go.Proofs
open TrL renaming op→tO
open RunD renaming op→rO
set_option maxRecDepth 100000

def InN (x:NumT):Prop:=(∀i,InI (nth x.1 i))∧InI x.2
def shB (x:NumT) (k:Nat):Bool:=decide (x.1.length≤6)&&decide (x.2.length≤k)&&x.1.all fun c=>decide (c.length≤k)
theorem shB_ok {x:NumT} {k:Nat} (h:shB x k=true) (hi:InN x):NumOk k x:=by
 unfold shB at h
 simp only[Bool.and_eq_true,decide_eq_true_eq,List.all_eq_true] at h
 obtain ⟨⟨h1,h2⟩,h3⟩:=h
 refine ⟨h1,fun i=>⟨hi.1 i,?_⟩,hi.2,h2⟩
 by_cases hl:i<x.1.length
 ·exact h3 _ (nth_mem hl)
 ·rw[nth_out zo]; exact Nat.zero_le _
def smB (x:ExT):Bool:=decide (x.2.1.length≤12)&&decide (x.2.2.1.length≤12)&&decide (x.2.2.2.length≤12)&&decide (x.1.1.length≤8)&&x.2.2.2.all fun l=>shB l 2
structure SmX (x:ExT):Prop where
 top:x.2.1.length≤12
 bot:x.2.2.1.length≤12
 len:x.2.2.2.length≤12
 num:∀a,NumOk 2 (nth x.2.2.2 a)
theorem num_nil {k:Nat}:NumOk k ([],[]):=⟨by simp,fun i=>⟨by rw[nth_nil]; exact inI_nil,by rw[nth_nil]; exact Nat.zero_le _⟩,inI_nil,Nat.zero_le _⟩
theorem smB_ok {x:ExT} (h:smB x=true) (hi:∀a,InN (nth x.2.2.2 a)):SmX x:=by
 unfold smB at h
 simp only[Bool.and_eq_true,decide_eq_true_eq,List.all_eq_true] at h
 obtain ⟨⟨⟨⟨h1,h2⟩,h3⟩,h4⟩,h5⟩:=h
 refine ⟨h1,h2,h3,fun a=>?_⟩
 by_cases ha:a<x.2.2.2.length
 ·exact shB_ok (h5 _ (nth_mem ha)) (hi a)
 ·rw[nth_out zo]; exact num_nil
noncomputable abbrev sgX (x:ExT):NvT→Int:=sgV x.1.1 (ivF x.1)
abbrev lsX (x:ExT):List NvT:=x.2.2.2.map (takeN x.1.1)
structure XOk (x:ExT):Prop where
 fld:chkF x.1=0
 rows:RowsOk (x.2.1,x.2.2.1)
 len:x.2.2.2.length=x.2.1.length
 num:∀a,a<x.2.1.length→NumOk 2 (nth x.2.2.2 a)
 pos:∀a,a<x.2.1.length→0<sgX x (takeN x.1.1 (nth x.2.2.2 a))
open Classical in
noncomputable def chkX (x:ExT):Int:=if chkF x.1≠0 then chkF x.1 else if chkR (x.2.1,x.2.2.1)≠0 then chkR (x.2.1,x.2.2.1) else if x.2.2.2.length≠x.2.1.length then 10 else if ∀a,a<x.2.2.2.length→0<sgX x (takeN x.1.1 (nth x.2.2.2 a)) then 0 else 12
theorem chkX_ok {x:ExT} (h:chkX x=0) (hs:SmX x):XOk x:=by
 unfold chkX at h
 by_cases c1:chkF x.1=0
 ·rw[if_neg (fun e=>e c1)] at h
  by_cases c2:chkR (x.2.1,x.2.2.1)=0
  ·rw[if_neg (fun e=>e c2)] at h
   by_cases c3:x.2.2.2.length=x.2.1.length
   ·rw[if_neg (fun e=>e c3)] at h
    by_cases c4:∀a,a<x.2.2.2.length→0<sgX x (takeN x.1.1 (nth x.2.2.2 a))
    ·exact ⟨c1,rows_of c2,c3,fun a _=>hs.num a,fun a ha=>c4 a zo⟩
    ·rw[if_neg c4] at h; exact absurd h (by decide)
   ·rw[if_pos c3] at h; exact absurd h (by decide)
  ·rw[if_pos c2] at h; exact absurd h c2
 ·rw[if_pos c1] at h; exact absurd h c1
theorem ct_bShort (x:NumT) (k:Nat):Ct Tryz.prog 14 [kRd eNum x,kI (k:Int)] (kB (shB x k)):=by
 refine Ct.mk Tryz.func14 rfl Tryz.ntmps14 rfl (fun w J=>?_); refine jx2 ?_; refine jb 2 rfl ?_; refine jx5 ?_; refine Tr.frzB 2 [2] eNum (x:=x) ⟨rfl,trivial⟩ rfl ?_; refine jn ?_; refine jx14 ?_; refine Tr.cnd rfl ?_ ?_
 ·intro h1
  have hr:shB x k=false:=by simp at h1; unfold shB; simp; omega
  refine jx7 ?_; exact Rts.res1 (fn:=Tryz.f14) rfl (.b rfl (by rw[hr])<|.nil)
 ·intro h1
  have h12:x.1.length≤6∧x.2.length≤k:=by simp at h1; omega
  refine jx8 ?_
  refine Tr.for1 (σ:=Nat) [⟨1,true,_,_⟩,⟨2,true,_,_⟩] [] (fun i=>[⟨5,true,[],kI (i:Int)⟩]) (fun i=>[]) (fun i=>i≤x.1.length∧∀j,j<i→(nth x.1 j).length≤k) (fun i=>∀j,j<x.1.length→(nth x.1 j).length≤k) (fun i=>x.1.length-i) (0) ⟨by omega,fun j h=>absurd h (Nat.not_lt_zero _)⟩ (Ent.mk (.i rfl zi<|zk) (.nil) rfl) ?_ ?_
  ·rintro i ⟨hi,hR⟩
   refine jn ?_; refine jx10 ?_; refine jq ?_ ?_
   ·intro h4
    refine jx16 ?_; refine jq ?_ ?_
    ·intro h6
     have hr:shB x k=false:=by unfold shB; simp only[Bool.and_eq_false_iff,List.all_eq_false,decide_eq_true_eq]; exact .inr ⟨nth x.1 i,nth_mem zo,by omega⟩
     refine jx12 ?_; exact Rts.res1 (fn:=Tryz.f14) rfl (.b rfl (by rw[hr])<|.nil)
    ·intro h6
     replace h6:=Int.not_lt.1 h6
     have hok:(nth x.1 i).length≤k:=by omega
     refine jx8 ?_
     exact End.lp (i+1) ⟨by omega,fun j hj=>by by_cases e:j=i; (rw[e]; exact hok); exact hR j zo⟩ zo (Ent.mk (.i rfl zi<|zk) (.nil) rfl)
   ·intro h4
    replace h4:=Int.not_lt.1 h4
    refine jx4 ?_
    exact End.cut (i) (fun j hj=>hR j zo) (Ent.mk (.i rfl zi<|zk) (.nil) rfl)
  ·intro i hE
   refine je ?_
   have hr:shB x k=true:=by unfold shB; simp only[Bool.and_eq_true,decide_eq_true_eq,List.all_eq_true]; exact ⟨h12,fun c hc=>by obtain ⟨j,hj,rfl⟩:=List.mem_iff_getElem.1 hc; have:=hE j hj; have e:nth x.1 j=x.1[j]:=(by simp[nth,hj]); rw[e] at this; exact this⟩
   refine jx7 ?_; exact Rts.res1 (fn:=Tryz.f14) rfl (.b rfl (by rw[hr])<|.nil)

theorem ct_rRowsOf (x:ExT):Ct Tryz.prog 65 [kRd eX x] (kRd eO (x.2.1,x.2.2.1)):=by
 refine Ct.mk Tryz.func65 rfl Tryz.ntmps65 rfl (fun w J=>?_); refine jx2 ?_; refine jb 1 rfl ?_; refine ja 2 ?_; refine jx8 ?_; refine tO (ok_build (fun hp=>.cons rfl rfl rfl<|.cons rfl rfl rfl<|.nil)) rfl rfl ?_; refine jx4 ?_; exact Rts.resC1 (fn:=Tryz.f65) rfl rfl (aggRd rfl (by rfl))

theorem ct_xfew (r:Ori):Ct Tryz.prog 52 [kRd eO r] (kB (decide (r.1.length≤12)&&decide (r.2.length≤12))):=by
 refine Ct.mk Tryz.func52 rfl Tryz.ntmps52 rfl (fun w J=>?_); refine jx2 ?_; refine jb 1 rfl ?_; refine jx4 ?_; refine Tr.frzB 1 [1] eO (x:=r) ⟨rfl,trivial⟩ rfl ?_; refine jn ?_; refine jx15 ?_; exact Rts.res1 (fn:=Tryz.f52) rfl (.b rfl (by congr 1<;>exact decide_eq_decide.2 zo)<|.nil)

theorem ct_xSmall (x:ExT):Ct Tryz.prog 13 [kRd eX x] (kB (smB x)):=by
 refine Ct.mk Tryz.func13 rfl Tryz.ntmps13 rfl (fun w J=>?_); refine jx2 ?_; refine jb 1 rfl ?_; refine jx5 ?_; refine Tr.frzB 1 [1] eX (x:=x) ⟨rfl,trivial⟩ rfl ?_; refine jn ?_; refine jx2 ?_; refine tO (ok_call (fun hp=>ct_rRowsOf _) (.a rfl uu<|.nil)) rfl rfl ?_; refine tO (ok_call (fun hp=>ct_xfew _) (.a rfl uu<|.nil)) rfl rfl ?_; refine jx16 ?_; refine Tr.cnd rfl ?_ ?_
 ·intro h1
  have hr:smB x=false:=by simp at h1; unfold smB; simp only[Bool.and_eq_false_iff,decide_eq_false_iff_not]; omega
  refine jx7 ?_; exact Rts.res1 (fn:=Tryz.f13) rfl (.b rfl (by rw[hr])<|.nil)
 ·intro h1
  have h12:((x.2.1.length≤12∧x.2.2.1.length≤12)∧x.2.2.2.length≤12)∧x.1.1.length≤8:=by simp at h1; omega
  refine jx8 ?_
  refine Tr.for1 (σ:=Nat) [⟨1,true,_,_⟩] [] (fun i=>[⟨3,true,[],kI (i:Int)⟩]) (fun i=>[]) (fun i=>i≤x.2.2.2.length∧∀j,j<i→shB (nth x.2.2.2 j) 2=true) (fun i=>∀j,j<x.2.2.2.length→shB (nth x.2.2.2 j) 2=true) (fun i=>x.2.2.2.length-i) (0) ⟨by omega,fun j h=>absurd h (Nat.not_lt_zero _)⟩ (Ent.mk (.i rfl zi<|zk) (.nil) rfl) ?_ ?_
  ·rintro i ⟨hi,hR⟩
   refine jn ?_; refine jx10 ?_; refine jq ?_ ?_
   ·intro h4
    refine jx11 ?_; refine jc (ct_bShort (nth x.2.2.2 i) 2) ?_; refine jx3 ?_; refine Tr.cnd rfl ?_ ?_
    ·intro h6
     have hr:smB x=false:=by unfold smB; simp only[Bool.and_eq_false_iff,List.all_eq_false]; exact .inr ⟨nth x.2.2.2 i,nth_mem zo,by simpa using h6⟩
     refine jx12 ?_; exact Rts.res1 (fn:=Tryz.f13) rfl (.b rfl (by rw[hr])<|.nil)
    ·intro h6
     have hok:shB (nth x.2.2.2 i) 2=true:=by simpa using h6
     refine jx8 ?_
     exact End.lp (i+1) ⟨by omega,fun j hj=>by by_cases e:j=i; (rw[e]; exact hok); exact hR j zo⟩ zo (Ent.mk (.i rfl zi<|zk) (.nil) rfl)
   ·intro h4
    replace h4:=Int.not_lt.1 h4
    refine jx4 ?_
    exact End.cut (i) (fun j hj=>hR j zo) (Ent.mk (.i rfl zi<|zk) (.nil) rfl)
  ·intro i hE
   refine je ?_
   have hr:smB x=true:=by unfold smB; simp only[Bool.and_eq_true,decide_eq_true_eq,List.all_eq_true]; exact ⟨h12,fun c hc=>by obtain ⟨j,hj,rfl⟩:=List.mem_iff_getElem.1 hc; have:=hE j hj; have e:nth x.2.2.2 j=x.2.2.2[j]:=(by simp[nth,hj]); rw[e] at this; exact this⟩
   refine jx7 ?_; exact Rts.res1 (fn:=Tryz.f13) rfl (.b rfl (by rw[hr])<|.nil)

end Go.Fl

/- Contracts: exchanges of the reference: errors, places, shifts, orbits. -/
namespace Go.Fl
open Go Go.Proofs
open TrL renaming op→tO
open RunD renaming op→rO
set_option maxRecDepth 100000

end Go.Fl

/- Contracts: shifts, letters and orbits of the reference. -/
namespace Go.Fl
open Go Go.Proofs
open TrL renaming op→tO
open RunD renaming op→rO
set_option maxRecDepth 100000

abbrev oX (x:ExT):Ori:=(x.2.1,x.2.2.1)
noncomputable abbrev lX (x:ExT) (pv:NvT) (k:Nat):Int:=letV (sgX x) (plV (lsX x) x.2.1) x.2.1 pv k
noncomputable abbrev orX (x:ExT) (pv:NvT) (k:Nat):NvT:=orV (sgX x) (oX x) (lsX x) pv k
noncomputable abbrev ltX (x:ExT) (pv:NvT) (k:Nat):Int:=ltV (sgX x) (oX x) (lsX x) pv k
end Go.Fl

/- Contracts: open with its errors; orbits. -/
namespace Go.Fl
open Go Go.Proofs
open TrL renaming op→tO
open RunD renaming op→rO
set_option maxRecDepth 100000

noncomputable abbrev macX (x:ExT):MacT:=mac (openR x.1) (oX x) (lsX x)
theorem ct_xopX (x:ExT) (D:Int) (M:Nat) (hx:XOk x) (hlo:LenOk x.1.1 D M x.2.1.length (lsX x)):Ct Tryz.prog 66 [kRd eX x] (kTup [kPtr eMac (macX x),kI 0]) :=
 ct_xopen x (openR x.1) (sgX x) D M (ct_fOpenG _ hx.fld) (pol_open hx.fld) (sgnC_open hx.fld) hx.rows hx.len (fun a h=>(hx.num a h).mono zo) hlo hx.pos
theorem ct_sgX (f:FdT) (p:NumT) (h0:chkF f=0) (hp:NumOk 250 p):Ct Tryz.prog 82 [kPtr eReal (openR f),kRd eNum p] (kI (sgV f.1 (ivF f) (takeN f.1 p))):=(sgnC_open h0).sign p hp
theorem ct_nmX (f:FdT) (p:NumT) (h0:chkF f=0) (hp:NumOk 250 p):Ct Tryz.prog 69 [kPtr eReal (openR f),kRd eNum p] (kRd eNum (giveN (takeN f.1 p))):=ct_fNormalN (openR f) p 250 (pol_open h0) hp zo
theorem ct_inX (x:ExT) (p q:NumT) (h0:chkF x.1=0) (hpn:NumOk 250 p) (hq:NumOk 250 q):Ct Tryz.prog 67 [kPtr eMac (macX x),kRd eNum p,kRd eNum q] (kB (decide (0≤sgX x (takeN x.1.1 p))&&decide (sgX x (subV (takeN x.1.1 p) (takeN x.1.1 q))<0))):=ct_inside (openR x.1) (oX x) (lsX x) (sgX x) p q (sgnC_open h0) hpn hq
theorem ct_xopenE (x:ExT) (h0:chkF x.1≠0):Ct Tryz.prog 66 [kRd eX x] (kTup [kDet (.pointer none),kI (chkX x)]):=by
 refine Ct.mk Tryz.func66 rfl Tryz.ntmps66 rfl (fun w J=>?_); refine jx2 ?_; refine jb 1 rfl ?_; refine jx8 ?_; refine jc (ct_fOpenE x.1 h0) ?_; refine jx14 ?_; refine Tr.cnd rfl ?_ ?_
 ·intro h2
  refine jx9 ?_; exact Rts.res (fn:=Tryz.f66) (ts:=[2,3]) rfl rfl (.k rfl<|.i rfl (by unfold chkX; rw[if_pos h0])<|.nil)
 ·intro h2
  exact absurd (of_decide_eq_false h2) (fun e=>e h0)

set_option maxHeartbeats 1000000 in
theorem ct_xopenR (x:ExT) (h0:chkF x.1=0) (hsm:SmX x) (hne:chkX x≠0):Ct Tryz.prog 66 [kRd eX x] (kTup [kDet (.pointer none),kI (chkX x)]):=by
 have he1:=(if_neg (fun e=>e h0):chkX x=_)
 have hpo:=pol_open h0
 have ht1:=hsm.top
 have ht2:=hsm.bot
 have ht3:=hsm.len
 obtain ⟨ls,hls⟩:∃ls,ls=lsX x:=⟨_,rfl⟩
 have hll:ls.length=x.2.2.2.length:=by rw[hls,List.length_map]
 have hnk:∀k,k<x.2.2.2.length→nth ls k=takeN x.1.1 (nth x.2.2.2 k):=fun k hk=>by rw[hls]; exact nth_mapT hk
 refine Ct.mk Tryz.func66 rfl Tryz.ntmps66 rfl (fun w J=>?_); refine jx2 ?_; refine jb 1 rfl ?_; refine jx8 ?_; refine jc (ct_fOpenG x.1 h0) ?_; refine jx14 ?_; refine Tr.cnd rfl ?_ ?_
 ·intro h2
  exact absurd h2 (by decide)
 ·intro h2
  refine jx6 ?_; refine tO (ok_call (fun hp=>ct_rowsOf _) (.s rfl uu rfl<|.nil)) rfl rfl ?_; refine tO (ok_call (fun hp=>ct_eCheckRows _) (.a rfl uu<|.nil)) rfl rfl ?_; refine jx9 ?_; refine jq ?_ ?_
  ·intro h5
   have hr:chkX x=chkR (x.2.1,x.2.2.1):=he1.trans (if_pos h5)
   refine jx9 ?_
   exact Rts.res (fn:=Tryz.f66) (ts:=[2,3]) rfl rfl (.k rfl<|.i rfl zi<|.nil)
  ·intro h5
   replace h5:=Classical.not_not.1 h5
   have he2:=he1.trans (if_neg (fun e=>e h5))
   refine jx14 ?_; refine jq ?_ ?_
   ·intro h7
    have hr:chkX x=10:=he2.trans (if_pos zo)
    refine jx8 ?_; exact Rts.res (fn:=Tryz.f66) (ts:=[2,3]) rfl rfl (.k rfl<|.i rfl (by rw[hr])<|.nil)
   ·intro h7
    replace h7:=Classical.not_not.1 h7
    have he3:=he2.trans (if_neg zo)
    refine jx6 ?_; refine tO (ok_call (fun hp=>ct_rowsOf _) (.s rfl uu rfl<|.nil)) rfl rfl ?_; refine tO (ok_call (fun hp=>ct_copied _ (by show x.2.1.length≤1000; omega) (by show x.2.2.1.length≤1000; omega)) (.a rfl uu<|.nil)) rfl rfl ?_; refine tO (ok_build (fun hp=>.cons rfl rfl rfl<|.cons rfl rfl rfl<|.nil)) rfl rfl ?_; refine jb 38 rfl ?_; refine jx12 ?_; refine Tr.growC 38 3 139 rfl (ks':=[_,_,_,kOsl 139 0,_,_,_,_,_]) rfl rfl 30 eNum rfl (.cons inferInstance rfl<|.cons inferInstance rfl<|.cons inferInstance rfl<|.cons inferInstance rfl<|.cons inferInstance rfl<|.cons inferInstance rfl<|.cons inferInstance rfl<|.cons inferInstance rfl<|.cons inferInstance rfl<|inferInstance) ?_
    refine Tr.for1 (σ:=Nat) [⟨1,true,_,_⟩,⟨4,true,_,_⟩,⟨7,true,_,_⟩,⟨40,true,_,_⟩,⟨41,true,_,_⟩] [⟨1,_,_⟩] (fun k=>[⟨42,true,[],kI (k:Int)⟩]) (fun k=>[⟨38,[139],cBlk [kPtr eReal (openR x.1),kRd (eL eI) x.2.1,kRd (eL eI) x.2.2.1,kOsl 139 k,kDet (.slice none 0 0),kDet (.slice none 0 0),kDet (.slice none 0 0),kDet (.slice none 0 0),kDet (.slice none 0 0)]⟩,⟨139,[],cArr true 30 eNum ((ls.take k).map giveN) k⟩]) (fun k=>k≤x.2.2.2.length∧∀j,j<k→0<sgV x.1.1 (ivF x.1) (takeN x.1.1 (nth x.2.2.2 j))) (fun k=>False) (fun k=>x.2.2.2.length-k) (0) ⟨by omega,fun j h=>absurd h (Nat.not_lt_zero _)⟩ (Ent.mk (.i rfl zi<|zk) (.e (by rfl) rfl<|.a (by rfl) zi<|zk) rfl) ?_ ?_
    ·rintro k ⟨hk,hR⟩
     refine jn ?_; refine jx6 ?_; refine jq ?_ ?_
     ·intro h11
      refine jx8 ?_; refine ja 9 ?_; refine jx8 ?_; refine jc (ct_sgX x.1 (nth x.2.2.2 k) h0 ((hsm.num k).mono zo)) ?_; refine jx3 ?_; refine jq ?_ ?_
      ·intro h13
       have hr:chkX x=12:=he3.trans (if_neg (fun e=>by have e2:0<sgV x.1.1 (ivF x.1) (takeN x.1.1 (nth x.2.2.2 k)):=e k zo; omega))
       refine jx14 ?_; exact Rts.res (fn:=Tryz.f66) (ts:=[2,3]) rfl rfl (.k rfl<|.i rfl (by rw[hr])<|.nil)
      ·intro h13
       replace h13:=Int.not_le.1 h13
       have hok:0<sgV x.1.1 (ivF x.1) (takeN x.1.1 (nth x.2.2.2 k)):=by omega
       refine jx2 ?_; refine Tr.drawM (m:=9) mixed (by kernel_rfl) rfl (by kernel_rfl) (by kernel_rfl) (by kernel_rfl) ?_; refine jx2 ?_; refine rO (ok_nilO rfl uu) rfl rfl ?_; refine jx4 ?_; refine jd (ct_nmX x.1 (nth x.2.2.2 k) h0 ((hsm.num k).mono zo)) ?_; refine RunD.new (ok_bsl eNum 58 (fun hp=>.cons rfl<|.nil) rfl rfl rfl rfl) rfl rfl rfl rfl ?_; refine jx1 ?_; refine TrL.wkC 38 (.k<|.k<|.k<|.any<|.k<|.k<|.k<|.k<|.k<|.nil) rfl ?_; refine jx1 ?_; refine jl ?_; refine tO (ok_nilO rfl uu) rfl rfl ?_; refine jx2 ?_; refine TrL.finN ?_; refine jx6 ?_
       exact End.lp (k+1) ⟨by omega,fun j hj=>by by_cases e:j=k; (rw[e]; exact hok); exact hR j zo⟩ zo (Ent.mk (.i rfl zi<|zk) (.e (by rfl) rfl<|.a (by rw[take_succ_nth zo,List.map_append,hnk k zo]; rfl) zi<|zk) rfl)
     ·intro h11
      replace h11:=Int.not_lt.1 h11
      refine jx4 ?_
      exact End.cut (k) (hne (he3.trans (if_pos fun j hj=>hR j zo))) (Ent.mk (.i rfl zi<|zk) (zk) rfl)
    ·intro k hE0
     exact hE0.elim

theorem ct_xApplyR (x:ExT) (D:Int) (M:Nat) (p:NumT) (hx:XOk x) (hlo:LenOk x.1.1 D M x.2.1.length (lsX x)) (hpn:NumOk 250 p) (hrg:(decide (0≤sgX x (takeN x.1.1 p))&&decide (sgX x (subV (takeN x.1.1 p) (totV (lsX x) x.2.1))<0))=false):Ct Tryz.prog 15 [kRd eX x,kRd eNum p] (kTup [kRd eNum ([],[]),kI 0,kI 2]):=by
 have h0:=hx.fld
 have hpo:=pol_open h0
 have hs:=(chkF_0 h0).1.2.1
 have v:=hx.rows
 have hp1:pmR x.2.1 x.2.1.length:=v.p1
 have hp2:pmR x.2.2.1 x.2.1.length:=v.p2
 have hle:x.2.1.length≤8:=v.le
 have htwo:2≤x.2.1.length:=v.two
 have hbl:x.2.2.1.length=x.2.1.length:=v.len
 have hxl:=hx.len
 have hll:=hlo.len
 have htt:=pt_ok hpo hlo hp1 x.2.1.length (Nat.le_refl _)
 have htg:takeN x.1.1 (giveN (totV (lsX x) x.2.1))=totV (lsX x) x.2.1:=take_give htt.1
 refine Ct.mk Tryz.func15 rfl Tryz.ntmps15 rfl (fun w J=>?_); refine jx2 ?_; refine jb 2 rfl ?_; refine jb 3 rfl ?_; refine ja 4 ?_; refine jx7 ?_; refine jc (ct_xopX x D M hx hlo) ?_; refine jx14 ?_; refine Tr.cnd rfl ?_ ?_
 ·intro h2
  exact absurd h2 (by decide)
 ·intro h2
  refine jx4 ?_; refine Tr.draw 6 mixed (by kernel_rfl) ?_; refine jx3 ?_; refine rO (ok_nilP rfl uu) rfl rfl ?_; refine jx3 ?_; refine jc (ct_inX x p (giveN (totV (lsX x) x.2.1)) h0 hpn ((give_NumOk (hlo.nbd htt.2 zo)).mono zo)) ?_; refine jx3 ?_; refine Tr.cnd rfl ?_ ?_
  ·intro h4
   refine jx2 ?_; refine tO (ok_build (fun hp=>.nil)) rfl rfl ?_; refine jx7 ?_
   exact Rts.resC (fn:=Tryz.f15) (ts:=[5,6]) rfl rfl rfl (aggRd rfl zi) (.i rfl zi<|.i rfl zi<|.nil)
  ·intro h4
   rw[htg,hrg] at h4; simp at h4

end Go.Fl

/- Contracts: errors of Apply and Orbit. -/
namespace Go.Fl
open Go Go.Proofs
open TrL renaming op→tO
open RunD renaming op→rO
set_option maxRecDepth 100000

theorem ct_xopenB (x:ExT) (hsm:SmX x) (hne:chkX x≠0):Ct Tryz.prog 66 [kRd eX x] (kTup [kDet (.pointer none),kI (chkX x)]):=by
 by_cases h0:chkF x.1=0
 ·exact ct_xopenR x h0 hsm hne
 ·exact ct_xopenE x h0
theorem ct_xApplyE (x:ExT) (p:NumT) (hsm:SmX x) (hne:chkX x≠0):Ct Tryz.prog 15 [kRd eX x,kRd eNum p] (kTup [kRd eNum ([],[]),kI 0,kI (chkX x)]):=by
 refine Ct.mk Tryz.func15 rfl Tryz.ntmps15 rfl (fun w J=>?_); refine jx2 ?_; refine jb 2 rfl ?_; refine jb 3 rfl ?_; refine ja 4 ?_; refine jx7 ?_; refine jc (ct_xopenB x hsm hne) ?_; refine jx14 ?_; refine Tr.cnd rfl ?_ ?_
 ·intro h2
  refine jx2 ?_; refine tO (ok_build (fun hp=>.nil)) rfl rfl ?_; refine jx8 ?_
  exact Rts.resC (fn:=Tryz.f15) (ts:=[5,6]) rfl rfl rfl (aggRd rfl (by rfl)) (.i rfl zi<|.i rfl zi<|.nil)
 ·intro h2
  exact absurd (of_decide_eq_false h2) (fun e=>e hne)

end Go.Fl

/- The law of orbits. -/
namespace Go.Fl
open Go Go.Proofs
open TrL renaming op→tO
open RunD renaming op→rO
set_option maxRecDepth 100000

theorem XOk.dm {x:ExT} (hx:XOk x) {ps:List NumT} (hp:∀p∈ps,NumOk 2 p) (hl:ps.length≤2):∃(D:Int) (M:Nat),LenOk x.1.1 D M x.2.1.length (lsX x)∧∀p∈ps,HB D M (takeN x.1.1 p):=by
 have hpo:=pol_open hx.fld
 obtain ⟨D,M,h1,h2⟩:=take_LenOk (more:=ps.map (takeN x.1.1)) hpo hx.len hx.rows.le hx.num (by rw[List.length_map]; exact hl) fun v hv=>by
  obtain ⟨p,hpm,rfl⟩:=List.mem_map.1 hv
  exact ⟨take_RedN hpo,take_NBd hpo (hp p hpm)⟩
 exact ⟨D,M,h1,fun p hpm=>h2 _ (List.mem_map.2 ⟨p,hpm,rfl⟩)⟩
theorem XOk.dm1 {x:ExT} (hx:XOk x) {p:NumT} (hp:NumOk 2 p):∃(D:Int) (M:Nat),LenOk x.1.1 D M x.2.1.length (lsX x)∧HB D M (takeN x.1.1 p):=by
 obtain ⟨D,M,h1,h2⟩:=hx.dm (ps:=[p]) (fun q hq=>by rw[List.mem_singleton.1 hq]; exact hp) (by show 1≤2; omega)
 exact ⟨D,M,h1,h2 p (by simp)⟩
noncomputable def inB (x:ExT) (p:NumT):Bool:=decide (0≤sgX x (takeN x.1.1 p))&&decide (sgX x (subV (takeN x.1.1 p) (totV (lsX x) x.2.1))<0)
noncomputable def obE (x:ExT) (p:NumT) (n:Int):Int:=if chkX x≠0 then chkX x else if 0≤n∧n≤2000∧inB x p=true then 0 else 2
noncomputable def obP (x:ExT) (p:NumT) (n:Int):List NumT:=if obE x p n≠0 then [] else tab (n.toNat+1) fun k=>giveN (orX x (takeN x.1.1 p) k)
noncomputable def obC (x:ExT) (p:NumT) (n:Int):List Int:=if obE x p n≠0 then [] else tab n.toNat (ltX x (takeN x.1.1 p))
noncomputable def apP (x:ExT) (p:NumT):NumT:=if obE x p 1≠0 then ([],[]) else giveN (orX x (takeN x.1.1 p) 1)
noncomputable def apC (x:ExT) (p:NumT):Int:=if obE x p 1≠0 then 0 else ltX x (takeN x.1.1 p) 0
theorem ct_xApplyA (x:ExT) (p:NumT) (hsm:SmX x) (hp:NumOk 2 p):Ct Tryz.prog 15 [kRd eX x,kRd eNum p] (kTup [kRd eNum (apP x p),kI (apC x p),kI (obE x p 1)]):=by
 by_cases h:chkX x=0
 ·have hx:=chkX_ok h hsm
  obtain ⟨D,M,hlo,hb⟩:=hx.dm1 hp
  by_cases c:inB x p=true
  ·have e:obE x p 1=0:=by unfold obE; rw[if_neg (fun a=>a h),if_pos ⟨by decide,by decide,c⟩]
   have hi:=c
   unfold inB at hi
   rw[Bool.and_eq_true,decide_eq_true_eq,decide_eq_true_eq] at hi
   unfold apP apC
   rw[e,if_neg (fun a=>a rfl),if_neg (fun a=>a rfl)]
   exact ct_xApply x (openR x.1) (sgX x) D M p (ct_fOpenG _ hx.fld) (pol_open hx.fld) (sgnC_open hx.fld) hx.rows hx.len (fun a h=>(hx.num a h).mono zo) hlo hx.pos (hp.mono zo) hi
  ·have e:obE x p 1=2:=by unfold obE; rw[if_neg (fun a=>a h),if_neg (fun a=>c a.2.2)]
   unfold apP apC
   rw[e,if_pos (by decide),if_pos (by decide)]
   exact ct_xApplyR x D M p hx hlo (hp.mono zo) (Bool.eq_false_iff.2 c)
 ·have e:obE x p 1=chkX x:=by unfold obE; rw[if_pos h]
  unfold apP apC
  rw[e,if_pos h,if_pos h]
  exact ct_xApplyE x p hsm h
theorem in_list {l:List Int} (h:ListP (okI .i64) l):InI l:=fun i hi=>okI64 (h.2 i hi)
theorem in_num {c:List (List Int)} {d:List Int} (h:ListP (ListP (okI .i64)) c) (h2:ListP (okI .i64) d):InN (c,d):=⟨fun i=>by
 by_cases hi:i<c.length
 ·exact in_list (h.2 i hi)
 ·show InI (nth c i); rw[nth_out zo]; exact inI_nil,in_list h2⟩
theorem in_nums {l:List NumT} (h:ListP InN l) (a:Nat):InN (nth l a):=by
 by_cases hi:a<l.length
 ·exact h.2 a hi
 ·rw[nth_out zo]; exact ⟨fun i=>by show InI (nth [] i); rw[nth_nil]; exact inI_nil,inI_nil⟩
end Go.Fl

/- Places of letters; lists that are filled letter by letter; renumbered rows. No program in sight. -/
namespace Go.Fl
open Go
theorem idx_nat {row:List Int} {n a:Nat} (h:pmR row n) (ha:a<n):∃j,j<n∧nth row j=(a:Int)∧row.idxOf (a:Int)=j:=by
 have hl:=h.2.2
 obtain ⟨j,hj,hja⟩:=perm_mem h.2.1 h.1 h.2.2 (x:=(a:Int)) zo zo
 exact ⟨j,hj,hja,by rw[← hja]; exact idx_pm h zo⟩
def flP {α:Type} (F:Nat→α) (z:α) (row:List Int) (k:Nat):List α:=tab row.length fun a=>if row.idxOf (a:Int)<k then F (row.idxOf (a:Int)) else z
def nmV (row:List Int):List Int:=tab row.length fun a=>(row.idxOf (a:Int):Int)
def renB (o:List Int×List Int):List Int:=tab o.1.length fun i=>(o.1.idxOf (nth o.2 i):Int)
def renT (o:List Int×List Int):List Int:=tab o.1.length fun i=>(i:Int)
def renL (o:List Int×List Int) (ls:List NvT):List NvT:=tab o.1.length fun i=>nth ls (nth o.1 i).toNat
end Go.Fl

/- Contracts: the reference: renumbered rows, normal and inverse exchanges; comparisons of exchanges. -/
namespace Go.Fl
open Go Go.Proofs
open TrL renaming op→tO
open RunD renaming op→rO
set_option maxRecDepth 100000

abbrev exZ:ExT:=(([],0,0,0),[],[],[])
def fdB (a b:FdT):Bool:=decide (a.1=b.1)&&decide (a.2.1=b.2.1)&&decide (a.2.2.1=b.2.2.1)&&decide (a.2.2.2=b.2.2.2)
def exB (a b:ExT):Bool:=fdB a.1 b.1&&decide (a.2.1=b.2.1)&&decide (a.2.2.1=b.2.2.1)&&decide (a.2.2.2=b.2.2.2)
instance:NB 141 142:=⟨rfl⟩
instance:NB 142 141:=⟨rfl⟩
noncomputable abbrev nmX (x:ExT):ExT:=(x.1,renT (oX x),renB (oX x),(renL (oX x) (lsX x)).map giveN)
noncomputable abbrev ivX (x:ExT):ExT:=(x.1,x.2.2.1,x.2.1,(lsX x).map giveN)
end Go.Fl

/- Contracts: Check, Normal, Total, Shifts and Inverse of the program. -/
namespace Go.Fl
open Go Go.Proofs
open TrL renaming op→tO
open RunD renaming op→rO
set_option maxRecDepth 100000

theorem ct_xswapped (r:Ori):Ct Tryz.prog 85 [kRd eO r] (kRd eO (r.2,r.1)):=by
 refine Ct.mk Tryz.func85 rfl Tryz.ntmps85 rfl (fun w J=>?_); refine jx2 ?_; refine jb 1 rfl ?_; refine ja 2 ?_; refine jx3 ?_; refine Tr.frzB 1 [1] eO (x:=r) ⟨rfl,trivial⟩ rfl ?_; refine jn ?_; refine jx5 ?_; refine tO (ok_build (fun hp=>.cons rfl rfl rfl<|.cons rfl rfl rfl<|.nil)) rfl rfl ?_; refine jx4 ?_; exact Rts.resC1 (fn:=Tryz.f85) rfl rfl (aggRd rfl (by rfl))

theorem ct_fField (r:RlT) (hl:r.1.1.length≤1000):Ct Tryz.prog 142 [kPtr eReal r] (kRd eFd r.1):=by
 refine Ct.mk Tryz.func142 rfl Tryz.ntmps142 rfl (fun w J=>?_); refine jx2 ?_; refine ja 2 ?_; refine jx6 ?_; refine tO (ok_eqlPn rfl uu) rfl rfl ?_; refine jx2 ?_; refine Tr.cnd rfl ?_ ?_
 ·intro h1
  exact absurd h1 (by decide)
 ·intro h1
  refine jx5 ?_; refine tO (ok_nilP rfl uu) rfl rfl ?_; refine jx2 ?_; refine ja 3 ?_; refine jx7 ?_; refine tO (ok_call (fun hp=>ct_cloneI _ zo) (.a rfl uu<|.nil)) rfl rfl ?_; refine jx11 ?_
  exact Rts.resC1 (fn:=Tryz.f142) rfl rfl (aggRd rfl zi)

theorem ct_xexchange (r:RlT) (o q:Ori) (ls:List NvT) (l:List NumT) (hf:r.1.1.length≤1000) (h1:q.1.length≤1000) (h2:q.2.length≤1000):Ct Tryz.prog 84 [kPtr eMac (mac r o ls),kRd eO q,kRd (eL eNum) l] (kRd eX (r.1,q.1,q.2,l)):=by
 refine Ct.mk Tryz.func84 rfl Tryz.ntmps84 rfl (fun w J=>?_); refine jx2 ?_; refine jb 4 rfl ?_; refine ja 6 ?_; refine jx3 ?_; refine Tr.frzB 4 [4] eO (x:=q) ⟨rfl,trivial⟩ rfl ?_; refine jn ?_; refine Tr.draw 12 mixed (by kernel_rfl) ?_; refine jx1 ?_; refine rO (ok_nilP rfl uu) rfl rfl ?_; refine jx2 ?_; refine jd (ct_fField r hf) ?_; refine jx2 ?_; refine jd (ct_cloneI q.1 zo) ?_; refine jx2 ?_; refine jd (ct_cloneI q.2 zo) ?_; refine jx2 ?_; refine tO (ok_build (fun hp=>.cons rfl rfl rfl<|.cons rfl rfl rfl<|.cons rfl rfl rfl<|.cons rfl rfl rfl<|.nil)) rfl rfl ?_
 refine jx4 ?_; exact Rts.resC1 (fn:=Tryz.f84) rfl rfl (aggRd rfl (by rfl))

theorem ct_xInverseG (x:ExT) (D:Int) (M:Nat) (hx:XOk x) (hlo:LenOk x.1.1 D M x.2.1.length (lsX x)):Ct Tryz.prog 31 [kRd eX x] (kTup [kRd eX (ivX x),kI 0]):=by
 have h0:=hx.fld
 have hpo:=pol_open h0
 have hs:=(chkF_0 h0).1.2.1
 have v:=hx.rows
 have hp1:pmR x.2.1 x.2.1.length:=v.p1
 have hp2:pmR x.2.2.1 x.2.1.length:=v.p2
 have hle:x.2.1.length≤8:=v.le
 have htwo:2≤x.2.1.length:=v.two
 have hbl:x.2.2.1.length=x.2.1.length:=v.len
 have hxl:=hx.len
 have hll:=hlo.len
 have hfl:x.1.1.length≤1000:=by have:=(chkF_0 h0).1.1; omega
 refine Ct.mk Tryz.func31 rfl Tryz.ntmps31 rfl (fun w J=>?_); refine jx2 ?_; refine jb 1 rfl ?_; refine ja 2 ?_; refine jx6 ?_; refine jc (ct_xopX x D M hx hlo) ?_; refine jx14 ?_; refine Tr.cnd rfl ?_ ?_
 ·intro h2
  exact absurd h2 (by decide)
 ·intro h2
  refine jx3 ?_; refine Tr.draw 10 mixed (by kernel_rfl) ?_; refine jx2 ?_; refine rO (ok_nilP rfl uu) rfl rfl ?_; refine jx2 ?_; refine jd (ct_xswapped (oX x)) ?_; refine jx1 ?_; refine rO (ok_nilP rfl uu) rfl rfl ?_; refine jx3 ?_; refine jc (ct_xexchange (openR x.1) (oX x) (x.2.2.1,x.2.1) (lsX x) ((lsX x).map giveN) hfl (by show x.2.2.1.length≤1000; omega) (by show x.2.1.length≤1000; omega)) ?_; refine jx5 ?_
  exact Rts.resC (fn:=Tryz.f31) (ts:=[3]) rfl rfl rfl (aggRd rfl zi) (.i rfl zi<|.nil)

end Go.Fl

/- Contracts: errors of Check, Normal, Total, Shifts and Inverse. -/
namespace Go.Fl
open Go Go.Proofs
open TrL renaming op→tO
open RunD renaming op→rO
set_option maxRecDepth 100000

theorem ct_xInverseE (x:ExT) (hsm:SmX x) (hne:chkX x≠0):Ct Tryz.prog 31 [kRd eX x] (kTup [kRd eX exZ,kI (chkX x)]):=by
 refine Ct.mk Tryz.func31 rfl Tryz.ntmps31 rfl (fun w J=>?_); refine jx2 ?_; refine jb 1 rfl ?_; refine ja 2 ?_; refine jx6 ?_; refine jc (ct_xopenB x hsm hne) ?_; refine jx14 ?_; refine Tr.cnd rfl ?_ ?_
 ·intro h2
  refine jx2 ?_; refine tO (ok_build (fun hp=>.nil)) rfl rfl ?_; refine jx7 ?_
  exact Rts.resC (fn:=Tryz.f31) (ts:=[3]) rfl rfl rfl (aggRd rfl (by rfl)) (.i rfl zi<|.nil)
 ·intro h2
  exact absurd (of_decide_eq_false h2) (fun e=>e hne)

end Go.Fl

/- The law of exchanges. -/
namespace Go.Fl
open Go Go.Proofs
open TrL renaming op→tO
open RunD renaming op→rO
set_option maxRecDepth 100000

noncomputable def cN (x:ExT):ExT:=if chkX x≠0 then exZ else nmX x
noncomputable def cT (x:ExT):NumT:=if chkX x≠0 then ([],[]) else giveN (totV (lsX x) x.2.1)
noncomputable def cS (x:ExT):List NumT:=if chkX x≠0 then [] else (awV (oX x) (lsX x) x.2.1.length).map giveN
noncomputable def cI (x:ExT):ExT:=if chkX x≠0 then exZ else ivX x
theorem ct_cI (x:ExT) (hsm:SmX x):Ct Tryz.prog 31 [kRd eX x] (kTup [kRd eX (cI x),kI (chkX x)]):=by
 unfold cI
 by_cases h:chkX x=0
 ·have hx:=chkX_ok h hsm
  obtain ⟨D,M,hlo,_⟩:=hx.dm (ps:=[]) (fun _ hp=>by cases hp) (Nat.zero_le _)
  rw[if_neg (fun a=>a h),h]
  exact ct_xInverseG x D M hx hlo
 ·rw[if_pos h]
  exact ct_xInverseE x hsm h
end Go.Fl
