/- Laws on walking typed knowledge through code, and contracts. -/
import Derived.Test.YthfaleobmefibaaGreatM3
import Derived.Laws.CopyRow
import Derived.RangeFuncBox
import Derived.WalkKit
import Derived.TacticsInMore
import Derived.LoopNIn
import Derived.LoopIn

/- Contracts: integers of the reference of chapter 1 (division, common divisors). -/
namespace Go.Fl
open Go Go.Proofs
open TrL renaming op→tO
open RunD renaming op→rO
set_option maxRecDepth 100000

set_option maxHeartbeats 2000000 in
theorem ct_rdivide (m n:Nat) (h0:0<n) (hm:(digN m).length≤300000) (hn:(digN n).length≤300000):Ct Tryz.prog 179 [kRd (eL eI) (digN m),kRd (eL eI) (digN n)] (kTup [kRd (eL eI) (digN (m/n)),kRd (eL eI) (digN (m%n))]):=by
 have hdn:dl (n:Int)=(digN n).length:=rfl
 have hvn:val (digN n)=n:=digN_val n
 refine Ct.mk Tryz.func179 rfl Tryz.ntmps179 rfl (fun w J=>?_); refine jx10 ?_; refine TrL.new (ok_makeN eI 14 rfl uu rfl uu rfl rfl rfl (fun _=>zo)) rfl rfl rfl rfl ?_; refine jx17 ?_
 refine Tr.for1 (σ:=Nat×List Int×Int) [⟨0,true,_,_⟩,⟨1,true,_,_⟩,⟨6,true,_,_⟩] [] (fun (i,o,R)=>[⟨7,true,[],kRd (eL eI) (digN R.toNat)⟩,⟨8,true,[],kI ((i:Int)-1)⟩]) (fun (i,o,R)=>[⟨14,[],cArr false 3 eI o (digN m).length⟩]) (fun (i,o,R)=>i≤(digN m).length∧ShS (digN m) o (n:Int) i R) (fun (i,o,R)=>ShS (digN m) o (n:Int) 0 R) (fun (i,o,R)=>i) (((digN m).length,List.replicate (digN m).length 0,0)) ⟨Nat.le_refl _,ShS.start zo⟩ (Ent.mk (.n rfl rfl<|.i rfl zi<|zk) (.a zi zi<|.nil) rfl) ?_ ?_
 ·rintro ⟨i,o,R⟩ ⟨hi,hs⟩
  refine jn ?_
  have e1:((i:Int)-1).toNat=i-1:=by omega
  have hr0:=hs.r0
  have hRd:=dv_dlR hr0
  have hRl:=dlN hr0.1
  have hol:=hs.len
  refine jx7 ?_; refine jq ?_ ?_
  ·intro h4
   have hs1:ShS (digN m) o (n:Int) (i-1+1) R:=by rw[show i-1+1=i by omega]; exact hs
   obtain ⟨T,hTe⟩:∃T,T=(R*100000000+nth (digN m) (i-1)):=⟨_,rfl⟩
   have hdq:=dv_q hs1 zo
   rw[← hTe] at hdq
   obtain ⟨hT,hq0,hq1⟩:=hdq
   have hTd:=dv_dlT hq1 h0 hT
   have hTl:=dlN hT
   have had:=(digN_dg m).at (i:=i-1) zo
   refine jx10 ?_; refine TrL.new (ok_bsl eI 26 (fun hp=>.cons rfl<|.nil) rfl rfl rfl rfl) rfl rfl rfl rfl ?_; refine jx1 ?_; refine TrL.app rfl rfl rfl rfl rfl rfl rfl rfl (by have h1:([nth (digN m) ((i:Int)-1).toNat]).length=1:=rfl; omega) (by have h1:([nth (digN m) ((i:Int)-1).toNat]).length=1:=rfl; omega) ?_; refine jl ?_; refine TrL.frz 26 [28] ⟨rfl,trivial⟩ (by have h1:([nth (digN m) ((i:Int)-1).toNat]).length=1:=rfl; simp only[lenMax]; omega) rfl ?_; refine jl ?_; refine tO (ok_call (fun hp=>ct_rtrim _ (by have h1:([nth (digN m) ((i:Int)-1).toNat]).length=1:=rfl; rw[List.length_append]; omega)) (.a rfl uu<|.nil)) rfl rfl ?_
   refine jx9 ?_
   refine Tr.for (σ:=Int×Int) [⟨0,true,_,_⟩,⟨1,true,_,_⟩,⟨6,true,_,_⟩,⟨8,true,_,_⟩] [⟨14,_,_⟩] (fun (lo,hi2)=>[⟨7,true,[],kRd (eL eI) (digN T.toNat)⟩,⟨9,true,[],kI lo⟩,⟨10,true,[],kI hi2⟩]) (fun (lo,hi2)=>[]) (fun (lo,hi2)=>0≤lo∧lo≤T/n∧T/n≤hi2∧hi2≤99999999) (fun (lo,hi2)=>T/n=lo) (fun (lo,hi2)=>(hi2-lo).toNat) ((0,99999999)) ⟨by omega,by omega,by omega,by omega⟩ (Ent.mk (.r rfl (by rw[hTe,← e1]; exact dv_trim hr0.1 (by rw[e1]; exact had))<|.i rfl zi<|.i rfl zi<|zk) (zk) rfl) ?_ ?_
   ·rintro ⟨lo,hi2⟩ ⟨hl0,hl1,hl2,hl3⟩
    refine jn ?_
    have hmid:0≤lo+hi2+1:=by omega
    have hme:=Int.tdiv_eq_ediv_of_nonneg (b:=2) hmid
    have hmn:=Int.mul_nonneg (a:=(n:Int)) (b:=(lo+hi2+1).tdiv 2) zo zo
    have hmd:=dl_small (F:=(lo+hi2+1).tdiv 2) zo zo
    have hmm:=dl_mul (n:Int) ((lo+hi2+1).tdiv 2)
    refine jx8 ?_; refine jq ?_ ?_
    ·intro h8
     refine jx9 ?_; refine tO (ok_quo rfl uu rfl uu (fun _=>zo)) rfl rfl ?_; refine jx8 ?_; refine tO (ok_bslJ eI (fun hp=>.cons rfl<|.nil) rfl rfl rfl rfl) rfl rfl ?_; refine jc (ct_rMul (digN n) [(lo+hi2+1).tdiv 2] (digN_dg n).inI (in1 zo) zo (by simp)) ?_; refine tO (ok_call (fun hp=>ct_rzless (digN T.toNat) _ (digN_nm _) (lst_nm (by rw[hvn,val_one]; exact hmn)) zo (by rw[lst_len,hvn,val_one]; omega)) (.a rfl uu<|.a rfl uu<|.nil)) rfl rfl ?_; refine jx2 ?_; refine Tr.cnd rfl ?_ ?_
     ·intro h10
      have h10:=of_decide_eq_true h10
      rw[digN_val,lst_val,hvn,val_one,Int.toNat_of_nonneg hT] at h10
      refine jx6 ?_
      exact End.lp ((lo,(lo+hi2+1).tdiv 2-1)) ⟨by omega,by omega,dv_high zo h10,by omega⟩ (by show ((lo+hi2+1).tdiv 2-1-lo).toNat<(hi2-lo).toNat; omega) (Ent.mk (.r rfl zi<|.i rfl zi<|.i rfl zi<|zk) (zk) rfl)
     ·intro h10
      have h10:=of_decide_eq_false h10
      rw[digN_val,lst_val,hvn,val_one,Int.toNat_of_nonneg hT] at h10
      refine jx5 ?_
      exact End.lp (((lo+hi2+1).tdiv 2,hi2)) ⟨by omega,dv_low zo zo,by omega,by omega⟩ (by show (hi2-(lo+hi2+1).tdiv 2).toNat<(hi2-lo).toNat; omega) (Ent.mk (.r rfl zi<|.i rfl zi<|.i rfl zi<|zk) (zk) rfl)
    ·intro h8
     replace h8:=Int.not_lt.1 h8
     refine jx4 ?_
     exact End.cut ((lo,hi2)) zo (Ent.mk (.r rfl zi<|.i rfl zi<|.i rfl zi<|zk) (zk) rfl)
   ·rintro ⟨lo,hi2⟩ hlo
    refine jn ?_
    replace hlo:T/n=lo:=hlo
    have hmd:=dl_small (F:=lo) zo zo
    have hmm:=dl_mul (n:Int) lo
    refine jx13 ?_; refine tO (ok_bslJ eI (fun hp=>.cons rfl<|.nil) rfl rfl rfl rfl) rfl rfl ?_; refine jc (ct_rMul (digN n) [lo] (digN_dg n).inI (in1 zo) zo (by simp)) ?_; refine tO (ok_call (fun hp=>ct_rSub (digN T.toNat) _ (digN_dg _).inI (lst_in _) zo (by rw[lst_len,hvn,val_one]; omega)) (.a rfl uu<|.a rfl uu<|.nil)) rfl rfl ?_; refine jx9 ?_
    exact End.lp ((i-1,o.set (i-1) ((R*100000000+nth (digN m) (i-1))/n),(R*100000000+nth (digN m) (i-1))%n)) ⟨by omega,hs1.next (digN_dg m) zo⟩ (by show i-1<i; omega) (Ent.mk (.r rfl (by rw[lst_val,digN_val,Int.toNat_of_nonneg hT,hvn,val_one,← hlo,dv_dl zo,hTe]; exact lst_dig (Int.emod_nonneg _ zo))<|.i rfl zi<|zk) (.a (by rw[e1,← hTe,hlo]) zi<|.nil) rfl)
  ·intro h4
   replace h4:=Int.not_le.1 h4
   refine jx4 ?_
   exact End.cut ((i,o,R)) (by obtain rfl:i=0:=zo; exact hs) (Ent.mk (.r rfl zi<|.i rfl zi<|zk) (.a zi zi<|.nil) rfl)
 ·rintro ⟨i,o,R⟩ hs
  refine je ?_
  have hol:=hs.len
  refine jx4 ?_; refine TrL.frz 14 [6,57] ⟨rfl,rfl,trivial⟩ (by simp only[lenMax]; omega) rfl ?_; refine jl ?_; refine tO (ok_call (fun hp=>ct_rtrim _ zo) (.a rfl uu<|.nil)) rfl rfl ?_; refine jx6 ?_; exact Rts.res (fn:=Tryz.f179) (ts:=[4,5]) rfl rfl (.r rfl (dv_fin hs).1<|.r rfl (dv_fin hs).2<|.nil)

set_option maxHeartbeats 1000000 in
theorem ct_rDivMod (xs ys:List Int) (hx:InI xs) (hy:InI ys) (hn:xs.length≤200000) (hm:ys.length≤200000):Ct Tryz.prog 138 [kRd (eL eI) xs,kRd (eL eI) ys] (kTup [kRd (eL eI) (if val ys=0 then [] else lstZ (val xs/val ys)),kRd (eL eI) (if val ys=0 then [] else lstZ (val xs%val ys)),kI (if val ys=0 then 12 else 0)]):=by
 have hdx:=dl_val hx
 have hdy:=dl_val hy
 have hlx:=lst_len (val xs)
 have hly:=lst_len (val ys)
 have hl0:=lst_len0 (z:=val ys)
 have hrz:=digN_len0 (n:=(val xs).natAbs%(val ys).natAbs)
 have hdq:dl (((val xs).natAbs/(val ys).natAbs:Nat):Int)=(digN ((val xs).natAbs/(val ys).natAbs)).length:=rfl
 have hdr:dl (((val xs).natAbs%(val ys).natAbs:Nat):Int)=(digN ((val xs).natAbs%(val ys).natAbs)).length:=rfl
 have hdX:(digN (val xs).natAbs).length=dl (val xs):=rfl
 have hdY:(digN (val ys).natAbs).length=dl (val ys):=rfl
 have hql:=digN_len_le (m:=(val xs).natAbs) (n:=(val xs).natAbs/(val ys).natAbs) (Nat.div_le_self _ _)
 have h11:([1]:List Int).length=1:=rfl
 refine Ct.mk Tryz.func138 rfl Tryz.ntmps138 rfl (fun w J=>?_); refine jx10 ?_; refine tO (ok_call (fun hp=>ct_rNormal _ (by assumption) zo) (.a rfl uu<|.nil)) rfl rfl ?_; refine jx1 ?_; refine tO (ok_call (fun hp=>ct_rNormal _ (by assumption) zo) (.a rfl uu<|.nil)) rfl rfl ?_; refine jx12 ?_; refine jq ?_ ?_
 ·intro h2
  have hy0:val ys=0:=by omega
  refine jx9 ?_; exact Rts.res (fn:=Tryz.f138) (ts:=[4,5,6]) rfl rfl (.n rfl (by rw[if_pos hy0])<|.n rfl (by rw[if_pos hy0])<|.i rfl (by rw[if_pos hy0])<|.nil)
 ·intro h2
  have hy0:val ys≠0:=by omega
  have hlt:(val xs).natAbs%(val ys).natAbs<(val ys).natAbs:=Nat.mod_lt _ zo
  have hrl:=digN_len_le (m:=(val ys).natAbs) (n:=(val xs).natAbs%(val ys).natAbs) zo
  refine jx5 ?_; refine jc (ct_rsize (val xs) zo) ?_; refine jx1 ?_; refine jc (ct_rsize (val ys) zo) ?_; refine jc (ct_rdivide (val xs).natAbs (val ys).natAbs zo zo zo) ?_; refine jx11 ?_; refine jc (ct_rNegative (val xs)) ?_; refine jx2 ?_; refine Tr.cnd rfl ?_ ?_
  ·intro h5
   have hxn:=of_decide_eq_true h5
   refine jx3 ?_; refine tO (ok_call (fun hp=>ct_rNeg _ (digN_dg _).inI zo) (.a rfl uu<|.nil)) rfl rfl ?_; refine jx1 ?_; refine tO (ok_call (fun hp=>ct_rNeg _ (digN_dg _).inI zo) (.a rfl uu<|.nil)) rfl rfl ?_; refine jx11 ?_; refine Tr.cnd rfl ?_ ?_
   ·intro h7
    have hrp:0<(val xs).natAbs%(val ys).natAbs:=by (have h7:=of_decide_eq_true h7; rw[lst_len,digN_val,dl_neg,hdr] at h7; omega)
    obtain ⟨o1,o2⟩:=over_B hy0 hxn hrp
    refine jx2 ?_; refine tO (ok_bslJ eI (fun hp=>.cons rfl<|.nil) rfl rfl rfl rfl) rfl rfl ?_; refine tO (ok_call (fun hp=>ct_rSub _ [1] (lst_in _) (in1 zo) (by rw[lst_len,digN_val,dl_neg,hdq]; omega) zo) (.a rfl uu<|.a rfl uu<|.nil)) rfl rfl ?_; refine jx2 ?_; refine jc (ct_rsize (val ys) zo) ?_; refine tO (ok_call (fun hp=>ct_rAdd _ _ (lst_in _) (digN_dg _).inI (by rw[lst_len,digN_val,dl_neg,hdr]; omega) zo) (.a rfl uu<|.a rfl uu<|.nil)) rfl rfl ?_; refine jx8 ?_; refine jc (ct_rNegative (val ys)) ?_; refine jx2 ?_; refine Tr.cnd rfl ?_ ?_
    ·intro h9
     have hyn:=of_decide_eq_true h9
     have hQ1:=dlq1 (q:=(val xs).natAbs/(val ys).natAbs)
     have hQ2:=dlq2 (q:=(val xs).natAbs/(val ys).natAbs)
     refine jx2 ?_
     refine tO (ok_call (fun hp=>ct_rNeg _ (by first | exact lst_in _ | exact (digN_dg _).inI) zo) (.a rfl uu<|.nil)) rfl rfl ?_
     refine jx13 ?_; exact Rts.res (fn:=Tryz.f138) (ts:=[4,5,6]) rfl rfl (.r rfl (by rw[if_neg hy0,o1,if_neg (show ¬sgd (val xs) (val ys) from by rw[sgd_iff]; omega),lst_val,lst_val,val_one,digN_val]; congr 1; omega)<|.r rfl (by rw[if_neg hy0,o2,lst_val,digN_val,digN_val]; congr 1; omega)<|.i rfl (by rw[if_neg hy0])<|.nil)
    ·intro h9
     have hyn:=of_decide_eq_false h9
     refine jx12 ?_; exact Rts.res (fn:=Tryz.f138) (ts:=[4,5,6]) rfl rfl (.r rfl (by rw[if_neg hy0,o1,if_pos (show sgd (val xs) (val ys) from by rw[sgd_iff]; omega),lst_val,val_one,digN_val]; congr 1; omega)<|.r rfl (by rw[if_neg hy0,o2,lst_val,digN_val,digN_val]; congr 1; omega)<|.i rfl (by rw[if_neg hy0])<|.nil)
   ·intro h7
    have hrp:(val xs).natAbs%(val ys).natAbs=0:=by (have h7:=of_decide_eq_false h7; rw[lst_len,digN_val,dl_neg,hdr] at h7; omega)
    obtain ⟨o1,o2⟩:=over_A (a:=val xs) hy0 (fun hh=>by omega)
    refine jx6 ?_; refine jc (ct_rNegative (val ys)) ?_; refine jx2 ?_; refine Tr.cnd rfl ?_ ?_
    ·intro h9
     have hyn:=of_decide_eq_true h9
     have hQ1:=dlq1 (q:=(val xs).natAbs/(val ys).natAbs)
     have hQ2:=dlq2 (q:=(val xs).natAbs/(val ys).natAbs)
     refine jx2 ?_
     refine tO (ok_call (fun hp=>ct_rNeg _ (by first | exact lst_in _ | exact (digN_dg _).inI) zo) (.a rfl uu<|.nil)) rfl rfl ?_
     refine jx13 ?_; exact Rts.res (fn:=Tryz.f138) (ts:=[4,5,6]) rfl rfl (.r rfl (by rw[if_neg hy0,o1,if_neg (show ¬sgd (val xs) (val ys) from by rw[sgd_iff]; omega),lst_val,digN_val]; congr 1; omega)<|.r rfl (by rw[if_neg hy0,o2,digN_val]; congr 1; omega)<|.i rfl (by rw[if_neg hy0])<|.nil)
    ·intro h9
     have hyn:=of_decide_eq_false h9
     refine jx12 ?_; exact Rts.res (fn:=Tryz.f138) (ts:=[4,5,6]) rfl rfl (.r rfl (by rw[if_neg hy0,o1,if_pos (show sgd (val xs) (val ys) from by rw[sgd_iff]; omega),digN_val])<|.r rfl (by rw[if_neg hy0,o2,digN_val]; congr 1; omega)<|.i rfl (by rw[if_neg hy0])<|.nil)
  ·intro h5
   have hxn:=of_decide_eq_false h5
   obtain ⟨o1,o2⟩:=over_A hy0 (fun hh=>hxn hh.1)
   refine jx6 ?_; refine jc (ct_rNegative (val ys)) ?_; refine jx2 ?_; refine Tr.cnd rfl ?_ ?_
   ·intro h9
    have hyn:=of_decide_eq_true h9
    have hQ1:=dlq1 (q:=(val xs).natAbs/(val ys).natAbs)
    have hQ2:=dlq2 (q:=(val xs).natAbs/(val ys).natAbs)
    refine jx2 ?_
    refine tO (ok_call (fun hp=>ct_rNeg _ (by first | exact lst_in _ | exact (digN_dg _).inI) zo) (.a rfl uu<|.nil)) rfl rfl ?_
    refine jx13 ?_; exact Rts.res (fn:=Tryz.f138) (ts:=[4,5,6]) rfl rfl (.r rfl (by rw[if_neg hy0,o1,if_pos (show sgd (val xs) (val ys) from by rw[sgd_iff]; omega),digN_val])<|.r rfl (by rw[if_neg hy0,o2,lst_nat])<|.i rfl (by rw[if_neg hy0])<|.nil)
   ·intro h9
    have hyn:=of_decide_eq_false h9
    refine jx12 ?_; exact Rts.res (fn:=Tryz.f138) (ts:=[4,5,6]) rfl rfl (.r rfl (by rw[if_neg hy0,o1,if_neg (show ¬sgd (val xs) (val ys) from by rw[sgd_iff]; omega),lst_nat])<|.r rfl (by rw[if_neg hy0,o2,lst_nat])<|.i rfl (by rw[if_neg hy0])<|.nil)

theorem ct_rGcd (xs ys:List Int) (hx:InI xs) (hy:InI ys) (hn:xs.length≤200000) (hm:ys.length≤200000):Ct Tryz.prog 137 [kRd (eL eI) xs,kRd (eL eI) ys] (kRd (eL eI) (digN (Nat.gcd (val xs).natAbs (val ys).natAbs))):=by
 have hdx:=dl_val hx
 have hdy:=dl_val hy
 have hlx:=lst_len (val xs)
 have hly:=lst_len (val ys)
 have hdX:(digN (val xs).natAbs).length=dl (val xs):=rfl
 have hdY:(digN (val ys).natAbs).length=dl (val ys):=rfl
 refine Ct.mk Tryz.func137 rfl Tryz.ntmps137 rfl (fun w J=>?_); refine jx8 ?_; refine tO (ok_call (fun hp=>ct_rNormal _ (by assumption) zo) (.a rfl uu<|.nil)) rfl rfl ?_; refine jc (ct_rsize (val xs) zo) ?_; refine jx1 ?_; refine tO (ok_call (fun hp=>ct_rNormal _ (by assumption) zo) (.a rfl uu<|.nil)) rfl rfl ?_; refine jc (ct_rsize (val ys) zo) ?_; refine jx4 ?_; refine Tr.for (σ:=Nat×Nat) [] [] (fun (x,y)=>[⟨5,true,[],kRd (eL eI) (digN x)⟩,⟨6,true,[],kRd (eL eI) (digN y)⟩]) (fun (x,y)=>[]) (fun (x,y)=>(digN x).length≤300000∧(digN y).length≤300000∧Nat.gcd x y=Nat.gcd (val xs).natAbs (val ys).natAbs) (fun (x,y)=>y=0∧Nat.gcd x y=Nat.gcd (val xs).natAbs (val ys).natAbs) (fun (x,y)=>y) (((val xs).natAbs,(val ys).natAbs)) ⟨by omega,by omega,rfl⟩ (Ent.mk (.r rfl rfl<|.r rfl rfl<|.nil) (.nil) rfl) ?_ ?_
 ·rintro ⟨x,y⟩ ⟨hx1,hy1,hg⟩
  refine jn ?_
  have hy0:=digN_len0 (n:=y)
  refine jx8 ?_; refine jq ?_ ?_
  ·intro h2
   refine jx7 ?_; refine jc (ct_rdivide x y zo zo zo) ?_; refine jx14 ?_; exact End.lp ((y,x%y)) ⟨hy1,by have:=digN_len_le (m:=y) (n:=x%y) (Nat.le_of_lt (Nat.mod_lt _ zo)); omega,by rw[gcd_step]; exact hg⟩ (by show x%y<y; exact Nat.mod_lt _ zo) (Ent.mk (.r rfl rfl<|.r rfl rfl<|.nil) (.nil) rfl)
  ·intro h2
   replace h2:=Int.not_lt.1 h2
   refine jx4 ?_
   exact End.cut ((x,y)) ⟨by omega,hg⟩ (Ent.mk (.r rfl zi<|.r rfl zi<|.nil) (.nil) rfl)
 ·rintro ⟨x,y⟩ ⟨rfl,hg⟩
  refine jn ?_; refine jx7 ?_; exact Rts.res1 (fn:=Tryz.f137) rfl (.r rfl (by rw[← hg,Nat.gcd_zero_right])<|.nil)

end Go.Fl

/- Contracts: numbers of a field in lowest terms. -/
namespace Go.Fl
open Go Go.Proofs
open TrL renaming op→tO
open RunD renaming op→rO
set_option maxRecDepth 100000

theorem ct_fcommon (a b:Int) (ha:dl a≤800000) (hb:dl b≤800000):Ct Tryz.prog 205 [kRd eW (wh a),kRd eW (wh b)] (kRd eW (wh (Int.gcd a b))):=by
 refine Ct.mk Tryz.func205 rfl Tryz.ntmps205 rfl (fun w J=>?_); refine jx2 ?_; refine jb 2 rfl ?_; refine jb 3 rfl ?_; refine ja 4 ?_; refine jx2 ?_; refine Tr.for (σ:=Int×Int) [⟨2,true,_,_⟩,⟨3,true,_,_⟩,⟨4,true,_,_⟩] [⟨4,_,_⟩] (fun ⟨x,y⟩=>[]) (fun ⟨x,y⟩=>[⟨2,[],cBlk [kB (decide (x<0)),kRd (eL eI) (digN (x).natAbs)]⟩,⟨3,[],cBlk [kB (decide (y<0)),kRd (eL eI) (digN (y).natAbs)]⟩]) (fun ⟨x,y⟩=>Int.gcd x y=Int.gcd a b∧dl x≤800000∧dl y≤800000) (fun ⟨x,y⟩=>x.natAbs=Int.gcd a b) (fun ⟨x,y⟩=>y.natAbs) ((a,b)) ⟨rfl,ha,hb⟩ (Ent.mk (zk) (zk) rfl) ?_ ?_
 ·rintro ⟨x,y⟩ ⟨hg,hx,hy⟩
  refine jn ?_; refine jx4 ?_; refine jc (ct_wsign y) ?_; refine jx3 ?_; refine jq ?_ ?_
  ·intro h1
   have hy0:y≠0:=fun e=>h1 (cmpZ_z.2 e)
   refine jx7 ?_; refine jc (ct_wover x y hy0 zo zo) ?_; refine jx3 ?_; refine ja 5 ?_; refine ja 6 ?_; refine jx4 ?_; refine Tr.drawS 2 2 mixed (by kernel_rfl) ?_; refine RunS.opA (ok_ldBS rfl uu) (by kernel_rfl) rfl rfl ?_; refine RunS.op (ok_ldBS rfl uu) rfl rfl ?_; refine RunS.z (st_B rfl rfl rfl) rfl rfl rfl ?_; refine jx3 ?_; exact End.lp ((y,x%y)) ⟨(gcd_stepZ (x:=x) (y:=y)).trans hg,hy,by have:=dl_mod (x:=x) hy0; omega⟩ (by have h2:=Int.emod_nonneg x hy0; have h3:=Int.emod_lt x hy0; show (x%y).natAbs<y.natAbs; omega) (Ent.mk (zk) (zk) rfl)
  ·intro h1
   replace h1:=Classical.not_not.1 h1
   refine jx4 ?_; exact End.cut ((x,y)) (by have e:=cmpZ_z.1 h1; subst e; rw[← hg]; simp) (Ent.mk (zk) (zk) rfl)
 ·rintro ⟨x,y⟩ hE
  refine jn ?_; refine jx13 ?_; exact Rts.resC1 (fn:=Tryz.f205) rfl rfl (aggRd rfl (by rw[← hE]; exact (wh_nat (n:=x.natAbs))))

theorem ct_nlowest (c:List Int) (d:Int) (hc:∀i,dl (nth c i)≤700000) (hd:dl d≤700000) (hp:0<d):Ct Tryz.prog 183 [kRd eNu (c,d)] (kRd eNu (loN c d)):=by
 refine Ct.mk Tryz.func183 rfl Tryz.ntmps183 rfl (fun w J=>?_); refine Tr.fact (s:=0) rfl (fun _ _ h=>eNu_len h) (fun hl=>?_)
 have hl:c.length=4:=hl
 have hG:=dl_gL (c:=c) hp
 have hGp:=gL_pos (cs:=c) (g:=d.natAbs) zo
 refine jx2 ?_; refine jb 1 rfl ?_; refine ja 2 ?_; refine jx6 ?_; refine ja 3 ?_; refine jx11 ?_
 refine Tr.for1 (σ:=Nat) [⟨1,true,_,_⟩,⟨2,true,_,_⟩,⟨3,true,_,_⟩,⟨11,true,_,_⟩] [⟨1,_,_⟩,⟨2,_,_⟩] (fun k=>[⟨12,true,[],kI (k:Int)⟩]) (fun k=>[⟨3,[],cBlk [kB (decide ((gL d.natAbs (c.take k):Int)<0)),kRd (eL eI) (digN ((gL d.natAbs (c.take k):Int)).natAbs)]⟩]) (fun k=>k≤4) (fun k=>k=4) (fun k=>4-k) (0) zi (Ent.mk (.i rfl zi<|zk) (.conv (cB_eq (dcell (by rw[List.take_zero]; show d=(d.natAbs:Int); omega))) rfl<|zk) rfl) ?_ ?_
 ·intro k hR0
  refine jn ?_
  have hgk:=dl_gL (c:=c.take k) hp
  have hck:=hc k
  refine jx6 ?_; refine jq ?_ ?_
  ·intro h3
   refine jx6 ?_; refine tO (ok_idxW rfl uu rfl uu (fun _=>zo)) rfl rfl ?_; refine ja 5 ?_; refine jx6 ?_; refine jc (ct_fcommon (gL d.natAbs (c.take k):Int) (nth c k) zo zo) ?_; refine jx8 ?_
   exact End.lp (k+1) zi zo (Ent.mk (.i rfl zi<|zk) (.conv (cB_eq (dcell (gL_take zo).symm)) rfl<|zk) rfl)
  ·intro h3
   replace h3:=Int.not_lt.1 h3
   refine jx4 ?_
   exact End.cut (k) zo (Ent.mk (.i rfl zi<|zk) (zk) rfl)
 ·rintro _ rfl
  refine je ?_
  rw[List.take_of_length_le zo]
  refine jx9 ?_
  refine Tr.for1 (σ:=Nat) [⟨1,true,_,_⟩,⟨2,true,_,_⟩,⟨3,true,_,_⟩,⟨20,true,_,_⟩] [⟨2,_,_⟩,⟨3,_,_⟩] (fun k=>[⟨21,true,[],kI (k:Int)⟩]) (fun k=>[⟨1,[],cBlk (wC (fun i=>if i<k then nth c i/(gL d.natAbs c:Int) else nth c i) 0 4++[kB (decide (d<0)),kRd (eL eI) (digN (d).natAbs)])⟩]) (fun k=>k≤4) (fun k=>k=4) (fun k=>4-k) (0) zi (Ent.mk (.i rfl zi<|zk) (.conv (cW (fun j _=>(if_neg zo).symm) rfl) rfl<|zk) rfl) ?_ ?_
  ·intro k hR1
   refine jn ?_
   have hck:=hc k
   have hgk:k<4→(if k<k then nth c k/(gL d.natAbs c:Int) else nth c k)=nth c k:=fun _=>if_neg zo
   refine jx6 ?_; refine jq ?_ ?_
   ·intro h8
    refine jx7 ?_; refine tO (ok_idxW rfl uu rfl uu (fun _=>zo)) rfl rfl ?_; refine ja 7 ?_; refine jx8 ?_; refine jc (ct_wover (nth c k) (gL d.natAbs c:Int) zo zo zo) ?_; refine jx4 ?_; refine tO (ok_idxArrO rfl uu rfl uu (fun _=>zo)) rfl rfl ?_; refine TrL.stW (k) zo zo rfl rfl rfl ?_; refine jx7 ?_
    exact End.lp (k+1) zi zo (Ent.mk (.i rfl zi<|zk) (.conv (cW (fun j _=>by simp only[upd]; by_cases e:j=k; (rw[if_pos e,if_pos zo,e]); (rw[if_neg e]; by_cases e2:j<k; (rw[if_pos e2,if_pos zo]); (rw[if_neg e2,if_neg zo]))) rfl) rfl<|zk) rfl)
   ·intro h8
    replace h8:=Int.not_lt.1 h8
    refine jx4 ?_
    exact End.cut (k) zo (Ent.mk (.i rfl zi<|zk) (zk) rfl)
  ·rintro _ rfl
   refine je ?_; refine jx6 ?_; refine jc (ct_wover d (gL d.natAbs c:Int) zo zo zo) ?_; refine jx14 ?_; exact Rts.resC1 (fn:=Tryz.f183) rfl rfl (aggRd rfl (by rw[← low_tab hp hl]; exact Prod.ext (tab_congr fun i hi=>if_pos hi) rfl))

end Go.Fl

/- Reduction modulo the polynomial of a field, as the program reckons it: in place. No program in sight. -/
namespace Go.Fl
open Go
def stpK (p ys:List Int) (n i k:Nat):List Int:=tab ys.length fun j=>if i-n≤j∧j<i-n+k then nth ys j-nth ys i*nth p (j-(i-n)) else nth ys j
theorem stpK_len {p ys:List Int} {n i k:Nat}:(stpK p ys n i k).length=ys.length:=tab_len
theorem stpK_zero {p ys:List Int} {n i:Nat}:ys=stpK p ys n i 0:=by
 conv=>lhs; rw[tab_nth (rfl:ys.length=ys.length)]
 exact tab_congr fun j _=>(if_neg zo).symm
theorem stpK_out {p ys:List Int} {n i k j:Nat} (hj:j<ys.length) (h:j<i-n∨i-n+k≤j):nth (stpK p ys n i k) j=nth ys j:=by
 unfold stpK
 rw[nth_tab hj,if_neg zo]
theorem stpK_succ {p ys:List Int} {n i k:Nat} (_:k<n) (hn:n≤i) (_:i<ys.length):(stpK p ys n i k).set (i-n+k) (nth ys (i-n+k)+-(nth ys i*nth p k))=stpK p ys n i (k+1):=by
 unfold stpK
 rw[tab_set]
 refine tab_congr fun j hj=>?_
 by_cases e:j=i-n+k
 ·subst e
  rw[if_pos rfl,if_pos ⟨zo,zo⟩,Nat.add_sub_cancel_left]; omega
 ·rw[if_neg e]
  by_cases h:i-n≤j∧j<i-n+k
  ·rw[if_pos h,if_pos ⟨h.1,by omega⟩]
  ·rw[if_neg h,if_neg zo]
theorem nth_take' {xs:List Int} {i k:Nat} (h:i<k):nth (xs.take k) i=nth xs i:=by
 simp[nth,List.getD,h]
theorem stpK_take {p ys:List Int} {n i:Nat} (hn:n≤i) (hi:i<ys.length):(stpK p ys n i n).take i=red1 p n (ys.take (i+1)):=by
 have hl:(ys.take (i+1)).length=i+1:=by rw[List.length_take]; omega
 have e1:((stpK p ys n i n).take i).length=i:=by rw[List.length_take,stpK_len]; omega
 rw[tab_nth e1]
 unfold red1
 rw[hl,Nat.add_sub_cancel]
 refine tab_congr fun j hj=>?_
 rw[nth_take' hj,nth_take' zo,nth_take' zo]
 unfold stpK
 rw[nth_tab zo]
 by_cases h:i-n≤j
 ·rw[if_pos ⟨h,by omega⟩,if_pos h]
 ·rw[if_neg zo,if_neg h,Int.sub_zero]
theorem red_red1 {p xs:List Int} {n:Nat} (hp:p.length-1=n) (h:n<xs.length):red p (red1 p n xs)=red p xs:=by
 unfold red
 rw[hp,red1_len]
 obtain ⟨f,hf⟩:∃f,xs.length-n=f+1:=⟨xs.length-n-1,by omega⟩
 rw[hf,show xs.length-1-n=f by omega]
 conv=>rhs; rw[redF,if_neg zo]
theorem red_short {p xs:List Int} {n:Nat} (hp:p.length-1=n) (h:xs.length≤n):red p xs=xs++List.replicate (n-xs.length) 0:=by
 unfold red
 rw[hp,show xs.length-n=0 by omega,redF]
theorem red_round {p ys:List Int} {n m:Nat} (hp:p.length-1=n) (hm:n<m) (hl:m≤ys.length):red p ((stpK p ys n (m-1) n).take (m-1))=red p (ys.take m):=by
 rw[stpK_take zo zo,show m-1+1=m by omega]
 exact red_red1 hp (by rw[List.length_take]; omega)
theorem dl_step {a b q:Int} {A B:Nat} (ha:dl a≤A) (hb:dl b≤B) (hq:dl q≤1):dl (a+-(b*q))≤max A (B+1)+1:=by
 have h1:=dl_add a (-(b*q))
 rw[dl_neg] at h1
 have h2:=dl_mul b q
 omega
theorem stpK_dl {p ys:List Int} {n i k B:Nat} (_:n≤i) (_:i<ys.length) (hy:∀j,dl (nth ys j)≤B) (hp:∀j,dl (nth p j)≤1) (j:Nat):dl (nth (stpK p ys n i k) j)≤B+2:=by
 by_cases hj:j<ys.length
 ·unfold stpK
  rw[nth_tab hj]
  split
  ·rw[Int.sub_eq_add_neg]
   have:=dl_step (hy j) (hy i) (hp (j-(i-n)))
   omega
  ·have:=hy j; omega
 ·have:nth (stpK p ys n i k) j=0:=by simp[nth,List.getD,List.getElem?_eq_none (show (stpK p ys n i k).length≤j by rw[stpK_len]; omega)]
  rw[this]
  have:dl 0=0:=dl_zero.2 rfl
  omega
def pad (p xs:List Int):List Int:=tab 4 (nth (red p xs))
theorem pad_len {p xs:List Int}:(pad p xs).length=4:=tab_len
theorem nth_pad {p xs:List Int} {i:Nat} (h:i<4):nth (pad p xs) i=nth (red p xs) i:=nth_tab h
theorem nth_app0 {xs:List Int} {k i:Nat}:nth (xs++List.replicate k 0) i=if i<xs.length then nth xs i else 0:=by
 split
 ·rename_i h; simp[nth,List.getD,List.getElem?_append_left h]
 ·rename_i h
  simp only[nth,List.getD,List.getElem?_append_right (Nat.le_of_not_lt h),List.getElem?_replicate]
  split<;>rfl
theorem low_neg {xs:List Int} {d:Int} (hd:d≠0):loN (xs.map fun c=>-c) (-d)=loN xs d:=by
 have:=low_scale (cs:=xs) (d:=d) (m:=-1) hd (by decide)
 rw[← this]
 congr 1
 ·exact List.map_congr_left fun c _=>by omega
 ·omega
theorem dl_red {p xs:List Int} {ys:List Int} {n m B:Nat} (hp:p.length-1=n) (hm:m≤n) (hl:m≤ys.length) (he:red p (ys.take m)=red p xs) (hy:∀j,dl (nth ys j)≤B) (i:Nat):nth (red p xs) i=(if i<m then nth ys i else 0)∧dl (nth (red p xs) i)≤B:=by
 have hlen:(ys.take m).length=m:=by rw[List.length_take]; omega
 rw[← he,red_short hp zo,nth_app0,hlen]
 split
 ·rename_i h; rw[nth_take' h]; exact ⟨rfl,hy i⟩
 ·exact ⟨rfl,by rw[dl_zero.2 rfl]; omega⟩
theorem dl_tab {F:Nat→Int} {k B:Nat} (h:∀i,i<k→dl (F i)≤B) (i:Nat):dl (nth (tab k F) i)≤B:=by
 by_cases hi:i<k
 ·rw[nth_tab hi]; exact h i hi
 ·have:nth (tab k F) i=0:=by simp[nth,List.getD,List.getElem?_eq_none (show (tab k F).length≤i by rw[tab_len]; omega)]
  rw[this,dl_zero.2 rfl]; omega
theorem neg_tab {c:List Int} {k:Nat} (hl:c.length=k):(c.map fun z=>-z)=tab k fun i=>-nth c i:=by
 conv=>lhs; rw[tab_nth hl]
 simp[tab]
theorem eta4 {v:List Int×Int} (h:v.1.length=4):(tab 4 (nth v.1),v.2)=v:=Prod.ext (tab_nth h).symm rfl
def adV (x y:List Int×Int):List Int×Int:=loN (tab 4 fun i=>nth x.1 i*y.2+nth y.1 i*x.2) (x.2*y.2)
theorem dl_adV {x y:List Int×Int} {A:Nat} (hx:∀i,dl (nth x.1 i)≤A) (hy:∀i,dl (nth y.1 i)≤A) (hdx:dl x.2≤A) (hdy:dl y.2≤A) (i:Nat):dl (nth x.1 i*y.2+nth y.1 i*x.2)≤2*A+1:=by
 have h1:=hx i
 have h2:=hy i
 have h3:=dl_mul (nth x.1 i) y.2
 have h4:=dl_mul (nth y.1 i) x.2
 have h5:=dl_add (nth x.1 i*y.2) (nth y.1 i*x.2)
 omega
end Go.Fl

/- A part of an array of the call's own, as a slice; copies of integers into it. -/
namespace Go.Fl
open Go Go.RowKit
set_option maxRecDepth 100000
theorem run_copy_w {P:Program} (w:World) (dT sT ty elem:TypeId) (g o dLen dCap sz n:Nat) (src:Value) (cur:Array Value) (t:TypeId) (cs:List Value) (hu:P.underlying dT=some (.slice elem)) (hs:(P.info? elem).map (·.size)=some sz)
  (hg:w.heap[g]?=some (.cells cur t (0,0))) (hl:(Builtin.lenOf src).run P w=.ok n w) (hf:(Builtin.firstCells sz (Nat.min n dLen) src).run P w=.ok cs.toArray w) (hfit:o+cs.length≤cur.size) (h1:∀v∈cs,v.oneCell'=true) :
  (Builtin.copy_ #[dT,sT] ty #[.slice (some ⟨g,o,none⟩) dLen dCap,src]).run P w=.ok (goInt (Nat.min n dLen)) (w.setRow g (cur.toList.take o++cs++cur.toList.drop (o+cs.length)).toArray):=by
 have hst:=run_storeCells_at P g o t cs 0 cur w hg (by simpa using hfit) h1
 cases hq:P.info? elem with
 | none=>simp[hq] at hs
 | some i =>
  have hi:i.size=sz:=by simpa [hq] using hs
  simp[Builtin.copy_,run_underlying hu,sizeOf,typeInfo,hq,hi,hl,hf,hst]
def kBsl (t o l c:Nat):Know:=fun g v=>∃b cap,g.M t=some (.blk b cap)∧v=.slice (some ⟨b,o,none⟩) l c
instance (t o l c:Nat):KDep (kBsl t o l c) [t]:=⟨fun _ hd ⟨b,cap,h1,h2⟩=>⟨b,cap,(hd t (by simp)).trans h1,h2⟩⟩
section
variable {P:Program} {c:Ctx} {S:Slots} {M:Conts} {p:Bool} {d:Option Tmp} {ty:TypeId} {pos:String} {af:Array Edge} {gd:Option (Nat×Bool)} {x y:Operand} {b b':Bool}
theorem ok_slArrO {t et:TypeId} {n:Nat} [ht:TyArr P t n et] {sz by':Nat} {zz:Value} [hz:TySz P et sz by' zz] {u o:Nat} {ik:IntKind} {i0:Int} (hx:opK S x=some (b,kOwn u o)) (hb:p=true→b=true) (hy:opK S y=some (b',kInt ik i0)) (hb':p=true→b'=true)
  (h:p=true→0≤i0∧i0≤n):OpOk P c S M ⟨d,.slice t x none (some y) none,ty,pos,af,gd⟩ p (kBsl u o i0.toNat n) none :=
 OpOk.pure fun hp a g w _ _ ho=>by
  obtain ⟨bl,cap,h1,h2⟩:=ho x (by simp[Op.operands]) b _ hx (hb hp)
  have hi:a.eval y=_:=ho y (by simp[Op.operands]) b' _ hy (hb' hp)
  have hlt:=h hp
  obtain ⟨ti,hti,rfl,_,_⟩:=hz.h
  refine ⟨.slice (some ⟨bl,o,none⟩) i0.toNat n,?_,bl,cap,h1,rfl⟩
  have hbd:(Instr.sliceBounds false n n none (some (.int ik i0)) none).run P w=.ok (0,i0.toNat,n) w:=by
   simp[Instr.sliceBounds,Instr.sliceBound,asIntOf,hlt]
  simp only[execOp,hi,h2,Option.map,Sem.run_bind]
  unfold Instr.sliceAt
  simp only[Sem.run_bind,run_underlying ht.h,Result.andThen_ok,Instr.sureAddr,Sem.run_pure,hbd]
  simp[sizeOf,typeInfo,hti,Addr.add]
end
section
variable {P:Program} {c:Ctx} {ops:Array Oper} {S:Slots} {M:Conts} {rest:List Oper} {Q:Exit→Act→World→Prop} {x y:Operand}
variable {d:Nat} {ty:TypeId} {pos:String} {af:Array Edge}
theorem wC_succ {f:Nat→Int} {i m:Nat} {z:Int} (h:f i=z):wC f i (m+1)=kB (decide (z<0))::kRd (eL eI) (digN z.natAbs)::wC f (i+1) m:=by subst h; rfl
theorem wC_cpy {ys:List Int} {g:Gh}:∀{k:Nat} {f:Nat→Int} {i m:Nat} {r:List Know} {cs vs:List Value},allK g (wC f i m++r) cs→k≤m→k≤ys.length→rdA eZ g.J vs (ys.take k)→allK g (wC (fun j=>if i≤j∧j<i+k then nth ys (j-i) else f j) i m++r) (vs++cs.drop (2*k)):=by
 intro k
 induction ys generalizing k with
 | nil =>
  intro f i m r cs vs h _ hk hv
  obtain rfl:k=0:=by simpa using hk
  have hv:vs=[]:=hv
  subst hv
  rw[wC_congr (f':=f) fun j _ _=>if_neg zo]
  simpa using h
 | cons y ys ih =>
  intro f i m r cs vs h hkm hk hv
  cases k with
  | zero =>
   have hv:vs=[]:=hv
   subst hv
   rw[wC_congr (f':=f) fun j _ _=>if_neg zo]
   simpa using h
  | succ k =>
   cases m with
   | zero=>omega
   | succ m =>
    rw[List.take_succ_cons] at hv
    obtain ⟨c1,c2,rfl,q1,q2⟩:=hv
    match cs,h with
    | a::b::cs,⟨h1,h2,h3⟩ =>
     have hr:=ih (k:=k) (f:=f) (i:=i+1) (m:=m) h3 zo (by simpa using hk) q2
     have e0:(fun j=>if i≤j∧j<i+(k+1) then nth (y::ys) (j-i) else f j) i=y:=by simp[nth]
     rw[List.append_assoc,show 2*(k+1)=2*k+2 by omega,List.drop_succ_cons,List.drop_succ_cons]
     rw[wC_succ e0,wC_congr (f':=fun j=>if i+1≤j∧j<i+1+k then nth ys (j-(i+1)) else f j) (fun j hj _=>by
      by_cases e:j<i+(k+1)
      ·rw[if_pos ⟨by omega,e⟩,if_pos ⟨hj,by omega⟩,show j-i=(j-(i+1))+1 by omega]; rfl
      ·rw[if_neg zo,if_neg zo])]
     exact (inferInstance:EncCells eZ y _ _).imp q1 hr
theorem TrL.cpW {t et:TypeId} [ht:TySl P t et] {by':Nat} {zz:Value} [hz:TySz P et 2 by' zz] {u l1 c1 m:Nat} {f:Nat→Int} {ys:List Int} {r:List Know} {dep dep':List Nat} {M':Conts} (k:Nat) (hx:opK S x=some (true,kBsl u 0 l1 c1)) (hy:opK S y=some (true,kRd (eL eZ) ys)) [hl:LkM M u (cBlk (wC f 0 m++r)) dep]
  (hk:k=min ys.length l1) (hm:l1≤m) [hd:KsDep (wC (fun j=>if j<k then nth ys j else f j) 0 m++r) dep'] [hup:UpM M u (cBlk (wC (fun j=>if j<k then nth ys j else f j) 0 m++r)) dep' M'] (hs:subT dep' (tags M)=true) (hn:Nat.blt d c.n=true)
  (K:TrL P c ops (⟨d,true,[],kI k⟩::S) M' rest Q):TrL P c ops S M (⟨some d,.call { callee:=.builtin .copy,args:=#[x,y],argTypes:=#[t,t] },ty,pos,af,none⟩::rest) Q:=by
 intro a g w hsat
 have hdn:d<c.n:=by simpa [Nat.blt_eq] using hn
 obtain ⟨b,cap,hm1,he⟩:=opK_holds hsat.slots hx rfl
 obtain ⟨cs0,⟨ad,cp,rfl,k2,k3⟩,hv⟩:=opK_holds hsat.slots hy rfl
 simp only[eL,Bool.false_eq_true,if_false,List.headD_cons] at hv
 obtain ⟨cs,tt,h3,h4⟩:=blk_of (ks:=wC f 0 m++r) hsat.conts hm1
 obtain ⟨ti,hti,hts,_,_⟩:=hz.h
 have hcl:=allK_len h4
 simp only[Array.length_toList,List.length_append,wC_len] at hcl
 obtain ⟨vs,hvs,hfc⟩:∃vs,rdA eZ g.J vs (ys.take k)∧(Builtin.firstCells 2 (Nat.min ys.length l1) (a.eval y)).run P w=.ok vs.toArray w:=by
  have hkk:Nat.min ys.length l1=k:=hk.symm
  rw[hkk,hv]
  rcases k3 with rfl | ⟨bl,o,rfl,hrow⟩
  ·have hk0:k=0:=by simpa using hk
   subst hk0
   refine ⟨[],rfl,?_⟩
   cases ad with
   | none=>rfl
   | some ad =>
    have:=run_loadCells_list (P:=P) w ad [] (fun j v hj=>by simp at hj)
    simpa [Builtin.firstCells] using this
  ·have key:∀(n i:Nat) (zs:List Int),zs.length=n→(∀j x,zs[j]?=some x→∃ds,eZ.rd g.J ds x∧cellsAt g.J bl (o+(i+j)*2) ds)→∃vs,rdA eZ g.J vs zs∧cellsAt g.J bl (o+i*2) vs:=by
    intro n
    induction n with
    | zero=>intro i zs hz _; rw[List.eq_nil_of_length_eq_zero hz]; exact ⟨[],rfl,fun j v hj=>by simp at hj⟩
    | succ n ih =>
     intro i zs hz hr
     match zs,hz with
     | z::zs,hz =>
      obtain ⟨ds,q1,q2⟩:=hr 0 z rfl
      obtain ⟨vs,r1,r2⟩:=ih (i+1) zs (by simpa using hz) (fun j x hx=>by
       obtain ⟨es,s1,s2⟩:=hr (j+1) x (by simpa using hx)
       exact ⟨es,s1,by rwa [show i+1+j=i+(j+1) by omega]⟩)
      refine ⟨ds++vs,⟨ds,vs,rfl,q1,r1⟩,fun j v hj=>?_⟩
      have hl:=eZ.len q1
      rw[show eZ.n=2 from rfl] at hl
      rw[List.getElem?_append] at hj
      split at hj
      ·have:=q2 j v hj
       rwa [Nat.add_zero] at this
      ·have:=r2 _ v hj
       rwa [show o+(i+1)*2+(j-ds.length)=o+i*2+j by omega] at this
   obtain ⟨vs,r1,r2⟩:=key _ 0 (ys.take k) rfl (fun j x hx=>by
    rw[List.getElem?_take] at hx
    split at hx
    ·obtain ⟨ds,q1,q2⟩:=hrow j x hx
     exact ⟨ds,q1,by rw[Nat.zero_add]; exact q2⟩
    ·cases hx)
   refine ⟨vs,r1,?_⟩
   have hlen:=rdA_len r1
   rw[List.length_take,show eZ.n=2 from rfl] at hlen
   have:=run_loadCells_list (P:=P) w ⟨bl,o,none⟩ vs (fun j v hj=>by
    have:=hsat.ok.im _ _ _ (r2 j v hj)
    rw[Addr.add_lit]
    simpa using this)
   rw[hlen,show min k ys.length=k by omega] at this
   simpa [Builtin.firstCells] using this
 have hvl:vs.length=k*2:=by
  have:=rdA_len hvs
  rw[List.length_take,show eZ.n=2 from rfl] at this
  rw[this]; congr 1; omega
 have hr:=run_copy_w (P:=P) w t t ty et b 0 l1 c1 2 ys.length (a.eval y) cs tt vs ht.h (by rw[hti]; simp[hts]) h3 (by rw[hv]; simp[Builtin.lenOf]) hfc zo (rdA_all1 hvs)
 refine wpList_plain rfl fun K' hK'=>?_
 unfold Oper.wp
 simp only[execOp,resolve,Sem.run_bind,Sem.run_pure,Result.andThen_ok,invoke,builtin,List.map_toArray,List.map_cons,List.map_nil]
 rw[he,hr]
 simp only[Result.andThen_ok,Oper.upon]
 have hnew:=wC_cpy (ys:=ys) h4 (k:=k) zo zo hvs
 rw[wC_congr (f':=fun j=>if j<k then nth ys j else f j) (fun j _ _=>by
  by_cases e:j<k
  ·rw[if_pos ⟨Nat.zero_le _,by omega⟩,if_pos e,Nat.sub_zero]
  ·rw[if_neg zo,if_neg e])] at hnew
 have hst:=hsat.store hm1 h3 hup ⟨_,_,rfl,(by simpa [hvl,Nat.mul_comm] using hnew:allK g _ (cs.toList.take 0++vs++cs.toList.drop (0+vs.length)).toArray.toList)⟩ inferInstance (subT_spec hs)
 refine hK' _ _ (K _ g _ (hst.did (Did.same hst.ok (k:=kI k) ?_) (fun _ h=>by cases h) inferInstance (fun _ h=>by cases h) hdn))
 show goInt (Nat.min ys.length l1)=_
 rw[show Nat.min ys.length l1=k from hk.symm]
 rfl
theorem allK_two {g:Gh} {a b:Know} {vs:List Value} (h:allK g [a,b] vs):∃u v,vs=[u,v]∧a g u∧b g v:=by
 match vs,h with
 | [u,v],h=>exact ⟨u,v,rfl,h.1,h.2.1⟩
theorem upd_map {F C:Nat→Int} {k j:Nat} {z:Int} (hz:z=F k):upd (fun i=>if i<k then F i else C i) k z j=if j<k+1 then F j else C j:=by
 unfold upd
 by_cases e:j=k
 ·subst e; rw[if_pos rfl,if_pos (Nat.lt_succ_self _),hz]
 ·rw[if_neg e]
  show (if j<k then F j else C j)=_
  by_cases h:j<k
  ·rw[if_pos h,if_pos zo]
  ·rw[if_neg h,if_neg zo]
theorem Tr.conC {code:Code} (v:Nat) {ct ct':Cont} {dep dep':List Nat} {M':Conts} [hl:LkM M v ct dep] (hc:∀g b o,ct g b o→ct' g b o) [hd:CDep ct' dep'] [hup:UpM M v ct' dep' M'] (hs:subT dep' (tags M)=true) (K:Tr P c S M' code Q):Tr P c S M code Q :=
 fun a g w h=>K a g w (h.conC hc hd hup (subT_spec hs))
theorem wC_zero {r r':List Know} (hr:∀g vs,allK g r vs→allK g r' vs):∀g b o,cBlk ([kB false,kDet (.slice none 0 0),kB false,kDet (.slice none 0 0),kB false,kDet (.slice none 0 0),kB false,kDet (.slice none 0 0)]++r) g b o→cBlk (wC (fun _=>0) 0 4++r') g b o:=fun g _ _ ⟨cs,ty,h1,h2⟩=>⟨cs,ty,h1,by
 have hz:∀v,kDet (.slice none 0 0) g v→kRd (eL eI) (digN (0:Int).natAbs) g v:=fun v h=>by
  cases h
  exact ⟨_,rd_nil (c:=0),rfl⟩
 match h:cs.toList,h2 with
 | a0::b0::a1::b1::a2::b2::a3::b3::vs,⟨q0,p0,q1,p1,q2,p2,q3,p3,hvs⟩=>exact ⟨q0,hz _ p0,q1,hz _ p1,q2,hz _ p2,q3,hz _ p3,hr _ _ hvs⟩⟩
end
end Go.Fl

/- Contracts: numbers of a field (reduction modulo its polynomial, sums, negatives). -/
namespace Go.Fl
open Go Go.Proofs
open TrL renaming op→tO
open RunD renaming op→rO
set_option maxRecDepth 100000

abbrev RlT:=FdT×List Int×List Int×Int×Int×Int
abbrev NumT:=List (List Int)×List Int
def eReal:Enc RlT:=eC (fun v:RlT=>(v.1,v.2.1,v.2.2.1,v.2.2.2.1,v.2.2.2.2.1,v.2.2.2.2.2,())) (eP eFd (eP (eL eZ) (eP (eL eZ) (eP eZ (eP eZ (eP eZ eU))))))
instance {v:RlT}:CellsK (kRd eReal v) [kRd (eL eI) (v.1.1),kI (v.1.2.1),kI (v.1.2.2.1),kI (v.1.2.2.2),kRd (eL eZ) (v.2.1),kRd (eL eZ) (v.2.2.1),kB (decide (v.2.2.2.1<0)),kRd (eL eI) (digN (v.2.2.2.1).natAbs),kB (decide (v.2.2.2.2.1<0)),kRd (eL eI) (digN (v.2.2.2.2.1).natAbs),kB (decide (v.2.2.2.2.2<0)),kRd (eL eI) (digN (v.2.2.2.2.2).natAbs)]:=inferInstanceAs (CellsK (kRd (eC (fun v:RlT=>(v.1,v.2.1,v.2.2.1,v.2.2.2.1,v.2.2.2.2.1,v.2.2.2.2.2,())) (eP eFd (eP (eL eZ) (eP (eL eZ) (eP eZ (eP eZ (eP eZ eU))))))) v) _)
instance {v:RlT} {tl:List Know}:EncCells eReal v tl (kRd (eL eI) (v.1.1)::kI (v.1.2.1)::kI (v.1.2.2.1)::kI (v.1.2.2.2)::kRd (eL eZ) (v.2.1)::kRd (eL eZ) (v.2.2.1)::kB (decide (v.2.2.2.1<0))::kRd (eL eI) (digN (v.2.2.2.1).natAbs)::kB (decide (v.2.2.2.2.1<0))::kRd (eL eI) (digN (v.2.2.2.2.1).natAbs)::kB (decide (v.2.2.2.2.2<0))::kRd (eL eI) (digN (v.2.2.2.2.2).natAbs)::tl):=inferInstanceAs (EncCells (eC (fun v:RlT=>(v.1,v.2.1,v.2.2.1,v.2.2.2.1,v.2.2.2.2.1,v.2.2.2.2.2,())) (eP eFd (eP (eL eZ) (eP (eL eZ) (eP eZ (eP eZ (eP eZ eU))))))) v tl _)
instance {v:RlT}:Norm eReal v (kRd eReal v):=⟨fun h=>h⟩
instance {v:RlT}:FieldP eReal v 0 eFd (v.1) 0:=inferInstanceAs (FieldP (eC (fun v:RlT=>(v.1,v.2.1,v.2.2.1,v.2.2.2.1,v.2.2.2.2.1,v.2.2.2.2.2,())) (eP eFd (eP (eL eZ) (eP (eL eZ) (eP eZ (eP eZ (eP eZ eU))))))) v 0 _ _ _)
instance {v:RlT}:FieldP eReal v 1 (eL eZ) (v.2.1) 4:=inferInstanceAs (FieldP (eC (fun v:RlT=>(v.1,v.2.1,v.2.2.1,v.2.2.2.1,v.2.2.2.2.1,v.2.2.2.2.2,())) (eP eFd (eP (eL eZ) (eP (eL eZ) (eP eZ (eP eZ (eP eZ eU))))))) v 1 _ _ _)
instance {v:RlT}:FieldP eReal v 2 (eL eZ) (v.2.2.1) 5:=inferInstanceAs (FieldP (eC (fun v:RlT=>(v.1,v.2.1,v.2.2.1,v.2.2.2.1,v.2.2.2.2.1,v.2.2.2.2.2,())) (eP eFd (eP (eL eZ) (eP (eL eZ) (eP eZ (eP eZ (eP eZ eU))))))) v 2 _ _ _)
instance {v:RlT}:FieldP eReal v 3 eZ (v.2.2.2.1) 6:=inferInstanceAs (FieldP (eC (fun v:RlT=>(v.1,v.2.1,v.2.2.1,v.2.2.2.1,v.2.2.2.2.1,v.2.2.2.2.2,())) (eP eFd (eP (eL eZ) (eP (eL eZ) (eP eZ (eP eZ (eP eZ eU))))))) v 3 _ _ _)
instance {v:RlT}:FieldP eReal v 4 eZ (v.2.2.2.2.1) 8:=inferInstanceAs (FieldP (eC (fun v:RlT=>(v.1,v.2.1,v.2.2.1,v.2.2.2.1,v.2.2.2.2.1,v.2.2.2.2.2,())) (eP eFd (eP (eL eZ) (eP (eL eZ) (eP eZ (eP eZ (eP eZ eU))))))) v 4 _ _ _)
instance {v:RlT}:FieldP eReal v 5 eZ (v.2.2.2.2.2) 10:=inferInstanceAs (FieldP (eC (fun v:RlT=>(v.1,v.2.1,v.2.2.1,v.2.2.2.1,v.2.2.2.2.1,v.2.2.2.2.2,())) (eP eFd (eP (eL eZ) (eP (eL eZ) (eP eZ (eP eZ (eP eZ eU))))))) v 5 _ _ _)
instance {ks r:List Know} {f:FdT} {p t:List Int} {a b c:Int} [h:RdOf ks (eP eFd (eP (eL eZ) (eP (eL eZ) (eP eZ (eP eZ (eP eZ eU)))))) (f,p,t,a,b,c,()) r]:RdOf ks eReal ((f,p,t,a,b,c)) r:=⟨fun h'=>h.imp h'⟩
def eNum:Enc NumT:=eC (fun v:NumT=>(v.1,v.2,())) (eP (eL (eL eI)) (eP (eL eI) eU))
instance {v:NumT}:CellsK (kRd eNum v) [kRd (eL (eL eI)) (v.1),kRd (eL eI) (v.2)]:=inferInstanceAs (CellsK (kRd (eC (fun v:NumT=>(v.1,v.2,())) (eP (eL (eL eI)) (eP (eL eI) eU))) v) _)
instance {v:NumT} {tl:List Know}:EncCells eNum v tl (kRd (eL (eL eI)) (v.1)::kRd (eL eI) (v.2)::tl):=inferInstanceAs (EncCells (eC (fun v:NumT=>(v.1,v.2,())) (eP (eL (eL eI)) (eP (eL eI) eU))) v tl _)
instance {v:NumT}:Norm eNum v (kRd eNum v):=⟨fun h=>h⟩
instance {v:NumT}:FieldP eNum v 0 (eL (eL eI)) (v.1) 0:=inferInstanceAs (FieldP (eC (fun v:NumT=>(v.1,v.2,())) (eP (eL (eL eI)) (eP (eL eI) eU))) v 0 _ _ _)
instance {v:NumT}:FieldP eNum v 1 (eL eI) (v.2) 1:=inferInstanceAs (FieldP (eC (fun v:NumT=>(v.1,v.2,())) (eP (eL (eL eI)) (eP (eL eI) eU))) v 1 _ _ _)
instance {ks r:List Know} {a:List (List Int)} {b:List Int} [h:RdOf ks (eP (eL (eL eI)) (eP (eL eI) eU)) (a,b,()) r]:RdOf ks eNum ((a,b)) r:=⟨fun h'=>h.imp h'⟩
instance:TyPtr Tryz.prog 112:=⟨⟨_,Tryz.underlying112⟩⟩
theorem ct_degree (r:RlT) (hn:2≤r.2.1.length∧r.2.1.length≤5):Ct Tryz.prog 160 [kPtr eReal r] (kI ((r.2.1.length:Int)-1)):=by
 refine Ct.mk Tryz.func160 rfl Tryz.ntmps160 rfl (fun w J=>?_); refine jx8 ?_; refine tO (ok_nilP rfl uu) rfl rfl ?_; refine jx8 ?_
 exact Rts.res1 (fn:=Tryz.f160) rfl (.i rfl zi<|.nil)

theorem ct_cloneW (p:List Int) (hn:p.length≤1000000):CtN Tryz.prog 196 [kRd (eL eZ) p] (fun t=>kOsl t p.length) (cArr false 160 eZ p p.length):=by
 refine CtN.mk Tryz.func196 rfl Tryz.ntmps196 rfl (fun w J=>?_); refine jx9 ?_; refine tO (ok_eqlNilJ rfl uu) rfl rfl ?_; refine jx2 ?_; refine Tr.exB (s:=4) rfl (fun b1 q1=>?_); refine Tr.cnd rfl ?_ ?_
 ·intro h1
  have he1:[]=p:=(q1 h1).symm
  have he2:0=p.length:=by rw[← he1]; rfl
  refine jx5 ?_; refine Tr.grow (s:=2) rfl rfl 9 rfl 160 eZ rfl ?_; refine jx2 ?_
  exact Rts.resN (fn:=Tryz.f196) (u:=9) rfl rfl (arr_res zi zi) (osl_res zi) inferInstance
 ·intro h1
  refine jx4 ?_; refine TrL.new (ok_bsl0 eZ 5) rfl rfl rfl rfl ?_; refine jx2 ?_; refine jl ?_; refine jx4 ?_
  exact Rts.resN (fn:=Tryz.f196) (u:=5) rfl rfl (arr_res zi zi) (osl_res zi) inferInstance

set_option maxHeartbeats 1000000 in
theorem ct_reduced (r:RlT) (xs:List Int) (d:Int) (B:Nat) (hn:2≤r.2.1.length∧r.2.1.length≤5) (hL:xs.length≤16) (hc:∀i,dl (nth xs i)≤B) (hpp:∀i,dl (nth r.2.1 i)≤1) (hB:B≤600000) (hd:dl d≤700000) (h0:d≠0):Ct Tryz.prog 169 [kPtr eReal r,kRd (eL eZ) xs,kRd eW (wh d)] (kRd eNu (loN (pad r.2.1 xs) d)):=by
 obtain ⟨n,hn1⟩:∃n,r.2.1.length=n+1:=⟨r.2.1.length-1,by omega⟩
 have hn2:r.2.1.length-1=n:=by omega
 refine Ct.mk Tryz.func169 rfl Tryz.ntmps169 rfl (fun w J=>?_); refine jx2 ?_; refine jb 5 rfl ?_; refine ja 6 ?_; refine jx5 ?_; refine jc (ct_degree r hn) ?_; refine jx6 ?_; refine TrL.new (ok_callN 15 (fun hp=>ct_cloneW _ zo) (.a rfl uu<|.nil)) rfl rfl rfl rfl ?_; refine jx7 ?_; refine tO (ok_lenO rfl uu) rfl rfl ?_; refine jx4 ?_
 refine Tr.for1 (σ:=List Int×Nat) [⟨0,true,_,_⟩,⟨1,true,_,_⟩,⟨5,true,_,_⟩,⟨6,true,_,_⟩,⟨7,true,_,_⟩] [⟨5,_,_⟩,⟨6,_,_⟩] (fun (ys,m)=>[⟨8,true,[],kI ((m:Int)-1)⟩]) (fun (ys,m)=>[⟨15,[],cArr false 160 eZ ys xs.length⟩]) (fun (ys,m)=>ys.length=xs.length∧m≤xs.length∧red r.2.1 (ys.take m)=red r.2.1 xs∧(∀j,dl (nth ys j)≤B+2*(xs.length-m))∧(n≤m∨m=xs.length)) (fun (ys,m)=>ys.length=xs.length∧m=min n xs.length∧red r.2.1 (ys.take m)=red r.2.1 xs∧(∀j,dl (nth ys j)≤B+2*(xs.length-m))) (fun (ys,m)=>m) ((xs,xs.length)) ⟨rfl,Nat.le_refl _,by rw[List.take_length],fun j=>by have:=hc j; omega,.inr rfl⟩ (Ent.mk (.i rfl zi<|zk) (zk) rfl) ?_ ?_
 ·rintro ⟨ys,m⟩ ⟨hl,hm,hr,hy,hnm⟩
  refine jn ?_; refine jx8 ?_; refine jq ?_ ?_
  ·intro h4
   refine jx10 ?_
   refine Tr.for1 (σ:=Nat) [⟨0,true,_,_⟩,⟨1,true,_,_⟩,⟨5,true,_,_⟩,⟨6,true,_,_⟩,⟨7,true,_,_⟩,⟨8,true,_,_⟩,⟨24,true,_,_⟩] [⟨5,_,_⟩,⟨6,_,_⟩] (fun k=>[⟨25,true,[],kI (k:Int)⟩]) (fun k=>[⟨15,[],cArr false 160 eZ (stpK r.2.1 ys n (m-1) k) xs.length⟩]) (fun k=>k≤n) (fun k=>k=n) (fun k=>n-k) (0) zi (Ent.mk (.i rfl zi<|zk) (.a stpK_zero zi<|zk) rfl) ?_ ?_
   ·intro k hR1
    refine jn ?_
    have hix:((m:Int)-1-((r.2.1.length:Int)-1)+(k:Int)).toNat=m-1-n+k:=by omega
    have hiy:((m:Int)-1).toNat=m-1:=by omega
    have hsd:=stpK_dl (p:=r.2.1) (ys:=ys) (n:=n) (i:=m-1) (k:=k) zo zo hy hpp
    have hsl:(stpK r.2.1 ys n (m-1) k).length=ys.length:=stpK_len
    refine jx6 ?_; refine jq ?_ ?_
    ·intro h7
     refine jx10 ?_; refine Tr.draw 28 mixed (by kernel_rfl) ?_; refine jx13 ?_; refine rO (ok_ldEA rfl uu rfl rfl rfl rfl) rfl rfl ?_; refine jx3 ?_; refine rO (ok_ldEA rfl uu rfl rfl rfl rfl) rfl rfl ?_; refine jx1 ?_; refine rO (ok_nilP rfl uu) rfl rfl ?_; refine jx5 ?_; refine rO (ok_call (fun hp=>ct_wtimes _ _ (Nat.le_trans (hsd _) zo) (Nat.le_trans (hpp _) zo)) (.a rfl uu<|.a rfl uu<|.nil)) rfl rfl ?_; refine rO (ok_call (fun hp=>ct_wminus _) (.a rfl uu<|.nil)) rfl rfl ?_; refine rO (ok_call (fun hp=>ct_wplus _ _ (Nat.le_trans (hsd _) zo) (by rw[dl_neg]; exact Nat.le_trans (dl_mul _ _) (Nat.le_trans (Nat.add_le_add (hsd _) (hpp _)) zo))) (.a rfl uu<|.a rfl uu<|.nil)) rfl rfl ?_
     refine jx10 ?_
     exact End.lp (k+1) zi zo (Ent.mk (.i rfl zi<|zk) (.a (by rw[hix,hiy,stpK_out zo zo,stpK_out zo zo]; exact stpK_succ zo zo zo) zi<|zk) rfl)
    ·intro h7
     replace h7:=Int.not_lt.1 h7
     refine jx4 ?_
     exact End.cut (k) zo (Ent.mk (.i rfl zi<|zk) (zk) rfl)
   ·rintro k hkn
    refine je ?_; refine jx7 ?_
    exact End.lp ((stpK r.2.1 ys n (m-1) n,m-1)) ⟨stpK_len.trans hl,by omega,(red_round hn2 zo zo).trans hr,fun j=>by have:=stpK_dl (p:=r.2.1) (n:=n) (i:=m-1) (k:=n) zo zo hy hpp j; omega,.inl zo⟩ (by show m-1<m; omega) (Ent.mk (.i rfl zi<|zk) (.a (by rw[hkn]) zi<|zk) rfl)
  ·intro h4
   replace h4:=Int.not_le.1 h4
   refine jx4 ?_
   exact End.cut ((ys,m)) ⟨hl,by omega,hr,hy⟩ (Ent.mk (.i rfl zi<|zk) (zk) rfl)
 ·rintro ⟨ys,m⟩ ⟨hl,hm,hr,hy⟩
  refine je ?_
  obtain ⟨X,hX⟩:∃X,X=(if (ys.length:Int)<(r.2.1.length:Int)-1 then (ys.length:Int) else (r.2.1.length:Int)-1).toNat:=⟨_,rfl⟩
  have hXm:X=m:=by split at hX<;>omega
  have hdr:∀i,i<4→nth (red r.2.1 xs) i=(if i<m then nth ys i else 0)∧dl (nth (red r.2.1 xs) i)≤B+2*(xs.length-m):=fun i _=>dl_red hn2 zo zo hr hy i
  have hnt:∀i,i<m→nth (ys.take X) i=nth ys i:=fun i h=>nth_take' zo
  have hpd:∀i,i<4→(if i<m then nth (ys.take X) i else 0)=nth (red r.2.1 xs) i:=fun i h=>by rw[(hdr i h).1]; split; (rename_i h2; exact hnt i h2); rfl
  have hdp:∀i,i<4→dl (if i<m then nth (ys.take X) i else 0)≤700000:=fun i h=>by rw[hpd i h]; have:=(hdr i h).2; omega
  refine jx3 ?_; refine ja 10 ?_; refine jx3 ?_; refine Tr.conC 10 (ct':=cBlk (wC (fun _=>0) 0 4++[kB (decide ((0:Int)<0)),kRd (eL eI) (digN ((0:Int)).natAbs)])) (wC_zero (r':=[kB (decide ((0:Int)<0)),kRd (eL eI) (digN ((0:Int)).natAbs)]) fun _ _ h=>by obtain ⟨u,v,rfl,h1,h2⟩:=allK_two h; cases h1; cases h2; exact ⟨rfl,⟨_,rd_nil (c:=0),rfl⟩,trivial⟩) rfl ?_; refine Tr.frz 15 [1] ⟨rfl,trivial⟩ (by simp only[lenMax]; omega) rfl ?_; refine jn ?_; refine Tr.draw 9 mixed (by kernel_rfl) ?_; refine jx2 ?_; refine rO (ok_slArrO rfl uu rfl uu (fun _=>zo)) rfl rfl ?_
  refine jx4 ?_; refine rO (ok_min rfl uu rfl uu) rfl rfl ?_; refine rO (ok_slJh rfl uu rfl uu (fun _=>zo)) rfl rfl ?_; refine jx1 ?_; refine TrL.cpW (m) rfl rfl (by rw[List.length_take]; split<;>omega) zo rfl rfl ?_; refine jx16 ?_; refine Tr.cnd rfl ?_ ?_
  ·intro h14
   try simp only[decide_eq_true_eq] at h14
   refine jx3 ?_; refine jc (ct_wminus d) ?_; refine jx9 ?_
   refine Tr.for1 (σ:=Nat) [⟨6,true,_,_⟩,⟨10,true,_,_⟩] [⟨6,_,_⟩] (fun k=>[⟨75,true,[],kI (k:Int)⟩]) (fun k=>[⟨10,[],cBlk (wC (fun i=>if i<k then -(if i<m then nth (ys.take X) i else 0) else (if i<m then nth (ys.take X) i else 0)) 0 4++[kB (decide (-d<0)),kRd (eL eI) (digN (-d).natAbs)])⟩]) (fun k=>k≤4) (fun k=>k=4) (fun k=>4-k) (0) zi (Ent.mk (.i rfl zi<|zk) (.conv (cW (fun j _=>by subst hX; exact (if_neg (Nat.not_lt_zero _)).symm) rfl) rfl<|zk) rfl) ?_ ?_
   ·intro k hR2
    refine jn ?_; refine jx6 ?_; refine jq ?_ ?_
    ·intro h17
     refine jx14 ?_; refine tO (ok_idxArrO rfl uu rfl uu (fun _=>zo)) rfl rfl ?_; refine tO (ok_ldW (k) (fun _=>zo) (fun _=>zo) rfl uu) rfl rfl ?_; refine tO (ok_call (fun hp=>ct_wminus _) (.a rfl uu<|.nil)) rfl rfl ?_; refine jx1 ?_; refine tO (ok_idxArrO rfl uu rfl uu (fun _=>zo)) rfl rfl ?_; refine TrL.stW (k) zo zo rfl rfl rfl ?_; refine jx7 ?_
     exact End.lp (k+1) zi zo (Ent.mk (.i rfl zi<|zk) (.conv (cW (fun j _=>upd_map (F:=fun i=>-(if i<m then nth (ys.take X) i else 0)) (C:=fun i=>(if i<m then nth (ys.take X) i else 0)) (by rw[if_neg (Nat.lt_irrefl k)])) rfl) rfl<|zk) rfl)
    ·intro h17
     replace h17:=Int.not_lt.1 h17
     refine jx4 ?_
     exact End.cut (k) zo (Ent.mk (.i rfl zi<|zk) (zk) rfl)
   ·rintro _ rfl
    refine je ?_; refine jx4 ?_
    refine tO (ok_call (fun hp=>ct_nlowest _ _ (dl_tab fun i hi=>by first | (subst hX; exact hdp i hi) | (rw[if_pos hi,dl_neg]; exact hdp i hi)) (by first | exact hd | (rw[dl_neg]; exact hd)) zo) (.se rfl uu rfl rfl<|.nil)) rfl rfl ?_
    refine jx4 ?_; exact Rts.resC1 (fn:=Tryz.f169) rfl rfl (aggRd rfl (by rw[eta4 (by rw[low_len,tab_len]),← low_neg h0]; refine congrArg (fun l=>loN l (-d)) ?_; simp only[pad,tab,List.map_map]; exact List.map_congr_left fun i hi=>by have hi:=List.mem_range.1 hi; simp only[Function.comp]; rw[if_pos hi,hpd i hi]))
  ·intro h14
   try simp only[decide_eq_false_iff_not,Int.not_lt] at h14
   refine jx5 ?_
   refine tO (ok_call (fun hp=>ct_nlowest _ _ (dl_tab fun i hi=>by first | (subst hX; exact hdp i hi) | (rw[if_pos hi,dl_neg]; exact hdp i hi)) (by first | exact hd | (rw[dl_neg]; exact hd)) zo) (.se rfl uu rfl rfl<|.nil)) rfl rfl ?_
   refine jx4 ?_; exact Rts.resC1 (fn:=Tryz.f169) rfl rfl (aggRd rfl (by rw[eta4 (by rw[low_len,tab_len])]; subst hX; exact congrArg (fun l=>loN l d) (tab_congr hpd)))

theorem ct_nminus (c:List Int) (d:Int):Ct Tryz.prog 141 [kRd eNu (c,d)] (kRd eNu (c.map fun z=>-z,d)):=by
 refine Ct.mk Tryz.func141 rfl Tryz.ntmps141 rfl (fun w J=>?_); refine Tr.fact (s:=0) rfl (fun _ _ h=>eNu_len h) (fun hl=>?_)
 have hl:c.length=4:=hl
 refine jx2 ?_; refine jb 1 rfl ?_; refine ja 2 ?_; refine jx10 ?_
 refine Tr.for1 (σ:=Nat) [⟨1,true,_,_⟩,⟨2,true,_,_⟩,⟨6,true,_,_⟩] [⟨2,_,_⟩] (fun k=>[⟨7,true,[],kI (k:Int)⟩]) (fun k=>[⟨1,[],cBlk (wC (fun i=>if i<k then -nth c i else nth c i) 0 4++[kB (decide (d<0)),kRd (eL eI) (digN (d).natAbs)])⟩]) (fun k=>k≤4) (fun k=>k=4) (fun k=>4-k) (0) zi (Ent.mk (.i rfl zi<|zk) (.conv (cW (fun j _=>(if_neg zo).symm) rfl) rfl<|zk) rfl) ?_ ?_
 ·intro k hR0
  refine jn ?_; refine jx6 ?_; refine jq ?_ ?_
  ·intro h2
   refine jx7 ?_; refine tO (ok_idxW rfl uu rfl uu (fun _=>zo)) rfl rfl ?_; refine ja 4 ?_; refine jx7 ?_; refine jc (ct_wminus (nth c k)) ?_; refine jx1 ?_; refine tO (ok_idxArrO rfl uu rfl uu (fun _=>zo)) rfl rfl ?_; refine TrL.stW (k) zo zo rfl rfl rfl ?_; refine jx7 ?_
   exact End.lp (k+1) zi zo (Ent.mk (.i rfl zi<|zk) (.conv (cW (fun j _=>upd_map (F:=fun i=>-nth c i) (C:=fun i=>nth c i) rfl) rfl) rfl<|zk) rfl)
  ·intro h2
   replace h2:=Int.not_lt.1 h2
   refine jx4 ?_
   exact End.cut (k) zo (Ent.mk (.i rfl zi<|zk) (zk) rfl)
 ·rintro _ rfl
  refine je ?_; refine jx8 ?_; exact Rts.resC1 (fn:=Tryz.f141) rfl rfl (aggRd rfl (by rw[neg_tab hl]; exact Prod.ext (tab_congr fun i hi=>if_pos hi) rfl))

theorem ct_nplus (x y:List Int×Int) (hx:∀i,dl (nth x.1 i)≤300000) (hy:∀i,dl (nth y.1 i)≤300000) (hdx:dl x.2≤300000) (hdy:dl y.2≤300000) (hpx:0<x.2) (hpy:0<y.2):Ct Tryz.prog 140 [kRd eNu x,kRd eNu y] (kRd eNu (adV x y)):=by
 refine Ct.mk Tryz.func140 rfl Tryz.ntmps140 rfl (fun w J=>?_); refine jx2 ?_; refine jb 2 rfl ?_; refine jb 3 rfl ?_; refine ja 4 ?_; refine jx8 ?_; refine jc (ct_wtimes x.2 y.2 zo zo) ?_; refine tO (ok_build (fun hp=>.cons rfl rfl rfl<|.nil)) rfl rfl ?_; refine ja 5 ?_; refine jx9 ?_
 refine Tr.for1 (σ:=Nat) [⟨2,true,_,_⟩,⟨3,true,_,_⟩,⟨4,true,_,_⟩,⟨5,true,_,_⟩] [⟨2,_,_⟩,⟨3,_,_⟩,⟨4,_,_⟩] (fun k=>[⟨13,true,[],kI (k:Int)⟩]) (fun k=>[⟨5,[],cBlk (wC (fun i=>if i<k then nth x.1 i*y.2+nth y.1 i*x.2 else 0) 0 4++[kB (decide (x.2*y.2<0)),kRd (eL eI) (digN (x.2*y.2).natAbs)])⟩]) (fun k=>k≤4) (fun k=>k=4) (fun k=>4-k) (0) zi (Ent.mk (.i rfl zi<|zk) (.conv (wC_zero (fun _ _ h=>h)) rfl<|zk) rfl) ?_ ?_
 ·intro k hR0
  refine jn ?_
  have h1:=hx k
  have h2:=hy k
  have h3:=dl_mul (nth x.1 k) y.2
  have h4:=dl_mul (nth y.1 k) x.2
  refine jx6 ?_; refine jq ?_ ?_
  ·intro h3
   refine jx10 ?_; refine Tr.draw 17 mixed (by kernel_rfl) ?_; refine jx3 ?_; refine rO (ok_idxArrO rfl uu rfl uu (fun _=>zo)) rfl rfl ?_; refine rO (ok_ldW (k) (fun _=>zo) (fun _=>zo) rfl uu) rfl rfl ?_; refine jx2 ?_; refine jd (ct_wtimes (nth x.1 k) y.2 zo zo) ?_; refine jx2 ?_; refine rO (ok_idxArrO rfl uu rfl uu (fun _=>zo)) rfl rfl ?_; refine rO (ok_ldW (k) (fun _=>zo) (fun _=>zo) rfl uu) rfl rfl ?_; refine jx2 ?_; refine jd (ct_wtimes (nth y.1 k) x.2 zo zo) ?_; refine jd (ct_wplus (nth x.1 k*y.2) (nth y.1 k*x.2) zo zo) ?_
   refine jx2 ?_; refine tO (ok_idxArrO rfl uu rfl uu (fun _=>zo)) rfl rfl ?_; refine TrL.stW (k) zo zo rfl rfl rfl ?_; refine jx7 ?_
   exact End.lp (k+1) zi zo (Ent.mk (.i rfl zi<|zk) (.conv (cW (fun j _=>by simp only[upd]; by_cases e:j=k; (rw[if_pos e,if_pos zo,e]); (rw[if_neg e]; by_cases e2:j<k; (rw[if_pos e2,if_pos zo]); (rw[if_neg e2,if_neg zo]))) rfl) rfl<|zk) rfl)
  ·intro h3
   replace h3:=Int.not_lt.1 h3
   refine jx4 ?_
   exact End.cut (k) zo (Ent.mk (.i rfl zi<|zk) (zk) rfl)
 ·rintro _ rfl
  refine je ?_; refine jx4 ?_; refine tO (ok_call (fun hp=>ct_nlowest _ _ (dl_tab fun i hi=>by rw[if_pos hi]; exact Nat.le_trans (dl_adV hx hy hdx hdy i) zo) (by have:=dl_mul x.2 y.2; omega) (Int.mul_pos hpx hpy)) (.se rfl uu rfl rfl<|.nil)) rfl rfl ?_; refine jx4 ?_; exact Rts.resC1 (fn:=Tryz.f140) rfl rfl (aggRd rfl (by rw[eta4 (by rw[low_len,tab_len])]; unfold adV; exact congrArg (fun l=>loN l (x.2*y.2)) (tab_congr fun i hi=>if_pos hi)))

end Go.Fl

/- Numbers of a field: how they are read and handed back; sizes. No program in sight. -/
namespace Go.Fl
open Go
def denN (d:List Int):Int:=if val d=0 then 1 else val d
theorem denN_ne {d:List Int}:denN d≠0:=by unfold denN; split<;>omega
def takeN (p:List Int) (x:List (List Int)×List Int):List Int×Int:=loN (pad p (x.1.map val)) (denN x.2)
def giveN (v:List Int×Int):List (List Int)×List Int:=((trimL v.1).map lstZ,lstZ v.2)
def PolOk (p:List Int):Prop:=(2≤p.length∧p.length≤5)∧∀i,dl (nth p i)≤1
structure NumOk (k:Nat) (x:List (List Int)×List Int):Prop where
 len:x.1.length≤6
 c:∀i,InI (nth x.1 i)∧(nth x.1 i).length≤k
 d:InI x.2∧x.2.length≤k
structure NBd (k:Nat) (v:List Int×Int):Prop where
 c:∀i,dl (nth v.1 i)≤k
 d:dl v.2≤k
 pos:0<v.2
 len:v.1.length=4
theorem nth_nil {α:Type} [Inhabited α] {i:Nat}:nth ([]:List α) i=default:=rfl
theorem nth_out {α:Type} [Inhabited α] {xs:List α} {i:Nat} (h:xs.length≤i):nth xs i=default:=by simp[nth,List.getD,List.getElem?_eq_none h]
theorem val_nil:val []=0:=rfl
theorem nth_mapv {xs:List (List Int)} {i:Nat}:nth (xs.map val) i=val (nth xs i):=by
 by_cases h:i<xs.length
 ·simp[nth,h]
 ·rw[nth_out (by simpa using h),nth_out zo]; rfl
theorem tab_mapv {xs:List (List Int)}:(tab xs.length fun i=>val (nth xs i))=xs.map val:=by
 have h:(xs.map val).length=xs.length:=List.length_map ..
 conv=>rhs; rw[tab_nth h]
 exact tab_congr fun i _=>nth_mapv.symm
theorem dl_den {d:List Int} {k:Nat} (h:InI d) (hl:d.length≤k):dl (denN d)≤k+3:=by
 unfold denN
 split
 ·have:=dl_int (n:=1) zo; omega
 ·have:=dl_val h; omega
theorem dl_redF {p:List Int} {n:Nat} (hp:∀i,dl (nth p i)≤1):∀{f B:Nat} {xs:List Int},(∀i,dl (nth xs i)≤B)→∀i,dl (nth (redF p n f xs) i)≤B+2*f
 | 0,B,xs,h,i=>by
  rw[redF,nth_app0]
  split
  ·have:=h i; omega
  ·rw[dl_zero.2 rfl]; omega
 | f+1,B,xs,h,i=>by
  rw[redF]
  split
  ·rw[nth_app0]
   split
   ·have:=h i; omega
   ·rw[dl_zero.2 rfl]; omega
  ·have h1:∀j,dl (nth (red1 p n xs) j)≤B+2:=fun j=>by
    unfold red1
    refine dl_tab (fun q _=>?_) j
    split
    ·rw[Int.sub_eq_add_neg]
     have:=dl_step (h q) (h (xs.length-1)) (hp (q-(xs.length-1-n)))
     omega
    ·rw[Int.sub_zero]; have:=h q; omega
   have:=dl_redF (n:=n) hp h1 i (f:=f)
   omega
theorem dl_pad {p xs:List Int} {B:Nat} (hp:∀i,dl (nth p i)≤1) (h:∀i,dl (nth xs i)≤B) (i:Nat):dl (nth (pad p xs) i)≤B+2*xs.length:=by
 unfold pad
 refine dl_tab (fun j _=>?_) i
 unfold red
 have:=dl_redF hp h j (n:=p.length-1) (f:=xs.length-(p.length-1))
 omega
theorem natAbs_ediv_le {a g:Int} (hg:g∣a):(a/g).natAbs≤a.natAbs:=by
 obtain ⟨q,rfl⟩:=hg
 by_cases h:g=0
 ·subst h; simp
 ·rw[Int.mul_ediv_cancel_left _ h,Int.natAbs_mul]
  exact Nat.le_mul_of_pos_left _ zo
theorem dl_divs {a g:Int} (hg:g∣a):dl (a/g)≤dl a:=digN_len_le (natAbs_ediv_le hg)
theorem nth_mem' {xs:List Int} {i:Nat} (h:i<xs.length):nth xs i∈xs:=by simp[nth,h]
theorem low_NBd {cs:List Int} {d:Int} {k:Nat} (hc:∀i,dl (nth cs i)≤k) (hd:dl d≤k) (h0:d≠0) (hl:cs.length=4):NBd k (loN cs d):=by
 refine ⟨fun i=>?_,?_,low_pos h0,by rw[low_len,hl]⟩
 ·by_cases h:i<cs.length
  ·have e:nth (loN cs d).1 i=nth cs i/sgG d cs:=by simp[loN,nth,h]
   rw[e]
   exact Nat.le_trans (dl_divs (sgG_dvd (.inr (nth_mem' h)))) (hc i)
  ·rw[nth_out (by rw[low_len]; omega)]
   show dl 0≤k
   rw[dl_zero.2 rfl]; omega
 ·exact Nat.le_trans (dl_divs (sgG_dvd (.inl rfl))) hd
theorem take_NBd {p:List Int} {x:List (List Int)×List Int} {k:Nat} (hp:PolOk p) (hx:NumOk k x):NBd (k+15) (takeN p x):=by
 refine low_NBd (fun i=>?_) ?_ denN_ne pad_len
 ·have:=dl_pad (xs:=x.1.map val) (B:=k+3) hp.2 (fun j=>by rw[nth_mapv]; have:=dl_val (hx.c j).1; have:=(hx.c j).2; omega) i
  rw[List.length_map] at this
  have:=hx.len
  omega
 ·have:=dl_den hx.d.1 hx.d.2; omega
theorem add_NBd {x y:List Int×Int} {j k:Nat} (hx:NBd j x) (hy:NBd k y):NBd (j+k+1) (adV x y):=by
 refine low_NBd (dl_tab fun i _=>?_) ?_ ?_ tab_len
 ·have h1:=dl_mul (nth x.1 i) y.2
  have h2:=dl_mul (nth y.1 i) x.2
  have h3:=dl_add (nth x.1 i*y.2) (nth y.1 i*x.2)
  have:=hx.c i; have:=hy.c i; have:=hx.d; have:=hy.d
  omega
 ·have:=dl_mul x.2 y.2; have:=hx.d; have:=hy.d; omega
 ·have:=Int.mul_pos hx.pos hy.pos; omega
theorem neg_NBd {x:List Int×Int} {k:Nat} (hx:NBd k x):NBd k (x.1.map fun z=>-z,x.2):=by
 refine ⟨fun i=>?_,hx.d,hx.pos,by simp[hx.len]⟩
 rw[neg_tab hx.len]
 exact dl_tab (fun j _=>by rw[dl_neg]; exact hx.c j) i
def ratB (c:List Int):Bool:=!(((tab 4 (nth c)).take 4).drop 1).any fun z=>decide (cmpZ z 0≠0)
theorem ratB_of {c:List Int} (h:∀i,1≤i→i<4→nth c i=0):ratB c=true:=by
 have e:tab 4 (nth c)=[nth c 0,nth c 1,nth c 2,nth c 3]:=rfl
 unfold ratB
 rw[e,h 1 zo zo,h 2 zo zo,h 3 zo zo]
 rfl
theorem ratB_iff {c:List Int}:ratB c=true↔∀i,1≤i→i<4→nth c i=0:=by
 refine ⟨fun h=>?_,ratB_of⟩
 have e:tab 4 (nth c)=[nth c 0,nth c 1,nth c 2,nth c 3]:=rfl
 unfold ratB at h
 rw[e] at h
 simp only[List.take_succ_cons,List.take_zero,List.drop_succ_cons,List.drop_zero,List.any_cons,List.any_nil,Bool.or_false,Bool.not_eq_true',Bool.or_eq_false_iff,decide_eq_false_iff_not,Classical.not_not,ne_eq] at h
 intro i h1 h2
 obtain ⟨q1,q2,q3⟩:=h
 rcases (show i=1∨i=2∨i=3 by omega) with rfl | rfl | rfl
 ·exact cmpZ_z.1 q1
 ·exact cmpZ_z.1 q2
 ·exact cmpZ_z.1 q3
theorem nth_low {cs:List Int} {d:Int} {i:Nat} (h:i<cs.length):nth (loN cs d).1 i=nth cs i/sgG d cs:=by simp[loN,nth,h]
theorem ratB_add {x y:List Int×Int} (hx:ratB x.1=true) (hy:ratB y.1=true):ratB (adV x y).1=true:=by
 refine ratB_of fun i h1 h2=>?_
 unfold adV
 rw[nth_low (by rw[tab_len]; exact h2),nth_tab h2,ratB_iff.1 hx i h1 h2,ratB_iff.1 hy i h1 h2]
 simp
theorem ratB_neg {c:List Int} (h:ratB c=true):ratB (c.map fun z=>-z)=true:=by
 refine ratB_of fun i h1 h2=>?_
 by_cases hl:i<c.length
 ·simp only[nth,List.getD,List.getElem?_map,List.getElem?_eq_getElem hl,Option.map_some,Option.getD_some]
  have:=ratB_iff.1 h i h1 h2
  simp only[nth,List.getD,List.getElem?_eq_getElem hl,Option.getD_some] at this
  omega
 ·rw[nth_out (by rw[List.length_map]; omega)]; rfl
theorem giveN_eq {c:List Int} {d:Int} {n:Nat} (h:trimL c=c.take n):(tab n (fun i=>lstZ (nth c i)),lstZ d)=giveN (c,d)∨c.length<n:=by
 by_cases hn:n≤c.length
 ·left
  unfold giveN
  rw[h]
  refine Prod.ext ?_ rfl
  have hl:(c.take n).length=n:=by rw[List.length_take]; omega
  show _=(c.take n).map lstZ
  conv=>rhs; rw[tab_nth hl]
  simp only[tab,List.map_map]
  refine List.map_congr_left fun i hi=>?_
  have hi:i<n:=List.mem_range.1 hi
  simp[Function.comp,nth_take' hi]
 ·right; omega
theorem dl_four {n:Int} {k:Nat} (h:dl n≤3) (i:Nat):dl (nth [n,0,0,0] i)≤k+3:=by
 match i with
 | 0=>show dl n≤_; omega
 | 1=>show dl 0≤_; rw[dl_zero.2 rfl]; omega
 | 2=>show dl 0≤_; rw[dl_zero.2 rfl]; omega
 | 3=>show dl 0≤_; rw[dl_zero.2 rfl]; omega
 | i+4=>rw[nth_out (by simp)]; show dl 0≤_; rw[dl_zero.2 rfl]; omega
theorem ratB_pad {p xs:List Int} {d:Int} (hp:p.length=2):ratB (loN (pad p xs) d).1=true:=by
 refine ratB_of fun i h1 h2=>?_
 have e:nth (loN (pad p xs) d).1 i=nth (pad p xs) i/sgG d (pad p xs):=by simp[loN,nth,pad_len,h2]
 rw[e,nth_pad h2,nth_out (by rw[red_len,hp]; omega)]
 simp
end Go.Fl

/- Contracts: numbers of a field (reading, handing back; sums, differences; signs of fractions). -/
namespace Go.Fl
open Go Go.Proofs
open TrL renaming op→tO
open RunD renaming op→rO
set_option maxRecDepth 100000

theorem ct_IndexFuncW (xs:List Int) (f:FuncId) (q:Int→Bool) [TyFn Tryz.prog f] (hf:∀z,Ct Tryz.prog f [kRd eW (wh z)] (kB (q z))):Ct Tryz.prog 216 [kRd (eL eZ) xs,kDet (.func (.func f) #[] #[])] (kI (idxF q xs)):=by
 refine Ct.mk Tryz.func216 rfl Tryz.ntmps216 rfl (fun w J=>?_); refine Tr.fact (s:=0) rfl (fun _ _ h=>lenB h) (fun hb=>?_); refine jx13 ?_
 refine Tr.for1 (σ:=Nat) [⟨0,true,_,_⟩,⟨1,true,_,_⟩,⟨7,true,_,_⟩] [] (fun k=>[⟨8,true,[],kI (k:Int)⟩]) (fun k=>[]) (fun k=>k≤xs.length∧∀i,i<k→q (nth xs i)=false) (fun k=>∀i,i<xs.length→q (nth xs i)=false) (fun k=>xs.length-k) (0) ⟨by omega,fun i h=>absurd h zo⟩ (Ent.mk (.i rfl zi<|zk) (.nil) rfl) ?_ ?_
 ·rintro k ⟨hk,hR⟩
  refine jn ?_; refine jx6 ?_; refine jq ?_ ?_
  ·intro h2
   refine jx17 ?_; refine tO (ok_callV rfl uu (fun hp=>hf _) (.a rfl uu<|.nil)) rfl rfl ?_; refine jx2 ?_; refine Tr.cnd rfl ?_ ?_
   ·intro h4
    refine jx13 ?_; exact Rts.res1 (fn:=Tryz.f216) rfl (.i rfl (idxF_at zo hR h4)<|.nil)
   ·intro h4
    refine jx7 ?_
    exact End.lp (k+1) ⟨by omega,fun i hi=>by (rcases Nat.lt_succ_iff_lt_or_eq.1 hi with h | h; exact hR i h; subst h; exact h4)⟩ zo (Ent.mk (.i rfl zi<|zk) (.nil) rfl)
  ·intro h2
   replace h2:=Int.not_lt.1 h2
   refine jx4 ?_
   exact End.cut (k) (fun i hi=>hR i zo) (Ent.mk (.i rfl zi<|zk) (.nil) rfl)
 ·intro k hE
  refine je ?_; refine jx7 ?_; exact Rts.res1 (fn:=Tryz.f216) rfl (.i rfl (idxF_none hE)<|.nil)

theorem ct_ContainsFuncW (xs:List Int) (f:FuncId) (q:Int→Bool) [TyFn Tryz.prog f] (hf:∀z,Ct Tryz.prog f [kRd eW (wh z)] (kB (q z))):Ct Tryz.prog 199 [kRd (eL eZ) xs,kDet (.func (.func f) #[] #[])] (kB (xs.any q)):=by
 refine Ct.mk Tryz.func199 rfl Tryz.ntmps199 rfl (fun w J=>?_); refine jx9 ?_; refine tO (ok_call (fun hp=>ct_IndexFuncW _ f q hf) (.a rfl uu<|.a rfl uu<|.nil)) rfl rfl ?_; refine jx5 ?_; exact Rts.res1 (fn:=Tryz.f199) rfl (.b rfl idxF_nonneg<|.nil)

theorem ct_rational1 (z:Int):Ct Tryz.prog 200 [kRd eW (wh z)] (kB (decide (cmpZ z 0≠0))):=by
 refine Ct.mk Tryz.func200 rfl Tryz.ntmps200 rfl (fun w J=>?_); refine jx2 ?_; refine jb 1 rfl ?_; refine jx6 ?_; refine jc (ct_wsign z) ?_; refine jx5 ?_
 exact Rts.res1 (fn:=Tryz.f200) rfl (.b rfl zi<|.nil)

theorem ct_rational (c:List Int) (d:Int):Ct Tryz.prog 180 [kRd eNu (c,d)] (kB (ratB c)):=by
 refine Ct.mk Tryz.func180 rfl Tryz.ntmps180 rfl (fun w J=>?_); refine jx2 ?_; refine jb 1 rfl ?_; refine jx4 ?_; refine Tr.frzB 1 [1] eNu ⟨rfl,trivial⟩ rfl ?_; refine jn ?_; refine jx2 ?_; refine tO (ok_slArrPl rfl uu rfl uu rfl rfl (fun _=>zo)) rfl rfl ?_; refine tO (ok_call (fun hp=>ct_ContainsFuncW _ 200 (fun z=>decide (cmpZ z 0≠0)) (fun z=>ct_rational1 z)) (.a rfl uu<|.a rfl uu<|.nil)) rfl rfl ?_; refine jx5 ?_; exact Rts.res1 (fn:=Tryz.f180) rfl (.b rfl (by rfl)<|.nil)

theorem ct_signQ (r:RlT) (c:List Int) (d:Int) (hq:ratB c=true):Ct Tryz.prog 139 [kPtr eReal r,kRd eNu (c,d)] (kI (cmpZ (nth c 0) 0)):=by
 refine Ct.mk Tryz.func139 rfl Tryz.ntmps139 rfl (fun w J=>?_); refine Tr.fact (s:=1) rfl (fun _ _ h=>eNu_len h) (fun hl=>?_)
 have hl:c.length=4:=hl
 refine jx2 ?_; refine jb 3 rfl ?_; refine jx7 ?_; refine tO (ok_call (fun hp=>ct_rational c d) (.se rfl uu rfl (eta4 (v:=(c,d)) hl)<|.nil)) rfl rfl ?_; refine jx2 ?_; refine Tr.cnd rfl ?_ ?_
 ·intro h1
  refine jx3 ?_; refine tO (ok_idxArrO rfl uu rfl uu (fun _=>by decide)) rfl rfl ?_; refine tO (ok_ldW (0) (fun _=>zo) (fun _=>zo) rfl uu) rfl rfl ?_; refine jc (ct_wsign (nth c 0)) ?_; refine jx5 ?_; exact Rts.res1 (fn:=Tryz.f139) rfl (.i rfl (by rfl)<|.nil)
 ·intro h1
  rw[hq] at h1; cases h1

theorem ct_take (r:RlT) (x:NumT) (k:Nat) (hpo:PolOk r.2.1) (hx:NumOk k x) (hk:k≤500000):Ct Tryz.prog 119 [kPtr eReal r,kRd eNum x] (kRd eNu (takeN r.2.1 x)):=by
 have hdx:=dl_val hx.d.1
 have hld:=hx.d.2
 have hlx:=hx.len
 have hdd:=dl_den hx.d.1 hx.d.2
 refine Ct.mk Tryz.func119 rfl Tryz.ntmps119 rfl (fun w J=>?_); refine jx2 ?_; refine jb 3 rfl ?_; refine ja 4 ?_; refine jx16 ?_; refine Tr.grow (s:=5) rfl rfl 55 rfl 160 eZ rfl ?_
 refine Tr.for1 (σ:=Nat) [⟨0,true,_,_⟩,⟨3,true,_,_⟩,⟨4,true,_,_⟩,⟨10,true,_,_⟩,⟨11,true,_,_⟩] [⟨3,_,_⟩,⟨4,_,_⟩] (fun k2=>[⟨5,true,[55],kOsl 55 k2⟩,⟨12,true,[],kI (k2:Int)⟩]) (fun k2=>[⟨55,[],cArr true 160 eZ (tab k2 fun i=>val (nth x.1 i)) k2⟩]) (fun k2=>k2≤x.1.length) (fun k2=>k2=x.1.length) (fun k2=>x.1.length-k2) (0) zi (Ent.mk (.o rfl zi rfl<|.i rfl zi<|zk) (.a (by rfl) zi<|zk) rfl) ?_ ?_
 ·intro k2 hR0
  refine jn ?_
  have hck:=hx.c k2
  refine jx6 ?_; refine jq ?_ ?_
  ·intro h3
   refine jx14 ?_; refine tO (ok_call (fun hp=>ct_fread _ hck.1 zo) (.a rfl uu<|.nil)) rfl rfl ?_; refine TrL.new (ok_bsl eZ 19 (fun hp=>.cons rfl<|.nil) rfl rfl rfl rfl) rfl rfl rfl rfl ?_; refine jx1 ?_; refine jl ?_; refine jx8 ?_
   exact End.lp (k2+1) zi zo (Ent.mk (.o rfl zi rfl<|.i rfl zi<|zk) (.a tab_succ.symm zi<|zk) rfl)
  ·intro h3
   replace h3:=Int.not_lt.1 h3
   refine jx4 ?_
   exact End.cut (k2) zo (Ent.mk (.o rfl zi rfl<|.i rfl zi<|zk) (zk) rfl)
 ·rintro _ rfl
  refine je ?_
  have hcm:=tab_mapv (xs:=x.1)
  refine jx5 ?_; refine tO (ok_call (fun hp=>ct_fread _ hx.d.1 zo) (.a rfl uu<|.nil)) rfl rfl ?_; refine ja 8 ?_; refine jx7 ?_; refine jc (ct_wsign (val x.2)) ?_; refine jx3 ?_; refine jq ?_ ?_
  ·intro h8
   have hv0:=cmpZ_z.1 h8
   refine jx1 ?_; refine jc (ct_fsmall 1 zo) ?_; refine jx8 ?_; refine TrL.frz 55 [5,30] ⟨rfl,rfl,trivial⟩ (by simp only[lenMax]; omega) rfl ?_; refine jl ?_
   refine tO (ok_call (fun hp=>ct_reduced r _ (denN x.2) (k+3) hpo.1 (by rw[tab_len]; omega) (dl_tab fun i _=>by have:=dl_val (hx.c i).1; have:=(hx.c i).2; omega) hpo.2 zo zo denN_ne) (.a rfl uu<|.a rfl uu<|.se rfl uu rfl (by first | (rw[denN,if_pos hv0]; rfl) | (rw[denN,if_neg hv0]; rfl))<|.nil)) rfl rfl ?_
   refine jx4 ?_; exact Rts.resC1 (fn:=Tryz.f119) rfl rfl (aggRd rfl (by rw[eta4 (by rw[low_len,pad_len]),hcm]; rfl))
  ·intro h8
   have hv0:val x.2≠0:=fun e=>h8 (cmpZ_z.2 e)
   refine jx7 ?_; refine TrL.frz 55 [5,30] ⟨rfl,rfl,trivial⟩ (by simp only[lenMax]; omega) rfl ?_; refine jl ?_
   refine tO (ok_call (fun hp=>ct_reduced r _ (denN x.2) (k+3) hpo.1 (by rw[tab_len]; omega) (dl_tab fun i _=>by have:=dl_val (hx.c i).1; have:=(hx.c i).2; omega) hpo.2 zo zo denN_ne) (.a rfl uu<|.a rfl uu<|.se rfl uu rfl (by first | (rw[denN,if_pos hv0]; rfl) | (rw[denN,if_neg hv0]; rfl))<|.nil)) rfl rfl ?_
   refine jx4 ?_; exact Rts.resC1 (fn:=Tryz.f119) rfl rfl (aggRd rfl (by rw[eta4 (by rw[low_len,pad_len]),hcm]; rfl))

end Go.Fl

/- Contracts: numbers of a field as the package offers them. -/
namespace Go.Fl
open Go Go.Proofs
open TrL renaming op→tO
open RunD renaming op→rO
set_option maxRecDepth 100000

theorem ct_ngive (c:List Int) (d:Int) (hc:∀i,dl (nth c i)≤900000) (hd:dl d≤900000):Ct Tryz.prog 120 [kRd eNu (c,d)] (kRd eNum (giveN (c,d))):=by
 refine Ct.mk Tryz.func120 rfl Tryz.ntmps120 rfl (fun w J=>?_); refine Tr.fact (s:=0) rfl (fun _ _ h=>eNu_len h) (fun hl=>?_)
 have hl:c.length=4:=hl
 refine jx2 ?_; refine jb 1 rfl ?_; refine ja 2 ?_; refine jx4 ?_; refine ja 3 ?_; refine jx7 ?_
 refine Tr.for (σ:=Nat) [⟨1,true,_,_⟩,⟨2,true,_,_⟩,⟨3,true,_,_⟩] [⟨1,_,_⟩,⟨2,_,_⟩,⟨3,_,_⟩] (fun n=>[⟨4,true,[],kI (n:Int)⟩]) (fun n=>[]) (fun n=>n≤4∧∀i,n≤i→i<c.length→nth c i=0) (fun n=>n≤4∧trimL c=c.take n) (fun n=>n) (4) ⟨by omega,fun i h1 h2=>absurd h1 zo⟩ (Ent.mk (.i rfl zi<|zk) (zk) rfl) ?_ ?_
 ·rintro n ⟨hn,hz⟩
  refine jn ?_; refine jx7 ?_; refine TrL.gd rfl rfl rfl (ok_sub rfl id rfl uu (fun hp=>by simp at hp; omega)) rfl rfl ?_; refine jx1 ?_; refine TrL.gd rfl rfl rfl (ok_idxArrO rfl id rfl id (fun hp=>by simp at hp; omega)) rfl rfl ?_; refine TrL.gd rfl rfl rfl (ok_ldW (n-1) (fun hp=>by simp at hp; omega) (fun _=>zo) rfl id) rfl rfl ?_; refine TrL.gd rfl rfl rfl (ok_call (fun hp=>ct_wsign (nth c (n-1))) (.a rfl id<|.nil)) rfl rfl ?_; refine jx4 ?_; refine Tr.cnd rfl ?_ ?_
  ·intro h3
   try simp only[decide_eq_true_eq,Bool.and_eq_true] at h3
   have h3z:=h3.2
   refine jx9 ?_
   exact End.lp (n-1) ⟨by omega,fun i h2 h3=>by (by_cases e:i=n-1; subst e; exact cmpZ_z.1 h3z; exact hz i zo h3)⟩ zo (Ent.mk (.i rfl zi<|zk) (zk) rfl)
  ·intro h3
   try simp only[decide_eq_true_eq,decide_eq_false_iff_not,Bool.and_eq_false_imp] at h3
   refine jx4 ?_
   exact End.cut (n) ⟨hn,trim_take zo hz (by by_cases e:n=0; exact .inl e; exact .inr (fun e2=>h3 zo (cmpZ_z.2 e2)))⟩ (Ent.mk (.i rfl zi<|zk) (zk) rfl)
 ·rintro n ⟨hn,ht⟩
  refine jn ?_
  have htk:(List.take (n:Int).toNat (tab 4 (nth (c,d).1),(c,d).2).1).length=n:=by rw[Int.toNat_natCast,List.length_take]; show min n (tab 4 (nth c)).length=n; rw[tab_len]; omega
  have hnt:∀i,i<n→nth (List.take (n:Int).toNat (tab 4 (nth (c,d).1),(c,d).2).1) i=nth c i:=fun i h=>by rw[Int.toNat_natCast]; exact (nth_take' h).trans (nth_tab zo)
  refine jx2 ?_; refine Tr.frzB 1 [1] eNu ⟨rfl,trivial⟩ rfl ?_; refine jn ?_; refine jx3 ?_; refine tO (ok_slArrPh rfl uu rfl uu rfl rfl (fun _=>zo)) rfl rfl ?_; refine jx4 ?_; refine Tr.growC 3 0 33 rfl (ks':=[kOsl 33 0,_]) rfl rfl 22 (eL eI) rfl (.cons inferInstance rfl<|.cons inferInstance rfl<|inferInstance) ?_
  refine Tr.for1 (σ:=Nat) [⟨1,true,_,_⟩,⟨2,true,_,_⟩,⟨3,true,_,_⟩,⟨22,true,_,_⟩,⟨23,true,_,_⟩] [⟨2,_,_⟩] (fun k=>[⟨24,true,[],kI (k:Int)⟩]) (fun k=>[⟨3,[33],cBlk [kOsl 33 k,kDet (.slice none 0 0)]⟩,⟨33,[],cArr true 22 (eL eI) (tab k fun i=>lstZ (nth c i)) k⟩]) (fun k=>k≤n) (fun k=>k=n) (fun k=>n-k) (0) zi (Ent.mk (.i rfl zi<|zk) (.e (by rfl) rfl<|.a (by rfl) zi<|zk) rfl) ?_ ?_
  ·intro k hR1
   refine jn ?_
   have hck:=hc k
   refine jx6 ?_; refine jq ?_ ?_
   ·intro h6
    refine jx8 ?_; refine ja 6 ?_; refine jx3 ?_; refine Tr.draw 5 mixed (by kernel_rfl) ?_; refine jx3 ?_; refine rO (ok_call (fun hp=>ct_wlist _ (by rw[hnt k zo]; omega)) (.se rfl uu rfl rfl<|.nil)) rfl rfl ?_; refine RunD.new (ok_bsl (eL eI) 32 (fun hp=>.cons rfl<|.nil) rfl rfl rfl rfl) rfl rfl rfl rfl ?_; refine jx1 ?_; refine TrL.wkC 3 (.any<|.k<|.nil) rfl ?_; refine jx1 ?_; refine jl ?_; refine jx9 ?_
    exact End.lp (k+1) zi zo (Ent.mk (.i rfl zi<|zk) (.e (by rfl) rfl<|.a ((congrArg (fun z=>tab k (fun i=>lstZ (nth c i))++[lstZ z]) (hnt k zo)).trans tab_succ.symm) zi<|zk) rfl)
   ·intro h6
    replace h6:=Int.not_lt.1 h6
    refine jx4 ?_
    exact End.cut (k) zo (Ent.mk (.i rfl zi<|zk) (zk) rfl)
  ·rintro k hkn
   refine je ?_; refine jx5 ?_; refine jc (ct_wlist d zo) ?_; refine jx5 ?_; refine Tr.frzC 33 3 (by simp only[lenMax]; omega) rfl rfl ?_; refine jx6 ?_; exact Rts.resC1 (fn:=Tryz.f120) rfl rfl (aggRd rfl (by rw[hkn]; exact (giveN_eq ht).resolve_right zo))

theorem ct_fWhole (n:Int) (hn:-9223372036854775808≤n∧n≤9223372036854775807):Ct Tryz.prog 165 [kI n] (kRd eNum (giveN ([n,0,0,0],1))):=by
 have hd:=dl_int hn
 refine Ct.mk Tryz.func165 rfl Tryz.ntmps165 rfl (fun w J=>?_); refine jx2 ?_; refine ja 2 ?_; refine jx5 ?_; refine jc (ct_fsmall n hn) ?_; refine tO (ok_buildL [(0,2),(2,2),(4,2),(6,2)] rfl (fun hp=>.cons rfl rfl rfl<|.nil)) rfl rfl ?_; refine jc (ct_fsmall 1 zo) ?_; refine tO (ok_build (fun hp=>.cons rfl rfl rfl<|.cons rfl rfl rfl<|.nil)) rfl rfl ?_; refine jc (ct_ngive [n,0,0,0] 1 (fun i=>dl_four (k:=899997) hd i) (by have:=dl_int (n:=1) zo; omega)) ?_; refine jx4 ?_
 exact Rts.resC1 (fn:=Tryz.f165) rfl rfl (aggRd rfl zi)

theorem ct_fNormalN (r:RlT) (x:NumT) (k:Nat) (hpo:PolOk r.2.1) (hx:NumOk k x) (hk:k≤400000):Ct Tryz.prog 69 [kPtr eReal r,kRd eNum x] (kRd eNum (giveN (takeN r.2.1 x))):=by
 have nx:=take_NBd hpo hx
 refine Ct.mk Tryz.func69 rfl Tryz.ntmps69 rfl (fun w J=>?_); refine jx2 ?_; refine jb 3 rfl ?_; refine ja 4 ?_; refine jx6 ?_; refine tO (ok_eqlPn rfl uu) rfl rfl ?_; refine jx2 ?_; refine Tr.cnd rfl ?_ ?_
 ·intro h1
  cases h1
 ·intro h1
  refine jx6 ?_; refine jc (ct_take r x k hpo hx zo) ?_; refine jc (ct_ngive (takeN r.2.1 x).1 (takeN r.2.1 x).2 (fun i=>Nat.le_trans (nx.c i) zo) (Nat.le_trans nx.d zo)) ?_; refine jx4 ?_
  exact Rts.resC1 (fn:=Tryz.f69) rfl rfl (aggRd rfl zi)

theorem ct_fAddN (r:RlT) (x y:NumT) (k:Nat) (hpo:PolOk r.2.1) (hx:NumOk k x) (hy:NumOk k y) (hk:k≤100000):Ct Tryz.prog 118 [kPtr eReal r,kRd eNum x,kRd eNum y] (kRd eNum (giveN (adV (takeN r.2.1 x) (takeN r.2.1 y)))):=by
 have nx:=take_NBd hpo hx
 have ny:=take_NBd hpo hy
 have nz:=add_NBd nx ny
 refine Ct.mk Tryz.func118 rfl Tryz.ntmps118 rfl (fun w J=>?_); refine jx2 ?_; refine jb 4 rfl ?_; refine jb 5 rfl ?_; refine ja 6 ?_; refine jx6 ?_; refine tO (ok_eqlPn rfl uu) rfl rfl ?_; refine jx2 ?_; refine Tr.cnd rfl ?_ ?_
 ·intro h1
  cases h1
 ·intro h1
  refine jx3 ?_; refine Tr.draw 5 mixed (by kernel_rfl) ?_; refine jx2 ?_; refine jd (ct_take r x k hpo hx zo) ?_; refine jx3 ?_; refine jc (ct_take r y k hpo hy zo) ?_; refine jc (ct_nplus (takeN r.2.1 x) (takeN r.2.1 y) (fun i=>Nat.le_trans (nx.c i) zo) (fun i=>Nat.le_trans (ny.c i) zo) (Nat.le_trans nx.d zo) (Nat.le_trans ny.d zo) nx.pos ny.pos) ?_; refine jc (ct_ngive (adV (takeN r.2.1 x) (takeN r.2.1 y)).1 (adV (takeN r.2.1 x) (takeN r.2.1 y)).2 (fun i=>Nat.le_trans (nz.c i) zo) (Nat.le_trans nz.d zo)) ?_; refine jx4 ?_
  exact Rts.resC1 (fn:=Tryz.f118) rfl rfl (aggRd rfl zi)

theorem ct_fSubN (r:RlT) (x y:NumT) (k:Nat) (hpo:PolOk r.2.1) (hx:NumOk k x) (hy:NumOk k y) (hk:k≤100000):Ct Tryz.prog 116 [kPtr eReal r,kRd eNum x,kRd eNum y] (kRd eNum (giveN (adV (takeN r.2.1 x) ((takeN r.2.1 y).1.map (fun z=>-z),(takeN r.2.1 y).2)))):=by
 have nx:=take_NBd hpo hx
 have ny:=take_NBd hpo hy
 have nn:=neg_NBd ny
 have nz:=add_NBd nx nn
 refine Ct.mk Tryz.func116 rfl Tryz.ntmps116 rfl (fun w J=>?_); refine jx2 ?_; refine jb 4 rfl ?_; refine jb 5 rfl ?_; refine ja 6 ?_; refine jx6 ?_; refine tO (ok_eqlPn rfl uu) rfl rfl ?_; refine jx2 ?_; refine Tr.cnd rfl ?_ ?_
 ·intro h1
  cases h1
 ·intro h1
  refine jx3 ?_; refine Tr.draw 5 mixed (by kernel_rfl) ?_; refine jx2 ?_; refine jd (ct_take r x k hpo hx zo) ?_; refine jx3 ?_; refine jc (ct_take r y k hpo hy zo) ?_; refine jc (ct_nminus (takeN r.2.1 y).1 (takeN r.2.1 y).2) ?_; refine jc (ct_nplus (takeN r.2.1 x) ((takeN r.2.1 y).1.map (fun z=>-z),(takeN r.2.1 y).2) (fun i=>Nat.le_trans (nx.c i) zo) (fun i=>Nat.le_trans (nn.c i) zo) (Nat.le_trans nx.d zo) (Nat.le_trans nn.d zo) nx.pos nn.pos) ?_; refine jc (ct_ngive (adV (takeN r.2.1 x) ((takeN r.2.1 y).1.map (fun z=>-z),(takeN r.2.1 y).2)).1 (adV (takeN r.2.1 x) ((takeN r.2.1 y).1.map (fun z=>-z),(takeN r.2.1 y).2)).2 (fun i=>Nat.le_trans (nz.c i) zo) (Nat.le_trans nz.d zo)) ?_
  refine jx4 ?_
  exact Rts.resC1 (fn:=Tryz.f116) rfl rfl (aggRd rfl zi)

theorem ct_fSignQ (r:RlT) (x:NumT) (k:Nat) (hpo:PolOk r.2.1) (h2:r.2.1.length=2) (hx:NumOk k x) (hk:k≤400000):Ct Tryz.prog 82 [kPtr eReal r,kRd eNum x] (kI (cmpZ (nth (takeN r.2.1 x).1 0) 0)):=by
 refine Ct.mk Tryz.func82 rfl Tryz.ntmps82 rfl (fun w J=>?_); refine jx2 ?_; refine jb 3 rfl ?_; refine jx7 ?_; refine tO (ok_eqlPn rfl uu) rfl rfl ?_; refine jx2 ?_; refine Tr.cnd rfl ?_ ?_
 ·intro h1
  cases h1
 ·intro h1
  refine jx7 ?_; refine jc (ct_take r x k hpo hx zo) ?_; refine jc (ct_signQ r (takeN r.2.1 x).1 (takeN r.2.1 x).2 (ratB_pad h2)) ?_; refine jx4 ?_
  exact Rts.res1 (fn:=Tryz.f82) rfl (.i rfl zi<|.nil)

theorem ct_fCmpQ (r:RlT) (x y:NumT) (k:Nat) (hpo:PolOk r.2.1) (hx:NumOk k x) (hy:NumOk k y) (hk:k≤100000) (h2:r.2.1.length=2):Ct Tryz.prog 83 [kPtr eReal r,kRd eNum x,kRd eNum y] (kI (cmpZ (nth (adV (takeN r.2.1 x) ((takeN r.2.1 y).1.map (fun z=>-z),(takeN r.2.1 y).2)).1 0) 0)):=by
 have nx:=take_NBd hpo hx
 have ny:=take_NBd hpo hy
 have nn:=neg_NBd ny
 have nz:=add_NBd nx nn
 refine Ct.mk Tryz.func83 rfl Tryz.ntmps83 rfl (fun w J=>?_); refine jx2 ?_; refine jb 4 rfl ?_; refine jb 5 rfl ?_; refine jx7 ?_; refine tO (ok_eqlPn rfl uu) rfl rfl ?_; refine jx2 ?_; refine Tr.cnd rfl ?_ ?_
 ·intro h1
  cases h1
 ·intro h1
  refine jx3 ?_; refine Tr.draw 9 mixed (by kernel_rfl) ?_; refine jx3 ?_; refine jd (ct_take r x k hpo hx zo) ?_; refine jx2 ?_; refine jd (ct_take r y k hpo hy zo) ?_; refine jd (ct_nminus (takeN r.2.1 y).1 (takeN r.2.1 y).2) ?_; refine jd (ct_nplus (takeN r.2.1 x) ((takeN r.2.1 y).1.map (fun z=>-z),(takeN r.2.1 y).2) (fun i=>Nat.le_trans (nx.c i) zo) (fun i=>Nat.le_trans (nn.c i) zo) (Nat.le_trans nx.d zo) (Nat.le_trans nn.d zo) nx.pos nn.pos) ?_; refine jx1 ?_; refine jc (ct_signQ r (adV (takeN r.2.1 x) ((takeN r.2.1 y).1.map (fun z=>-z),(takeN r.2.1 y).2)).1 (adV (takeN r.2.1 x) ((takeN r.2.1 y).1.map (fun z=>-z),(takeN r.2.1 y).2)).2 (ratB_add (ratB_pad h2) (ratB_neg (ratB_pad h2)))) ?_
  refine jx4 ?_
  exact Rts.res1 (fn:=Tryz.f83) rfl (.i rfl zi<|.nil)

end Go.Fl

/- Contracts: the rational field is opened. -/
namespace Go.Fl
open Go Go.Proofs
open TrL renaming op→tO
open RunD renaming op→rO
set_option maxRecDepth 100000

abbrev ratR:RlT:=(ratF,[0,1],[1],0,0,1)
theorem ct_polyOf (f:FdT) (hf:∀i,-9223372036854775808≤nth f.1 i∧nth f.1 i≤9223372036854775807) (hl:f.1.length≤1000000):Ct Tryz.prog 158 [kRd eFd f] (kRd (eL eZ) f.1):=by
 refine Ct.mk Tryz.func158 rfl Tryz.ntmps158 rfl (fun w J=>?_); refine jx2 ?_; refine jb 1 rfl ?_; refine jx17 ?_; refine Tr.grow (s:=3) rfl rfl 3 rfl 160 eZ rfl ?_
 refine Tr.for1 (σ:=Nat) [⟨7,true,_,_⟩,⟨8,true,_,_⟩] [] (fun k=>[⟨3,true,[3],kOsl 3 k⟩,⟨9,true,[],kI (k:Int)⟩]) (fun k=>[⟨3,[],cArr true 160 eZ (f.1.take k) k⟩]) (fun k=>k≤f.1.length) (fun k=>k=f.1.length) (fun k=>f.1.length-k) (0) zi (Ent.mk (.o rfl zi rfl<|.i rfl zi<|zk) (.a (by rfl) zi<|.nil) rfl) ?_ ?_
 ·intro k hR0
  refine jn ?_
  have hfk:=hf k
  refine jx6 ?_; refine jq ?_ ?_
  ·intro h3
   refine jx14 ?_; refine tO (ok_call (fun hp=>ct_fsmall _ zo) (.a rfl uu<|.nil)) rfl rfl ?_; refine TrL.new (ok_bsl eZ 16 (fun hp=>.cons rfl<|.nil) rfl rfl rfl rfl) rfl rfl rfl rfl ?_; refine jx1 ?_; refine jl ?_; refine jx8 ?_
   exact End.lp (k+1) zi zo (Ent.mk (.o rfl zi rfl<|.i rfl zi<|zk) (.a (by rw[take_succ_nth zo]) zi<|.nil) rfl)
  ·intro h3
   replace h3:=Int.not_lt.1 h3
   refine jx4 ?_
   exact End.cut (k) zo (Ent.mk (.o rfl zi rfl<|.i rfl zi<|zk) (zk) rfl)
 ·rintro k hkn
  refine je ?_
  have htk:f.1.take k=f.1:=by rw[hkn,List.take_length]
  refine jx7 ?_; refine Tr.frz 3 [2] ⟨rfl,trivial⟩ (by simp only[lenMax]; omega) rfl ?_; refine jx1 ?_; exact Rts.res1 (fn:=Tryz.f158) rfl (.r rfl (by rw[htk])<|.nil)

theorem ct_fOpenRat  : Ct Tryz.prog 113 [kRd eFd ratF] (kTup [kPtr eReal ratR,kI 0]):=by
 have hr:∀i,-9223372036854775808≤nth ratF.1 i∧nth ratF.1 i≤9223372036854775807:=fun i=>by match i with | 0=>decide | 1=>decide | i+2=>(show -9223372036854775808≤(0:Int)∧(0:Int)≤9223372036854775807; decide)
 have hdg:Ct Tryz.prog 160 [kPtr eReal (ratF,[0,1],[],0,0,1)] (kI 1):=ct_degree (ratF,[0,1],[],0,0,1) (by decide)
 refine Ct.mk Tryz.func113 rfl Tryz.ntmps113 rfl (fun w J=>?_); refine jx2 ?_; refine jb 1 rfl ?_; refine jx8 ?_; refine jc ct_fCheckRat ?_; refine jx9 ?_; refine Tr.cnd rfl ?_ ?_
 ·intro h2
  exact absurd h2 (by decide)
 ·intro h2
  refine jx6 ?_; refine tO (ok_call (fun hp=>ct_cloneI _ (by decide)) (.a rfl uu<|.nil)) rfl rfl ?_; refine jx5 ?_; refine Tr.draw 12 mixed (by kernel_rfl) ?_; refine jx2 ?_; refine jd (ct_polyOf ratF hr (by decide)) ?_; refine jx2 ?_; refine jd (ct_fsmall 0 zo) ?_; refine jx2 ?_; refine jd (ct_fsmall 0 zo) ?_; refine jx2 ?_; refine jd (ct_fsmall 1 zo) ?_; refine jx1 ?_; refine tO (ok_build (fun hp=>.cons rfl rfl rfl<|.cons rfl rfl rfl<|.cons rfl rfl rfl<|.cons rfl rfl rfl<|.cons rfl rfl rfl<|.nil)) rfl rfl ?_; refine jb 32 rfl ?_; refine jx6 ?_
  refine tO (ok_lendP (fun hp=>hdg) rfl rfl uu (.nil)) rfl rfl ?_; refine jx7 ?_; refine jc (ct_fsmall 1 zo) ?_; refine TrL.new (ok_bsl eZ 38 (fun hp=>.cons rfl<|.nil) rfl rfl rfl rfl) rfl rfl rfl rfl ?_; refine tO (ok_nilO rfl uu) rfl rfl ?_; refine jx6 ?_; refine Tr.frzC 38 32 (by decide) rfl rfl ?_; refine jn ?_; refine Tr.frzB 32 [32,5,33,35,39] eReal ⟨rfl,rfl,rfl,rfl,rfl,trivial⟩ rfl ?_; refine jn ?_; refine jx4 ?_
  refine Tr.for1 (σ:=Nat) [⟨5,true,_,_⟩,⟨6,true,_,_⟩] [] (fun k=>[⟨7,true,[],kI (k:Int)⟩]) (fun k=>[]) (fun k=>k=1) (fun k=>k=1) (fun k=>k) (1) zi (Ent.mk (.i rfl zi<|zk) (.nil) rfl) ?_ ?_
  ·rintro _ rfl
   refine jn ?_; refine jx8 ?_; refine Tr.cnd rfl ?_ ?_
   ·intro h9
    exact absurd h9 (by decide)
   ·intro h9
    refine jx4 ?_
    exact End.cut (1) rfl (Ent.mk (.i rfl zi<|zk) (.nil) rfl)
  ·rintro _ rfl
   refine je ?_; refine jx8 ?_; refine Tr.cnd rfl ?_ ?_
   ·intro h17
    exact absurd h17 (by decide)
   ·intro h17
    refine jx10 ?_
    exact Rts.res (fn:=Tryz.f113) (ts:=[2,3]) rfl rfl (.p rfl zi<|.i rfl zi<|.nil)

end Go.Fl

/- An empty text. -/

/- Texts of origamis, the steps of the code: lines, numerals, cutting, numbers. Plain Lean, no program in sight. -/
namespace Go.Fl
def lrow (w:Bt) (p:List Int) (k:Nat):List ByteArray:=mkS w::(p.take k).map fun x=>mkS (num x)
def decK (n:Int):Nat:=if n.natAbs<10 then 1 else 2
def decN (n:Int) (j:Nat):Int:=if j=0 then n else if j=1 then n.tdiv 10 else 0
def decS (n:Int) (j:Nat):Bt:=if j=0 then [] else if j=1 then [UInt8.ofNat (48+n.natAbs%10)] else [UInt8.ofNat (48+n.natAbs/10),UInt8.ofNat (48+n.natAbs%10)]
def dig10:ByteArray:=mkS [48,49,50,51,52,53,54,55,56,57]
def absI (n:Int):Int:=if n<0 then -n else n
def decOk (n:Int) (j:Nat):Bool:=!decide (j≤decK n) ||
  (((decide (mkS (decS n j)=mkS [])||decide (decN n j≠0))==decide (j<decK n)) &&
   (!decide (j<decK n)||(decide (dig10.extract (absI ((decN n j).tmod 10)).toNat (absI ((decN n j).tmod 10)+1).toNat++mkS (decS n j)=mkS (decS n (j+1)))&&decide ((decN n j).tdiv 10=decN n (j+1)))) &&
   decide (absI ((decN n j).tmod 10)<10)&&decide (-10<(decN n j).tmod 10)&&decide (decS n (decK n)=(if n<0 then num (-n) else num n))&&decide (-100<decN n j)&&decide (decN n j<100))
def rpT (w:Bt) (p:List Int) (k:Nat):Bt:=w++wds (p.take k)
def cutT (s:ByteArray) (c:Int):Nat→List ByteArray
  | 0=>[mkS []]
  | i+1=>if nth (bs s) i=c then cutT s c i++[mkS []] else (cutT s c i).set ((cutT s c i).length-1) (nth (cutT s c i) ((cutT s c i).length-1)++s.extract i (i+1))
def cutS (s:ByteArray) (c:Int):List ByteArray:=cutT s c s.size
def frm (s:ByteArray):Nat:=if 0<s.size∧nth (bs s) 0=45 then 1 else 0
def vT (s:ByteArray) (f:Nat):Nat→Int
  | 0=>0
  | k+1=>10*vT s f k+(nth (bs s) (f+k)-48)
def isD (s:ByteArray) (i:Nat):Prop:=48≤nth (bs s) i∧nth (bs s) i≤57
instance (s:ByteArray) (i:Nat):Decidable (isD s i):=by unfold isD; infer_instance
def numV (s:ByteArray):Int:=if frm s=1 then -vT s (frm s) (s.size-frm s) else vT s (frm s) (s.size-frm s)
def numR (s:ByteArray):Int×Bool :=
  if s.size<frm s+1∨frm s+2<s.size then (0,false)
  else if ∀k,k<s.size-frm s→isD s (frm s+k) then (numV s,decide (mkS (dcm (numV s))=s)) else (0,false)
def nmsR (l:List ByteArray):List Int×Bool:=if ∀k,k<l.length-1→(numR (nth l (k+1))).2=true then ((l.drop 1).map fun x=>(numR x).1,true) else ([],false)
def nmsT (l:List ByteArray) (k:Nat):List Int:=((l.drop 1).take k).map fun x=>(numR x).1
def isO (s:ByteArray):Ori:=((nmsR (cutS (nth (cutS s 10) 0) 32)).1,(nmsR (cutS (nth (cutS s 10) 1) 32)).1)
def isTx (s:ByteArray):Bool :=
  if (cutS s 10).length≠3∨nth (cutS s 10) 2≠mkS [] then false
  else if nth (cutS (nth (cutS s 10) 0) 32) 0≠mkS wR∨nth (cutS (nth (cutS s 10) 1) 32) 0≠mkS wU then false
  else (((nmsR (cutS (nth (cutS s 10) 0) 32)).2&&(nmsR (cutS (nth (cutS s 10) 1) 32)).2)&&decide (chkO (isO s)=0))&&decide (mkS (prt (isO s))=s)
end Go.Fl

/- Reading a text, step by step. Plain Lean, no program in sight. -/
namespace Go.Fl
def LS (s:ByteArray):List ByteArray:=(lns (dS s)).map mkS
def trS (s:ByteArray) (j:Nat):ByteArray:=mkS (Lib.trimSuffix (dS (nth (LS s) j)) [10])
def splS (s:ByteArray) (j:Nat):List ByteArray:=(Lib.split (dS (trS s j)) [32]).map mkS
def WS (s:ByteArray) (j:Nat):List ByteArray:=(splS s j).drop 1
def okW (w:ByteArray):Prop:=atO (dS w)≠none
instance (w:ByteArray):Decidable (okW w):=by unfold okW; infer_instance
def okL (s:ByteArray) (j k:Nat):Prop:=∀i,i<k→okW (nth (WS s j) i)
def okA (s:ByteArray) (j:Nat):Prop:=∀i,i<j→okL s i (WS s i).length
def vls (l:List ByteArray):List Int:=l.map fun x=>atV (dS x)
def pR (s:ByteArray) (j k:Nat):List Int:=if j=0 then vls ((WS s 0).take k) else vls (WS s 0)
def pU (s:ByteArray) (j k:Nat):List Int:=if j=0 then [] else if j=1 then vls ((WS s 1).take k) else vls (WS s 1)
end Go.Fl

/- Texts of rows, in plain Lean: what is printed is read back, by words and by cutting. No program in sight. -/
namespace Go.Fl
def cutF (acc:List Bt) (b:UInt8) (c:UInt8):List Bt:=if b=c then acc++[[]] else acc.set (acc.length-1) (acc.getD (acc.length-1) []++[b])
def cutLs (c:UInt8) (l:Bt) (acc:List Bt):List Bt:=l.foldl (fun a b=>cutF a b c) acc
def sepW (ws:List Bt):Bt:=ws.flatMap fun w=>32::w
def pmR (p:List Int) (n:Nat):Prop:=inR p n∧p.Nodup∧p.length=n
instance (p:List Int) (n:Nat):Decidable (pmR p n):=by unfold pmR; infer_instance
def chkR (r:Ori):Int:=if r.2.length≠r.1.length∨r.1.length<2∨8<r.1.length then 10 else if ¬(pmR r.1 r.1.length∧pmR r.2 r.1.length) then 3 else 0
structure RowsOk (r:Ori):Prop where
 len:r.2.length=r.1.length
 two:2≤r.1.length
 le:r.1.length≤8
 p1:pmR r.1 r.1.length
 p2:pmR r.2 r.1.length
theorem rows_of {r:Ori} (h:chkR r=0):RowsOk r:=by
 unfold chkR at h
 by_cases h1:r.2.length≠r.1.length∨r.1.length<2∨8<r.1.length
 ·rw[if_pos h1] at h; cases h
 rw[if_neg h1] at h
 by_cases h2:¬(pmR r.1 r.1.length∧pmR r.2 r.1.length)
 ·rw[if_pos h2] at h; cases h
 have h2:=Classical.not_not.1 h2
 exact ⟨by omega,by omega,by omega,h2.1,h2.2⟩
theorem chkR_of {r:Ori} (h:RowsOk r):chkR r=0:=by
 have h1:=h.len; have h2:=h.two; have h3:=h.le
 unfold chkR
 rw[if_neg zo,if_neg (fun hh=>hh ⟨h.p1,h.p2⟩)]
def wrdR (r:Ori):List Bt:=r.1.map num++[47]::r.2.map num
def prR (r:Ori):Bt:=Lib.join (wrdR r) [32]
end Go.Fl

/- Reading rows, as the program and as the reference do: both read just what is printed of rows. Plain Lean, no program in sight. -/
namespace Go.Fl
def foldO {σ α:Type} (f:σ→α→Option σ) (s:σ) (l:List α):Option σ:=l.foldl (fun o x=>o.bind fun t=>f t x) (some s)
abbrev RdS:=Bool×List Int×List Int
def stP (st:RdS) (w:Bt):Option RdS :=
 if w=[47] then some (true,st.2.1,st.2.2)
 else if atO w=none∨8<(if st.1 then st.2.2 else st.2.1).length then none
 else if st.1 then some (true,st.2.1,st.2.2++[atV w]) else some (false,st.2.1++[atV w],st.2.2)
def rdP (ws:List Bt):Option RdS:=foldO stP (false,[],[]) ws
def parP (s:Bt):Ori×Int:=match rdP (Lib.split s [32]) with
 | none=>(([],[]),7)
 | some (_,a,b)=>if chkR (a,b)=0∧prR (a,b)=s then ((a,b),0) else (([],[]),7)
def stQ (st:RdS) (w:ByteArray):Option RdS :=
 if w=mkS [47]∧st.1=false then some (true,st.2.1,st.2.2)
 else if (numR w).2=false then none
 else if st.1 then some (true,st.2.1,st.2.2++[(numR w).1]) else some (false,st.2.1++[(numR w).1],st.2.2)
def rdQ (ws:List ByteArray):Option RdS:=foldO stQ (false,[],[]) ws
def parQ (s:ByteArray):Ori×Bool:=match rdQ (cutS s 32) with
 | none=>(([],[]),false)
 | some (_,a,b)=>if chkR (a,b)=0∧mkS (prR (a,b))=s then ((a,b),true) else (([],[]),false)
end Go.Fl

/- Rows: what makes them valid, in the words of both programs; irreducible rows. Plain Lean, no program in sight. -/
namespace Go.Fl
theorem nodup_take {l:List Int} {k:Nat} (hd:l.Nodup) (h:k<l.length):nth l k∉l.take k:=fun hm=>by
 have h1:(l.take (k+1)).Nodup:=hd.sublist (List.take_sublist _ _)
 rw[take_succ_nth h] at h1
 exact (List.nodup_append.1 h1).2.2 _ hm _ (by simp) rfl
def irrK (r:Ori) (k:Nat):Bool:=(r.1.take k).any fun a=>!decide (a∈r.2.take k)
def irrR (r:Ori):Bool:=decide (∀k,k<r.1.length→1≤k→irrK r k=true)
def samK (r:Ori) (k i:Nat):Bool:=(r.2.take i).all fun a=>decide (a∈r.1.take k)
end Go.Fl

/- Contracts: the library, the base, rows (chapter 5). -/
namespace Go.Fl
open Go Go.Proofs
open TrL renaming op→tO
open RunD renaming op→rO
set_option maxRecDepth 100000


theorem ct_Ints (a b:List Int):Ct Tryz.prog 23 [kRd (eL eI) a,kRd (eL eI) b] (kB (decide (a=b))):=by
 refine Ct.mk Tryz.func23 rfl Tryz.ntmps23 rfl (fun w J=>?_); refine Tr.fact (s:=0) rfl (fun _ _ h=>lenB h) (fun hb=>?_); refine jx15 ?_; refine jq ?_ ?_
 ·intro h1
  refine jx7 ?_; exact Rts.res1 (fn:=Tryz.f23) rfl (.b rfl (by symm; rw[decide_eq_false_iff_not]; intro e; exact h1 (by rw[e]))<|.nil)
 ·intro h1
  replace h1:=Classical.not_not.1 h1
  refine jx8 ?_
  refine Tr.for1 (σ:=Nat) [⟨0,true,_,_⟩,⟨1,true,_,_⟩] [] (fun k=>[⟨5,true,[],kI (k:Int)⟩]) (fun k=>[]) (fun k=>k≤a.length∧∀i,i<k→nth a i=nth b i) (fun k=>a=b) (fun k=>a.length-k) (0) ⟨Nat.zero_le _,fun i h=>absurd h zo⟩ (Ent.mk (.i rfl zi<|zk) (.nil) rfl) ?_ ?_
  ·rintro k ⟨hk0,hR0⟩
   refine jn ?_; refine jx9 ?_; refine jq ?_ ?_
   ·intro h4
    refine jx5 ?_; refine Tr.draw 8 mixed (by kernel_rfl) ?_; refine jx12 ?_; refine jq ?_ ?_
    ·intro h6
     refine jx12 ?_; exact Rts.res1 (fn:=Tryz.f23) rfl (.b rfl (by symm; rw[decide_eq_false_iff_not]; intro e; exact h6 (by rw[e]))<|.nil)
    ·intro h6
     replace h6:=Classical.not_not.1 h6
     refine jx8 ?_
     exact End.lp (k+1) ⟨by omega,all_succ hR0 h6⟩ zo (Ent.mk (.i rfl zi<|zk) (.nil) rfl)
   ·intro h4
    replace h4:=Int.not_lt.1 h4
    refine jx4 ?_
    exact End.cut (k) (ext_nth zo (fun i hi=>hR0 i zo)) (Ent.mk (.i rfl zi<|zk) (.nil) rfl)
  ·intro k hE0
   refine je ?_; refine jx7 ?_; exact Rts.res1 (fn:=Tryz.f23) rfl (.b rfl (by symm; rw[decide_eq_true_eq]; exact hE0)<|.nil)

theorem ct_permuted (l:List Int) (n:Nat) (hn:n≤100):Ct Tryz.prog 153 [kRd (eL eI) l,kI (n:Int)] (kB (decide (pmR l n))):=by
 refine Ct.mk Tryz.func153 rfl Tryz.ntmps153 rfl (fun w J=>?_); refine Tr.fact (s:=0) rfl (fun _ _ h=>lenB h) (fun hb=>?_); refine jx8 ?_; refine TrL.new (ok_makeN eBool 9 rfl uu rfl uu rfl rfl rfl (fun _=>zo)) rfl rfl rfl rfl ?_; refine jx11 ?_
 refine Tr.for1 (σ:=Nat) [⟨0,true,_,_⟩,⟨1,true,_,_⟩,⟨5,true,_,_⟩,⟨10,true,_,_⟩,⟨11,true,_,_⟩] [] (fun k=>[⟨12,true,[],kI (k:Int)⟩]) (fun k=>[⟨9,[],cArr false 4 eBool (seenB n (l.take k)) n⟩]) (fun k=>k≤l.length∧(∀i,i<k→0≤nth l i∧nth l i<n)∧(l.take k).Nodup) (fun k=>inR l n∧l.Nodup) (fun k=>l.length-k) (0) ⟨by omega,fun i h=>absurd h zo,by simp⟩ (Ent.mk (.i rfl zi<|zk) (.a (by simp[seenB_nil]) zi<|.nil) rfl) ?_ ?_
 ·rintro k ⟨hk,hR,hD⟩
  refine jn ?_; refine jx6 ?_; refine jq ?_ ?_
  ·intro h3
   refine jx24 ?_
   first | refine TrL.gd rfl rfl rfl (ok_idxEN rfl id rfl id (fun hp=>by simp at hp; omega)) rfl rfl ?_ | refine TrL.gd rfl rfl rfl (ok_idxE rfl id rfl id (fun hp=>by simp at hp; omega)) rfl rfl ?_
   refine jx4 ?_; refine Tr.cnd rfl ?_ ?_
   ·intro h5
    have hbad:¬(0≤nth l k∧nth l k<n∧nth l k∉l.take k):=by (rintro ⟨a,b,c⟩; simp only[Bool.or_eq_true,decide_eq_true_eq,nth_seenB' a b] at h5; rcases h5 with (h | h) | h; omega; omega; exact c h)
    refine jx13 ?_; exact Rts.res1 (fn:=Tryz.f153) rfl (.b rfl (by symm; rw[decide_eq_false_iff_not]; rintro ⟨hh1,hh2,_⟩; exact hbad ⟨(hh1 k zo).1,(hh1 k zo).2,nodup_take hh2 zo⟩)<|.nil)
   ·intro h5
    have hgood:0≤nth l k∧nth l k<n∧nth l k∉l.take k:=by (simp only[Bool.or_eq_false_iff,decide_eq_false_iff_not] at h5; obtain ⟨⟨q1,q2⟩,q3⟩:=h5; have a:0≤nth l k:=zo; have b:nth l k<n:=zo; rw[nth_seenB' a b] at q3; exact ⟨a,b,of_decide_eq_false q3⟩)
    refine jx14 ?_
    exact End.lp (k+1) ⟨by omega,all_succ hR ⟨hgood.1,hgood.2.1⟩,by (rw[take_succ_nth zo]; exact nodup_snoc hD (decide_eq_false hgood.2.2))⟩ zo (Ent.mk (.i rfl zi<|zk) (.a (by rw[take_succ_nth zo,seenB_set zo]) zi<|.nil) rfl)
  ·intro h3
   replace h3:=Int.not_lt.1 h3
   refine jx4 ?_
   exact End.cut (k) ⟨fun i hi=>hR i zo,by (rw[List.take_of_length_le zo] at hD; exact hD)⟩ (Ent.mk (.i rfl zi<|zk) (.a zi zi<|.nil) rfl)
 ·rintro k ⟨hr,hd⟩
  refine je ?_; refine jx11 ?_; exact Rts.res1 (fn:=Tryz.f153) rfl (.b rfl (by rw[Bool.eq_iff_iff,decide_eq_true_eq,decide_eq_true_eq]; exact ⟨fun e=>⟨hr,hd,by omega⟩,fun e=>by have:=e.2.2; omega⟩)<|.nil)

theorem ct_eCheckRows (r:Ori):Ct Tryz.prog 108 [kRd eO r] (kI (chkR r)):=by
 refine Ct.mk Tryz.func108 rfl Tryz.ntmps108 rfl (fun w J=>?_); refine jx2 ?_; refine jb 1 rfl ?_; refine jx31 ?_; refine Tr.cnd rfl ?_ ?_
 ·intro h2
  try simp only[decide_eq_true_eq,Bool.or_eq_true,ne_eq] at h2
  refine jx8 ?_; exact Rts.res1 (fn:=Tryz.f108) rfl (.i rfl (by unfold chkR; rw[if_pos zo])<|.nil)
 ·intro h2
  try simp only[decide_eq_false_iff_not,Bool.or_eq_false_iff,Int.not_lt,ne_eq,Classical.not_not] at h2
  refine jx5 ?_; refine tO (ok_call (fun hp=>ct_permuted _ _ zo) (.a rfl uu<|.a rfl uu<|.nil)) rfl rfl ?_; refine jx5 ?_; refine TrL.gd rfl rfl rfl (ok_call (fun hp=>ct_permuted _ _ zo) (.a rfl id<|.a rfl id<|.nil)) rfl rfl ?_; refine jx5 ?_; refine Tr.cnd rfl ?_ ?_
  ·intro h4
   try simp only[decide_eq_false_iff_not,Bool.or_eq_true,Bool.not_eq_true'] at h4
   refine jx8 ?_; exact Rts.res1 (fn:=Tryz.f108) rfl (.i rfl (by unfold chkR; rw[if_neg zo,if_pos (fun hh=>h4.elim (fun h=>h hh.1) (fun h=>h hh.2))])<|.nil)
  ·intro h4
   try simp only[decide_eq_true_eq,Bool.not_eq_false',Bool.or_eq_false_iff] at h4
   refine jx9 ?_; exact Rts.res1 (fn:=Tryz.f108) rfl (.i rfl (by unfold chkR; rw[if_neg zo,if_neg (fun hh=>hh h4)])<|.nil)

end Go.Fl

/- Numbers of a field: what is handed back is taken as it was. No program in sight. -/
namespace Go.Fl
open Go
theorem gL_neg:∀{cs:List Int} {g:Nat},gL g (cs.map fun z=>-z)=gL g cs
 | [],_=>rfl
 | c::cs,g=>by rw[List.map_cons,gL,gL,Int.natAbs_neg,gL_neg]
theorem ediv_neg_of {a g:Int} (h:g∣a):-a/g=-(a/g):=by
 obtain ⟨q,rfl⟩:=h
 by_cases hg:g=0
 ·subst hg; simp
 ·rw[Int.mul_ediv_cancel_left _ hg,← Int.mul_neg,Int.mul_ediv_cancel_left _ hg]
theorem low_negc {cs:List Int} {d:Int}:loN (cs.map fun z=>-z) d=((loN cs d).1.map (fun z=>-z),(loN cs d).2):=by
 have e:sgG d (cs.map fun z=>-z)=sgG d cs:=by unfold sgG; rw[gL_neg]
 unfold loN
 rw[e,List.map_map,List.map_map]
 refine Prod.ext (List.map_congr_left fun c hc=>?_) rfl
 exact ediv_neg_of (sgG_dvd (.inr hc))
theorem low_low {cs:List Int} {d:Int} (hd:d≠0):loN (loN cs d).1 (loN cs d).2=loN cs d:=by
 have h2:=low_pos (cs:=cs) hd
 refine low_eq zo hd ?_
 show ((cs.map fun c=>c/sgG d cs).map fun c=>c*d)=cs.map fun c=>c*(d/sgG d cs)
 rw[List.map_map]
 refine List.map_congr_left fun c hc=>?_
 obtain ⟨q,hq⟩:=sgG_dvd (d:=d) (cs:=cs) (.inr hc)
 obtain ⟨t,ht⟩:=sgG_dvd (d:=d) (cs:=cs) (.inl rfl)
 have h0:=sgG_ne (cs:=cs) hd
 show c/sgG d cs*d=c*(d/sgG d cs)
 have e1:c/sgG d cs=q:=by rw[congrArg (·/sgG d cs) hq]; exact Int.mul_ediv_cancel_left _ h0
 have e2:d/sgG d cs=t:=by rw[congrArg (·/sgG d cs) ht]; exact Int.mul_ediv_cancel_left _ h0
 rw[e1,e2]
 calc q*d=q*(sgG d cs*t):=by rw[← ht]
  _=sgG d cs*q*t:=by rw[← Int.mul_assoc,Int.mul_comm q]
  _=c*t:=by rw[← hq]
abbrev NvT:=List Int×Int
structure RedN (p:List Int) (v:NvT):Prop where
 len:v.1.length=4
 pos:0<v.2
 hi:∀i,p.length-1≤i→nth v.1 i=0
 loN:loN v.1 v.2=v
theorem zero_ediv {g:Int}:(0:Int)/g=0:=by simp
theorem low_hi {cs:List Int} {d:Int} {i:Nat} (h:nth cs i=0):nth (loN cs d).1 i=0:=by
 by_cases hl:i<cs.length
 ·rw[nth_low hl,h,zero_ediv]
 ·rw[nth_out (by rw[low_len]; omega)]; rfl
theorem low_RedN {p cs:List Int} {d:Int} (hl:cs.length=4) (hd:d≠0) (h:∀i,p.length-1≤i→nth cs i=0):RedN p (loN cs d):=⟨low_len.trans hl,low_pos hd,fun i hi=>low_hi (h i hi),low_low hd⟩
theorem take_RedN {p:List Int} {x:List (List Int)×List Int} (_:PolOk p):RedN p (takeN p x):=low_RedN pad_len denN_ne fun i hi=>by
 by_cases h:i<4
 ·rw[nth_pad h,nth_out (by rw[red_len]; exact hi)]; rfl
 ·rw[nth_out (by rw[pad_len]; omega)]; rfl
theorem add_RedN {p:List Int} {x y:NvT} (hx:RedN p x) (hy:RedN p y):RedN p (adV x y):=low_RedN tab_len (by have:=Int.mul_pos hx.pos hy.pos; omega) fun i hi=>by
 by_cases h:i<4
 ·rw[nth_tab h,hx.hi i hi,hy.hi i hi]; simp
 ·rw[nth_out (by rw[tab_len]; omega)]; rfl
def negV (v:NvT):NvT:=(v.1.map (fun z=>-z),v.2)
def subV (x y:NvT):NvT:=adV x (negV y)
theorem nth_neg {xs:List Int} {i:Nat}:nth (xs.map fun z=>-z) i=-nth xs i:=by
 by_cases h:i<xs.length
 ·simp[nth,h]
 ·rw[nth_out (by rw[List.length_map]; omega),nth_out zo]; rfl
theorem neg_RedN {p:List Int} {x:NvT} (hx:RedN p x):RedN p (negV x):=by
 refine ⟨by show (x.1.map _).length=4; rw[List.length_map,hx.len],hx.pos,fun i hi=>by show nth (x.1.map _) i=0; rw[nth_neg,hx.hi i hi]; rfl,?_⟩
 show loN (x.1.map fun z=>-z) x.2=negV x
 rw[low_negc,hx.loN]; rfl
theorem sub_RedN {p:List Int} {x y:NvT} (hx:RedN p x) (hy:RedN p y):RedN p (subV x y):=add_RedN hx (neg_RedN hy)
theorem sub_NBd {x y:NvT} {j k:Nat} (hx:NBd j x) (hy:NBd k y):NBd (j+k+1) (subV x y):=add_NBd hx (neg_NBd hy)
theorem NBd.mono {j k:Nat} {v:NvT} (h:NBd j v) (hjk:j≤k):NBd k v:=⟨fun i=>Nat.le_trans (h.c i) hjk,Nat.le_trans h.d hjk,h.pos,h.len⟩
theorem trim_app {xs:List Int}:∃k,xs=trimL xs++List.replicate k 0∧xs.length=(trimL xs).length+k:=by
 induction xs with
 | nil=>exact ⟨0,rfl,rfl⟩
 | cons x xs ih =>
  obtain ⟨k,h1,h2⟩:=ih
  simp only[trimL]
  split
  ·rename_i h
   obtain ⟨q1,q2⟩:trimL xs=[]∧x=0:=by first | exact h | simpa using h | exact ⟨by assumption,by assumption⟩
   rw[q1] at h1 h2
   refine ⟨k+1,?_,by simp at h2 ⊢; omega⟩
   rw[List.nil_append,List.replicate_succ,q2]
   rw[List.nil_append] at h1
   exact congrArg _ h1
  ·exact ⟨k,by rw[List.cons_append,← h1],by simp only[List.length_cons]; omega⟩
theorem nth_trim {xs:List Int} {i:Nat}:nth (trimL xs) i=nth xs i:=by
 obtain ⟨k,h1,_⟩:=trim_app (xs:=xs)
 conv=>rhs; rw[h1]
 rw[nth_app0]
 split
 ·rfl
 ·rw[nth_out zo]; rfl
theorem trim_len_le {xs:List Int} {n:Nat} (h:∀i,n≤i→nth xs i=0):(trimL xs).length≤n:=by
 refine Classical.byContradiction fun hn=>?_
 have hne:trimL xs≠[]:=fun e=>by rw[e] at hn; simp at hn
 have hl:=trim_last hne
 have:=h ((trimL xs).length-1) zo
 rw[← nth_trim] at this
 refine hl ?_
 rw[List.getLast_eq_getElem]
 have hlt:(trimL xs).length-1<(trimL xs).length:=by omega
 simpa [nth,List.getD,List.getElem?_eq_getElem hlt] using this
theorem map_val {xs:List Int}:((xs.map lstZ).map val)=xs:=by
 rw[List.map_map]
 conv=>rhs; rw[← List.map_id xs]
 exact List.map_congr_left fun c _=>lst_val c
theorem take_give {p:List Int} {v:NvT} (hv:RedN p v):takeN p (giveN v)=v:=by
 unfold takeN giveN
 show loN (pad p (((trimL v.1).map lstZ).map val)) (denN (lstZ v.2))=v
 have h0:=hv.pos
 rw[map_val,show denN (lstZ v.2)=v.2 by unfold denN; rw[lst_val,if_neg zo]]
 have e:pad p (trimL v.1)=v.1:=by
  unfold pad
  rw[red_short rfl (trim_len_le hv.hi)]
  conv=>rhs; rw[tab_nth hv.len]
  refine tab_congr fun i _=>?_
  rw[nth_app0,nth_trim]
  split
  ·rfl
  ·rw[← nth_trim,nth_out zo]; rfl
 rw[e,hv.loN]
theorem give_NumOk {v:NvT} {k:Nat} (hv:NBd k v):NumOk k (giveN v):=by
 refine ⟨?_,fun i=>?_,lst_in _,by show (lstZ v.2).length≤k; rw[lst_len]; exact hv.d⟩
 ·show ((trimL v.1).map lstZ).length≤6
  have:=trim_len (xs:=v.1)
  rw[List.length_map]
  have:=hv.len
  omega
 ·show InI (nth ((trimL v.1).map lstZ) i)∧(nth ((trimL v.1).map lstZ) i).length≤k
  have e:nth ((trimL v.1).map lstZ) i=lstZ (nth v.1 i):=by
   rw[← nth_trim]
   by_cases h:i<(trimL v.1).length
   ·simp[nth,h]
   ·rw[nth_out (by rw[List.length_map]; omega),nth_out zo]; rfl
  rw[e]
  exact ⟨lst_in _,by rw[lst_len]; exact hv.c i⟩
def intV (n:Int):NvT:=([n,0,0,0],1)
theorem sgG_one {cs:List Int}:sgG 1 cs=1:=by
 have h1:=gL_le (c:=cs) (g:=1) zo
 have h2:=gL_pos (cs:=cs) (g:=1) zo
 unfold sgG
 rw[if_neg zo]
 show ((gL 1 cs:Nat):Int)=1
 omega
theorem low_one {cs:List Int}:loN cs 1=(cs,1):=by
 unfold loN
 rw[sgG_one]
 simp
theorem int_RedN {p:List Int} (hp:PolOk p) (n:Int):RedN p (intV n):=by
 refine ⟨rfl,by show (0:Int)<1; omega,fun i hi=>?_,low_one⟩
 have:=hp.1.1
 show nth [n,0,0,0] i=0
 match i,hi with
 | 0,h=>omega
 | 1,_=>rfl
 | 2,_=>rfl
 | 3,_=>rfl
 | i+4,_=>rw[nth_out (by simp)]; rfl
theorem int_NBd {n:Int} (hn:-9223372036854775808≤n∧n≤9223372036854775807):NBd 3 (intV n):=⟨fun i=>dl_four (k:=0) (dl_int hn) i,by have:=dl_int (n:=1) zo; exact this,by show (0:Int)<1; omega,rfl⟩
theorem add_int {m n:Int}:adV (intV m) (intV n)=intV (m+n):=by
 unfold adV intV
 rw[show (1:Int)*1=1 by rfl,low_one]
 simp[tab,List.range,List.range.loop,nth]
theorem sub_int {m n:Int}:subV (intV m) (intV n)=intV (m-n):=by
 have e:negV (intV n)=intV (-n):=by simp[negV,intV]
 unfold subV
 rw[e,add_int,Int.sub_eq_add_neg]
end Go.Fl

/- Places of intervals, and what is computed of an exchange. No program in sight. -/
namespace Go.Fl
open Go
def ptV (ls:List NvT) (row:List Int):Nat→NvT
 | 0=>intV 0
 | k+1=>adV (ptV ls row k) (nth ls (nth row k).toNat)
def plP (ls:List NvT) (row:List Int) (k:Nat):List (List (List Int)×List Int):=tab row.length fun a=>if row.idxOf (a:Int)<k then giveN (ptV ls row (row.idxOf (a:Int))) else ([],[])
def plV (ls:List NvT) (row:List Int):List NvT:=tab row.length fun a=>ptV ls row (row.idxOf (a:Int))
def totV (ls:List NvT) (row:List Int):NvT:=ptV ls row row.length
def awV (r:List Int×List Int) (ls:List NvT) (k:Nat):List NvT:=tab k fun a=>subV (nth (plV ls r.2) a) (nth (plV ls r.1) a)
theorem plP_zero {ls:List NvT} {row:List Int}:plP ls row 0=List.replicate row.length ([],[]):=by
 unfold plP
 rw[tab_congr (G:=fun _=>([],[])) fun a _=>by simp]
 simp[tab,List.map_const']
theorem idx_pm {row:List Int} {n k:Nat} (h:pmR row n) (hk:k<row.length):row.idxOf (nth row k)=k:=idxOf_nth hk fun i hi e=>by
 have:=nodup_nth h.2.1 zo hk e
 omega
theorem plP_succ {ls:List NvT} {row:List Int} {n k:Nat} (h:pmR row n) (hk:k<row.length):(plP ls row k).set (nth row k).toNat (giveN (ptV ls row k))=plP ls row (k+1):=by
 have hr:=h.1 k hk
 have hl:=h.2.2
 unfold plP
 rw[tab_set]
 refine tab_congr fun a ha=>?_
 by_cases e:a=(nth row k).toNat
 ·subst e
  have hi:row.idxOf (((nth row k).toNat:Nat):Int)=k:=by rw[show (((nth row k).toNat:Nat):Int)=nth row k by omega]; exact idx_pm h hk
  rw[if_pos rfl,hi,if_pos zo]
 ·have hne:row.idxOf (a:Int)≠k:=fun hi=>e (by
   obtain ⟨j,hj,hja⟩:=perm_mem h.2.1 h.1 h.2.2 (x:=(a:Int)) zo zo
   have:=idx_pm h (k:=j) zo
   rw[hja,hi] at this
   subst this
   omega)
  rw[if_neg e]
  by_cases h1:row.idxOf (a:Int)<k
  ·rw[if_pos h1,if_pos zo]
  ·rw[if_neg h1,if_neg zo]
theorem plP_end {ls:List NvT} {row:List Int} {n:Nat} (h:pmR row n):plP ls row row.length=(plV ls row).map giveN:=by
 unfold plP plV
 simp only[tab,List.map_map]
 refine List.map_congr_left fun a ha=>?_
 have ha:a<row.length:=List.mem_range.1 ha
 have hl:=h.2.2
 obtain ⟨j,hj,hja⟩:=perm_mem h.2.1 h.1 h.2.2 (x:=(a:Int)) zo zo
 have hm:(a:Int)∈row:=by rw[← hja]; exact nth_mem zo
 show (if _ then _ else _)=giveN (ptV ls row (row.idxOf (a:Int)))
 rw[if_pos (List.idxOf_lt_length_of_mem hm)]
def HB (D:Int) (M:Nat) (v:NvT):Prop:=∃cs:List Int,cs.length=4∧v=loN cs D∧∀i,(nth cs i).natAbs≤M
theorem low_cross {cs:List Int} {D:Int} (hD:D≠0) (i:Nat):nth (loN cs D).1 i*D=nth cs i*(loN cs D).2:=by
 by_cases h:i<cs.length
 ·rw[nth_low h]
  obtain ⟨q,hq⟩:=sgG_dvd (d:=D) (cs:=cs) (.inr (nth_mem' h))
  obtain ⟨t,ht⟩:=sgG_dvd (d:=D) (cs:=cs) (.inl rfl)
  have h0:=sgG_ne (cs:=cs) hD
  show nth cs i/sgG D cs*D=nth cs i*(D/sgG D cs)
  have e1:nth cs i/sgG D cs=q:=by rw[congrArg (·/sgG D cs) hq]; exact Int.mul_ediv_cancel_left _ h0
  have e2:D/sgG D cs=t:=by rw[congrArg (·/sgG D cs) ht]; exact Int.mul_ediv_cancel_left _ h0
  rw[e1,e2]
  calc q*D=q*(sgG D cs*t):=by rw[← ht]
   _=sgG D cs*q*t:=by rw[← Int.mul_assoc,Int.mul_comm q]
   _=nth cs i*t:=by rw[← hq]
 ·rw[nth_out (by rw[low_len]; omega),nth_out zo]
  show (0:Int)*D=0*_
  rw[Int.zero_mul,Int.zero_mul]
theorem tab_mul {F:Nat→Int} {k:Nat} {m:Int}:(tab k F).map (fun c=>c*m)=tab k fun i=>F i*m:=by simp[tab]
theorem HB.add {D:Int} {M M':Nat} {x y:NvT} (hD:0<D) (hx:HB D M x) (hy:HB D M' y):HB D (M+M') (adV x y):=by
 obtain ⟨cs,h1,rfl,h3⟩:=hx
 obtain ⟨cs',h1',rfl,h3'⟩:=hy
 have hD0:D≠0:=by omega
 refine ⟨tab 4 fun i=>nth cs i+nth cs' i,tab_len,?_,fun i=>?_⟩
 ·have p1:=low_pos (cs:=cs) hD0
  have p2:=low_pos (cs:=cs') hD0
  have p3:=Int.mul_pos p1 p2
  refine low_eq zo hD0 ?_
  rw[tab_mul,tab_mul]
  refine tab_congr fun i _=>?_
  have e1:=low_cross (cs:=cs) hD0 i
  have e2:=low_cross (cs:=cs') hD0 i
  generalize nth (loN cs D).1 i=a at *
  generalize nth (loN cs' D).1 i=b at *
  generalize (loN cs D).2=c at *
  generalize (loN cs' D).2=d at *
  generalize nth cs i=u at *
  generalize nth cs' i=v at *
  calc (a*d+b*c)*D=(a*D)*d+(b*D)*c:=by rw[Int.add_mul,Int.mul_assoc,Int.mul_comm d D,← Int.mul_assoc,Int.mul_assoc b,Int.mul_comm c D,← Int.mul_assoc b]
   _=u*c*d+v*d*c:=by rw[e1,e2]
   _=(u+v)*(c*d):=by rw[Int.add_mul,Int.mul_assoc,Int.mul_assoc v,Int.mul_comm d c]
 ·by_cases h:i<4
  ·rw[nth_tab h]; have:=h3 i; have:=h3' i; omega
  ·rw[nth_out (by rw[tab_len]; omega)]; show (0:Int).natAbs≤_; omega
theorem HB.neg {D:Int} {M:Nat} {x:NvT} (hx:HB D M x):HB D M (negV x):=by
 obtain ⟨cs,h1,rfl,h3⟩:=hx
 refine ⟨cs.map fun z=>-z,by rw[List.length_map,h1],low_negc.symm,fun i=>?_⟩
 rw[nth_neg,Int.natAbs_neg]
 exact h3 i
theorem HB.sub {D:Int} {M M':Nat} {x y:NvT} (hD:0<D) (hx:HB D M x) (hy:HB D M' y):HB D (M+M') (subV x y):=hx.add hD hy.neg
theorem HB.mono {D:Int} {M M':Nat} {x:NvT} (hx:HB D M x) (h:M≤M'):HB D M' x:=let ⟨cs,h1,h2,h3⟩:=hx; ⟨cs,h1,h2,fun i=>Nat.le_trans (h3 i) h⟩
theorem HB.nbd {D:Int} {M k:Nat} {x:NvT} (hx:HB D M x) (hD:0<D) (h1:dl D≤k) (h2:dl (M:Int)≤k):NBd k x:=by
 obtain ⟨cs,l,rfl,h3⟩:=hx
 exact low_NBd (fun i=>Nat.le_trans (digN_len_le (h3 i)) h2) h1 zo l
theorem HB.scale {D m:Int} {M:Nat} {x:NvT} (hx:HB D M x) (hD:0<D) (hm:0<m):HB (D*m) (M*m.natAbs) x:=by
 obtain ⟨cs,l,rfl,h3⟩:=hx
 refine ⟨cs.map fun c=>c*m,by rw[List.length_map,l],(low_scale zo zo).symm,fun i=>?_⟩
 by_cases h:i<cs.length
 ·have e:nth (cs.map fun c=>c*m) i=nth cs i*m:=by simp[nth,h]
  rw[e,Int.natAbs_mul]
  exact Nat.mul_le_mul_right _ (h3 i)
 ·rw[nth_out (by rw[List.length_map]; omega)]; show (0:Int).natAbs≤_; omega
theorem HB.zero {D:Int} (hD:0<D):HB D 0 (intV 0):=by
 refine ⟨[0,0,0,0],rfl,?_,fun i=>?_⟩
 ·have:intV 0=loN [0,0,0,0] 1:=low_one.symm
  rw[this]
  refine low_eq (by decide) zo ?_
  simp
 ·match i with
  | 0=>exact Nat.le_refl _
  | 1=>exact Nat.le_refl _
  | 2=>exact Nat.le_refl _
  | 3=>exact Nat.le_refl _
  | i+4=>rw[nth_out (by simp)]; exact Nat.le_refl _
theorem HB.self {p:List Int} {v:NvT} {M:Nat} (h:RedN p v) (hM:∀i,(nth v.1 i).natAbs≤M):HB v.2 M v:=⟨v.1,h.len,h.loN.symm,hM⟩
theorem natAbs_bd {v:NvT} {k:Nat} (h:NBd k v):∃M:Nat,dl (M:Int)≤k∧∀i,(nth v.1 i).natAbs≤M:=by
 refine ⟨max (max (nth v.1 0).natAbs (nth v.1 1).natAbs) (max (nth v.1 2).natAbs (nth v.1 3).natAbs),?_,fun i=>?_⟩
 ·have e:∀z:Int,dl ((z.natAbs:Nat):Int)=dl z:=fun z=>by unfold dl; rw[Int.natAbs_natCast]
  have h0:=h.c 0; have h1:=h.c 1; have h2:=h.c 2; have h3:=h.c 3
  rw[← e] at h0 h1 h2 h3
  rcases Nat.le_total (nth v.1 0).natAbs (nth v.1 1).natAbs with q1 | q1<;>rcases Nat.le_total (nth v.1 2).natAbs (nth v.1 3).natAbs with q2 | q2<;>simp only[Nat.max_eq_left q1,Nat.max_eq_right q1,Nat.max_eq_left q2,Nat.max_eq_right q2]<;>rw[Nat.max_def]<;>split<;>assumption
 ·by_cases hi:i<4
  ·rcases (show i=0∨i=1∨i=2∨i=3 by omega) with rfl | rfl | rfl | rfl<;>omega
  ·rw[nth_out (by rw[h.len]; omega)]; show (0:Int).natAbs≤_; omega
theorem HB.all {p:List Int} {k:Nat}:∀{ls:List NvT},(∀v∈ls,RedN p v∧NBd k v)→∃(D:Int) (M:Nat),0<D∧dl D≤ls.length*k+1∧dl (M:Int)≤ls.length*k+1∧∀v∈ls,HB D M v
 | [],_=>⟨1,1,by omega,by rw[List.length_nil,Nat.zero_mul]; exact dl_small zo zo,by rw[List.length_nil,Nat.zero_mul]; exact dl_small zo zo,fun v h=>by cases h⟩
 | v::ls,h=>by
  obtain ⟨D,M,h1,h2,h3,h4⟩:=HB.all (ls:=ls) fun x hx=>h x (List.mem_cons_of_mem _ hx)
  obtain ⟨hr,hb⟩:=h v List.mem_cons_self
  obtain ⟨Mv,m1,m2⟩:=natAbs_bd hb
  have hs:=HB.self hr m2
  have e:(v::ls).length*k+1=ls.length*k+1+k:=by rw[List.length_cons,Nat.succ_mul]; omega
  have d1:=dl_mul D v.2
  have d2:=hb.d
  have d3:=dl_mul (M:Int) v.2
  have d4:=dl_mul (Mv:Int) D
  have hv:((v.2.natAbs:Nat):Int)=v.2:=by have:=hb.pos; omega
  have hDa:((D.natAbs:Nat):Int)=D:=by omega
  refine ⟨D*v.2,max (M*v.2.natAbs) (Mv*D.natAbs),Int.mul_pos h1 hb.pos,by omega,?_,fun x hx=>?_⟩
  ·rw[Nat.max_def]
   split
   ·rw[Int.natCast_mul,hDa]; omega
   ·rw[Int.natCast_mul,hv]; omega
  ·rcases List.mem_cons.1 hx with rfl | hx
   ·have:=hs.scale hb.pos h1
    rw[Int.mul_comm] at this
    exact this.mono (Nat.le_max_right _ _)
   ·exact ((h4 x hx).scale h1 hb.pos).mono (Nat.le_max_left _ _)
structure LenOk (p:List Int) (D:Int) (M n:Nat) (ls:List NvT):Prop where
 len:ls.length=n
 red:∀a,a<n→RedN p (nth ls a)
 hb:∀a,a<n→HB D M (nth ls a)
 pos:0<D
 bD:dl D≤200
 bM:dl ((100000*M:Nat):Int)≤200
theorem LenOk.nbd {p:List Int} {D:Int} {M n m:Nat} {ls:List NvT} (h:LenOk p D M n ls) {v:NvT} (hv:HB D (m*M) v) (hm:m≤100000):NBd 200 v :=
 hv.nbd h.pos h.bD (Nat.le_trans (digN_len_le (by rw[Int.natAbs_natCast,Int.natAbs_natCast]; exact Nat.mul_le_mul_right _ hm)) h.bM)
theorem LenOk.one {p:List Int} {D:Int} {M n a:Nat} {ls:List NvT} (h:LenOk p D M n ls) (ha:a<n):NBd 200 (nth ls a):=h.nbd (m:=1) (by rw[Nat.one_mul]; exact h.hb a ha) zo
theorem pt_ok {p:List Int} {D:Int} {M n:Nat} {ls:List NvT} {row:List Int} (hp:PolOk p) (h:LenOk p D M n ls) (hr:pmR row n):∀k,k≤n→RedN p (ptV ls row k)∧HB D (k*M) (ptV ls row k)
 | 0,_=>⟨int_RedN hp 0,by rw[Nat.zero_mul]; exact HB.zero h.pos⟩
 | k+1,hk=>by
  obtain ⟨h1,h2⟩:=pt_ok hp h hr k zo
  have hrk:=hr.1 k (by have:=hr.2.2; omega)
  refine ⟨add_RedN h1 (h.red _ zo),?_⟩
  rw[Nat.succ_mul]
  exact h2.add h.pos (h.hb _ zo)
theorem nth_mapG {xs:List NvT} {i:Nat} (h:i<xs.length):nth (xs.map giveN) i=giveN (nth xs i):=by simp[nth,h]
theorem plV_len {ls:List NvT} {row:List Int}:(plV ls row).length=row.length:=tab_len
theorem plV_ok {p:List Int} {D:Int} {M n:Nat} {ls:List NvT} {row:List Int} (hp:PolOk p) (h:LenOk p D M n ls) (hr:pmR row n) {a:Nat} (ha:a<n):RedN p (nth (plV ls row) a)∧HB D (n*M) (nth (plV ls row) a):=by
 have hl:=hr.2.2
 obtain ⟨j,hj,hja⟩:=perm_mem hr.2.1 hr.1 hl (x:=(a:Int)) zo zo
 have hi:row.idxOf (a:Int)=j:=by rw[← hja]; exact idx_pm hr zo
 unfold plV
 rw[nth_tab zo,hi]
 obtain ⟨h1,h2⟩:=pt_ok hp h hr j zo
 exact ⟨h1,h2.mono (Nat.mul_le_mul_right _ zo)⟩
theorem nth_mapT {p:List Int} {xs:List (List (List Int)×List Int)} {a:Nat} (h:a<xs.length):nth (xs.map (takeN p)) a=takeN p (nth xs a):=by simp[nth,h]
theorem take_LenOk {p:List Int} {xs:List (List (List Int)×List Int)} {n:Nat} (hp:PolOk p) (hl:xs.length=n) (hn:n≤8) (h:∀a,a<n→NumOk 2 (nth xs a)) {more:List NvT} (hm:more.length≤2) (hmo:∀v∈more,RedN p v∧NBd 17 v):∃(D:Int) (M:Nat),LenOk p D M n (xs.map (takeN p))∧∀v∈more,HB D M v:=by
 have key:∀v∈xs.map (takeN p)++more,RedN p v∧NBd 17 v:=fun v hv=>by
  rcases List.mem_append.1 hv with hv | hv
  ·obtain ⟨x,hx,rfl⟩:=List.mem_map.1 hv
   obtain ⟨i,hi,rfl⟩:=List.mem_iff_getElem.1 hx
   have e:nth xs i=xs[i]:=by simp[nth,hi]
   rw[← e]
   exact ⟨take_RedN hp,take_NBd hp (h i zo)⟩
  ·exact hmo v hv
 obtain ⟨D,M,h1,h2,h3,h4⟩:=HB.all key
 have hll:(xs.map (takeN p)++more).length≤10:=by rw[List.length_append,List.length_map]; omega
 have hk:=Nat.mul_le_mul_right 17 hll
 have e:∀a,a<n→nth (xs.map (takeN p)) a∈xs.map (takeN p)++more:=fun a ha=>List.mem_append_left _ (by rw[nth_mapT zo]; exact List.mem_map_of_mem (by simp[nth,hl,ha]))
 refine ⟨D,M,⟨by rw[List.length_map,hl],fun a ha=>(key _ (e a ha)).1,fun a ha=>h4 _ (e a ha),h1,by omega,?_⟩,fun v hv=>h4 v (List.mem_append_right _ hv)⟩
 have d1:=dl_mul (100000:Int) (M:Int)
 have d2:=dl_small (F:=100000) zo zo
 rw[show ((100000*M:Nat):Int)=100000*(M:Int) by omega]
 omega
end Go.Fl

/- Contracts: exchanges: places of intervals, the machine. -/
namespace Go.Fl
open Go Go.Proofs
open TrL renaming op→tO
open RunD renaming op→rO
set_option maxRecDepth 100000

abbrev ExT:=FdT×List Int×List Int×List NumT
abbrev MacT:=RlT×Ori×List NumT×List NumT×List NumT×List NumT×NumT
def eX:Enc ExT:=eC (fun v:ExT=>(v.1,v.2.1,v.2.2.1,v.2.2.2,())) (eP eFd (eP (eL eI) (eP (eL eI) (eP (eL eNum) eU))))
instance {v:ExT}:CellsK (kRd eX v) [kRd (eL eI) (v.1.1),kI (v.1.2.1),kI (v.1.2.2.1),kI (v.1.2.2.2),kRd (eL eI) (v.2.1),kRd (eL eI) (v.2.2.1),kRd (eL eNum) (v.2.2.2)]:=inferInstanceAs (CellsK (kRd (eC (fun v:ExT=>(v.1,v.2.1,v.2.2.1,v.2.2.2,())) (eP eFd (eP (eL eI) (eP (eL eI) (eP (eL eNum) eU))))) v) _)
instance {v:ExT} {tl:List Know}:EncCells eX v tl (kRd (eL eI) (v.1.1)::kI (v.1.2.1)::kI (v.1.2.2.1)::kI (v.1.2.2.2)::kRd (eL eI) (v.2.1)::kRd (eL eI) (v.2.2.1)::kRd (eL eNum) (v.2.2.2)::tl):=inferInstanceAs (EncCells (eC (fun v:ExT=>(v.1,v.2.1,v.2.2.1,v.2.2.2,())) (eP eFd (eP (eL eI) (eP (eL eI) (eP (eL eNum) eU))))) v tl _)
instance {v:ExT}:Norm eX v (kRd eX v):=⟨fun h=>h⟩
instance {v:ExT}:FieldP eX v 0 eFd (v.1) 0:=inferInstanceAs (FieldP (eC (fun v:ExT=>(v.1,v.2.1,v.2.2.1,v.2.2.2,())) (eP eFd (eP (eL eI) (eP (eL eI) (eP (eL eNum) eU))))) v 0 _ _ _)
instance {v:ExT}:FieldP eX v 1 (eL eI) (v.2.1) 4:=inferInstanceAs (FieldP (eC (fun v:ExT=>(v.1,v.2.1,v.2.2.1,v.2.2.2,())) (eP eFd (eP (eL eI) (eP (eL eI) (eP (eL eNum) eU))))) v 1 _ _ _)
instance {v:ExT}:FieldP eX v 2 (eL eI) (v.2.2.1) 5:=inferInstanceAs (FieldP (eC (fun v:ExT=>(v.1,v.2.1,v.2.2.1,v.2.2.2,())) (eP eFd (eP (eL eI) (eP (eL eI) (eP (eL eNum) eU))))) v 2 _ _ _)
instance {v:ExT}:FieldP eX v 3 (eL eNum) (v.2.2.2) 6:=inferInstanceAs (FieldP (eC (fun v:ExT=>(v.1,v.2.1,v.2.2.1,v.2.2.2,())) (eP eFd (eP (eL eI) (eP (eL eI) (eP (eL eNum) eU))))) v 3 _ _ _)
instance {ks r:List Know} {f:FdT} {a b:List Int} {c:List NumT} [h:RdOf ks (eP eFd (eP (eL eI) (eP (eL eI) (eP (eL eNum) eU)))) (f,a,b,c,()) r]:RdOf ks eX ((f,a,b,c)) r:=⟨fun h'=>h.imp h'⟩
def eMac:Enc MacT:=eC (fun v:MacT=>(v.1,v.2.1,v.2.2.1,v.2.2.2.1,v.2.2.2.2.1,v.2.2.2.2.2.1,v.2.2.2.2.2.2,())) (eP (ePtr eReal) (eP eO (eP (eL eNum) (eP (eL eNum) (eP (eL eNum) (eP (eL eNum) (eP eNum eU)))))))
instance {v:MacT}:CellsK (kRd eMac v) [kPtr eReal (v.1),kRd (eL eI) (v.2.1.1),kRd (eL eI) (v.2.1.2),kRd (eL eNum) (v.2.2.1),kRd (eL eNum) (v.2.2.2.1),kRd (eL eNum) (v.2.2.2.2.1),kRd (eL eNum) (v.2.2.2.2.2.1),kRd (eL (eL eI)) (v.2.2.2.2.2.2.1),kRd (eL eI) (v.2.2.2.2.2.2.2)]:=inferInstanceAs (CellsK (kRd (eC (fun v:MacT=>(v.1,v.2.1,v.2.2.1,v.2.2.2.1,v.2.2.2.2.1,v.2.2.2.2.2.1,v.2.2.2.2.2.2,())) (eP (ePtr eReal) (eP eO (eP (eL eNum) (eP (eL eNum) (eP (eL eNum) (eP (eL eNum) (eP eNum eU)))))))) v) _)
instance {v:MacT} {tl:List Know}:EncCells eMac v tl (kPtr eReal (v.1)::kRd (eL eI) (v.2.1.1)::kRd (eL eI) (v.2.1.2)::kRd (eL eNum) (v.2.2.1)::kRd (eL eNum) (v.2.2.2.1)::kRd (eL eNum) (v.2.2.2.2.1)::kRd (eL eNum) (v.2.2.2.2.2.1)::kRd (eL (eL eI)) (v.2.2.2.2.2.2.1)::kRd (eL eI) (v.2.2.2.2.2.2.2)::tl):=inferInstanceAs (EncCells (eC (fun v:MacT=>(v.1,v.2.1,v.2.2.1,v.2.2.2.1,v.2.2.2.2.1,v.2.2.2.2.2.1,v.2.2.2.2.2.2,())) (eP (ePtr eReal) (eP eO (eP (eL eNum) (eP (eL eNum) (eP (eL eNum) (eP (eL eNum) (eP eNum eU)))))))) v tl _)
instance {v:MacT}:Norm eMac v (kRd eMac v):=⟨fun h=>h⟩
instance {v:MacT}:FieldP eMac v 0 (ePtr eReal) (v.1) 0:=inferInstanceAs (FieldP (eC (fun v:MacT=>(v.1,v.2.1,v.2.2.1,v.2.2.2.1,v.2.2.2.2.1,v.2.2.2.2.2.1,v.2.2.2.2.2.2,())) (eP (ePtr eReal) (eP eO (eP (eL eNum) (eP (eL eNum) (eP (eL eNum) (eP (eL eNum) (eP eNum eU)))))))) v 0 _ _ _)
instance {v:MacT}:FieldP eMac v 1 eO (v.2.1) 1:=inferInstanceAs (FieldP (eC (fun v:MacT=>(v.1,v.2.1,v.2.2.1,v.2.2.2.1,v.2.2.2.2.1,v.2.2.2.2.2.1,v.2.2.2.2.2.2,())) (eP (ePtr eReal) (eP eO (eP (eL eNum) (eP (eL eNum) (eP (eL eNum) (eP (eL eNum) (eP eNum eU)))))))) v 1 _ _ _)
instance {v:MacT}:FieldP eMac v 2 (eL eNum) (v.2.2.1) 3:=inferInstanceAs (FieldP (eC (fun v:MacT=>(v.1,v.2.1,v.2.2.1,v.2.2.2.1,v.2.2.2.2.1,v.2.2.2.2.2.1,v.2.2.2.2.2.2,())) (eP (ePtr eReal) (eP eO (eP (eL eNum) (eP (eL eNum) (eP (eL eNum) (eP (eL eNum) (eP eNum eU)))))))) v 2 _ _ _)
instance {v:MacT}:FieldP eMac v 3 (eL eNum) (v.2.2.2.1) 4:=inferInstanceAs (FieldP (eC (fun v:MacT=>(v.1,v.2.1,v.2.2.1,v.2.2.2.1,v.2.2.2.2.1,v.2.2.2.2.2.1,v.2.2.2.2.2.2,())) (eP (ePtr eReal) (eP eO (eP (eL eNum) (eP (eL eNum) (eP (eL eNum) (eP (eL eNum) (eP eNum eU)))))))) v 3 _ _ _)
instance {v:MacT}:FieldP eMac v 4 (eL eNum) (v.2.2.2.2.1) 5:=inferInstanceAs (FieldP (eC (fun v:MacT=>(v.1,v.2.1,v.2.2.1,v.2.2.2.1,v.2.2.2.2.1,v.2.2.2.2.2.1,v.2.2.2.2.2.2,())) (eP (ePtr eReal) (eP eO (eP (eL eNum) (eP (eL eNum) (eP (eL eNum) (eP (eL eNum) (eP eNum eU)))))))) v 4 _ _ _)
instance {v:MacT}:FieldP eMac v 5 (eL eNum) (v.2.2.2.2.2.1) 6:=inferInstanceAs (FieldP (eC (fun v:MacT=>(v.1,v.2.1,v.2.2.1,v.2.2.2.1,v.2.2.2.2.1,v.2.2.2.2.2.1,v.2.2.2.2.2.2,())) (eP (ePtr eReal) (eP eO (eP (eL eNum) (eP (eL eNum) (eP (eL eNum) (eP (eL eNum) (eP eNum eU)))))))) v 5 _ _ _)
instance {v:MacT}:FieldP eMac v 6 eNum (v.2.2.2.2.2.2) 7:=inferInstanceAs (FieldP (eC (fun v:MacT=>(v.1,v.2.1,v.2.2.1,v.2.2.2.1,v.2.2.2.2.1,v.2.2.2.2.2.1,v.2.2.2.2.2.2,())) (eP (ePtr eReal) (eP eO (eP (eL eNum) (eP (eL eNum) (eP (eL eNum) (eP (eL eNum) (eP eNum eU)))))))) v 6 _ _ _)
instance {ks r:List Know} {rr:RlT} {o:Ori} {a b c d:List NumT} {t:NumT} [h:RdOf ks (eP (ePtr eReal) (eP eO (eP (eL eNum) (eP (eL eNum) (eP (eL eNum) (eP (eL eNum) (eP eNum eU))))))) (rr,o,a,b,c,d,t,()) r]:RdOf ks eMac ((rr,o,a,b,c,d,t)) r:=⟨fun h'=>h.imp h'⟩
instance:ZeroE eNum (.agg #[.slice none 0 0,.slice none 0 0]) ([],[]):=⟨fun _=>⟨[.slice none 0 0],[.slice none 0 0],rfl,rd_nil,[.slice none 0 0],[],rfl,rd_nil,rfl⟩⟩
def mac (r:RlT) (o:Ori) (ls:List NvT):MacT:=(r,o,ls.map giveN,(plV ls o.1).map giveN,(plV ls o.2).map giveN,(awV o ls o.1.length).map giveN,giveN (totV ls o.1))
structure SgnC (r:RlT) (sg:NvT→Int):Prop where
 sign:∀x,NumOk 250 x→Ct Tryz.prog 82 [kPtr eReal r,kRd eNum x] (kI (sg (takeN r.2.1 x)))
 cmp:∀x y,NumOk 250 x→NumOk 250 y→Ct Tryz.prog 83 [kPtr eReal r,kRd eNum x,kRd eNum y] (kI (sg (subV (takeN r.2.1 x) (takeN r.2.1 y))))
theorem ct_vAdd (r:RlT) (u v:NvT) (k:Nat) (hpo:PolOk r.2.1) (hu:RedN r.2.1 u) (hv:RedN r.2.1 v) (bu:NBd k u) (bv:NBd k v) (hk:k≤100000) {x y:NumT} (hx:giveN u=x) (hy:giveN v=y):Ct Tryz.prog 118 [kPtr eReal r,kRd eNum x,kRd eNum y] (kRd eNum (giveN (adV u v))):=by
 have h:=ct_fAddN r (giveN u) (giveN v) k hpo (give_NumOk bu) (give_NumOk bv) hk
 rw[take_give hu,take_give hv,hx,hy] at h
 exact h
theorem ct_vSub (r:RlT) (u v:NvT) (k:Nat) (hpo:PolOk r.2.1) (hu:RedN r.2.1 u) (hv:RedN r.2.1 v) (bu:NBd k u) (bv:NBd k v) (hk:k≤100000) {x y:NumT} (hx:giveN u=x) (hy:giveN v=y):Ct Tryz.prog 116 [kPtr eReal r,kRd eNum x,kRd eNum y] (kRd eNum (giveN (subV u v))):=by
 have h:=ct_fSubN r (giveN u) (giveN v) k hpo (give_NumOk bu) (give_NumOk bv) hk
 rw[take_give hu,take_give hv,hx,hy] at h
 exact h
theorem ct_rowsOf (x:ExT):Ct Tryz.prog 114 [kRd eX x] (kRd eO (x.2.1,x.2.2.1)):=by
 refine Ct.mk Tryz.func114 rfl Tryz.ntmps114 rfl (fun w J=>?_); refine jx2 ?_; refine jb 1 rfl ?_; refine ja 2 ?_; refine jx8 ?_; refine tO (ok_build (fun hp=>.cons rfl rfl rfl<|.cons rfl rfl rfl<|.nil)) rfl rfl ?_; refine jx4 ?_; exact Rts.resC1 (fn:=Tryz.f114) rfl rfl (aggRd rfl (by rfl))

theorem ct_copied (r:Ori) (h1:r.1.length≤1000) (h2:r.2.length≤1000):Ct Tryz.prog 101 [kRd eO r] (kRd eO r):=by
 refine Ct.mk Tryz.func101 rfl Tryz.ntmps101 rfl (fun w J=>?_); refine jx2 ?_; refine jb 1 rfl ?_; refine ja 2 ?_; refine jx3 ?_; refine Tr.draw 5 mixed (by kernel_rfl) ?_; refine jx2 ?_; refine rO (ok_call (fun hp=>ct_cloneI _ zo) (.a rfl uu<|.nil)) rfl rfl ?_; refine jx3 ?_; refine tO (ok_call (fun hp=>ct_cloneI _ zo) (.a rfl uu<|.nil)) rfl rfl ?_; refine tO (ok_build (fun hp=>.cons rfl rfl rfl<|.cons rfl rfl rfl<|.nil)) rfl rfl ?_; refine jx4 ?_; exact Rts.resC1 (fn:=Tryz.f101) rfl rfl (aggRd rfl (by rfl))

theorem ct_places (r:RlT) (ra rb:List Int) (ls:List NvT) (k1 k2 k3 k4 k5:Know) [KDep k1 []] [KDep k2 []] [KDep k3 []] [KDep k4 []] [KDep k5 []] (row:List Int) (D:Int) (M n:Nat) (hpo:PolOk r.2.1) (hls:LenOk r.2.1 D M n ls) (hn:n≤8) (hpm:pmR row n):CtB Tryz.prog 115 (kOwn 0 0) [kRd (eL eI) row] (cBlk [kPtr eReal r,kRd (eL eI) ra,kRd (eL eI) rb,kRd (eL eNum) (ls.map giveN),k1,k2,k3,k4,k5]) (cBlk [kPtr eReal r,kRd (eL eI) ra,kRd (eL eI) rb,kRd (eL eNum) (ls.map giveN),k1,k2,k3,k4,k5]) (kTup [kRd (eL eNum) ((plV ls row).map giveN),kRd eNum (giveN (totV ls row))]):=by
 have hrl:=hpm.2.2
 have hll:=hls.len
 have hrk:=hpm.1
 have hml:(ls.map giveN).length=n:=by rw[List.length_map,hll]
 refine CtB.mk Tryz.func115 rfl Tryz.ntmps115 rfl (fun w J bb cap=>?_); refine jx3 ?_; refine ja 5 ?_; refine jx3 ?_; refine Tr.draw 5 mixed (by kernel_rfl) ?_; refine jx2 ?_; refine RunD.new (ok_makeN eNum 12 rfl uu rfl uu rfl rfl rfl (fun _=>zo)) rfl rfl rfl rfl ?_; refine jd (ct_fWhole 0 zo) ?_; refine RunD.new (ok_alloc 7) rfl rfl rfl rfl ?_; refine jx13 ?_
 refine Tr.for1 (σ:=Nat) [⟨0,true,_,_⟩,⟨5,true,_,_⟩,⟨7,true,_,_⟩,⟨14,true,_,_⟩,⟨15,true,_,_⟩] [⟨0,_,_⟩,⟨5,_,_⟩] (fun k=>[⟨6,true,[12],kOsl 12 row.length⟩,⟨16,true,[],kI (k:Int)⟩]) (fun k=>[⟨12,[],cArr false 30 eNum (plP ls row k) row.length⟩,⟨7,[],cBlk [kRd (eL (eL eI)) (giveN (ptV ls row k)).1,kRd (eL eI) (giveN (ptV ls row k)).2]⟩]) (fun k=>k≤row.length) (fun k=>k=row.length) (fun k=>row.length-k) (0) zi (Ent.mk (.o rfl zi rfl<|.i rfl zi<|zk) (.a plP_zero.symm zi<|.e (by rfl) rfl<|zk) rfl) ?_ ?_
 ·intro k hR0
  refine jn ?_
  have hrk2:=hrk k
  have hpk:=pt_ok hpo hls hpm k zo
  refine jx6 ?_; refine jq ?_ ?_
  ·intro h3
   refine jx20 ?_; refine Tr.draw 12 mixed (by kernel_rfl) ?_; refine jx1 ?_; refine rO (ok_nilB rfl uu) rfl rfl ?_; refine jx4 ?_; refine rO (ok_nilB rfl uu) rfl rfl ?_; refine jx6 ?_; refine tO (ok_call (fun hp=>ct_vAdd r (ptV ls row k) (nth ls (nth row k).toNat) 200 hpo hpk.1 (hls.red _ zo) (hls.nbd hpk.2 zo) (hls.one zo) zo rfl (nth_mapG zo).symm) (.a rfl uu<|.se rfl uu rfl rfl<|.a rfl uu<|.nil)) rfl rfl ?_; refine jx8 ?_
   exact End.lp (k+1) zi zo (Ent.mk (.o rfl zi rfl<|.i rfl zi<|zk) (.a (by rw[← plP_succ hpm zo]) zi<|.e (by rfl) rfl<|zk) rfl)
  ·intro h3
   replace h3:=Int.not_lt.1 h3
   refine jx4 ?_
   exact End.cut (k) zo (Ent.mk (.o rfl zi rfl<|.i rfl zi<|zk) (zk) rfl)
 ·rintro k hkn
  refine je ?_; refine jx2 ?_; refine Tr.frzBo 12 [6] rfl rfl ⟨rfl,trivial⟩ (by simp only[lenMax]; omega) rfl ?_; refine Tr.draw 3 mixed (by kernel_rfl) ?_; refine jx8 ?_; exact Rts.mutTC (fn:=Tryz.f115) (t:=4) (a:=5) rfl rfl (.r rfl (by rw[hkn,plP_end hpm])<|.nil) rfl rfl (aggRd rfl (by rw[hkn]; rfl))

end Go.Fl

/- Contracts: exchanges are opened; points of the interval. -/
namespace Go.Fl
open Go Go.Proofs
open TrL renaming op→tO
open RunD renaming op→rO
set_option maxRecDepth 100000

set_option maxHeartbeats 1000000 in
theorem ct_xopen (x:ExT) (r:RlT) (sg:NvT→Int) (D:Int) (M:Nat) (hop:Ct Tryz.prog 113 [kRd eFd x.1] (kTup [kPtr eReal r,kI 0])) (hpo:PolOk r.2.1) (hs:SgnC r sg) (v:RowsOk (x.2.1,x.2.2.1)) (hl:x.2.2.2.length=x.2.1.length) (hnm:∀a,a<x.2.1.length→NumOk 250 (nth x.2.2.2 a)) (hlo:LenOk r.2.1 D M x.2.1.length (x.2.2.2.map (takeN r.2.1))) (hpos:∀a,a<x.2.1.length→0<sg (takeN r.2.1 (nth x.2.2.2 a))):Ct Tryz.prog 66 [kRd eX x] (kTup [kPtr eMac (mac r (x.2.1,x.2.2.1) (x.2.2.2.map (takeN r.2.1))),kI 0]):=by
 obtain ⟨ls,hls⟩:∃ls,ls=x.2.2.2.map (takeN r.2.1):=⟨_,rfl⟩
 rw[← hls] at hlo
 have hll:=hlo.len
 have hle:x.2.1.length≤8:=v.le
 have hle2:x.2.2.1.length=x.2.1.length:=v.len
 have hp1:pmR x.2.1 x.2.1.length:=v.p1
 have hp2:pmR x.2.2.1 x.2.1.length:=v.p2
 have hpl1:((plV ls x.2.1).map giveN).length=x.2.1.length:=by rw[List.length_map,plV_len]
 have hpl2:((plV ls x.2.2.1).map giveN).length=x.2.1.length:=by rw[List.length_map,plV_len,hle2]
 rw[← hls]
 have hnk:∀k,k<x.2.1.length→nth ls k=takeN r.2.1 (nth x.2.2.2 k):=fun k hk=>by rw[hls]; simp[nth,hl,hk]
 refine Ct.mk Tryz.func66 rfl Tryz.ntmps66 rfl (fun w J=>?_); refine jx2 ?_; refine jb 1 rfl ?_; refine jx8 ?_; refine jc hop ?_; refine jx14 ?_; refine Tr.cnd rfl ?_ ?_
 ·intro h2
  exact absurd h2 (by decide)
 ·intro h2
  refine jx6 ?_; refine tO (ok_call (fun hp=>ct_rowsOf _) (.s rfl uu rfl<|.nil)) rfl rfl ?_; refine tO (ok_call (fun hp=>ct_eCheckRows _) (.a rfl uu<|.nil)) rfl rfl ?_; refine jx9 ?_; refine Tr.cnd rfl ?_ ?_
  ·intro h5
   rw[chkR_of v] at h5; exact absurd h5 (by decide)
  ·intro h5
   refine jx14 ?_; refine jq ?_ ?_
   ·intro h7
    omega
   ·intro h7
    replace h7:=Classical.not_not.1 h7
    refine jx6 ?_; refine tO (ok_call (fun hp=>ct_rowsOf _) (.s rfl uu rfl<|.nil)) rfl rfl ?_; refine tO (ok_call (fun hp=>ct_copied _ (by show x.2.1.length≤1000; omega) (by show x.2.2.1.length≤1000; omega)) (.a rfl uu<|.nil)) rfl rfl ?_; refine tO (ok_build (fun hp=>.cons rfl rfl rfl<|.cons rfl rfl rfl<|.nil)) rfl rfl ?_; refine jb 38 rfl ?_; refine jx12 ?_; refine Tr.growC 38 3 139 rfl (ks':=[_,_,_,kOsl 139 0,_,_,_,_,_]) rfl rfl 30 eNum rfl (.cons inferInstance rfl<|.cons inferInstance rfl<|.cons inferInstance rfl<|.cons inferInstance rfl<|.cons inferInstance rfl<|.cons inferInstance rfl<|.cons inferInstance rfl<|.cons inferInstance rfl<|.cons inferInstance rfl<|inferInstance) ?_
    refine Tr.for1 (σ:=Nat) [⟨1,true,_,_⟩,⟨4,true,_,_⟩,⟨7,true,_,_⟩,⟨40,true,_,_⟩,⟨41,true,_,_⟩] [⟨1,_,_⟩] (fun k=>[⟨42,true,[],kI (k:Int)⟩]) (fun k=>[⟨38,[139],cBlk [kPtr eReal r,kRd (eL eI) x.2.1,kRd (eL eI) x.2.2.1,kOsl 139 k,kDet (.slice none 0 0),kDet (.slice none 0 0),kDet (.slice none 0 0),kDet (.slice none 0 0),kDet (.slice none 0 0)]⟩,⟨139,[],cArr true 30 eNum ((ls.take k).map giveN) k⟩]) (fun k=>k≤x.2.1.length) (fun k=>k=x.2.1.length) (fun k=>x.2.1.length-k) (0) zi (Ent.mk (.i rfl zi<|zk) (.e (by rfl) rfl<|.a (by rfl) zi<|zk) rfl) ?_ ?_
    ·intro k hR0
     refine jn ?_; refine jx6 ?_; refine jq ?_ ?_
     ·intro h11
      refine jx8 ?_; refine ja 9 ?_; refine jx8 ?_; refine tO (ok_call (fun hp=>hs.sign _ (hnm k zo)) (.a rfl uu<|.s rfl uu rfl<|.nil)) rfl rfl ?_; refine jx3 ?_; refine jq ?_ ?_
      ·intro h13
       have:=hpos k zo; omega
      ·intro h13
       replace h13:=Int.not_le.1 h13
       refine jx2 ?_; refine Tr.drawM (m:=9) mixed (by kernel_rfl) rfl (by kernel_rfl) (by kernel_rfl) (by kernel_rfl) ?_; refine jx2 ?_; refine rO (ok_nilO rfl uu) rfl rfl ?_; refine jx4 ?_; refine rO (ok_call (fun hp=>ct_fNormalN r _ _ hpo (hnm k zo) zo) (.a rfl uu<|.s rfl uu rfl<|.nil)) rfl rfl ?_; refine RunD.new (ok_bsl eNum 58 (fun hp=>.cons rfl<|.nil) rfl rfl rfl rfl) rfl rfl rfl rfl ?_; refine jx1 ?_; refine TrL.wkC 38 (.k<|.k<|.k<|.any<|.k<|.k<|.k<|.k<|.k<|.nil) rfl ?_; refine jx1 ?_; refine jl ?_; refine tO (ok_nilO rfl uu) rfl rfl ?_
       refine jx2 ?_; refine TrL.finN ?_; refine jx6 ?_
       exact End.lp (k+1) zi zo (Ent.mk (.i rfl zi<|zk) (.e (by rfl) rfl<|.a (by rw[take_succ_nth zo,List.map_append,hnk k zo]; rfl) zi<|zk) rfl)
     ·intro h11
      replace h11:=Int.not_lt.1 h11
      refine jx4 ?_
      exact End.cut (k) zo (Ent.mk (.i rfl zi<|zk) (zk) rfl)
    ·rintro k hkn
     refine je ?_
     have htk:ls.take k=ls:=by rw[hkn,← hll,List.take_length]
     rw[htk]
     refine jx2 ?_; refine Tr.frzC 139 38 (by simp only[lenMax]; omega) rfl rfl ?_; refine jn ?_; refine jx6 ?_; refine TrL.mutQ (ct_places r _ _ ls _ _ _ _ _ x.2.1 D M x.2.1.length hpo hlo zo hp1) rfl (.a rfl uu<|.nil) rfl rfl ?_; refine jx3 ?_; refine tO (ok_nilO rfl uu) rfl rfl ?_; refine jx2 ?_; refine tO (ok_nilO rfl uu) rfl rfl ?_; refine jx10 ?_; refine TrL.mutQ (ct_places r _ _ ls _ _ _ _ _ x.2.2.1 D M x.2.1.length hpo hlo zo hp2) rfl (.a rfl uu<|.nil) rfl rfl ?_; refine jx3 ?_; refine tO (ok_nilO rfl uu) rfl rfl ?_; refine jx8 ?_; refine tO (ok_nilO rfl uu) rfl rfl ?_
     refine jx6 ?_; refine Tr.growC 38 6 140 rfl (ks':=[_,_,_,_,_,_,kOsl 140 0,_,_]) rfl rfl 30 eNum rfl (.cons inferInstance rfl<|.cons inferInstance rfl<|.cons inferInstance rfl<|.cons inferInstance rfl<|.cons inferInstance rfl<|.cons inferInstance rfl<|.cons inferInstance rfl<|.cons inferInstance rfl<|.cons inferInstance rfl<|inferInstance) ?_
     refine Tr.for1 (σ:=Nat) [⟨4,true,_,_⟩,⟨7,true,_,_⟩,⟨90,true,_,_⟩] [] (fun k=>[⟨91,true,[],kI (k:Int)⟩]) (fun k=>[⟨38,[140],cBlk [kPtr eReal r,kRd (eL eI) x.2.1,kRd (eL eI) x.2.2.1,kRd (eL eNum) (ls.map giveN),kRd (eL eNum) ((plV ls x.2.1).map giveN),kRd (eL eNum) ((plV ls x.2.2.1).map giveN),kOsl 140 k,kRd (eL (eL eI)) (giveN (totV ls x.2.1)).1,kRd (eL eI) (giveN (totV ls x.2.1)).2]⟩,⟨140,[],cArr true 30 eNum (tab k fun a=>giveN (subV (nth (plV ls x.2.2.1) a) (nth (plV ls x.2.1) a))) k⟩]) (fun k=>k≤x.2.1.length) (fun k=>k=x.2.1.length) (fun k=>x.2.1.length-k) (0) zi (Ent.mk (.i rfl zi<|zk) (.e (by rfl) rfl<|.a (by rfl) zi<|.nil) rfl) ?_ ?_
     ·intro k hR1
      refine jn ?_; refine jx6 ?_; refine jq ?_ ?_
      ·intro h20
       refine jx10 ?_; refine Tr.drawM (m:=22) mixed (by kernel_rfl) rfl (by kernel_rfl) (by kernel_rfl) (by kernel_rfl) ?_
       have hq1:=plV_ok hpo hlo hp1 (a:=k) zo
       have hq2:=plV_ok hpo hlo hp2 (a:=k) zo
       refine jx2 ?_; refine rO (ok_nilO rfl uu) rfl rfl ?_; refine jx4 ?_; refine rO (ok_nilO rfl uu) rfl rfl ?_; refine jx6 ?_; refine rO (ok_nilO rfl uu) rfl rfl ?_; refine jx5 ?_; refine jd (ct_vSub r (nth (plV ls x.2.2.1) k) (nth (plV ls x.2.1) k) 200 hpo hq2.1 hq1.1 (hlo.nbd hq2.2 zo) (hlo.nbd hq1.2 zo) zo (nth_mapG (by rw[plV_len]; omega)).symm (nth_mapG (by rw[plV_len]; omega)).symm) ?_; refine RunD.new (ok_bsl eNum 115 (fun hp=>.cons rfl<|.nil) rfl rfl rfl rfl) rfl rfl rfl rfl ?_; refine jx1 ?_; refine TrL.wkC 38 (.k<|.k<|.k<|.k<|.k<|.k<|.any<|.k<|.k<|.nil) rfl ?_
       refine jx1 ?_; refine jl ?_; refine tO (ok_nilO rfl uu) rfl rfl ?_; refine jx2 ?_; refine TrL.finN ?_; refine jx6 ?_
       exact End.lp (k+1) zi zo (Ent.mk (.i rfl zi<|zk) (.e (by rfl) rfl<|.a (by rw[tab_succ]) zi<|.nil) rfl)
      ·intro h20
       replace h20:=Int.not_lt.1 h20
       refine jx4 ?_
       exact End.cut (k) zo (Ent.mk (.i rfl zi<|zk) (zk) rfl)
     ·rintro k hkn
      refine je ?_; refine jx2 ?_; refine Tr.frzC 140 38 (by simp only[lenMax]; omega) rfl rfl ?_; refine jn ?_; refine Tr.frzB 38 [7] eMac ⟨rfl,trivial⟩ rfl ?_; refine jn ?_; refine jx7 ?_; exact Rts.res (fn:=Tryz.f66) (ts:=[2,3]) rfl rfl (.p rfl (by rw[hkn]; simp only[mac,awV,tab,List.map_map]; rfl)<|.i rfl (by rfl)<|.nil)

end Go.Fl

/- What the walks of iterators lean on. -/

/- The letter of a point. No program in sight. -/
namespace Go.Fl
open Go
theorem nth_drop1 {xs:List Int} {i:Nat}:nth (xs.drop 1) i=nth xs (i+1):=by simp[nth]
theorem NumOk.mono {j k:Nat} {x:List (List Int)×List Int} (h:NumOk j x) (hjk:j≤k):NumOk k x:=⟨h.len,fun i=>⟨(h.c i).1,Nat.le_trans (h.c i).2 hjk⟩,h.d.1,Nat.le_trans h.d.2 hjk⟩
def letV (sg:NvT→Int) (tops:List NvT) (row:List Int) (pv:NvT):Nat→Int
 | 0=>nth row 0
 | k+1=>if sg (subV (nth tops (nth row (k+1)).toNat) pv)≤0 then nth row (k+1) else letV sg tops row pv k
theorem letV_at {sg:NvT→Int} {tops:List NvT} {row:List Int} {pv:NvT}:∀k,∃j,j≤k∧letV sg tops row pv k=nth row j
 | 0=>⟨0,Nat.le_refl _,rfl⟩
 | k+1=>by
  rw[letV]
  split
  ·exact ⟨k+1,Nat.le_refl _,rfl⟩
  ·obtain ⟨j,h1,h2⟩:=letV_at (sg:=sg) (tops:=tops) (row:=row) (pv:=pv) k
   exact ⟨j,by omega,h2⟩
theorem letV_rg {sg:NvT→Int} {tops:List NvT} {row:List Int} {pv:NvT} {n k:Nat} (h:pmR row n) (hk:k<n):0≤letV sg tops row pv k∧letV sg tops row pv k<n:=by
 obtain ⟨j,h1,h2⟩:=letV_at (sg:=sg) (tops:=tops) (row:=row) (pv:=pv) k
 rw[h2]
 exact h.1 j (by have:=h.2.2; omega)
theorem awV_len {o:List Int×List Int} {ls:List NvT} {n:Nat}:(awV o ls n).length=n:=tab_len
theorem aw_ok {p:List Int} {D:Int} {M n:Nat} {ls:List NvT} {o:List Int×List Int} (hp:PolOk p) (h:LenOk p D M n ls) (h1:pmR o.1 n) (h2:pmR o.2 n) {a:Nat} (ha:a<n):RedN p (nth (awV o ls n) a)∧HB D (2*n*M) (nth (awV o ls n) a):=by
 unfold awV
 rw[nth_tab ha]
 obtain ⟨a1,a2⟩:=plV_ok hp h h1 ha
 obtain ⟨b1,b2⟩:=plV_ok hp h h2 ha
 refine ⟨sub_RedN b1 a1,?_⟩
 rw[show 2*n*M=n*M+n*M by rw[Nat.mul_assoc,Nat.two_mul]]
 exact b2.sub h.pos a2
def imgV (o:List Int×List Int) (ls:List NvT) (pv:NvT) (a:Int):NvT:=adV pv (nth (awV o ls o.1.length) a.toNat)
def sgQ (v:NvT):Int:=cmpZ (nth v.1 0) 0
theorem pol_rat:PolOk [0,1]:=by
 refine ⟨by decide,fun i=>?_⟩
 match i with
 | 0=>show dl 0≤1; rw[dl_zero.2 rfl]; omega
 | 1=>show dl 1≤1; exact dl_small zo zo
 | i+2=>rw[nth_out (by simp)]; show dl 0≤1; rw[dl_zero.2 rfl]; omega
end Go.Fl

/- Contracts: loops over slices.Backward; points, their letters and images. -/
namespace Go.Fl
open Go Go.Proofs
open TrL renaming op→tO
open RunD renaming op→rO
set_option maxRecDepth 100000

instance {r:RlT} {o:Ori} {ls:List NvT}:FieldP eMac (mac r o ls) 0 (ePtr eReal) (r) 0:=inferInstanceAs (FieldP eMac (mac r o ls) 0 (ePtr eReal) ((mac r o ls).1) _)
instance {r:RlT} {o:Ori} {ls:List NvT}:FieldP eMac (mac r o ls) 1 eO (o) 1:=inferInstanceAs (FieldP eMac (mac r o ls) 1 eO ((mac r o ls).2.1) _)
instance {r:RlT} {o:Ori} {ls:List NvT}:FieldP eMac (mac r o ls) 2 (eL eNum) (ls.map giveN) 3:=inferInstanceAs (FieldP eMac (mac r o ls) 2 (eL eNum) ((mac r o ls).2.2.1) _)
instance {r:RlT} {o:Ori} {ls:List NvT}:FieldP eMac (mac r o ls) 3 (eL eNum) ((plV ls o.1).map giveN) 4:=inferInstanceAs (FieldP eMac (mac r o ls) 3 (eL eNum) ((mac r o ls).2.2.2.1) _)
instance {r:RlT} {o:Ori} {ls:List NvT}:FieldP eMac (mac r o ls) 4 (eL eNum) ((plV ls o.2).map giveN) 5:=inferInstanceAs (FieldP eMac (mac r o ls) 4 (eL eNum) ((mac r o ls).2.2.2.2.1) _)
instance {r:RlT} {o:Ori} {ls:List NvT}:FieldP eMac (mac r o ls) 5 (eL eNum) ((awV o ls o.1.length).map giveN) 6:=inferInstanceAs (FieldP eMac (mac r o ls) 5 (eL eNum) ((mac r o ls).2.2.2.2.2.1) _)
instance {r:RlT} {o:Ori} {ls:List NvT}:FieldP eMac (mac r o ls) 6 eNum (giveN (totV ls o.1)) 7:=inferInstanceAs (FieldP eMac (mac r o ls) 6 eNum ((mac r o ls).2.2.2.2.2.2) _)
instance {r:RlT} {o:Ori} {ls:List NvT}:CellsK (kRd eMac (mac r o ls)) [kPtr eReal (r),kRd (eL eI) (o.1),kRd (eL eI) (o.2),kRd (eL eNum) (ls.map giveN),kRd (eL eNum) ((plV ls o.1).map giveN),kRd (eL eNum) ((plV ls o.2).map giveN),kRd (eL eNum) ((awV o ls o.1.length).map giveN),kRd (eL (eL eI)) ((giveN (totV ls o.1)).1),kRd (eL eI) ((giveN (totV ls o.1)).2)]:=inferInstanceAs (CellsK (kRd eMac (mac r o ls)) [kPtr eReal ((mac r o ls).1),kRd (eL eI) (((mac r o ls).2.1).1),kRd (eL eI) (((mac r o ls).2.1).2),kRd (eL eNum) ((mac r o ls).2.2.1),kRd (eL eNum) ((mac r o ls).2.2.2.1),kRd (eL eNum) ((mac r o ls).2.2.2.2.1),kRd (eL eNum) ((mac r o ls).2.2.2.2.2.1),kRd (eL (eL eI)) (((mac r o ls).2.2.2.2.2.2).1),kRd (eL eI) (((mac r o ls).2.2.2.2.2.2).2)])
instance {r:RlT} {o:Ori} {ls:List NvT} {tl:List Know}:EncCells eMac (mac r o ls) tl (kPtr eReal (r)::kRd (eL eI) (o.1)::kRd (eL eI) (o.2)::kRd (eL eNum) (ls.map giveN)::kRd (eL eNum) ((plV ls o.1).map giveN)::kRd (eL eNum) ((plV ls o.2).map giveN)::kRd (eL eNum) ((awV o ls o.1.length).map giveN)::kRd (eL (eL eI)) ((giveN (totV ls o.1)).1)::kRd (eL eI) ((giveN (totV ls o.1)).2)::tl):=inferInstanceAs (EncCells eMac (mac r o ls) tl (kPtr eReal ((mac r o ls).1)::kRd (eL eI) (((mac r o ls).2.1).1)::kRd (eL eI) (((mac r o ls).2.1).2)::kRd (eL eNum) ((mac r o ls).2.2.1)::kRd (eL eNum) ((mac r o ls).2.2.2.1)::kRd (eL eNum) ((mac r o ls).2.2.2.2.1)::kRd (eL eNum) ((mac r o ls).2.2.2.2.2.1)::kRd (eL (eL eI)) (((mac r o ls).2.2.2.2.2.2).1)::kRd (eL eI) (((mac r o ls).2.2.2.2.2.2).2)::tl))
section
open Go Go.RowKit Go.Proofs
attribute [local go_sem] Oper.semAt_some
set_option maxHeartbeats 2000000 in
theorem back_ints:BackOk Tryz.prog 194 eI:=by
 intro J W xs ptr him hp
 obtain ⟨bx,ox,ds,rfl,hrd,hcell⟩:=hp
 obtain ⟨ad,cap,rfl,⟨hlen,hcap⟩,hrow⟩:=hrd
 refine ⟨fun i=>.int .i64 (nth xs i),fun i _=>⟨[.int .i64 (nth xs i)],rfl,rfl⟩,?_⟩
 intro l Iv Ix hY h0
 have hbox:∀W',Im J W'→W'.cell? ⟨bx,ox,none⟩=some (.slice ad xs.length cap):=fun W' h=>h _ _ _ (by have:=hcell 0 _ rfl; simpa using this)
 simp only[lenMax] at hlen
 have hb0:=hbox W him
 refine (callsIn_wide (n:=3)).1 ?_; refine callsIn_of_wp Tryz.func194 rfl trivial ?_
 simp only[Tryz.ntmps194,List.size_toArray,List.length_cons,List.length_nil,Nat.reduceAdd,Nat.reduceSub,Array.replicate_succ,Array.replicate_zero,List.push_toArray,List.append_toArray,List.nil_append,List.cons_append]
 gi_wp2
 gi_loopw [3] (fun i wr=>∃k:Nat,k≤xs.length∧i=.int .i64 ((xs.length:Int)-1-k)∧Iv k wr∧Im J wr)
  (fun i _=>(intOf i+1).toNat)
 case atStart=>exact ⟨0,Nat.zero_le _,by simp,h0,him⟩
 case round =>
  obtain ⟨k,hk,rfl,hJs,himr⟩:=hrel
  have hbr:=hbox wr himr
  by_cases hlt:k<xs.length
  ·obtain ⟨fn,tmps,assign,body,hy,hR⟩:=hY k wr hlt himr hJs
   rw[show ((xs.length-1-k:Nat):Int)=(xs.length:Int)-1-k by omega] at hy
   obtain ⟨b,o,rfl,hrw⟩:=hrow.resolve_left (fun e=>by subst e; simp at hlt)
   have hcx:wr.cell? ⟨b,o+(xs.length-1-k),none⟩=some (.int .i64 (nth xs (xs.length-1-k))):=by
    obtain ⟨ds,q1,q2⟩:=hrw (xs.length-1-k) _ (nth_get zo)
    have q1:ds=[.int .i64 (nth xs (xs.length-1-k))]:=q1
    subst q1
    have:=himr _ _ _ (q2 0 _ rfl)
    simpa [eI,eInt] using this
   gi_wp2
   refine hR.mono ?_
   rintro e W3 (⟨rfl,hJ3,hk3⟩ | ⟨rfl,hJx3⟩)
   ·gi_wp2
    go_roundw
    case rel=>exact ⟨k+1,by omega,by congr 1; omega,hJ3,hk3⟩
    case measure=>simp[intOf]; omega
   ·gi_wp2
    refine bodyPost_ret (results_none rfl _ _ _) rfl ?_; exact ⟨⟨_,rfl⟩,.inr ⟨k,hlt,hJx3⟩⟩
  ·obtain rfl:k=xs.length:=by omega
   gi_wp2
   go_end0
   exact ⟨⟨_,rfl⟩,.inl hJs⟩
end
theorem ct_backI (xs:List Int):Ct Tryz.prog 166 [kRd (eL eI) xs] (kClo 194 [kPtr (eL eI) xs]):=by
 refine Ct.mk Tryz.func166 rfl Tryz.ntmps166 rfl (fun w J=>?_); refine jx2 ?_; refine jb 1 rfl ?_; refine jx4 ?_; refine Tr.frzB 1 [1] (eL eI) ⟨rfl,trivial⟩ rfl ?_; refine jn ?_; refine jx1 ?_; refine tO (ok_clo (.cons rfl uu<|.nil)) rfl rfl ?_; refine jx4 ?_; exact Rts.res1 (fn:=Tryz.f166) rfl (zk)

theorem ct_inside (r:RlT) (o:Ori) (ls:List NvT) (sg:NvT→Int) (p q:NumT) (hs:SgnC r sg) (hpn:NumOk 250 p) (hq:NumOk 250 q):Ct Tryz.prog 67 [kPtr eMac (mac r o ls),kRd eNum p,kRd eNum q] (kB (decide (0≤sg (takeN r.2.1 p))&&decide (sg (subV (takeN r.2.1 p) (takeN r.2.1 q))<0))):=by
 refine Ct.mk Tryz.func67 rfl Tryz.ntmps67 rfl (fun w J=>?_); refine jx2 ?_; refine jb 4 rfl ?_; refine jb 5 rfl ?_; refine jx4 ?_; refine Tr.draw 14 mixed (by kernel_rfl) ?_; refine jx1 ?_; refine rO (ok_nilP rfl uu) rfl rfl ?_; refine jx3 ?_; refine rO (ok_call (fun hp=>hs.sign _ hpn) (.a rfl uu<|.s rfl uu rfl<|.nil)) rfl rfl ?_; refine jx3 ?_; refine RunD.gd rfl rfl rfl (ok_nilP rfl id) rfl rfl ?_; refine jx5 ?_; refine TrL.gd rfl rfl rfl (ok_call (fun hp=>hs.cmp _ _ hpn hq) (.a rfl id<|.s rfl id rfl<|.s rfl id rfl<|.nil)) rfl rfl ?_; refine jx6 ?_
 exact Rts.res1 (fn:=Tryz.f67) rfl (.b rfl zi<|.nil)

theorem ct_letter (r:RlT) (o:Ori) (ls:List NvT) (sg:NvT→Int) (D:Int) (M:Nat) (p:NumT) (hpo:PolOk r.2.1) (hs:SgnC r sg) (v:RowsOk o) (hlo:LenOk r.2.1 D M o.1.length ls) (hpn:NumOk 250 p):Ct Tryz.prog 117 [kPtr eMac (mac r o ls),kRd eNum p] (kI (letV sg (plV ls o.1) o.1 (takeN r.2.1 p) (o.1.length-1))):=by
 have hle:o.1.length≤8:=v.le
 have htwo:2≤o.1.length:=v.two
 have hp1:pmR o.1 o.1.length:=v.p1
 have hrr:=hp1.1
 have hpl1:((plV ls o.1).map giveN).length=o.1.length:=by rw[List.length_map,plV_len]
 have hdl:(o.1.drop 1).length=o.1.length-1:=List.length_drop
 have hdn:∀i,nth (o.1.drop 1) i=nth o.1 (i+1):=fun i=>nth_drop1
 refine CtM.mk Tryz.func117 rfl Tryz.ntmps117 rfl (fun w J=>?_); refine jx2 ?_; refine jb 2 rfl ?_; refine jb 3 rfl ?_; refine ja 4 ?_; refine jx5 ?_; refine tO (ok_nilP rfl uu) rfl rfl ?_; refine jx10 ?_; refine tO (ok_slJl rfl uu rfl uu (fun _=>zo) rfl) rfl rfl ?_; refine tO (ok_call (fun hp=>ct_backI _) (.a rfl uu<|.nil)) rfl rfl ?_; refine jx3 ?_; refine Tr.back (e:=eI) (xs:=(o.1.drop 1)) back_ints [⟨2,true,_,_⟩,⟨3,true,_,_⟩,⟨4,true,_,_⟩,⟨5,true,_,_⟩,⟨15,true,_,_⟩] [2,3,4] (fun k=>[⟨2,[],cBlk [kPtr eMac (mac r o ls)]⟩,⟨3,[],cBlk [kRd (eL (eL eI)) p.1,kRd (eL eI) p.2]⟩,⟨4,[],cBlk [kI 0]⟩]) (fun k=>[⟨2,[],cBlk [kPtr eMac (mac r o ls)]⟩,⟨3,[],cBlk [kRd (eL (eL eI)) p.1,kRd (eL eI) p.2]⟩,⟨4,[],cBlk [kI (nth (o.1.drop 1) ((o.1.drop 1).length-k))]⟩]) (fun k=>letV sg (plV ls o.1) o.1 (takeN r.2.1 p) (o.1.length-1)=letV sg (plV ls o.1) o.1 (takeN r.2.1 p) (o.1.length-1-k)) (fun k=>letV sg (plV ls o.1) o.1 (takeN r.2.1 p) (o.1.length-1)=nth (o.1.drop 1) ((o.1.drop 1).length-k)) (Ent.mk (.k rfl rfl<|.k rfl rfl<|.k rfl rfl<|.k rfl rfl<|.k rfl rfl<|.nil) (.k rfl<|.k rfl<|.k rfl<|.nil) rfl) rfl rfl (fun _=>rfl) (fun _=>rfl) (fun _=>inferInstance) (fun _=>inferInstance) rfl rfl ?_ ?_ ?_
 ·intro k hk15 hR15 l15 w15 J15 b15 bks15
  refine jn ?_
  have hix:(o.1.drop 1).length-1-k+1=o.1.length-1-k:=by omega
  have hio:=hrr (o.1.length-1-k) zo
  have hni:=hdn ((o.1.drop 1).length-1-k)
  rw[hix] at hni
  have hq:=plV_ok hpo hlo hp1 (a:=(nth o.1 (o.1.length-1-k)).toNat) zo
  have hmg:nth ((plV ls o.1).map giveN) (nth (o.1.drop 1) ((o.1.drop 1).length-1-k)).toNat=giveN (nth (plV ls o.1) (nth o.1 (o.1.length-1-k)).toNat):=by rw[hni]; exact nth_mapG (by rw[plV_len]; omega)
  obtain ⟨m,hm⟩:∃m,o.1.length-1-k=m+1:=⟨o.1.length-1-(k+1),by omega⟩
  refine jx3 ?_; refine End.asg (fun w1015 J1015 b1015=>?_); refine jn ?_; refine jx2 ?_; refine Tr.draw 12 mixed (by kernel_rfl) ?_; refine jx1 ?_; refine rO (ok_nilP rfl uu) rfl rfl ?_; refine jx3 ?_; refine rO (ok_nilP rfl uu) rfl rfl ?_; refine jx7 ?_; refine tO (ok_call (fun hp=>hs.cmp _ _ (by rw[hmg]; exact (give_NumOk (hlo.nbd hq.2 zo)).mono zo) hpn) (.a rfl uu<|.a rfl uu<|.s rfl uu rfl<|.nil)) rfl rfl ?_; refine jx3 ?_; refine jq ?_ ?_
  ·intro h4
   rw[hmg,take_give hq.1] at h4
   refine jx8 ?_; exact Rts.rnd (by rw[hR15,show (o.1.drop 1).length-(k+1)=(o.1.drop 1).length-1-k by omega,hni,hm,letV,if_pos (by rw[← hm]; omega)]) (Ent.mk (zk) (.k rfl<|.k rfl<|.e (by rw[show (o.1.drop 1).length-(k+1)=(o.1.drop 1).length-1-k by omega]) rfl<|.nil) rfl)
  ·intro h4
   replace h4:=Int.not_le.1 h4
   rw[hmg,take_give hq.1] at h4
   refine jx2 ?_; exact End.rnd (by rw[hR15,hm,letV,if_neg (by rw[← hm]; omega),show o.1.length-1-(k+1)=m by omega]) (Ent.mk (zk) (zk) rfl)
 ·intro hE15
  refine je ?_; refine jx11 ?_; refine Rts.mk ?_; exact Rts.resL1 (fn:=Tryz.f117) rfl rfl rfl (kI_conv (by rw[hE15,show o.1.length-1-(o.1.drop 1).length=0 by omega]; rfl))
 ·intro k hk15 hX15
  refine Rts.norm (S':=[⟨2,true,_,_⟩,⟨3,true,_,_⟩,⟨4,true,_,_⟩,⟨5,true,_,_⟩,⟨15,true,_,_⟩]) (M':=[⟨2,_,_⟩,⟨3,_,_⟩,⟨4,_,_⟩]) rfl rfl ?_; refine jx2 ?_; refine Rts.mk ?_; exact Rts.resL1 (fn:=Tryz.f117) rfl rfl rfl (kI_conv hX15.symm)

end Go.Fl

/- Contracts: the image of a point. -/
namespace Go.Fl
open Go Go.Proofs
open TrL renaming op→tO
open RunD renaming op→rO
set_option maxRecDepth 100000

theorem sgnQ {r:RlT} (hpo:PolOk r.2.1) (h2:r.2.1.length=2):SgnC r sgQ:=⟨fun x h=>ct_fSignQ r x 250 hpo h2 h zo,fun x y hx hy=>ct_fCmpQ r x y 250 hpo hx hy zo h2⟩
theorem ct_image (r:RlT) (o:Ori) (ls:List NvT) (sg:NvT→Int) (D:Int) (M:Nat) (p:NumT) (hpo:PolOk r.2.1) (hs:SgnC r sg) (v:RowsOk o) (hlo:LenOk r.2.1 D M o.1.length ls) (hpn:NumOk 250 p):Ct Tryz.prog 68 [kPtr eMac (mac r o ls),kRd eNum p] (kTup [kRd eNum (giveN (imgV o ls (takeN r.2.1 p) (letV sg (plV ls o.1) o.1 (takeN r.2.1 p) (o.1.length-1)))),kI (letV sg (plV ls o.1) o.1 (takeN r.2.1 p) (o.1.length-1))]):=by
 have hle:o.1.length≤8:=v.le
 have htwo:2≤o.1.length:=v.two
 have hp1:pmR o.1 o.1.length:=v.p1
 have hrr:=hp1.1
 have hpl1:((plV ls o.1).map giveN).length=o.1.length:=by rw[List.length_map,plV_len]
 have hp2:=v.p2
 have hlt:=letV_rg (sg:=sg) (tops:=plV ls o.1) (pv:=takeN r.2.1 p) hp1 (show o.1.length-1<o.1.length by omega)
 have hq:=aw_ok hpo hlo hp1 hp2 (a:=(letV sg (plV ls o.1) o.1 (takeN r.2.1 p) (o.1.length-1)).toNat) zo
 have hmg:nth ((awV o ls o.1.length).map giveN) (letV sg (plV ls o.1) o.1 (takeN r.2.1 p) (o.1.length-1)).toNat=giveN (nth (awV o ls o.1.length) (letV sg (plV ls o.1) o.1 (takeN r.2.1 p) (o.1.length-1)).toNat):=nth_mapG (by rw[awV_len]; omega)
 have hal:((awV o ls o.1.length).map giveN).length=o.1.length:=by rw[List.length_map,awV_len]
 refine Ct.mk Tryz.func68 rfl Tryz.ntmps68 rfl (fun w J=>?_); refine jx2 ?_; refine jb 3 rfl ?_; refine ja 4 ?_; refine jx7 ?_; refine jc (ct_letter r o ls sg D M p hpo hs v hlo hpn) ?_; refine jx4 ?_; refine Tr.drawS 14 4 mixed (by kernel_rfl) ?_; refine RunS.opA (ok_move rfl uu) (by kernel_rfl) rfl rfl ?_; refine RunS.opA (ok_nilP rfl uu) (by kernel_rfl) rfl rfl ?_; refine RunS.opA (ok_fldP rfl uu rfl) (by kernel_rfl) rfl rfl ?_; refine RunS.opA (ok_ldP rfl uu rfl) (by kernel_rfl) rfl rfl ?_; refine RunS.opA (ok_ldBS rfl uu) (by kernel_rfl) rfl rfl ?_; refine RunS.opA (ok_move rfl uu) (by kernel_rfl) rfl rfl ?_
 refine RunS.opA (ok_nilP rfl uu) (by kernel_rfl) rfl rfl ?_; refine RunS.opA (ok_fldP rfl uu rfl) (by kernel_rfl) rfl rfl ?_; refine RunS.opA (ok_ldP rfl uu rfl) (by kernel_rfl) rfl rfl ?_; refine RunS.opA (ok_move rfl uu) (by kernel_rfl) rfl rfl ?_
 first | refine RunS.opA (ok_idxN rfl uu rfl uu rfl (fun _=>zo)) (by kernel_rfl) rfl rfl ?_ | refine RunS.opA (ok_idxP rfl uu rfl uu rfl (fun _=>zo)) (by kernel_rfl) rfl rfl ?_
 refine RunS.opA (ok_ldPA rfl uu rfl rfl) (by kernel_rfl) rfl rfl ?_; refine RunS.opA (ok_call (fun hp=>ct_fAddN r p _ 250 hpo hpn (by rw[hmg]; exact (give_NumOk (hlo.nbd hq.2 zo)).mono zo) zo) (.a rfl uu<|.s rfl uu rfl<|.a rfl uu<|.nil)) (by kernel_rfl) rfl rfl ?_; refine RunS.op (ok_move rfl uu) rfl rfl ?_; refine RunS.z (st_B rfl rfl rfl) rfl rfl rfl ?_; refine jx4 ?_; exact Rts.resC (fn:=Tryz.f68) (ts:=[5]) rfl rfl rfl (aggRd rfl (by rw[hmg,take_give hq.1]; rfl)) (.i rfl (by rfl)<|.nil)

theorem ct_xApply (x:ExT) (r:RlT) (sg:NvT→Int) (D:Int) (M:Nat) (p:NumT) (hop:Ct Tryz.prog 113 [kRd eFd x.1] (kTup [kPtr eReal r,kI 0])) (hpo:PolOk r.2.1) (hs:SgnC r sg) (v:RowsOk (x.2.1,x.2.2.1)) (hl:x.2.2.2.length=x.2.1.length) (hnm:∀a,a<x.2.1.length→NumOk 250 (nth x.2.2.2 a)) (hlo:LenOk r.2.1 D M x.2.1.length (x.2.2.2.map (takeN r.2.1))) (hpos:∀a,a<x.2.1.length→0<sg (takeN r.2.1 (nth x.2.2.2 a))) (hpn:NumOk 250 p) (hin:0≤sg (takeN r.2.1 p)∧sg (subV (takeN r.2.1 p) (totV (x.2.2.2.map (takeN r.2.1)) x.2.1))<0):Ct Tryz.prog 15 [kRd eX x,kRd eNum p] (kTup [kRd eNum (giveN (imgV (x.2.1,x.2.2.1) (x.2.2.2.map (takeN r.2.1)) (takeN r.2.1 p) (letV sg (plV (x.2.2.2.map (takeN r.2.1)) x.2.1) x.2.1 (takeN r.2.1 p) (x.2.1.length-1)))),kI (letV sg (plV (x.2.2.2.map (takeN r.2.1)) x.2.1) x.2.1 (takeN r.2.1 p) (x.2.1.length-1)),kI 0]):=by
 have hle:x.2.1.length≤8:=v.le
 have hp1:pmR x.2.1 x.2.1.length:=v.p1
 have htt:=pt_ok hpo hlo hp1 x.2.1.length (Nat.le_refl _)
 have htg:takeN r.2.1 (giveN (totV (x.2.2.2.map (takeN r.2.1)) x.2.1))=totV (x.2.2.2.map (takeN r.2.1)) x.2.1:=take_give htt.1
 refine Ct.mk Tryz.func15 rfl Tryz.ntmps15 rfl (fun w J=>?_); refine jx2 ?_; refine jb 2 rfl ?_; refine jb 3 rfl ?_; refine ja 4 ?_; refine jx7 ?_; refine jc (ct_xopen x r sg D M hop hpo hs v hl hnm hlo hpos) ?_; refine jx14 ?_; refine Tr.cnd rfl ?_ ?_
 ·intro h2
  exact absurd h2 (by decide)
 ·intro h2
  refine jx4 ?_; refine Tr.draw 6 mixed (by kernel_rfl) ?_; refine jx3 ?_; refine rO (ok_nilP rfl uu) rfl rfl ?_; refine jx3 ?_; refine jc (ct_inside r (x.2.1,x.2.2.1) (x.2.2.2.map (takeN r.2.1)) sg p (giveN (totV (x.2.2.2.map (takeN r.2.1)) x.2.1)) hs hpn ((give_NumOk (hlo.nbd htt.2 zo)).mono zo)) ?_; refine jx3 ?_; refine Tr.cnd rfl ?_ ?_
  ·intro h4
   rw[htg] at h4; simp[hin.1,hin.2] at h4
  ·intro h4
   refine jx6 ?_; refine jc (ct_image r (x.2.1,x.2.2.1) (x.2.2.2.map (takeN r.2.1)) sg D M p hpo hs v hlo hpn) ?_; refine jx3 ?_; refine ja 9 ?_; refine jx14 ?_
   exact Rts.resC (fn:=Tryz.f15) (ts:=[5,6]) rfl rfl rfl (aggRd rfl zi) (.i rfl zi<|.i rfl zi<|.nil)

end Go.Fl

/- Lowest terms, as the reference of chapter 1 finds them. No program in sight. -/
namespace Go.Fl
open Go
theorem trim_snoc {xs:List Int} {x:Int} (hx:x≠0):trimL (xs++[x])=xs++[x]:=by
 have:=trim_take (xs:=xs++[x]) (m:=xs.length+1) (by simp) (fun i h1 h2=>by simp at h2; omega) (.inr (by simpa [nth] using hx))
 rw[this,List.take_of_length_le (by simp)]
theorem trim_snoc0 {xs:List Int}:trimL (xs++[0])=trimL xs:=trim_pad (k:=1)
theorem trim_step {xs:List Int} {k:Nat} (hk:k<xs.length):(trimL (xs.take (k+1))).length=if nth xs k=0 then (trimL (xs.take k)).length else k+1:=by
 rw[take_succ_nth hk]
 split
 ·rename_i h; rw[h,trim_snoc0]
 ·rename_i h; rw[trim_snoc h,List.length_append,List.length_take]; simp; omega
theorem ediv_zero_iff {a g:Int} (hg:g≠0) (h:g∣a):a/g=0↔a=0:=by
 obtain ⟨q,rfl⟩:=h
 rw[Int.mul_ediv_cancel_left _ hg]
 constructor
 ·intro e; rw[e]; simp
 ·intro e; exact (Int.mul_eq_zero.1 e).resolve_left hg
theorem trim_div {g:Int} (hg:g≠0):∀{cs:List Int},(∀c∈cs,g∣c)→trimL (cs.map fun c=>c/g)=(trimL cs).map fun c=>c/g:=by
 intro cs h
 obtain ⟨k,h1,_⟩:=trim_app (xs:=cs)
 have hz:(cs.map fun c=>c/g)=((trimL cs).map fun c=>c/g)++List.replicate k 0:=by
  conv=>lhs; rw[h1]
  rw[List.map_append,List.map_replicate]
  simp
 rw[hz,trim_pad]
 by_cases hn:trimL cs=[]
 ·rw[hn]; rfl
 ·obtain ⟨xs,x,hx⟩:∃xs x,trimL cs=xs++[x]:=⟨_,_,(List.dropLast_concat_getLast hn).symm⟩
  have hl:=trim_last hn
  have hx0:x≠0:=by
   have e:(trimL cs).getLast hn=x:=by simp[hx]
   rw[← e]; exact hl
  rw[hx,List.map_append]
  exact trim_snoc fun e=>hx0 ((ediv_zero_iff hg (h x (trim_mem (by rw[hx]; simp)))).1 e)
theorem low_give {cs:List Int} {d:Int} (hd:d≠0):giveN (loN cs d)=(tab (trimL cs).length (fun i=>lstZ (nth cs i/sgG d cs)),lstZ (d/sgG d cs)):=by
 unfold giveN loN
 refine Prod.ext ?_ rfl
 show (trimL (cs.map fun c=>c/sgG d cs)).map lstZ=_
 rw[trim_div (sgG_ne hd) fun c hc=>sgG_dvd (.inr hc)]
 refine ext_nth (by simp[tab]) fun i hi=>?_
 rw[List.length_map,List.length_map] at hi
 rw[nth_tab hi,← nth_trim]
 simp[nth,hi]
end Go.Fl

/- Contracts: numbers of the reference of chapter 1 in lowest terms. -/
namespace Go.Fl
open Go Go.Proofs
open TrL renaming op→tO
open RunD renaming op→rO
set_option maxRecDepth 100000

set_option maxHeartbeats 1000000 in
theorem ct_rlowest (c:List (List Int)) (d:List Int) (hc:∀i,InI (nth c i)∧(nth c i).length≤100000) (hd:InI d∧d.length≤100000) (h0:val d≠0) (hcl:c.length≤1000):Ct Tryz.prog 81 [kRd (eL (eL eI)) c,kRd (eL eI) d] (kRd eNum (giveN (loN (c.map val) (val d)))):=by
 have hdd:dl (val d)≤100003:=by have:=dl_val hd.1; have:=hd.2; omega
 have hgl:∀k,dl (gL (val d).natAbs ((c.map val).take k):Int)≤100003:=fun k=>Nat.le_trans (digN_len_le (gL_le zo)) hdd
 have hvl:(c.map val).length=c.length:=List.length_map ..
 have hnv:∀k,nth (c.map val) k=val (nth c k):=fun k=>nth_mapv
 have hg0:(sgG (val d) (c.map val))≠0:=sgG_ne h0
 have hgd:dl (sgG (val d) (c.map val))≤100003:=by have:=hgl c.length; rw[List.take_of_length_le zo] at this; unfold sgG; split; (rw[dl_neg]; exact this); exact this
 have hgz:val []=0:=rfl
 have htl:(trimL (c.map val)).length≤c.length:=by have:=trim_len (xs:=(c.map val)); omega
 refine Ct.mk Tryz.func81 rfl Tryz.ntmps81 rfl (fun w J=>?_); refine jx2 ?_; refine ja 4 ?_; refine jx5 ?_; refine tO (ok_call (fun hp=>ct_rGcd d [] hd.1 (fun _ h=>absurd h (Nat.not_lt_zero _)) (by have:=hd.2; omega) (by simp)) (.a rfl uu<|.n rfl uu<|.nil)) rfl rfl ?_; refine jx14 ?_
 refine Tr.for1 (σ:=Nat) [⟨0,true,_,_⟩,⟨1,true,_,_⟩,⟨4,true,_,_⟩] [⟨4,_,_⟩] (fun k=>[⟨5,true,[],kRd (eL eI) (digN (gL (val d).natAbs ((c.map val).take k)))⟩,⟨6,true,[],kI ((trimL ((c.map val).take k)).length:Int)⟩,⟨7,true,[],kI (k:Int)⟩]) (fun k=>[]) (fun k=>k≤c.length) (fun k=>k=c.length) (fun k=>c.length-k) (0) zi (Ent.mk (.r rfl (by rw[hgz]; simp[gL])<|.i rfl (by rfl)<|.i rfl zi<|zk) (zk) rfl) ?_ ?_
 ·intro k hR0
  refine jn ?_
  have hck:=hc k
  refine jx9 ?_; refine jq ?_ ?_
  ·intro h4
   refine jx11 ?_; refine tO (ok_call (fun hp=>ct_rGcd (digN (gL (val d).natAbs ((c.map val).take k))) (nth c k) (digN_dg _).inI hck.1 (by have:=hgl k; unfold dl at this; simp only[Int.natAbs_natCast] at this; omega) (by have:=hck.2; omega)) (.a rfl uu<|.a rfl uu<|.nil)) rfl rfl ?_; refine jx9 ?_; refine jc (ct_rSign (nth c k) hck.1 (by have:=hck.2; omega)) ?_; refine jx3 ?_; refine jq ?_ ?_
   ·intro h7
    have hnz:nth (c.map val) k≠0:=fun e=>h7 (cmpZ_z.2 (by rw[← hnv]; exact e))
    refine jx12 ?_
    exact End.lp (k+1) zi zo (Ent.mk (.r rfl (by rw[digN_val]; refine congrArg digN ?_; have:=gL_take (c:=(c.map val)) (g:=(val d).natAbs) (k:=k) zo; rw[hnv] at this; simp only[Int.gcd,Int.natAbs_natCast] at this ⊢; omega)<|.i rfl (by rw[trim_step zo,if_neg hnz]; rfl)<|.i rfl zi<|zk) (zk) rfl)
   ·intro h7
    replace h7:=Classical.not_not.1 h7
    have hnz:nth (c.map val) k=0:=by rw[hnv]; exact cmpZ_z.1 h7
    refine jx8 ?_
    exact End.lp (k+1) zi zo (Ent.mk (.r rfl (by rw[digN_val]; refine congrArg digN ?_; have:=gL_take (c:=(c.map val)) (g:=(val d).natAbs) (k:=k) zo; rw[hnv] at this; simp only[Int.gcd,Int.natAbs_natCast] at this ⊢; omega)<|.i rfl (by rw[trim_step zo,if_pos hnz])<|.i rfl zi<|zk) (zk) rfl)
  ·intro h4
   replace h4:=Int.not_lt.1 h4
   refine jx4 ?_
   exact End.cut (k) zo (Ent.mk (.r rfl zi<|.i rfl zi<|.i rfl zi<|zk) (zk) rfl)
 ·rintro _ rfl
  refine je ?_
  rw[show (c.map val).take c.length=(c.map val) from List.take_of_length_le zo]
  refine jx1 ?_; refine Tr.meet2 (σ:=Unit) [⟨0,true,_,_⟩,⟨1,true,_,_⟩,⟨4,true,_,_⟩,⟨6,true,_,_⟩] [⟨4,_,_⟩] (zk) (zk) (fun _=>[⟨5,true,[],kRd (eL eI) (lstZ (sgG (val d) (c.map val)))⟩]) (fun _=>[]) (fun _=>True) ?_ ?_
  ·skip
   refine jx3 ?_; refine jc (ct_rSign d hd.1 (by have:=hd.2; omega)) ?_; refine jx3 ?_; refine jq ?_ ?_
   ·intro h9
    have h9l:val d<0:=by unfold cmpZ at h9; split at h9; assumption; split at h9<;>omega
    refine jx2 ?_; refine tO (ok_call (fun hp=>ct_rNeg (digN (gL (val d).natAbs (c.map val))) (digN_dg _).inI (by have:=hgl c.length; rw[List.take_of_length_le zo] at this; unfold dl at this; simp only[Int.natAbs_natCast] at this; omega)) (.a rfl uu<|.nil)) rfl rfl ?_; refine jx2 ?_
    exact End.cut (()) zi (Ent.mk (.r rfl (by rw[digN_val]; unfold sgG; rw[if_pos h9l])<|zk) (zk) rfl)
   ·intro h9
    replace h9:=Int.not_lt.1 h9
    have h9l:¬val d<0:=fun e=>by unfold cmpZ at h9; rw[if_pos e] at h9; omega
    refine jx1 ?_
    exact End.cut (()) zi (Ent.mk (.r rfl (by unfold sgG; rw[if_neg h9l,lst_nat])<|zk) (zk) rfl)
  ·intro _ hM
   refine jn ?_; refine jx2 ?_; refine tO (ok_build (fun hp=>.nil)) rfl rfl ?_; refine ja 8 ?_; refine jx9 ?_; refine Tr.growC 8 0 108 rfl (ks':=[kOsl 108 0,_]) rfl rfl 22 (eL eI) rfl (.cons inferInstance rfl<|.cons inferInstance rfl<|inferInstance) ?_
   refine Tr.for1 (σ:=Nat) [⟨0,true,_,_⟩,⟨1,true,_,_⟩,⟨4,true,_,_⟩,⟨5,true,_,_⟩,⟨6,true,_,_⟩,⟨8,true,_,_⟩] [⟨4,_,_⟩] (fun k=>[⟨9,true,[],kI (k:Int)⟩]) (fun k=>[⟨8,[108],cBlk [kOsl 108 k,kDet (.slice none 0 0)]⟩,⟨108,[],cArr true 22 (eL eI) (tab k fun i=>lstZ (nth (c.map val) i/(sgG (val d) (c.map val)))) k⟩]) (fun k=>k≤(trimL (c.map val)).length) (fun k=>k=(trimL (c.map val)).length) (fun k=>(trimL (c.map val)).length-k) (0) zi (Ent.mk (.i rfl zi<|zk) (.e (by rfl) rfl<|.a (by rfl) zi<|zk) rfl) ?_ ?_
   ·intro k hR1
    refine jn ?_
    have hck:=hc k
    refine jx8 ?_; refine jq ?_ ?_
    ·intro h13
     refine jx11 ?_; refine tO (ok_call (fun hp=>(by have h:=ct_rDivMod (nth c k) (lstZ (sgG (val d) (c.map val))) hck.1 (lst_in _) (by have:=hck.2; omega) (by rw[lst_len]; omega); simp only[lst_val,if_neg hg0] at h; exact h)) (.a rfl uu<|.a rfl uu<|.nil)) rfl rfl ?_; refine jx13 ?_; refine TrL.new (ok_bsl (eL eI) 59 (fun hp=>.cons rfl<|.nil) rfl rfl rfl rfl) rfl rfl rfl rfl ?_; refine TrL.wkC 8 (.any<|.k<|.nil) rfl ?_; refine jx1 ?_; refine jl ?_; refine jx10 ?_
     exact End.lp (k+1) zi zo (Ent.mk (.i rfl zi<|zk) (.e (by rfl) rfl<|.a (by rw[tab_succ,hnv]) zi<|zk) rfl)
    ·intro h13
     replace h13:=Int.not_lt.1 h13
     refine jx4 ?_
     exact End.cut (k) zo (Ent.mk (.i rfl zi<|zk) (zk) rfl)
   ·rintro k hkn
    refine je ?_; refine jx2 ?_; refine Tr.frzC 108 8 (by simp only[lenMax]; omega) rfl rfl ?_; refine jn ?_; refine jx3 ?_; refine tO (ok_call (fun hp=>(by have h:=ct_rDivMod (d) (lstZ (sgG (val d) (c.map val))) hd.1 (lst_in _) (by have:=hd.2; omega) (by rw[lst_len]; omega); simp only[lst_val,if_neg hg0] at h; exact h)) (.a rfl uu<|.a rfl uu<|.nil)) rfl rfl ?_; refine jx15 ?_; exact Rts.resC1 (fn:=Tryz.f81) rfl rfl (aggRd rfl (by rw[low_give h0,hkn]))

theorem ct_rWhole (n:Int) (hn:-9223372036854775808≤n∧n≤9223372036854775807):Ct Tryz.prog 28 [kI n] (kRd eNum (giveN (loN [n] 1))):=by
 refine Ct.mk Tryz.func28 rfl Tryz.ntmps28 rfl (fun w J=>?_); refine jx2 ?_; refine ja 2 ?_; refine jx5 ?_; refine TrL.new (ok_bsl eI 4 (fun hp=>.cons rfl<|.nil) rfl rfl rfl rfl) rfl rfl rfl rfl ?_; refine TrL.frz 4 [4] ⟨rfl,trivial⟩ (by decide) rfl ?_; refine jl ?_; refine tO (ok_bslJ (eL eI) (fun hp=>.cons rfl<|.nil) rfl rfl rfl rfl) rfl rfl ?_; refine tO (ok_bslJ eI (fun hp=>.cons rfl<|.nil) rfl rfl rfl rfl) rfl rfl ?_; refine tO (ok_call (fun hp=>ct_rlowest [[n]] [1] (fun i=>by match i with | 0=>exact ⟨in1 zo,by show 1≤100000; omega⟩ | i+1=>exact ⟨fun _ h=>absurd h (Nat.not_lt_zero _),by show 0≤100000; omega⟩) ⟨in1 zo,by show 1≤100000; omega⟩ (by decide) (by simp)) (.a rfl uu<|.a rfl uu<|.nil)) rfl rfl ?_
 refine jx4 ?_; exact Rts.resC1 (fn:=Tryz.f28) rfl rfl (aggRd rfl (by rw[show [[n]].map val=[n] by simp[val],val_one]))

end Go.Fl

/- The exchange of two intervals, of lengths 3 and 2. No program in sight. -/
namespace Go.Fl
open Go
theorem give_int {n:Int}:giveN (loN [n] 1)=giveN (intV n):=by
 rw[low_one]
 unfold giveN intV
 have:trimL [n,0,0,0]=trimL [n]:=trim_pad (xs:=[n]) (k:=3)
 simp only[this]
theorem take_int {n:Int}:takeN [0,1] (giveN (intV n))=intV n:=take_give (int_RedN pol_rat n)
abbrev tls:List NvT:=[intV 3,intV 2]
theorem turn_map:([giveN (intV 3),giveN (intV 2)]:List (List (List Int)×List Int)).map (takeN [0,1])=tls:=by simp[take_int]
theorem turn_tot:totV tls [0,1]=intV 5:=by
 have e:totV tls [0,1]=adV (adV (intV 0) (intV 3)) (intV 2):=rfl
 rw[e,add_int,add_int]; rfl
theorem turn_top:plV tls [0,1]=[intV 0,intV 3]:=by
 have e:plV tls [0,1]=[intV 0,adV (intV 0) (intV 3)]:=rfl
 rw[e,add_int]; rfl
theorem turn_bot:plV tls [1,0]=[intV 2,intV 0]:=by
 have e:plV tls [1,0]=[adV (intV 0) (intV 2),intV 0]:=rfl
 rw[e,add_int]; rfl
theorem turn_aw:awV ([0,1],[1,0]) tls 2=[intV 2,intV (-3)]:=by
 unfold awV
 simp only[turn_top,turn_bot]
 show [subV (intV 2) (intV 0),subV (intV 0) (intV 3)]=_
 rw[sub_int,sub_int]; rfl
theorem sgQ_int {n:Int}:sgQ (intV n)=cmpZ n 0:=rfl
theorem turn_l1:letV sgQ (plV tls [0,1]) [0,1] (intV 1) 1=0:=by
 rw[turn_top,letV]
 have e:nth ([intV 0,intV 3]:List NvT) (nth ([0,1]:List Int) (0+1)).toNat=intV 3:=rfl
 rw[e,sub_int,sgQ_int,if_neg (by decide)]; rfl
theorem turn_l3:letV sgQ (plV tls [0,1]) [0,1] (intV 3) 1=1:=by
 rw[turn_top,letV]
 have e:nth ([intV 0,intV 3]:List NvT) (nth ([0,1]:List Int) (0+1)).toNat=intV 3:=rfl
 rw[e,sub_int,sgQ_int,if_pos (by decide)]; rfl
theorem turn_i1:imgV ([0,1],[1,0]) tls (intV 1) 0=intV 3:=by
 unfold imgV
 show adV (intV 1) (nth (awV ([0,1],[1,0]) tls 2) 0)=_
 rw[turn_aw]
 show adV (intV 1) (intV 2)=_
 rw[add_int]; rfl
theorem turn_i3:imgV ([0,1],[1,0]) tls (intV 3) 1=intV 0:=by
 unfold imgV
 show adV (intV 3) (nth (awV ([0,1],[1,0]) tls 2) 1)=_
 rw[turn_aw]
 show adV (intV 3) (intV (-3))=_
 rw[add_int]; rfl
theorem turn_in1:0≤sgQ (intV 1)∧sgQ (subV (intV 1) (totV tls [0,1]))<0:=by
 rw[turn_tot,sub_int]; decide
theorem turn_in3:0≤sgQ (intV 3)∧sgQ (subV (intV 3) (totV tls [0,1]))<0:=by
 rw[turn_tot,sub_int]; decide
theorem int_HB {n:Int} {M:Nat} (h:n.natAbs≤M):HB 1 M (intV n):=⟨[n,0,0,0],rfl,low_one.symm,fun i=>by
 match i with
 | 0=>exact h
 | 1=>exact Nat.zero_le _
 | 2=>exact Nat.zero_le _
 | 3=>exact Nat.zero_le _
 | i+4=>rw[nth_out (by simp)]; exact Nat.zero_le _⟩
theorem turn_len:LenOk [0,1] 1 3 2 tls:=⟨rfl,fun a ha=>by
 match a,ha with
 | 0,_=>exact int_RedN pol_rat 3
 | 1,_=>exact int_RedN pol_rat 2
 | a+2,ha=>omega,fun a ha=>by
 match a,ha with
 | 0,_=>exact int_HB (n:=3) (by decide)
 | 1,_=>exact int_HB (n:=2) (by decide)
 | a+2,ha=>omega,by omega,Nat.le_trans (dl_small (F:=1) zo zo) zo,Nat.le_trans (dl_small (F:=((100000*3:Nat):Int)) zo zo) zo⟩
end Go.Fl

/- Contracts: the exchange that the laws of chapter 5 begin with is mapped as it should. -/
namespace Go.Fl
open Go Go.Proofs
open TrL renaming op→tO
open RunD renaming op→rO
set_option maxRecDepth 100000

abbrev turnX:ExT:=(ratF,[0,1],[1,0],[giveN (intV 3),giveN (intV 2)])
theorem ct_apT (n a q:Int) (hn:-1000≤n∧n≤1000) (hin:0≤sgQ (intV n)∧sgQ (subV (intV n) (totV tls [0,1]))<0) (hl:letV sgQ (plV tls [0,1]) [0,1] (intV n) 1=a) (hi:imgV ([0,1],[1,0]) tls (intV n) a=intV q):Ct Tryz.prog 15 [kRd eX turnX,kRd eNum (giveN (intV n))] (kTup [kRd eNum (giveN (intV q)),kI a,kI 0]):=by
 have h:=ct_xApply turnX ratR sgQ 1 3 (giveN (intV n)) ct_fOpenRat pol_rat (sgnQ pol_rat rfl) (rows_of (by decide)) rfl (fun k hk=>by
  match k,hk with
  | 0,_=>exact (give_NumOk (int_NBd (n:=3) zo)).mono zo
  | 1,_=>exact (give_NumOk (int_NBd (n:=2) zo)).mono zo
  | k+2,hk=>exact absurd hk (by show ¬k+2<2; omega)) (by
  show LenOk [0,1] 1 3 2 ([giveN (intV 3),giveN (intV 2)].map (takeN [0,1]))
  rw[turn_map]; exact turn_len) (fun k hk=>by
  match k,hk with
  | 0,_=>show 0<sgQ (takeN [0,1] (giveN (intV 3))); rw[take_int]; decide
  | 1,_=>show 0<sgQ (takeN [0,1] (giveN (intV 2))); rw[take_int]; decide
  | k+2,hk=>exact absurd hk (by show ¬k+2<2; omega)) ((give_NumOk (int_NBd (n:=n) zo)).mono zo) (by
  show 0≤sgQ (takeN [0,1] (giveN (intV n)))∧sgQ (subV (takeN [0,1] (giveN (intV n))) (totV ([giveN (intV 3),giveN (intV 2)].map (takeN [0,1])) [0,1]))<0
  rw[take_int,turn_map]; exact hin)
 have e1:turnX.2.2.2.map (takeN ratR.2.1)=tls:=turn_map
 have e2:takeN ratR.2.1 (giveN (intV n))=intV n:=take_int
 rw[e1,e2] at h
 have e3:letV sgQ (plV tls turnX.2.1) turnX.2.1 (intV n) (turnX.2.1.length-1)=a:=hl
 rw[e3] at h
 have e4:imgV (turnX.2.1,turnX.2.2.1) tls (intV n) a=intV q:=hi
 rw[e4] at h
 exact h
theorem ct_bLists (a b:List (List Int)):Ct Tryz.prog 51 [kRd (eL (eL eI)) a,kRd (eL (eL eI)) b] (kB (decide (a=b))):=by
 refine Ct.mk Tryz.func51 rfl Tryz.ntmps51 rfl (fun w J=>?_); refine Tr.fact (s:=0) rfl (fun _ _ h=>lenB h) (fun hb=>?_); refine jx15 ?_; refine jq ?_ ?_
 ·intro h1
  have hne:a≠b:=fun e=>h1 (by rw[e])
  refine jx7 ?_; exact Rts.res1 (fn:=Tryz.f51) rfl (.b rfl (by symm; rw[decide_eq_false_iff_not]; exact hne)<|.nil)
 ·intro h1
  replace h1:=Classical.not_not.1 h1
  have hll:a.length=b.length:=by omega
  refine jx8 ?_
  refine Tr.for1 (σ:=Nat) [⟨0,true,_,_⟩,⟨1,true,_,_⟩] [] (fun k=>[⟨5,true,[],kI (k:Int)⟩]) (fun k=>[]) (fun k=>k≤a.length∧∀i,i<k→nth a i=nth b i) (fun k=>∀i,i<a.length→nth a i=nth b i) (fun k=>a.length-k) (0) ⟨Nat.zero_le _,fun i h=>absurd h (Nat.not_lt_zero _)⟩ (Ent.mk (.i rfl zi<|zk) (.nil) rfl) ?_ ?_
  ·rintro k ⟨hk,hR⟩
   refine jn ?_; refine jx9 ?_; refine jq ?_ ?_
   ·intro h4
    refine jx5 ?_; refine Tr.draw 8 mixed (by kernel_rfl) ?_; refine jx9 ?_; refine jc (ct_Ints (nth a k) (nth b k)) ?_; refine jx3 ?_; refine Tr.cnd rfl ?_ ?_
    ·intro h6
     have hne:a≠b:=fun e=>by subst e; simp at h6
     refine jx12 ?_; exact Rts.res1 (fn:=Tryz.f51) rfl (.b rfl (by symm; rw[decide_eq_false_iff_not]; exact hne)<|.nil)
    ·intro h6
     have hkk:nth a k=nth b k:=by simpa using h6
     refine jx8 ?_
     exact End.lp (k+1) ⟨by omega,fun i hi=>by by_cases e:i=k; (rw[e]; exact hkk); exact hR i zo⟩ zo (Ent.mk (.i rfl zi<|zk) (.nil) rfl)
   ·intro h4
    replace h4:=Int.not_lt.1 h4
    refine jx4 ?_
    exact End.cut (k) (fun i hi=>hR i zo) (Ent.mk (.i rfl zi<|zk) (.nil) rfl)
  ·rintro k hE
   refine je ?_; refine jx7 ?_; exact Rts.res1 (fn:=Tryz.f51) rfl (.b rfl (by symm; rw[decide_eq_true_eq]; exact ext_nth hll hE)<|.nil)

theorem ct_bSameNum (a b:NumT):Ct Tryz.prog 18 [kRd eNum a,kRd eNum b] (kB (decide (a=b))):=by
 refine Ct.mk Tryz.func18 rfl Tryz.ntmps18 rfl (fun w J=>?_); refine jx2 ?_; refine jb 2 rfl ?_; refine jb 3 rfl ?_; refine jx9 ?_; refine tO (ok_call (fun hp=>ct_bLists _ _) (.a rfl uu<|.a rfl uu<|.nil)) rfl rfl ?_; refine jx5 ?_; refine TrL.gd rfl rfl rfl (ok_call (fun hp=>ct_Ints a.2 b.2) (.a rfl id<|.a rfl id<|.nil)) rfl rfl ?_; refine jx5 ?_; exact Rts.res1 (fn:=Tryz.f18) rfl (.b rfl (by rw[← Bool.decide_and]; exact decide_eq_decide.2 (Prod.ext_iff).symm)<|.nil)

theorem ct_turn  : Ct Tryz.prog 64 [] (kRd eX turnX):=by
 refine Ct.mk Tryz.func64 rfl Tryz.ntmps64 rfl (fun w J=>?_); refine jx2 ?_; refine ja 0 ?_; refine jx4 ?_; refine jc ct_rRational ?_; refine TrL.new (ok_bsl eI 2 (fun hp=>.cons rfl<|.cons rfl<|.nil) rfl rfl rfl rfl) rfl rfl rfl rfl ?_; refine TrL.frz 2 [2] ⟨rfl,trivial⟩ (by decide) rfl ?_; refine jl ?_; refine TrL.new (ok_bsl eI 3 (fun hp=>.cons rfl<|.cons rfl<|.nil) rfl rfl rfl rfl) rfl rfl rfl rfl ?_; refine TrL.frz 3 [3] ⟨rfl,trivial⟩ (by decide) rfl ?_; refine jl ?_; refine jc (ct_rWhole 3 zo) ?_; refine jc (ct_rWhole 2 zo) ?_; refine TrL.new (ok_bsl eNum 6 (fun hp=>.cons rfl<|.cons rfl<|.nil) rfl rfl rfl rfl) rfl rfl rfl rfl ?_
 refine TrL.frz 6 [6] ⟨rfl,trivial⟩ (by decide) rfl ?_; refine jl ?_; refine tO (ok_build (fun hp=>.cons rfl rfl rfl<|.cons rfl rfl rfl<|.cons rfl rfl rfl<|.cons rfl rfl rfl<|.nil)) rfl rfl ?_; refine jx4 ?_; exact Rts.resC1 (fn:=Tryz.f64) rfl rfl (aggRd rfl (by rw[give_int,give_int]))

theorem ct_awake  : Ct Tryz.prog 12 [] (kB true):=by
 have hw:∀n:Int,-1000≤n∧n≤1000→Ct Tryz.prog 28 [kI n] (kRd eNum (giveN (intV n))):=fun n hn=>by have h:=ct_rWhole n zo; rw[give_int] at h; exact h
 refine Ct.mk Tryz.func12 rfl Tryz.ntmps12 rfl (fun w J=>?_); refine jx7 ?_; refine jc ct_turn ?_; refine jc (hw 1 zo) ?_; refine jc (ct_apT 1 0 3 zo turn_in1 turn_l1 turn_i1) ?_; refine jx4 ?_; refine ja 1 ?_; refine jx7 ?_; refine jc ct_turn ?_; refine jc (hw 3 zo) ?_; refine jc (ct_apT 3 1 0 zo turn_in3 turn_l3 turn_i3) ?_; refine jx4 ?_; refine ja 4 ?_; refine jx6 ?_; refine Tr.draw 18 mixed (by kernel_rfl) ?_; refine jx8 ?_; refine RunD.gd rfl rfl rfl (ok_call (fun hp=>hw 3 zo) (.a rfl uu<|.nil)) rfl rfl ?_; refine RunD.gd rfl rfl rfl (ok_call (fun hp=>ct_bSameNum _ _) (.s rfl id rfl<|.a rfl id<|.nil)) rfl rfl ?_
 refine jx7 ?_; refine RunD.gd rfl rfl rfl (ok_call (fun hp=>hw 0 zo) (.a rfl uu<|.nil)) rfl rfl ?_; refine jx1 ?_; refine TrL.gd rfl rfl rfl (ok_call (fun hp=>ct_bSameNum _ _) (.s rfl id rfl<|.a rfl id<|.nil)) rfl rfl ?_; refine jx9 ?_; exact Rts.res1 (fn:=Tryz.f12) rfl (.b rfl (by simp)<|.nil)

end Go.Fl

/- Intervals of a number: Horner's rule with ends, halving. Plain Lean, no program in sight. -/
namespace Go.Fl
def min4 (a b c d:Int):Int:=min (min a b) (min c d)
def max4 (a b c d:Int):Int:=max (max a b) (max c d)
theorem lin_hull {A B x y:Int} (h1:A≤x) (h2:x≤B):min (A*y) (B*y)≤x*y∧x*y≤max (A*y) (B*y):=by
 rcases Int.le_total 0 y with hy | hy
 ·have e1:=Int.mul_le_mul_of_nonneg_right h1 hy
  have e2:=Int.mul_le_mul_of_nonneg_right h2 hy
  omega
 ·have e1:=Int.mul_le_mul_of_nonpos_right h1 hy
  have e2:=Int.mul_le_mul_of_nonpos_right h2 hy
  omega
theorem hull {A B L H x y:Int} (h1:A≤x) (h2:x≤B) (h3:L≤y) (h4:y≤H):min4 (A*L) (A*H) (B*L) (B*H)≤x*y∧x*y≤max4 (A*L) (A*H) (B*L) (B*H):=by
 have e1:=lin_hull (y:=y) h1 h2
 have e2:=lin_hull (y:=A) h3 h4
 have e3:=lin_hull (y:=B) h3 h4
 rw[Int.mul_comm L,Int.mul_comm H,Int.mul_comm y] at e2 e3
 unfold min4 max4
 omega
theorem min4_le {A B L H:Int}:∃x y,(x=A∨x=B)∧(y=L∨y=H)∧min4 (A*L) (A*H) (B*L) (B*H)=x*y:=by
 unfold min4
 have h:min (min (A*L) (A*H)) (min (B*L) (B*H))=A*L∨min (min (A*L) (A*H)) (min (B*L) (B*H))=A*H∨min (min (A*L) (A*H)) (min (B*L) (B*H))=B*L∨min (min (A*L) (A*H)) (min (B*L) (B*H))=B*H:=by omega
 rcases h with h | h | h | h
 ·exact ⟨A,L,.inl rfl,.inl rfl,h⟩
 ·exact ⟨A,H,.inl rfl,.inr rfl,h⟩
 ·exact ⟨B,L,.inr rfl,.inl rfl,h⟩
 ·exact ⟨B,H,.inr rfl,.inr rfl,h⟩
theorem max4_ge {A B L H:Int}:∃x y,(x=A∨x=B)∧(y=L∨y=H)∧max4 (A*L) (A*H) (B*L) (B*H)=x*y:=by
 unfold max4
 have h:max (max (A*L) (A*H)) (max (B*L) (B*H))=A*L∨max (max (A*L) (A*H)) (max (B*L) (B*H))=A*H∨max (max (A*L) (A*H)) (max (B*L) (B*H))=B*L∨max (max (A*L) (A*H)) (max (B*L) (B*H))=B*H:=by omega
 rcases h with h | h | h | h
 ·exact ⟨A,L,.inl rfl,.inl rfl,h⟩
 ·exact ⟨A,H,.inl rfl,.inr rfl,h⟩
 ·exact ⟨B,L,.inr rfl,.inl rfl,h⟩
 ·exact ⟨B,H,.inr rfl,.inr rfl,h⟩
theorem mul_min' {Q a b:Int} (h:0≤Q):min (Q*a) (Q*b)=Q*min a b:=by
 rcases Int.le_total a b with h1 | h1
 ·have:=Int.mul_le_mul_of_nonneg_left h1 h
  rw[Int.min_eq_left h1,Int.min_eq_left this]
 ·have:=Int.mul_le_mul_of_nonneg_left h1 h
  rw[Int.min_eq_right h1,Int.min_eq_right this]
theorem mul_max' {Q a b:Int} (h:0≤Q):max (Q*a) (Q*b)=Q*max a b:=by
 rcases Int.le_total a b with h1 | h1
 ·have:=Int.mul_le_mul_of_nonneg_left h1 h
  rw[Int.max_eq_right h1,Int.max_eq_right this]
 ·have:=Int.mul_le_mul_of_nonneg_left h1 h
  rw[Int.max_eq_left h1,Int.max_eq_left this]
theorem min4_mul {Q a b c d:Int} (h:0≤Q):min4 (Q*a) (Q*b) (Q*c) (Q*d)=Q*min4 a b c d:=by
 unfold min4; rw[mul_min' h,mul_min' h,mul_min' h]
theorem max4_mul {Q a b c d:Int} (h:0≤Q):max4 (Q*a) (Q*b) (Q*c) (Q*d)=Q*max4 a b c d:=by
 unfold max4; rw[mul_max' h,mul_max' h,mul_max' h]
structure Iv where
 lo:Int
 hi:Int
 den:Int
def enc (I:Iv):List Int→Int×Int×Int
 | []=>(0,0,1)
 | c::cs =>
  let e:=enc I cs
  (min4 (e.1*I.lo) (e.1*I.hi) (e.2.1*I.lo) (e.2.1*I.hi)+c*(e.2.2*I.den),max4 (e.1*I.lo) (e.1*I.hi) (e.2.1*I.lo) (e.2.1*I.hi)+c*(e.2.2*I.den),e.2.2*I.den)
structure Iv.Ok (I:Iv):Prop where
 le:I.lo≤I.hi
 pos:0<I.den
theorem enc_d {I:Iv}:∀{cs:List Int},(enc I cs).2.2=I.den ^ cs.length
 | []=>by simp[enc]
 | c::cs=>by rw[enc,List.length_cons,Int.pow_succ,← enc_d]
theorem enc_le {I:Iv}:∀{cs:List Int},(enc I cs).1≤(enc I cs).2.1
 | []=>Int.le_refl _
 | c::cs=>by
  rw[enc]
  simp only
  have:min4 ((enc I cs).1*I.lo) ((enc I cs).1*I.hi) ((enc I cs).2.1*I.lo) ((enc I cs).2.1*I.hi)≤max4 ((enc I cs).1*I.lo) ((enc I cs).1*I.hi) ((enc I cs).2.1*I.lo) ((enc I cs).2.1*I.hi):=by unfold min4 max4; omega
  omega
structure Iv.In (I' I:Iv) (m:Int):Prop where
 m0:0<m
 den:I'.den=m*I.den
 lo:m*I.lo≤I'.lo
 hi:I'.hi≤m*I.hi
theorem enc_in {I' I:Iv} {m:Int} (h:I'.In I m) (h':I'.lo≤I'.hi):∀{cs:List Int},m ^ cs.length*(enc I cs).1≤(enc I' cs).1∧(enc I' cs).2.1≤m ^ cs.length*(enc I cs).2.1∧(enc I' cs).2.2=m ^ cs.length*(enc I cs).2.2
 | []=>by simp[enc]
 | c::cs=>by
  obtain ⟨h1,h2,h3⟩:=enc_in h h' (cs:=cs)
  have hle:=enc_le (I:=I') (cs:=cs)
  have hm:=h.m0
  rw[enc,enc,List.length_cons,Int.pow_succ]
  simp only
  generalize (enc I cs).1=A at *
  generalize (enc I cs).2.1=B at *
  generalize (enc I cs).2.2=D at *
  generalize (enc I' cs).1=A' at *
  generalize (enc I' cs).2.1=B' at *
  generalize (enc I' cs).2.2=D' at *
  have hq:0<m ^ cs.length:=Int.pow_pos hm
  have hQ:=Int.mul_pos hq hm
  generalize m ^ cs.length=q at *
  have hd:D'*I'.den=q*m*(D*I.den):=by rw[h3,h.den]; simp only[Int.mul_left_comm,Int.mul_comm]
  have hc:c*(D'*I'.den)=q*m*(c*(D*I.den)):=by rw[hd]; simp only[Int.mul_left_comm,Int.mul_comm]
  have e:∀x y:Int,q*x*(m*y)=q*m*(x*y):=fun x y=>by simp only[Int.mul_left_comm,Int.mul_comm]
  have key:∀x y,(x=A'∨x=B')→(y=I'.lo∨y=I'.hi)→min4 (q*A*(m*I.lo)) (q*A*(m*I.hi)) (q*B*(m*I.lo)) (q*B*(m*I.hi))≤x*y∧x*y≤max4 (q*A*(m*I.lo)) (q*A*(m*I.hi)) (q*B*(m*I.lo)) (q*B*(m*I.hi)):=fun x y hx hy=>by
   have b1:q*A≤x∧x≤q*B:=by rcases hx with rfl | rfl<;>omega
   have b2:m*I.lo≤y∧y≤m*I.hi:=by have:=h.lo; have:=h.hi; rcases hy with rfl | rfl<;>omega
   exact hull b1.1 b1.2 b2.1 b2.2
  simp only[e,min4_mul (Int.le_of_lt hQ),max4_mul (Int.le_of_lt hQ)] at key
  refine ⟨?_,?_,hd⟩
  ·obtain ⟨x,y,hx,hy,hxy⟩:=min4_le (A:=A') (B:=B') (L:=I'.lo) (H:=I'.hi)
   have:=(key x y hx hy).1
   rw[hxy,Int.mul_add,hc]; omega
  ·obtain ⟨x,y,hx,hy,hxy⟩:=max4_ge (A:=A') (B:=B') (L:=I'.lo) (H:=I'.hi)
   have:=(key x y hx hy).2
   rw[hxy,Int.mul_add,hc]; omega
end Go.Fl

/- Signs of numbers: the intervals are halved until one decides. Plain Lean, no program in sight. -/
namespace Go.Fl
def hvP (a b:Int):List Int→Int×Int
 | []=>(0,1)
 | c::cs=>((hvP a b cs).1*a+c*(hvP a b cs).2,(hvP a b cs).2*b)
def sgn (z:Int):Int:=cmpZ z 0
def halveI (p:List Int) (I:Iv):Iv :=
 if sgn (hvP I.lo I.den p).1*sgn (hvP (I.lo+I.hi) (I.den+I.den) p).1<0 then ⟨I.lo+I.lo,I.lo+I.hi,I.den+I.den⟩ else ⟨I.lo+I.hi,I.hi+I.hi,I.den+I.den⟩
theorem halve_ok {p:List Int} {I:Iv} (h:I.Ok):(halveI p I).Ok:=by
 have h1:=h.le; have h2:=h.pos
 unfold halveI
 split
 ·exact ⟨by simp only; omega,by simp only; omega⟩
 ·exact ⟨by simp only; omega,by simp only; omega⟩
theorem halve_in {p:List Int} {I:Iv} (h:I.Ok):(halveI p I).In I 2:=by
 have h1:=h.le
 unfold halveI
 split
 ·exact ⟨by omega,by simp only; omega,by simp only; omega,by simp only; omega⟩
 ·exact ⟨by omega,by simp only; omega,by simp only; omega,by simp only; omega⟩
theorem Iv.In.trans {A B C:Iv} {m n:Int} (h1:A.In B m) (h2:B.In C n):A.In C (m*n):=by
 have a1:=h1.m0; have a2:=h2.m0
 refine ⟨Int.mul_pos a1 a2,by rw[h1.den,h2.den,Int.mul_assoc],?_,?_⟩
 ·have:=Int.mul_le_mul_of_nonneg_left h2.lo (Int.le_of_lt a1)
  have:=h1.lo
  rw[Int.mul_assoc]; omega
 ·have:=Int.mul_le_mul_of_nonneg_left h2.hi (Int.le_of_lt a1)
  have:=h1.hi
  rw[Int.mul_assoc]; omega
def ivK (p:List Int) (I:Iv):Nat→Iv
 | 0=>I
 | k+1=>halveI p (ivK p I k)
theorem ivK_ok {p:List Int} {I:Iv} (h:I.Ok):∀{k:Nat},(ivK p I k).Ok
 | 0=>h
 | _+1=>halve_ok (ivK_ok h)
theorem ivK_in {p:List Int} {I:Iv} (h:I.Ok) {j:Nat}:∀{n:Nat},∃m,(ivK p I (j+n)).In (ivK p I j) m
 | 0=>⟨1,by omega,by rw[Nat.add_zero]; omega,by rw[Nat.add_zero]; omega,by rw[Nat.add_zero]; omega⟩
 | n+1=>by
  obtain ⟨m,hm⟩:=ivK_in h (j:=j) (n:=n)
  exact ⟨2*m,(halve_in (ivK_ok h)).trans hm⟩
section
variable {p:List Int} {I:Iv} {cs:List Int} {j k:Nat}
theorem encK_pos (h:I.Ok) (hjk:j≤k) (hp:0<(enc (ivK p I j) cs).1):0<(enc (ivK p I k) cs).1:=by
 obtain ⟨n,rfl⟩:=Nat.exists_eq_add_of_le hjk
 obtain ⟨m,hm⟩:=ivK_in (p:=p) h (j:=j) (n:=n)
 have h1:=(enc_in hm (ivK_ok h).le (cs:=cs)).1
 have h2:=Int.mul_pos (show 0<m ^ cs.length from Int.pow_pos hm.m0) hp
 omega
theorem encK_neg (h:I.Ok) (hjk:j≤k) (hp:(enc (ivK p I j) cs).2.1<0):(enc (ivK p I k) cs).2.1<0:=by
 obtain ⟨n,rfl⟩:=Nat.exists_eq_add_of_le hjk
 obtain ⟨m,hm⟩:=ivK_in (p:=p) h (j:=j) (n:=n)
 have h1:=(enc_in hm (ivK_ok h).le (cs:=cs)).2.1
 have h2:=Int.mul_neg_of_pos_of_neg (show 0<m ^ cs.length from Int.pow_pos hm.m0) hp
 omega
theorem encK_not (h:I.Ok) (hp:0<(enc (ivK p I j) cs).1) (hn:(enc (ivK p I k) cs).2.1<0):False:=by
 have h1:=encK_pos h (Nat.le_max_left j k) hp
 have h2:=encK_neg h (Nat.le_max_right j k) hn
 have h3:=enc_le (I:=ivK p I (max j k)) (cs:=cs)
 omega
end
open Classical in
noncomputable def sgnF (p:List Int) (I:Iv) (cs:List Int):Int:=if ∃k,0<(enc (ivK p I k) cs).1 then 1 else if ∃k,(enc (ivK p I k) cs).2.1<0 then -1 else 0
theorem sgnF_pos {p:List Int} {I:Iv} {cs:List Int} {k:Nat} (h:0<(enc (ivK p I k) cs).1):sgnF p I cs=1:=if_pos ⟨k,h⟩
theorem sgnF_neg {p:List Int} {I:Iv} {cs:List Int} {k:Nat} (hI:I.Ok) (h:(enc (ivK p I k) cs).2.1<0):sgnF p I cs=-1:=by
 unfold sgnF
 rw[if_neg (fun ⟨j,hj⟩=>encK_not hI hj h),if_pos ⟨k,h⟩]
theorem enc_mul {I:Iv} {m:Int} (hm:0≤m):∀{cs:List Int},enc I (cs.map fun c=>c*m)=(m*(enc I cs).1,m*(enc I cs).2.1,(enc I cs).2.2)
 | []=>by simp[enc]
 | c::cs=>by
  rw[List.map_cons,enc,enc_mul hm,enc]
  simp only[Int.mul_assoc,min4_mul hm,max4_mul hm]
  refine Prod.ext ?_ (Prod.ext ?_ rfl)
  ·simp only
   rw[Int.mul_add,Int.mul_left_comm]
  ·simp only
   rw[Int.mul_add,Int.mul_left_comm]
theorem enc_neg {I:Iv}:∀{cs:List Int},enc I (cs.map fun c=>-c)=(-(enc I cs).2.1,-(enc I cs).1,(enc I cs).2.2)
 | []=>by simp[enc]
 | c::cs=>by
  rw[List.map_cons,enc,enc_neg,enc]
  simp only[Int.neg_mul]
  refine Prod.ext ?_ (Prod.ext ?_ rfl)
  ·simp only[min4,max4]; omega
  ·simp only[min4,max4]; omega
theorem enc_add {I:Iv} (hI:I.lo≤I.hi):∀{xs ys:List Int},xs.length=ys.length→(enc I xs).1+(enc I ys).1≤(enc I (List.zipWith (·+·) xs ys)).1∧(enc I (List.zipWith (·+·) xs ys)).2.1≤(enc I xs).2.1+(enc I ys).2.1∧(enc I (List.zipWith (·+·) xs ys)).2.2=(enc I xs).2.2∧(enc I ys).2.2=(enc I xs).2.2
 | [],[],_=>by simp[enc]
 | [],_::_,h=>by simp at h
 | _::_,[],h=>by simp at h
 | x::xs,y::ys,h=>by
  obtain ⟨h1,h2,h3,h4⟩:=enc_add hI (xs:=xs) (ys:=ys) (by simpa using h)
  have hx:=enc_le (I:=I) (cs:=xs); have hy:=enc_le (I:=I) (cs:=ys); have hz:=enc_le (I:=I) (cs:=List.zipWith (·+·) xs ys)
  rw[List.zipWith_cons_cons,enc,enc,enc]
  simp only
  rw[h3,h4]
  generalize (enc I xs).1=A at *
  generalize (enc I xs).2.1=B at *
  generalize (enc I ys).1=A' at *
  generalize (enc I ys).2.1=B' at *
  generalize (enc I (List.zipWith (·+·) xs ys)).1=A2 at *
  generalize (enc I (List.zipWith (·+·) xs ys)).2.1=B2 at *
  generalize (enc I xs).2.2*I.den=D at *
  rw[Int.add_mul]
  have key:∀u v,A+A'≤u→u≤B+B'→(v=I.lo∨v=I.hi)→min4 (A*I.lo) (A*I.hi) (B*I.lo) (B*I.hi)+min4 (A'*I.lo) (A'*I.hi) (B'*I.lo) (B'*I.hi)≤u*v∧u*v≤max4 (A*I.lo) (A*I.hi) (B*I.lo) (B*I.hi)+max4 (A'*I.lo) (A'*I.hi) (B'*I.lo) (B'*I.hi):=fun u v e1 e2 hv=>by
   obtain ⟨s,hs⟩:∃s,s=min B (u-A'):=⟨_,rfl⟩
   have b1:A≤s∧s≤B:=by omega
   have b2:A'≤u-s∧u-s≤B':=by omega
   have b3:I.lo≤v∧v≤I.hi:=by rcases hv with rfl | rfl<;>omega
   have c1:=hull b1.1 b1.2 b3.1 b3.2
   have c2:=hull b2.1 b2.2 b3.1 b3.2
   rw[Int.sub_mul] at c2
   omega
  refine ⟨?_,?_,rfl,rfl⟩
  ·obtain ⟨u,v,hu,hv,huv⟩:=min4_le (A:=A2) (B:=B2) (L:=I.lo) (H:=I.hi)
   have:=(key u v (by rcases hu with rfl | rfl<;>omega) (by rcases hu with rfl | rfl<;>omega) hv).1
   rw[huv]; omega
  ·obtain ⟨u,v,hu,hv,huv⟩:=max4_ge (A:=A2) (B:=B2) (L:=I.lo) (H:=I.hi)
   have:=(key u v (by rcases hu with rfl | rfl<;>omega) (by rcases hu with rfl | rfl<;>omega) hv).2
   rw[huv]; omega
theorem sgnF_add {p:List Int} {I:Iv} {xs ys:List Int} (hI:I.Ok) (hl:xs.length=ys.length) (hx:sgnF p I xs=1) (hy:sgnF p I ys=1):sgnF p I (List.zipWith (·+·) xs ys)=1:=by
 have f:∀cs,sgnF p I cs=1→∃k,0<(enc (ivK p I k) cs).1:=fun cs h=>by
  unfold sgnF at h
  split at h
  ·assumption
  ·split at h<;>omega
 obtain ⟨j,hj⟩:=f xs hx
 obtain ⟨k,hk⟩:=f ys hy
 have h1:=encK_pos hI (Nat.le_max_left j k) hj
 have h2:=encK_pos hI (Nat.le_max_right j k) hk
 have h3:=(enc_add (ivK_ok hI (p:=p) (k:=max j k)).le hl).1
 exact sgnF_pos (k:=max j k) zo
theorem sgnF_mul {p:List Int} {I:Iv} {cs:List Int} {m:Int} (hm:0<m):sgnF p I (cs.map fun c=>c*m)=sgnF p I cs:=by
 unfold sgnF
 have e1:(∃k,0<(enc (ivK p I k) (cs.map fun c=>c*m)).1)↔∃k,0<(enc (ivK p I k) cs).1:=by
  refine exists_congr fun k=>?_
  rw[enc_mul (Int.le_of_lt hm)]
  exact ⟨fun h=>Classical.byContradiction fun hn=>by have:=Int.mul_nonneg (Int.le_of_lt hm) (show 0≤-(enc (ivK p I k) cs).1 by omega); rw[Int.mul_neg] at this; simp only at h; omega,fun h=>Int.mul_pos hm h⟩
 have e2:(∃k,(enc (ivK p I k) (cs.map fun c=>c*m)).2.1<0)↔∃k,(enc (ivK p I k) cs).2.1<0:=by
  refine exists_congr fun k=>?_
  rw[enc_mul (Int.le_of_lt hm)]
  exact ⟨fun h=>Classical.byContradiction fun hn=>by have:=Int.mul_nonneg (Int.le_of_lt hm) (show 0≤(enc (ivK p I k) cs).2.1 by omega); simp only at h; omega,fun h=>Int.mul_neg_of_pos_of_neg hm h⟩
 by_cases a1:∃k,0<(enc (ivK p I k) cs).1
 ·rw[if_pos a1,if_pos (e1.2 a1)]
 ·rw[if_neg a1,if_neg (fun h=>a1 (e1.1 h))]
  by_cases a2:∃k,(enc (ivK p I k) cs).2.1<0
  ·rw[if_pos a2,if_pos (e2.2 a2)]
  ·rw[if_neg a2,if_neg (fun h=>a2 (e2.1 h))]
end Go.Fl

/- Polynomials with integer coefficients (by coefficient functions): Gauss' lemma, common divisors and combinations. Plain Lean, no program in sight. -/
namespace Go.Fl
abbrev Pol:=Nat→Int
def PDg (f:Pol) (d:Nat):Prop:=∀i,d<i→f i=0
def cnv (f g:Pol):Pol:=fun k=>sumTo (fun i=>f i*g (k-i)) (k+1)
theorem sumTo_nil {f:Nat→Int}:∀{k:Nat},(∀i,i<k→f i=0)→sumTo f k=0
 | 0,_=>rfl
 | k+1,h=>by rw[sumTo_succ,sumTo_nil fun i hi=>h i zo,h k zo]; rfl
theorem sumTo_mulL {f:Nat→Int} {m:Int}:∀{k:Nat},sumTo (fun i=>m*f i) k=m*sumTo f k
 | 0=>by simp[sumTo]
 | k+1=>by rw[sumTo_succ,sumTo_succ,sumTo_mulL,Int.mul_add]
theorem sumTo_dvd {f:Nat→Int} {m:Int}:∀{k:Nat},(∀i,i<k→m∣f i)→m∣sumTo f k
 | 0,_=>⟨0,by simp[sumTo]⟩
 | k+1,h=>by rw[sumTo_succ]; exact Int.dvd_add (sumTo_dvd fun i hi=>h i zo) (h k zo)
theorem sumTo_but {f:Nat→Int} {m:Int} {j:Nat}:∀{k:Nat},j<k→(∀i,i<k→i≠j→m∣f i)→∃q,sumTo f k=f j+m*q
 | 0,h,_=>absurd h zo
 | k+1,h,hd=>by
  by_cases e:j=k
  ·subst e
   obtain ⟨q,hq⟩:=sumTo_dvd (f:=f) (m:=m) (k:=j) fun i hi=>hd i zo zo
   exact ⟨q,by rw[sumTo_succ,hq]; omega⟩
  ·obtain ⟨q,hq⟩:=sumTo_but (f:=f) (m:=m) (k:=k) zo fun i hi hne=>hd i zo hne
   obtain ⟨r,hr⟩:=hd k zo (fun e'=>e e'.symm)
   exact ⟨q+r,by rw[sumTo_succ,hq,hr,Int.mul_add]; omega⟩
theorem sumTo_one {f:Nat→Int} {j:Nat}:∀{k:Nat},j<k→(∀i,i<k→i≠j→f i=0)→sumTo f k=f j
 | 0,h,_=>absurd h zo
 | k+1,h,hd=>by
  by_cases e:j=k
  ·subst e; rw[sumTo_succ,sumTo_nil fun i hi=>hd i zo zo]; omega
  ·rw[sumTo_succ,sumTo_one zo fun i hi hne=>hd i zo hne,hd k zo (fun e'=>e e'.symm)]; omega
theorem cnv_top {f g:Pol} {a b:Nat} (hf:PDg f a) (hg:PDg g b):cnv f g (a+b)=f a*g b:=by
 unfold cnv
 rw[sumTo_one (j:=a) zo]
 ·rw[Nat.add_sub_cancel_left]
 ·intro i hi hne
  by_cases h:a<i
  ·rw[hf i h,Int.zero_mul]
  ·rw[hg (a+b-i) zo,Int.mul_zero]
theorem cnv_dg {f g:Pol} {a b:Nat} (hf:PDg f a) (hg:PDg g b):PDg (cnv f g) (a+b):=fun k hk=>by
 unfold cnv
 refine sumTo_nil fun i _=>?_
 by_cases h:a<i
 ·rw[hf i h,Int.zero_mul]
 ·rw[hg (k-i) zo,Int.mul_zero]
theorem cnv_mulL {f g:Pol} {m:Int}:cnv (fun i=>m*f i) g=fun k=>m*cnv f g k:=by
 funext k; unfold cnv
 rw[← sumTo_mulL]
 exact sumTo_congr fun i _=>by rw[Int.mul_assoc]
theorem cnv_mulR {f g:Pol} {m:Int}:cnv f (fun i=>m*g i)=fun k=>m*cnv f g k:=by
 funext k; unfold cnv
 rw[← sumTo_mulL]
 exact sumTo_congr fun i _=>by rw[Int.mul_left_comm]
theorem prime_ex {s:Nat} (h:1<s):∃q,1<q∧q∣s∧∀a b:Int,(q:Int)∣a*b→(q:Int)∣a∨(q:Int)∣b:=by
 have key:∀k,∀j,j+k=s→1<j→(∀i,1<i→i<j→¬i∣s)→∃q,1<q∧q∣s∧∀i,1<i→i<q→¬i∣s:=by
  intro k
  induction k with
  | zero=>intro j h1 h2 h3; exact ⟨s,h,Nat.dvd_refl _,fun i a b=>h3 i a zo⟩
  | succ k ih =>
   intro j h1 h2 h3
   by_cases hd:j∣s
   ·exact ⟨j,h2,hd,h3⟩
   ·refine ih (j+1) zo zo fun i a b=>?_
    by_cases e:i=j
    ·subst e; exact hd
    ·exact h3 i a zo
 obtain ⟨q,h1,h2,h3⟩:=key (s-2) 2 zo zo fun i a b=>by omega
 refine ⟨q,h1,h2,fun a b hab=>?_⟩
 have hab':q∣a.natAbs*b.natAbs:=by
  have:=Int.natAbs_dvd_natAbs.2 hab
  rwa [Int.natAbs_natCast,Int.natAbs_mul] at this
 have hg:Nat.gcd q a.natAbs∣q:=Nat.gcd_dvd_left _ _
 by_cases e:Nat.gcd q a.natAbs=1
 ·exact .inr (Int.ofNat_dvd_left.2 (Nat.Coprime.dvd_of_dvd_mul_left e hab'))
 ·have hpos:0<Nat.gcd q a.natAbs:=Nat.gcd_pos_of_pos_left _ zo
  have hle:=Nat.le_of_dvd zo hg
  have heq:Nat.gcd q a.natAbs=q:=Classical.byContradiction fun hne=>h3 _ zo zo (Nat.dvd_trans hg h2)
  exact .inl (Int.ofNat_dvd_left.2 (by rw[← heq]; exact Nat.gcd_dvd_right _ _))
theorem least_nat {P:Nat→Prop} (h:∃i,P i):∃i,P i∧∀j,j<i→¬P j:=by
 obtain ⟨i,hi⟩:=h
 induction i using Nat.strongRecOn with
 | _ i ih =>
  by_cases e:∃j,j<i∧P j
  ·obtain ⟨j,h1,h2⟩:=e; exact ih j h1 h2
  ·exact ⟨i,hi,fun j hj hp=>e ⟨j,hj,hp⟩⟩
theorem gauss {q:Int} (hp:∀a b:Int,q∣a*b→q∣a∨q∣b) {r t:Pol} (h:∀k,q∣cnv r t k):(∀k,q∣r k)∨∀k,q∣t k:=by
 refine Classical.byContradiction fun hn=>?_
 rw[not_or] at hn
 obtain ⟨i,hi,hi'⟩:=least_nat (Classical.not_forall.1 hn.1)
 obtain ⟨j,hj,hj'⟩:=least_nat (Classical.not_forall.1 hn.2)
 obtain ⟨m,hm⟩:=sumTo_but (f:=fun k=>r k*t (i+j-k)) (m:=q) (j:=i) (k:=i+j+1) zo fun k hk hne=>by
  by_cases hlt:k<i
  ·exact Int.dvd_trans (Classical.not_not.1 (hi' k hlt)) (Int.dvd_mul_right _ _)
  ·exact Int.dvd_trans (Classical.not_not.1 (hj' (i+j-k) zo)) (Int.dvd_mul_left _ _)
 have h1:q∣cnv r t (i+j):=h _
 have h2:cnv r t (i+j)=r i*t (i+j-i)+q*m:=hm
 rw[h2,Nat.add_sub_cancel_left] at h1
 have h3:q∣r i*t j:=(Int.dvd_add_left (Int.dvd_mul_right q m)).1 h1
 rcases hp _ _ h3 with h | h
 ·exact hi h
 ·exact hj h
theorem gauss_div {p:Pol} {a b:Nat}:∀(n:Nat) {s:Int} {r t:Pol},s.natAbs=n→s≠0→PDg r a→r a≠0→PDg t b→(∀k,s*p k=cnv r t k)→∃r' t',PDg r' a∧r' a≠0∧PDg t' b∧((∀k,p k=cnv r' t' k)∨∀k,-p k=cnv r' t' k):=by
 intro n
 induction n using Nat.strongRecOn with
 | _ n ih =>
  intro s r t hn hs hr hra ht h
  by_cases h1:n=1
  ·rcases (show s=1∨s=-1 by omega) with rfl | rfl
   ·exact ⟨r,t,hr,hra,ht,.inl fun k=>by rw[← h k,Int.one_mul]⟩
   ·exact ⟨r,t,hr,hra,ht,.inr fun k=>by rw[← h k,Int.neg_mul,Int.one_mul]⟩
  ·obtain ⟨q,q1,q2,q3⟩:=prime_ex (s:=n) zo
   have hqs:(q:Int)∣s:=Int.ofNat_dvd_left.2 (by rw[hn]; exact q2)
   obtain ⟨s',hs'⟩:=hqs
   have hq0:(q:Int)≠0:=by omega
   have hlt:s'.natAbs<n:=by
    rw[← hn,hs',Int.natAbs_mul,Int.natAbs_natCast]
    have h0:0<s'.natAbs:=by
     refine Nat.pos_of_ne_zero fun e=>hs ?_
     rw[hs',show s'=0 by omega,Int.mul_zero]
    have:=Nat.mul_lt_mul_of_pos_right q1 h0
    omega
   have hs0:s'≠0:=fun e=>hs (by rw[hs',e,Int.mul_zero])
   have hall:∀k,(q:Int)∣cnv r t k:=fun k=>⟨s'*p k,by rw[← h k,hs',Int.mul_assoc]⟩
   rcases gauss q3 hall with hd | hd
   ·have e:∀k,r k=(q:Int)*(r k/q):=fun k=>(Int.mul_ediv_cancel' (hd k)).symm
    refine ih _ hlt (r:=fun k=>r k/q) (t:=t) rfl hs0 (fun i hi=>by show r i/_=0; rw[hr i hi,Int.zero_ediv]) (fun e0=>hra (by rw[e a,show r a/(q:Int)=0 from e0,Int.mul_zero])) ht fun k=>?_
    have h2:cnv r t k=(q:Int)*cnv (fun k=>r k/q) t k:=by
     have:r=fun k=>(q:Int)*(r k/q):=funext e
     conv=>lhs; rw[this,cnv_mulL]
    have h3:(q:Int)*(s'*p k)=q*cnv (fun k=>r k/q) t k:=by rw[← h2,← h k,hs',Int.mul_assoc]
    exact Int.eq_of_mul_eq_mul_left hq0 h3
   ·have e:∀k,t k=(q:Int)*(t k/q):=fun k=>(Int.mul_ediv_cancel' (hd k)).symm
    refine ih _ hlt (r:=r) (t:=fun k=>t k/q) rfl hs0 hr hra (fun i hi=>by show t i/_=0; rw[ht i hi,Int.zero_ediv]) fun k=>?_
    have h2:cnv r t k=(q:Int)*cnv r (fun k=>t k/q) k:=by
     have:t=fun k=>(q:Int)*(t k/q):=funext e
     conv=>lhs; rw[this,cnv_mulR]
    have h3:(q:Int)*(s'*p k)=q*cnv r (fun k=>t k/q) k:=by rw[← h2,← h k,hs',Int.mul_assoc]
    exact Int.eq_of_mul_eq_mul_left hq0 h3
end Go.Fl

/- Euclid's algorithm on polynomials, with multiples instead of fractions: a common divisor, or a combination that is a number. Plain Lean, no program in sight. -/
namespace Go.Fl
def shf (k:Nat) (g:Pol):Pol:=fun i=>if k≤i then g (i-k) else 0
def stpP (a b:Int) (k:Nat) (f g:Pol):Pol:=fun i=>a*f i-b*shf k g i
theorem sumTo_tail {f:Nat→Int} {m:Nat}:∀{j:Nat},(∀i,m≤i→i<m+j→f i=0)→sumTo f (m+j)=sumTo f m
 | 0,_=>rfl
 | j+1,h=>by rw[show m+(j+1)=m+j+1 by omega,sumTo_succ,sumTo_tail fun i h1 h2=>h i h1 zo,h (m+j) zo zo]; omega
theorem sumTo_shift {f:Nat→Int} {k:Nat}:∀{j:Nat},(∀i,i<k→f i=0)→sumTo f (k+j)=sumTo (fun i=>f (k+i)) j
 | 0,h=>by rw[Nat.add_zero,sumTo_nil h]; rfl
 | j+1,h=>by rw[show k+(j+1)=k+j+1 by omega,sumTo_succ,sumTo_succ,sumTo_shift h]
theorem cnv_shfL {f g:Pol} {k:Nat}:cnv (shf k f) g=shf k (cnv f g):=by
 funext i
 unfold cnv shf
 by_cases h:k≤i
 ·rw[if_pos h,show i+1=k+(i-k+1) by omega,sumTo_shift]
  ·refine sumTo_congr fun j hj=>?_
   rw[if_pos zo,Nat.add_sub_cancel_left,show i-(k+j)=i-k-j by omega]
  ·intro j hj; rw[if_neg zo,Int.zero_mul]
 ·rw[if_neg h]
  exact sumTo_nil fun j hj=>by rw[if_neg zo,Int.zero_mul]
theorem cnv_shfR {f g:Pol} {k:Nat}:cnv f (shf k g)=shf k (cnv f g):=by
 funext i
 unfold cnv shf
 by_cases h:k≤i
 ·rw[if_pos h,show i+1=(i-k+1)+k by omega,sumTo_tail]
  ·refine sumTo_congr fun j hj=>?_
   rw[if_pos zo,show i-j-k=i-k-j by omega]
  ·intro j h1 h2; rw[if_neg zo,Int.mul_zero]
 ·rw[if_neg h]
  exact sumTo_nil fun j hj=>by rw[if_neg zo,Int.mul_zero]
theorem cnv_subL {f g h:Pol}:cnv (fun i=>f i-g i) h=fun i=>cnv f h i-cnv g h i:=by
 funext i; unfold cnv
 rw[← sumTo_sub]
 exact sumTo_congr fun j _=>by rw[Int.sub_mul]
theorem cnv_addL {f g h:Pol}:cnv (fun i=>f i+g i) h=fun i=>cnv f h i+cnv g h i:=by
 funext i; unfold cnv
 rw[← sumTo_add]
 exact sumTo_congr fun j _=>by rw[Int.add_mul]
theorem cnv_addR {f g h:Pol}:cnv h (fun i=>f i+g i)=fun i=>cnv h f i+cnv h g i:=by
 funext i; unfold cnv
 rw[← sumTo_add]
 exact sumTo_congr fun j _=>by rw[Int.mul_add]
theorem shf_mul {g:Pol} {k:Nat} {b:Int}:(fun i=>b*shf k g i)=shf k fun i=>b*g i:=by
 funext i; unfold shf
 split
 ·rfl
 ·rw[Int.mul_zero]
theorem cnv_stp {a b:Int} {k:Nat} {f g h:Pol}:cnv (stpP a b k f g) h=stpP a b k (cnv f h) (cnv g h):=by
 unfold stpP
 rw[cnv_subL,cnv_mulL,cnv_mulL,cnv_shfL]
def oneP:Pol:=fun i=>if i=0 then 1 else 0
def nilP:Pol:=fun _=>0
theorem cnv_one {f:Pol}:cnv oneP f=f:=by
 funext k; unfold cnv
 rw[sumTo_one (j:=0) zo]
 ·unfold oneP; rw[if_pos rfl,Int.one_mul]; rfl
 ·intro i _ hne; unfold oneP; rw[if_neg hne,Int.zero_mul]
theorem cnv_nil {f:Pol}:cnv nilP f=nilP:=by
 funext k; unfold cnv
 exact sumTo_nil fun i _=>by unfold nilP; rw[Int.zero_mul]
structure CmP (p c:Pol) (X E:Nat) (f u v:Pol):Prop where
 eq:∀k,f k=cnv u p k+cnv v c k
 du:PDg u E
 dv:PDg v E
 bf:∀k,(f k).natAbs≤X
 bu:∀k,(u k).natAbs≤X
 bv:∀k,(v k).natAbs≤X
theorem stp_bd {a b:Int} {k X:Nat} {f g:Pol} (ha:a.natAbs≤X) (hb:b.natAbs≤X) (hf:∀i,(f i).natAbs≤X) (hg:∀i,(g i).natAbs≤X) (i:Nat):(stpP a b k f g i).natAbs≤2*X*X:=by
 have h1:(a*f i).natAbs≤X*X:=by rw[Int.natAbs_mul]; exact Nat.mul_le_mul ha (hf i)
 have h2:(b*shf k g i).natAbs≤X*X:=by
  rw[Int.natAbs_mul]
  refine Nat.mul_le_mul hb ?_
  unfold shf; split
  ·exact hg _
  ·exact Nat.zero_le _
 unfold stpP
 rw[show 2*X*X=X*X+X*X by rw[Nat.mul_assoc,Nat.two_mul]]
 omega
theorem stp_dg {a b:Int} {k d e:Nat} {f g:Pol} (hf:PDg f d) (hg:PDg g e) (h1:d≤e+k):PDg (stpP a b k f g) (e+k):=fun i hi=>by
 unfold stpP shf
 rw[hf i zo,if_pos zo,hg (i-k) zo]; omega
theorem CmP.stp {p c:Pol} {X E k:Nat} {f u v g u' v':Pol} {a b:Int} (h:CmP p c X E f u v) (h':CmP p c X E g u' v') (ha:a.natAbs≤X) (hb:b.natAbs≤X):CmP p c (2*X*X) (E+k) (stpP a b k f g) (stpP a b k u u') (stpP a b k v v'):=by
 refine ⟨fun i=>?_,stp_dg h.du h'.du zo,stp_dg h.dv h'.dv zo,stp_bd ha hb h.bf h'.bf,stp_bd ha hb h.bu h'.bu,stp_bd ha hb h.bv h'.bv⟩
 rw[cnv_stp,cnv_stp]
 unfold stpP shf
 rw[h.eq i]
 split
 ·rw[h'.eq (i-k)]; simp only[Int.mul_add]; omega
 ·simp only[Int.mul_add,Int.mul_zero]; omega
def BkP (p f g:Pol):Prop:=∃s q1 q2 d,s≠0∧PDg q1 d∧PDg q2 d∧∀k,s*p k=cnv q1 f k+cnv q2 g k
theorem BkP.swap {p f g:Pol} (h:BkP p f g):BkP p g f:=by
 obtain ⟨s,q1,q2,d,h1,h2,h3,h4⟩:=h
 exact ⟨s,q2,q1,d,h1,h3,h2,fun k=>by rw[h4 k,Int.add_comm]⟩
theorem BkP.stp {p f g:Pol} (h:BkP p f g) {a b:Int} {k:Nat} (ha:a≠0):BkP p (stpP a b k f g) g:=by
 obtain ⟨s,q1,q2,d,h1,h2,h3,h4⟩:=h
 refine ⟨a*s,q1,fun i=>shf k (fun i=>b*q1 i) i+a*q2 i,d+k,Int.mul_ne_zero ha h1,fun i hi=>h2 i zo,fun i hi=>?_,fun i=>?_⟩
 ·show (if k≤i then b*q1 (i-k) else 0)+a*q2 i=0
  rw[if_pos zo,h2 (i-k) zo,h3 i zo]; omega
 ·have e1:cnv q1 (stpP a b k f g)=fun i=>a*cnv q1 f i-b*shf k (cnv q1 g) i:=by
   have hs:stpP a b k f g=fun i=>a*f i+(-b)*shf k g i:=by funext i; unfold stpP; rw[Int.neg_mul]; omega
   rw[hs,cnv_addR,cnv_mulR,cnv_mulR,cnv_shfR]
   funext i
   show a*cnv q1 f i+-b*shf k (cnv q1 g) i=_
   rw[Int.neg_mul]; omega
  have e2:cnv (fun i=>shf k (fun i=>b*q1 i) i+a*q2 i) g=fun i=>b*shf k (cnv q1 g) i+a*cnv q2 g i:=by
   rw[cnv_addL,cnv_mulL]
   funext i
   congr 1
   rw[cnv_shfL,cnv_mulL,← shf_mul]
  rw[e1,e2,Int.mul_assoc,h4 i,Int.mul_add]
  simp only
  omega
theorem dg_ex {f:Pol}:∀{d:Nat},PDg f d→(∀i,f i=0)∨∃e,e≤d∧PDg f e∧f e≠0
 | 0,h=>by
  by_cases e:f 0=0
  ·exact .inl fun i=>by
    rcases Nat.eq_zero_or_pos i with rfl | hi
    ·exact e
    ·exact h i hi
  ·exact .inr ⟨0,Nat.le_refl _,h,e⟩
 | d+1,h=>by
  by_cases e:f (d+1)=0
  ·rcases dg_ex (d:=d) (fun i hi=>by
    by_cases e2:i=d+1
    ·subst e2; exact e
    ·exact h i zo) with h1 | ⟨q,h1,h2,h3⟩
   ·exact .inl h1
   ·exact .inr ⟨q,by omega,h2,h3⟩
  ·exact .inr ⟨d+1,Nat.le_refl _,h,e⟩
def XI (X:Nat):Nat→Nat
 | 0=>X
 | m+1=>XI (2*X*X) m
theorem XI_ge {X:Nat} (h:1≤X):∀{m:Nat},X≤XI X m
 | 0=>Nat.le_refl _
 | m+1=>by
  have h1:X*1≤X*X:=Nat.mul_le_mul_left _ h
  have h2:X≤2*X*X:=by rw[Nat.mul_assoc]; omega
  exact Nat.le_trans h2 (XI_ge zo)
def Bez (p c:Pol) (X E:Nat):Prop:=∃D u v,D≠0∧(∀k,cnv u p k+cnv v c k=if k=0 then D else 0)∧PDg u E∧PDg v E∧(∀k,(u k).natAbs≤X)∧∀k,(v k).natAbs≤X
theorem Bez.mono {p c:Pol} {X Y E F:Nat} (h:Bez p c X E) (h1:X≤Y) (h2:E≤F):Bez p c Y F:=by
 obtain ⟨D,u,v,a1,a2,a3,a4,a5,a6⟩:=h
 exact ⟨D,u,v,a1,a2,fun i hi=>a3 i zo,fun i hi=>a4 i zo,fun k=>Nat.le_trans (a5 k) h1,fun k=>Nat.le_trans (a6 k) h1⟩
theorem CmP.bez {p c:Pol} {X E:Nat} {f u v:Pol} (h:CmP p c X E f u v) (hd:PDg f 0) (h0:f 0≠0):Bez p c X E :=
 ⟨f 0,u,v,h0,fun k=>by
  rw[← h.eq k]
  split
  ·rename_i e; rw[e]
  ·exact hd k zo,h.du,h.dv,h.bu,h.bv⟩
def DivP (p:Pol) (n:Nat):Prop:=∃s r t a b,s≠0∧1≤a∧a≤n-1∧PDg r a∧r a≠0∧PDg t b∧∀k,s*p k=cnv r t k
theorem cnv_comm {f g:Pol}:cnv f g=cnv g f:=by
 funext k; unfold cnv
 have key:∀(h:Nat→Int) (m:Nat),sumTo h m=sumTo (fun i=>h (m-1-i)) m:=fun h m=>by
  induction m generalizing h with
  | zero=>rfl
  | succ m ih =>
   rw[sumTo_succ]
   have e:=sumTo_shift (f:=fun i=>h (m-i)) (k:=1) (j:=m)
   have e2:sumTo (fun i=>h (m-i)) (m+1)=h m+sumTo (fun i=>h (m-(1+i))) m:=by
    clear ih e
    have:∀j,sumTo (fun i=>h (m-i)) (j+1)=h m+sumTo (fun i=>h (m-(1+i))) j:=by
     intro j
     induction j with
     | zero=>show 0+h (m-0)=h m+0; rw[Nat.sub_zero]; omega
     | succ j ihj=>rw[sumTo_succ,ihj,sumTo_succ,show 1+j=j+1 by omega]; omega
    exact this m
   show sumTo h m+h m=sumTo (fun i=>h (m+1-1-i)) (m+1)
   rw[Nat.add_sub_cancel,e2,ih h,Int.add_comm]
   congr 1
   exact sumTo_congr fun i hi=>by rw[show m-1-i=m-(1+i) by omega]
 rw[key]
 refine sumTo_congr fun i hi=>?_
 rw[Nat.add_sub_cancel,show k-(k-i)=i by omega,Int.mul_comm]
theorem euc {p c:Pol} {n:Nat}:∀(m:Nat) {f g:Pol} {u v u' v':Pol} {df dg X E:Nat},1≤X→df+dg≤m→dg≤df→df≤4→dg≤n-1→PDg f df→f df≠0→PDg g dg→g dg≠0→CmP p c X E f u v→CmP p c X E g u' v'→BkP p f g→DivP p n∨Bez p c (XI X m) (E+4*m)
 | m,f,g,u,v,u',v',df,dg,X,E,hX,hm,hd,h4,hn,hf,hf0,hg,hg0,cf,cg,bk=>by
  rcases Nat.eq_zero_or_pos dg with rfl | hpos
  ·exact .inr ((cg.bez hg hg0).mono (XI_ge hX) zo)
  ·obtain ⟨m,rfl⟩:∃q,m=q+1:=⟨m-1,by omega⟩
   have c2:=cf.stp (k:=df-dg) cg (a:=g dg) (b:=f df) (cg.bf _) (cf.bf _)
   have b2:=bk.stp (a:=g dg) (b:=f df) (k:=df-dg) hg0
   have hX2:1≤2*X*X:=by
    have:X*1≤X*X:=Nat.mul_le_mul_left _ hX
    rw[Nat.mul_assoc]; omega
   have hXX:X≤2*X*X:=by
    have:X*1≤X*X:=Nat.mul_le_mul_left _ hX
    rw[Nat.mul_assoc]; omega
   have cg2:CmP p c (2*X*X) (E+(df-dg)) g u' v':=⟨cg.eq,fun i hi=>cg.du i zo,fun i hi=>cg.dv i zo,fun k=>Nat.le_trans (cg.bf k) hXX,fun k=>Nat.le_trans (cg.bu k) hXX,fun k=>Nat.le_trans (cg.bv k) hXX⟩
   have hdg:PDg (stpP (g dg) (f df) (df-dg) f g) (df-1):=fun i hi=>by
    unfold stpP shf
    by_cases e:i=df
    ·subst e
     rw[if_pos zo,show i-(i-dg)=dg by omega,Int.mul_comm]; omega
    ·rw[hf i zo,if_pos (show df-dg≤i by omega),hg (i-(df-dg)) zo]; omega
   rcases dg_ex hdg with hz | ⟨e,e1,e2,e3⟩
   ·-- nothing is left: g divides
    obtain ⟨s,q1,q2,d,s1,s2,s3,s4⟩:=b2
    refine .inl ⟨s,g,q2,dg,d,s1,hpos,hn,hg,hg0,s3,fun k=>?_⟩
    rw[s4 k,cnv_comm (f:=q1),show stpP (g dg) (f df) (df-dg) f g=nilP from funext hz,cnv_nil,cnv_comm]
    show 0+_=_; omega
   ·have hfin:DivP p n∨Bez p c (XI (2*X*X) m) (E+(df-dg)+4*m):=by
     by_cases hle:dg≤e
     ·exact euc m hX2 zo hle zo hn e2 e3 hg hg0 c2 cg2 b2
     ·exact euc m hX2 zo zo zo zo hg hg0 e2 e3 cg2 c2 b2.swap
    exact hfin.imp id fun h=>h.mono (Nat.le_refl _) zo
theorem bezout {p c:Pol} {n X:Nat} (hn:1≤n) (h4:n≤4) (hX:1≤X) (hp:PDg p n) (hp1:p n=1) (hc:PDg c (n-1)) (hc0:¬∀i,c i=0) (bp:∀k,(p k).natAbs≤X) (bc:∀k,(c k).natAbs≤X):DivP p n∨Bez p c (XI X 7) 28:=by
 obtain ⟨e,e1,e2,e3⟩:=(dg_ex hc).resolve_left hc0
 have h1:∀k,(oneP k).natAbs≤X:=fun k=>by unfold oneP; split<;>simp<;>omega
 have h2:∀k,(nilP k).natAbs≤X:=fun k=>by unfold nilP; simp
 have o1:PDg oneP 0:=fun i hi=>by unfold oneP; rw[if_neg zo]
 have o2:PDg nilP 0:=fun i _=>rfl
 have cp:CmP p c X 0 p oneP nilP:=⟨fun k=>by rw[cnv_one,cnv_nil]; show p k=p k+0; omega,o1,o2,bp,h1,h2⟩
 have cc:CmP p c X 0 c nilP oneP:=⟨fun k=>by rw[cnv_one,cnv_nil]; show c k=0+c k; omega,o2,o1,bc,h2,h1⟩
 have bk:BkP p p c:=⟨1,oneP,nilP,0,by omega,o1,o2,fun k=>by rw[cnv_one,cnv_nil]; show 1*p k=p k+0; omega⟩
 have:=euc 7 (n:=n) hX (show n+e≤7 by omega) zo h4 e1 hp (by rw[hp1]; omega) e2 e3 cp cc bk
 simpa using this
end Go.Fl

/- Divisors of small degrees; homogeneous values. Plain Lean, no program in sight. -/
namespace Go.Fl
def evP (p:Pol) (n:Nat) (x:Int):Int:=sumTo (fun i=>p i*x ^ i) (n+1)
def RedP (p:Pol) (n:Nat):Prop:=(∃x,evP p n x=0)∨(n=4∧∃a b c d:Int,p 3=a+c∧p 2=b+d+a*c∧p 1=a*d+b*c∧p 0=b*d)
theorem lin_root {p r t:Pol} {n:Nat} (hn:1≤n) (hn4:n≤4) (hr:PDg r 1) (ht:PDg t (n-1)) (h:∀k,p k=cnv r t k) (he:r 1*r 1=1):∃x,evP p n x=0:=by
 refine ⟨-(r 0*r 1),?_⟩
 have e0:p 0=r 0*t 0:=by rw[h]; simp[cnv,sumTo]
 have e1:p 1=r 0*t 1+r 1*t 0:=by rw[h]; simp[cnv,sumTo]
 have h2:r 2=0:=hr 2 zo
 have h3:r 3=0:=hr 3 zo
 have h4:r 4=0:=hr 4 zo
 have e2:p 2=r 0*t 2+r 1*t 1:=by rw[h]; simp[cnv,sumTo,h2]
 have e3:p 3=r 0*t 3+r 1*t 2:=by rw[h]; simp[cnv,sumTo,h2,h3]
 have e4:p 4=r 0*t 4+r 1*t 3:=by rw[h]; simp[cnv,sumTo,h2,h3,h4]
 rcases (show n=1∨n=2∨n=3∨n=4 by omega) with rfl | rfl | rfl | rfl
 ·have z1:t 1=0:=ht 1 zo
  simp only[evP,sumTo,e0,e1,z1]; grind
 ·have z2:t 2=0:=ht 2 zo
  simp only[evP,sumTo,e0,e1,e2,z2]; grind
 ·have z3:t 3=0:=ht 3 zo
  simp only[evP,sumTo,e0,e1,e2,e3,z3]; grind
 ·have z4:t 4=0:=ht 4 zo
  simp only[evP,sumTo,e0,e1,e2,e3,e4,z4]; grind
theorem unit_sq {a b:Int} (h:a*b=1):a*a=1∧a=b:=by
 have h1:a.natAbs*b.natAbs=1:=by rw[← Int.natAbs_mul,h]; rfl
 have h2:a.natAbs=1:=Nat.eq_one_of_mul_eq_one_right h1
 rcases (show a=1∨a=-1 by omega) with rfl | rfl
 ·exact ⟨rfl,by omega⟩
 ·exact ⟨rfl,by omega⟩
theorem quad_red {p r t:Pol} (hr:PDg r 2) (ht:PDg t 2) (h:∀k,p k=cnv r t k) (he:r 2*t 2=1):∃a b c d:Int,p 3=a+c∧p 2=b+d+a*c∧p 1=a*d+b*c∧p 0=b*d:=by
 obtain ⟨u1,u2⟩:=unit_sq he
 have h3:r 3=0:=hr 3 zo
 have g3:t 3=0:=ht 3 zo
 have e0:p 0=r 0*t 0:=by rw[h]; simp[cnv,sumTo]
 have e1:p 1=r 0*t 1+r 1*t 0:=by rw[h]; simp[cnv,sumTo]
 have e2:p 2=r 0*t 2+r 1*t 1+r 2*t 0:=by rw[h]; simp[cnv,sumTo]
 have e3:p 3=r 1*t 2+r 2*t 1:=by rw[h]; simp[cnv,sumTo,h3,g3]
 refine ⟨r 1*r 2,r 0*r 2,t 1*r 2,t 0*r 2,?_,?_,?_,?_⟩<;>grind
theorem div_red {p:Pol} {n:Nat} (h2:2≤n) (h4:n≤4) (hp:PDg p n) (hp1:p n=1) (h:DivP p n):RedP p n:=by
 obtain ⟨s,r,t,a,b,h1,a1,a2,hr,hra,ht,hst⟩:=h
 obtain ⟨r',t',d1,d0,d2,d3⟩:=gauss_div _ rfl h1 hr hra ht hst
 obtain ⟨t2,f2,f3⟩:∃t2,PDg t2 b∧∀k,p k=cnv r' t2 k:=by
  rcases d3 with d3 | d3
  ·exact ⟨t',d2,d3⟩
  ·refine ⟨fun i=>-1*t' i,fun i hi=>by show -1*t' i=0; rw[d2 i hi]; rfl,fun k=>?_⟩
   rw[cnv_mulR]
   show p k=-1*cnv r' t' k
   rw[← d3 k]; omega
 obtain ⟨e,e1,e2,e3⟩:=(dg_ex f2).resolve_left fun hz=>by
  have:p n=0:=by rw[f3 n,show t2=nilP from funext hz,cnv_comm,cnv_nil]; rfl
  omega
 have htop:p (a+e)=r' a*t2 e:=by rw[f3,cnv_top d1 e2]
 have hne:p (a+e)≠0:=by rw[htop]; exact Int.mul_ne_zero d0 e3
 have hle:a+e≤n:=Nat.le_of_not_lt fun hh=>hne (hp _ hh)
 have heq:a+e=n:=Classical.byContradiction fun hh=>by
  have:p n=0:=by rw[f3]; exact cnv_dg d1 e2 n zo
  omega
 have hu:r' a*t2 e=1:=by rw[← htop,heq,hp1]
 have hu':=unit_sq hu
 have hv':=unit_sq ((Int.mul_comm _ _).trans hu)
 by_cases c1:a=1
 ·subst c1
  exact .inl (lin_root zo h4 d1 (by rw[show n-1=e by omega]; exact e2) f3 hu'.1)
 ·by_cases c2:e=1
  ·subst c2
   exact .inl (lin_root zo h4 e2 (by rw[show n-1=a by omega]; exact d1) (fun k=>by rw[f3,cnv_comm]) hv'.1)
  ·obtain rfl:a=2:=by omega
   obtain rfl:e=2:=by omega
   exact .inr ⟨by omega,quad_red d1 e2 f3 hu⟩
def hm (f:Pol) (m:Nat) (a b:Int):Int:=sumTo (fun i=>f i*a ^ i*b ^ (m-i)) (m+1)
theorem hm_add {f g:Pol} {m:Nat} {a b:Int}:hm (fun i=>f i+g i) m a b=hm f m a b+hm g m a b:=by
 unfold hm; rw[← sumTo_add]
 exact sumTo_congr fun i _=>by rw[Int.add_mul,Int.add_mul]
theorem hm_mul {f:Pol} {m:Nat} {a b c:Int}:hm (fun i=>c*f i) m a b=c*hm f m a b:=by
 unfold hm; rw[← sumTo_mulL]
 exact sumTo_congr fun i _=>by rw[Int.mul_assoc,Int.mul_assoc,Int.mul_assoc]
theorem hm_pad {f:Pol} {m j:Nat} {a b:Int} (h:PDg f m):hm f (m+j) a b=b ^ j*hm f m a b:=by
 unfold hm
 rw[show m+j+1=m+1+j by omega,sumTo_tail fun i h1 _=>by rw[h i zo,Int.zero_mul,Int.zero_mul],← sumTo_mulL]
 refine sumTo_congr fun i hi=>?_
 rw[show m+j-i=j+(m-i) by omega,Int.pow_add]
 simp only[Int.mul_assoc,Int.mul_left_comm]
def tlP (f:Pol):Pol:=fun i=>f (i+1)
theorem hm_cons {f:Pol} {m:Nat} {a b:Int}:hm f (m+1) a b=f 0*b ^ (m+1)+a*hm (tlP f) m a b:=by
 unfold hm
 rw[show m+1+1=1+(m+1) by omega]
 have key:∀(g:Nat→Int) (k:Nat),sumTo g (1+k)=g 0+sumTo (fun i=>g (1+i)) k:=fun g k=>by
  induction k with
  | zero=>show 0+g 0=g 0+0; omega
  | succ k ih=>rw[show 1+(k+1)=1+k+1 by omega,sumTo_succ,ih,sumTo_succ]; omega
 rw[key,← sumTo_mulL]
 congr 1
 ·rw[Int.pow_zero,Int.mul_one,Nat.sub_zero]
 ·refine sumTo_congr fun i hi=>?_
  rw[show m+1-(1+i)=m-i by omega,show 1+i=i+1 by omega,Int.pow_succ]
  unfold tlP
  simp only[Int.mul_assoc,Int.mul_left_comm,Int.mul_comm]
theorem cnv_cons {f g:Pol}:cnv f g=fun k=>f 0*g k+shf 1 (cnv (tlP f) g) k:=by
 funext k
 unfold cnv shf
 have key:∀(h:Nat→Int) (k:Nat),sumTo h (1+k)=h 0+sumTo (fun i=>h (1+i)) k:=fun h k=>by
  induction k with
  | zero=>show 0+h 0=h 0+0; omega
  | succ k ih=>rw[show 1+(k+1)=1+k+1 by omega,sumTo_succ,ih,sumTo_succ]; omega
 rw[show k+1=1+k by omega,key,Nat.sub_zero]
 congr 1
 by_cases h:1≤k
 ·rw[if_pos h]
  show _=sumTo (fun i=>tlP f i*g (k-1-i)) (k-1+1)
  rw[show k-1+1=k by omega]
  refine sumTo_congr fun i hi=>?_
  unfold tlP
  rw[show 1+i=i+1 by omega,show k-(i+1)=k-1-i by omega]
 ·rw[if_neg h,show k=0 by omega]; rfl
theorem hm_shf {f:Pol} {m:Nat} {a b:Int}:hm (shf 1 f) (m+1) a b=a*hm f m a b:=by
 rw[hm_cons]
 have e:tlP (shf 1 f)=f:=by funext i; unfold tlP shf; rw[if_pos zo,Nat.add_sub_cancel]
 rw[e]
 unfold shf
 rw[if_neg zo]; omega
theorem tlP_dg {f:Pol} {m:Nat} (h:PDg f (m+1)):PDg (tlP f) m:=fun i hi=>h (i+1) zo
theorem hm_cnv {g:Pol} {l:Nat} {a b:Int} (hg:PDg g l):∀{m:Nat} {f:Pol},PDg f m→hm (cnv f g) (m+l) a b=hm f m a b*hm g l a b
 | 0,f,hf=>by
  have e:cnv f g=fun k=>f 0*g k:=by
   rw[cnv_cons]
   funext k
   have:tlP f=nilP:=funext fun i=>hf (i+1) zo
   rw[this,cnv_nil]
   unfold shf nilP
   split<;>omega
  rw[e,Nat.zero_add,hm_mul]
  congr 1
  unfold hm; simp[sumTo]
 | m+1,f,hf=>by
  rw[cnv_cons,show m+1+l=m+l+1 by omega]
  have e1:hm (fun k=>f 0*g k+shf 1 (cnv (tlP f) g) k) (m+l+1) a b=f 0*hm g (m+l+1) a b+a*hm (cnv (tlP f) g) (m+l) a b:=by
   rw[hm_add,hm_mul,hm_shf]
  rw[e1,hm_cnv hg (tlP_dg hf),show m+l+1=l+(m+1) by omega,hm_pad hg,hm_cons]
  rw[Int.add_mul]
  simp only[Int.mul_assoc,Int.mul_left_comm,Int.mul_comm]
def lP (cs:List Int):Pol:=fun i=>if i<cs.length then nth cs i else 0
theorem lP_dg {cs:List Int}:PDg (lP cs) (cs.length-1):=fun i hi=>by unfold lP; rw[if_neg zo]
theorem lP_cons {c:Int} {cs:List Int}:tlP (lP (c::cs))=lP cs:=by
 funext i; unfold tlP lP
 by_cases h:i<cs.length
 ·rw[if_pos (by simpa using h),if_pos h]; rfl
 ·rw[if_neg (by simpa using h),if_neg h]
theorem hvP_hm {a b:Int}:∀{cs:List Int},(hvP a b cs).2=b ^ cs.length∧(hvP a b cs).1=hm (lP cs) (cs.length-1) a b
 | []=>⟨by simp[hvP],by simp[hvP,hm,sumTo,lP]⟩
 | [c]=>⟨by simp[hvP,Int.pow_succ],by simp[hvP,hm,sumTo,lP,nth]⟩
 | c::d::cs=>by
  obtain ⟨h1,h2⟩:=hvP_hm (a:=a) (b:=b) (cs:=d::cs)
  rw[hvP]
  refine ⟨by simp only; rw[h1,List.length_cons (a:=c),Int.pow_succ],?_⟩
  simp only
  rw[h1,h2,List.length_cons (a:=c),Nat.add_sub_cancel,show (d::cs).length=(d::cs).length-1+1 by simp,hm_cons,lP_cons,Nat.add_sub_cancel]
  have e0:lP (c::d::cs) 0=c:=by unfold lP; simp[nth]
  rw[e0,Int.mul_comm a]; omega
theorem no_root {p:Pol} {n:Nat} (h2:2≤n) (h4:n≤4) (hp:PDg p n) (hp1:p n=1) (hred:¬RedP p n) {a b:Int} (hb:0<b):hm p n a b≠0:=fun h0=>by
 have hc:PDg (fun i=>if i=0 then -a else if i=1 then b else 0) (n-1):=fun i hi=>by
  show (if i=0 then -a else if i=1 then b else 0)=0
  rw[if_neg zo,if_neg zo]
 obtain ⟨X,hX,hbp,hbc⟩:∃X:Nat,1≤X∧(∀k,(p k).natAbs≤X)∧∀k,((fun i=>if i=0 then -a else if i=1 then b else 0:Pol) k).natAbs≤X:=by
  refine ⟨1+(p 0).natAbs+(p 1).natAbs+(p 2).natAbs+(p 3).natAbs+(p 4).natAbs+a.natAbs+b.natAbs,by omega,fun k=>?_,fun k=>?_⟩
  ·by_cases h:k≤4
   ·rcases (show k=0∨k=1∨k=2∨k=3∨k=4 by omega) with rfl | rfl | rfl | rfl | rfl<;>omega
   ·rw[hp k zo]; simp
  ·show (if k=0 then -a else if k=1 then b else 0:Int).natAbs≤_
   split
   ·omega
   ·split
    ·omega
    ·simp
 rcases bezout zo h4 hX hp hp1 hc (fun hz=>by have:=hz 1; simp at this; omega) hbp hbc with h | ⟨D,u,v,d0,h1,hu,hv,_,_⟩
 ·exact hred (div_red h2 h4 hp hp1 h)
 ·have e1:=hm_cnv (a:=a) (b:=b) hp hu
  have e2:=hm_cnv (a:=a) (b:=b) (l:=n) (fun i hi=>hc i zo) hv
  have e3:hm (fun i=>if i=0 then -a else if i=1 then b else 0) n a b=0:=by
   obtain ⟨q,rfl⟩:∃q,n=q+1:=⟨n-1,by omega⟩
   rw[show q+1=1+q by omega,hm_pad (m:=1) (fun i hi=>by show (if i=0 then -a else if i=1 then b else 0)=0; rw[if_neg zo,if_neg zo])]
   have:hm (fun i=>if i=0 then -a else if i=1 then b else 0) 1 a b=0:=by
    simp[hm,sumTo,Int.pow_succ]; rw[Int.neg_mul,Int.mul_comm a]; omega
   rw[this,Int.mul_zero]
  rw[h0,Int.mul_zero] at e1
  rw[e3,Int.mul_zero] at e2
  have e4:hm (fun k=>cnv u p k+cnv v (fun i=>if i=0 then -a else if i=1 then b else 0) k) (28+n) a b=0:=by rw[hm_add,e1,e2]; rfl
  rw[show (fun k=>cnv u p k+cnv v (fun i=>if i=0 then -a else if i=1 then b else 0) k)=fun k=>if k=0 then D else 0 from funext h1] at e4
  have e5:hm (fun k=>if k=0 then D else 0) (28+n) a b=D*b ^ (28+n):=by
   have:=hm_pad (f:=fun k=>if k=0 then D else 0) (m:=0) (j:=28+n) (a:=a) (b:=b) (fun i hi=>by show (if i=0 then D else 0)=0; rw[if_neg zo])
   rw[Nat.zero_add] at this
   rw[this,Int.mul_comm]
   congr 1
   simp[hm,sumTo]
  rw[e5] at e4
  have:=Int.pow_pos (n:=b) (m:=28+n) hb
  exact absurd e4 (Int.mul_ne_zero d0 zo)
end Go.Fl

/- Halving ends: a number other than a fraction is told from 0 after so many halvings. Plain Lean, no program in sight. -/
namespace Go.Fl
theorem enc_in_pt {I:Iv} {a:Int} (h1:I.lo≤a) (h2:a≤I.hi):∀{cs:List Int},(enc I cs).1≤(if cs.length=0 then 0 else I.den*hm (lP cs) (cs.length-1) a I.den)∧(if cs.length=0 then 0 else I.den*hm (lP cs) (cs.length-1) a I.den)≤(enc I cs).2.1
 | []=>by simp[enc]
 | c::cs=>by
  obtain ⟨e1,e2⟩:=enc_in_pt h1 h2 (cs:=cs)
  have e0:lP (c::cs) 0=c:=by unfold lP; simp[nth]
  have hv:I.den*hm (lP (c::cs)) cs.length a I.den=(if cs.length=0 then 0 else I.den*hm (lP cs) (cs.length-1) a I.den)*a+c*(I.den ^ cs.length*I.den):=by
   by_cases h:cs.length=0
   ·rw[if_pos h,h]
    simp[hm,sumTo,e0,Int.mul_comm]
   ·rw[if_neg h]
    have e:cs.length=cs.length-1+1:=by omega
    conv=>lhs; rw[e,hm_cons,lP_cons,e0,← e]
    rw[Int.mul_add,Int.add_comm]
    congr 1
    ·simp only[Int.mul_left_comm,Int.mul_comm]
    ·simp only[Int.mul_left_comm,Int.mul_comm]
  rw[if_neg (by simp),List.length_cons,Nat.add_sub_cancel,hv,enc]
  simp only
  rw[enc_d]
  have:=hull e1 e2 h1 h2
  omega
theorem mul_ab {x y:Int} {m n:Nat} (h1:x.natAbs≤m) (h2:y.natAbs≤n):(x*y).natAbs≤m*n:=by rw[Int.natAbs_mul]; exact Nat.mul_le_mul h1 h2
set_option maxHeartbeats 2000000 in
theorem enc_bd {I:Iv} {A F W:Nat} (hlo:I.lo.natAbs≤A) (hhi:I.hi.natAbs≤A) (hden:I.den.natAbs≤A) (hw:(I.hi-I.lo).natAbs≤W):∀{cs:List Int},(∀c∈cs,c.natAbs≤F)→(enc I cs).1.natAbs≤cs.length*F*A ^ cs.length∧(enc I cs).2.1.natAbs≤cs.length*F*A ^ cs.length∧((enc I cs).2.1-(enc I cs).1).natAbs*A≤cs.length*cs.length*F*W*A ^ cs.length
 | [],_=>by simp[enc]
 | c::cs,h=>by
  obtain ⟨b1,b2,b3⟩:=enc_bd hlo hhi hden hw (cs:=cs) fun x hx=>h x (List.mem_cons_of_mem _ hx)
  have hc:=h c List.mem_cons_self
  have hd:(c*((enc I cs).2.2*I.den)).natAbs≤F*A ^ (cs.length+1):=by
   rw[enc_d]
   refine mul_ab hc ?_
   rw[Nat.pow_succ]
   refine mul_ab ?_ hden
   rw[Int.natAbs_pow]
   exact Nat.pow_le_pow_left hden _
  rw[enc]
  simp only[List.length_cons]
  generalize hX:(enc I cs).1=X at *
  generalize hY:(enc I cs).2.1=Y at *
  generalize c*((enc I cs).2.2*I.den)=D at *
  generalize hL:cs.length=L at *
  have hpw:A ^ (L+1)=A ^ L*A:=Nat.pow_succ ..
  generalize hM:L*F*A ^ L=M at *
  have hMA:(L+1)*F*A ^ (L+1)=M*A+F*A ^ (L+1):=by
   rw[← hM,hpw]; simp only[Nat.add_mul,Nat.one_mul,Nat.mul_assoc]
  have corner:∀x y,(x=X∨x=Y)→(y=I.lo∨y=I.hi)→(x*y).natAbs≤M*A:=fun x y hx hy=>by
   refine mul_ab ?_ ?_
   ·rcases hx with rfl | rfl<;>assumption
   ·rcases hy with rfl | rfl<;>assumption
  have diff:∀x y x' y',(x=X∨x=Y)→(y=I.lo∨y=I.hi)→(x'=X∨x'=Y)→(y'=I.lo∨y'=I.hi)→(x*y-x'*y').natAbs≤M*W+(Y-X).natAbs*A:=fun x y x' y' hx hy hx' hy'=>by
   have e:x*y-x'*y'=x*(y-y')+(x-x')*y':=by rw[Int.mul_sub,Int.sub_mul]; omega
   have h1:(x*(y-y')).natAbs≤M*W:=by
    refine mul_ab ?_ ?_
    ·rcases hx with rfl | rfl<;>assumption
    ·rcases hy with rfl | rfl<;>rcases hy' with rfl | rfl<;>omega
   have h2:((x-x')*y').natAbs≤(Y-X).natAbs*A:=by
    refine mul_ab ?_ ?_
    ·rcases hx with rfl | rfl<;>rcases hx' with rfl | rfl<;>omega
    ·rcases hy' with rfl | rfl<;>assumption
   rw[e]; omega
  obtain ⟨x,y,hx,hy,e1⟩:=min4_le (A:=X) (B:=Y) (L:=I.lo) (H:=I.hi)
  obtain ⟨x',y',hx',hy',e2⟩:=max4_ge (A:=X) (B:=Y) (L:=I.lo) (H:=I.hi)
  have k1:=corner x y hx hy
  have k2:=corner x' y' hx' hy'
  have k3:=diff x' y' x y hx' hy' hx hy
  rw[e1,e2,hMA]
  refine ⟨by omega,by omega,?_⟩
  rw[show x'*y'+D-(x*y+D)=x'*y'-x*y by omega]
  refine Nat.le_trans (Nat.mul_le_mul_right A k3) ?_
  rw[Nat.add_mul]
  have k4:(Y-X).natAbs*A*A≤L*L*F*W*A ^ L*A:=Nat.mul_le_mul_right _ b3
  have e5:M*W*A=L*F*W*A ^ (L+1):=by
   rw[← hM,hpw]; simp only[Nat.mul_assoc,Nat.mul_left_comm,Nat.mul_comm]
  have e6:L*L*F*W*A ^ L*A=L*L*F*W*A ^ (L+1):=by rw[hpw]; simp only[Nat.mul_assoc]
  have e7:(L+1)*(L+1)*F*W*A ^ (L+1)=L*L*F*W*A ^ (L+1)+L*F*W*A ^ (L+1)+(L+1)*F*W*A ^ (L+1):=by
   have:(L+1)*(L+1)=L*L+L+(L+1):=by simp only[Nat.add_mul,Nat.mul_add,Nat.one_mul,Nat.mul_one]
   rw[this]; simp only[Nat.add_mul]
  rw[e5]; rw[e6] at k4
  omega
theorem hm_bd {f:Pol} {m A F:Nat} {a b:Int} (ha:a.natAbs≤A) (hb:b.natAbs≤A) (hf:∀i,(f i).natAbs≤F):(hm f m a b).natAbs≤(m+1)*(F*A ^ m):=by
 unfold hm
 have key:∀k,k≤m+1→(sumTo (fun i=>f i*a ^ i*b ^ (m-i)) k).natAbs≤k*(F*A ^ m):=by
  intro k
  induction k with
  | zero=>intro _; simp[sumTo]
  | succ k ih =>
   intro hk
   have h1:=ih zo
   have h2:(f k*a ^ k*b ^ (m-k)).natAbs≤F*A ^ m:=by
    have e:A ^ m=A ^ k*A ^ (m-k):=by rw[← Nat.pow_add]; congr 1; omega
    rw[e,← Nat.mul_assoc]
    refine mul_ab (mul_ab (hf k) ?_) ?_
    ·rw[Int.natAbs_pow]; exact Nat.pow_le_pow_left ha _
    ·rw[Int.natAbs_pow]; exact Nat.pow_le_pow_left hb _
   rw[sumTo_succ,Nat.add_mul,Nat.one_mul]
   omega
 exact key _ (Nat.le_refl _)
end Go.Fl

/- Halving ends: so often, and a number other than 0 is told from 0. Plain Lean, no program in sight. -/
namespace Go.Fl
theorem ivK_den {p:List Int} {I:Iv}:∀{k:Nat},(ivK p I k).den=I.den*2 ^ k
 | 0=>by simp[ivK]
 | k+1=>by
  have ih:=ivK_den (p:=p) (I:=I) (k:=k)
  have:(halveI p (ivK p I k)).den=(ivK p I k).den+(ivK p I k).den:=by unfold halveI; split<;>rfl
  rw[ivK,this,ih,Int.pow_succ,← Int.mul_assoc]; omega
theorem ivK_wid {p:List Int} {I:Iv}:∀{k:Nat},(ivK p I k).hi-(ivK p I k).lo=I.hi-I.lo
 | 0=>rfl
 | k+1=>by
  have ih:=ivK_wid (p:=p) (I:=I) (k:=k)
  rw[ivK]
  unfold halveI
  split<;>simp only<;>omega
theorem ivK_bd {p:List Int} {I:Iv} (hI:I.Ok) {R:Int} (h1:-(R*I.den)≤I.lo) (h2:I.hi≤R*I.den):∀{k:Nat},-(R*(ivK p I k).den)≤(ivK p I k).lo∧(ivK p I k).hi≤R*(ivK p I k).den
 | 0=>⟨h1,h2⟩
 | k+1=>by
  have ih:=ivK_bd hI h1 h2 (p:=p) (k:=k)
  have hle:=(ivK_ok hI (p:=p) (k:=k)).le
  rw[ivK]
  unfold halveI
  split<;>simp only<;>rw[Int.mul_add]<;>omega
def hmL (p:List Int) (a b:Int):Int:=hm (lP p) (p.length-1) a b
theorem sgn_cases (z:Int):(z<0∧sgn z=-1)∨(z=0∧sgn z=0)∨(0<z∧sgn z=1):=by
 unfold sgn cmpZ
 rcases Int.lt_trichotomy z 0 with h | h | h
 ·exact .inl ⟨h,by simp[h]⟩
 ·exact .inr (.inl ⟨h,by simp[h]⟩)
 ·exact .inr (.inr ⟨h,by rw[if_neg zo,if_pos h]⟩)
theorem ivK_sgn {p:List Int} {I:Iv} (hI:I.Ok) (hnr:∀a b:Int,0<b→hmL p a b≠0) (h:sgn (hmL p I.lo I.den)*sgn (hmL p I.hi I.den)<0):∀{k:Nat},sgn (hmL p (ivK p I k).lo (ivK p I k).den)*sgn (hmL p (ivK p I k).hi (ivK p I k).den)<0
 | 0=>h
 | k+1=>by
  have ih:=ivK_sgn hI hnr h (k:=k)
  have hpos:=(ivK_ok hI (p:=p) (k:=k)).pos
  have dbl:∀a b:Int,0<b→sgn (hmL p (a+a) (b+b))=sgn (hmL p a b):=fun a b hb=>by
   have e:hmL p (a+a) (b+b)=2 ^ (p.length-1)*hmL p a b:=by
    unfold hmL hm
    rw[← sumTo_mulL]
    refine sumTo_congr fun i hi=>?_
    rw[← Int.two_mul,← Int.two_mul,Int.mul_pow,Int.mul_pow]
    have:(2:Int) ^ (p.length-1)=2 ^ i*2 ^ (p.length-1-i):=by rw[← Int.pow_add]; congr 1; omega
    rw[this]
    simp only[Int.mul_assoc,Int.mul_left_comm,Int.mul_comm]
   have h2:(0:Int)<2 ^ (p.length-1):=Int.pow_pos zo
   rw[e]
   generalize (2:Int) ^ (p.length-1)=q at *
   rcases sgn_cases (hmL p a b) with ⟨h1,h3⟩ | ⟨h1,h3⟩ | ⟨h1,h3⟩
   ·have:=Int.mul_neg_of_pos_of_neg h2 h1
    rcases sgn_cases (q*hmL p a b) with ⟨h4,h5⟩ | ⟨h4,h5⟩ | ⟨h4,h5⟩<;>omega
   ·rw[h1,Int.mul_zero]
   ·have:=Int.mul_pos h2 h1
    rcases sgn_cases (q*hmL p a b) with ⟨h4,h5⟩ | ⟨h4,h5⟩ | ⟨h4,h5⟩<;>omega
  have hv:∀a b,(hvP a b p).1=hmL p a b:=fun a b=>hvP_hm.2
  have hm0:=hnr ((ivK p I k).lo+(ivK p I k).hi) ((ivK p I k).den+(ivK p I k).den) zo
  rw[ivK]
  unfold halveI
  rw[hv,hv]
  split
  ·rename_i hc
   simp only
   rw[dbl _ _ hpos]; exact hc
  ·rename_i hc
   simp only
   rw[dbl _ _ hpos]
   have a1:=sgn_cases (hmL p (ivK p I k).lo (ivK p I k).den)
   have a2:=sgn_cases (hmL p (ivK p I k).hi (ivK p I k).den)
   have a3:=sgn_cases (hmL p ((ivK p I k).lo+(ivK p I k).hi) ((ivK p I k).den+(ivK p I k).den))
   rcases a1 with ⟨_,q1⟩ | ⟨_,q1⟩ | ⟨_,q1⟩<;>rcases a2 with ⟨_,q2⟩ | ⟨_,q2⟩ | ⟨_,q2⟩<;>rcases a3 with ⟨_,q3⟩ | ⟨q4,q3⟩ | ⟨_,q3⟩<;>rw[q1,q3] at hc<;>rw[q1,q2] at ih<;>rw[q2,q3]<;>omega
def denB (n F R W:Nat):Nat:=2*(29*XI F 7*((n+1)*(n+1)*F)*W*R ^ (28+n))+1
theorem told_end {n R B F W X7:Nat} {den D U V P C e1 e2:Int} {wp:Nat} (hn:2≤n) (hR:1≤R) (hB:den=B) (hden:((2*(29*X7*((n+1)*(n+1)*F)*W*R ^ (28+n))+1:Nat):Int)≤den) (hT:0<R*B)
  (e4:U*P+den*(V*C)=D*den ^ (28+n)) (d0:D≠0) (hub:U.natAbs≤(28+1)*(X7*(R*B) ^ 28)) (hvb:V.natAbs≤(28+1)*(X7*(R*B) ^ 28))
  (hwp:wp≤(n+1)*(n+1)*F*W*(R*B) ^ n) (hwc:(e2-e1).natAbs≤n*n*F*W*(R*B) ^ (n-1)) (hsm:(den*P).natAbs≤wp) (cl1:e1≤den*C) (cl2:den*C≤e2):0<e1∨e2<0:=by
 subst hB
 have hB0:0<B:=Nat.pos_of_ne_zero fun e=>by subst e; simp at hT
 have hK:2*(29*X7*((n+1)*(n+1)*F)*W*R ^ (28+n))+1≤B:=by omega
 have hpw:∀k,(R*B) ^ k=R ^ k*B ^ k:=fun k=>Nat.mul_pow ..
 have h1:(U*(B*P)).natAbs≤29*X7*((n+1)*(n+1)*F)*W*R ^ (28+n)*B ^ (28+n):=by
  rw[Int.natAbs_mul]
  refine Nat.le_trans (Nat.mul_le_mul hub (Nat.le_trans hsm hwp)) (Nat.le_of_eq ?_)
  rw[hpw,hpw,Nat.pow_add,Nat.pow_add]
  simp only[Nat.mul_assoc,Nat.mul_left_comm,Nat.mul_comm,Nat.reduceAdd]
 have h2:2*(U*(B*P)).natAbs<B ^ (28+n)*B:=by
  have hp:=Nat.pow_pos (n:=28+n) hB0
  have:(2*(29*X7*((n+1)*(n+1)*F)*W*R ^ (28+n))+1)*B ^ (28+n)≤B*B ^ (28+n):=Nat.mul_le_mul_right _ hK
  rw[Nat.add_mul,Nat.one_mul,Nat.mul_assoc,Nat.mul_comm B] at this
  omega
 have h3:U*(B*P)+V*(B*C)*B=D*(B ^ (28+n)*B):=by
  have e:(U*P+B*(V*C))*B=D*B ^ (28+n)*B:=by rw[e4]
  rw[Int.add_mul] at e
  have q1:U*P*B=U*(B*P):=by rw[Int.mul_assoc,Int.mul_comm P]
  have q2:(B:Int)*(V*C)=V*(B*C):=by rw[Int.mul_left_comm]
  rw[q1,q2,Int.mul_assoc D] at e
  exact e
 have h4:B ^ (28+n)*B≤(U*(B*P)).natAbs+(V*(B*C)).natAbs*B:=by
  have e:(D*((B:Int) ^ (28+n)*B)).natAbs=D.natAbs*(B ^ (28+n)*B):=by
   rw[Int.natAbs_mul,Int.natAbs_mul,Int.natAbs_pow,Int.natAbs_natCast]
  have h5:1*(B ^ (28+n)*B)≤D.natAbs*(B ^ (28+n)*B):=Nat.mul_le_mul_right _ zo
  have h6:(U*(B*P)+V*(B*C)*B).natAbs≤(U*(B*P)).natAbs+(V*(B*C)*B).natAbs:=Int.natAbs_add_le _ _
  rw[h3,e,Int.natAbs_mul (V*(B*C)),Int.natAbs_natCast] at h6
  omega
 have h7:B ^ (28+n)<2*(V*(B*C)).natAbs:=by
  refine Nat.lt_of_mul_lt_mul_right (a:=B) ?_
  rw[Nat.mul_assoc]
  omega
 have h8:B ^ n<2*(29*X7*R ^ 28)*(B*C).natAbs:=by
  rw[Int.natAbs_mul] at h7
  have h9:V.natAbs*(B*C).natAbs≤(28+1)*(X7*(R*B) ^ 28)*(B*C).natAbs:=Nat.mul_le_mul_right _ hvb
  refine Nat.lt_of_mul_lt_mul_left (a:=B ^ 28) ?_
  rw[← Nat.pow_add]
  refine Nat.lt_of_lt_of_le h7 (Nat.le_trans (Nat.mul_le_mul_left 2 h9) (Nat.le_of_eq ?_))
  rw[hpw]
  simp only[Nat.mul_assoc,Nat.mul_left_comm,Nat.mul_comm,Nat.reduceAdd]
 have h9:(e2-e1).natAbs<(B*C).natAbs:=by
  refine Nat.lt_of_not_le fun hle=>?_
  have h10:(B*C).natAbs≤n*n*F*W*(R*B) ^ (n-1):=Nat.le_trans hle hwc
  have h11:B ^ n<2*(29*X7*R ^ 28)*(n*n*F*W*(R*B) ^ (n-1)):=Nat.lt_of_lt_of_le h8 (Nat.mul_le_mul_left _ h10)
  have e:B ^ n=B ^ (n-1)*B:=by rw[← Nat.pow_succ]; congr 1; omega
  have e5:2*(29*X7*R ^ 28)*(n*n*F*W*(R*B) ^ (n-1))=B ^ (n-1)*(2*(29*X7*(n*n*F)*W*(R ^ 28*R ^ (n-1)))):=by
   rw[hpw]; simp only[Nat.mul_assoc,Nat.mul_left_comm,Nat.mul_comm]
  rw[e,e5] at h11
  have h12:=Nat.lt_of_mul_lt_mul_left h11
  have h13:29*X7*(n*n*F)*W*(R ^ 28*R ^ (n-1))≤29*X7*((n+1)*(n+1)*F)*W*R ^ (28+n):=by
   rw[← Nat.pow_add]
   refine Nat.mul_le_mul (Nat.mul_le_mul_right _ (Nat.mul_le_mul_left _ (Nat.mul_le_mul_right _ (Nat.mul_le_mul zo zo)))) (Nat.pow_le_pow_right hR zo)
  omega
 omega
theorem told {p cs:List Int} {I:Iv} {n F R W:Nat} (hn:2≤n) (h4:n≤4) (hpl:p.length=n+1) (hp1:nth p n=1) (hred:¬RedP (lP p) n) (hcl:cs.length=n) (hc0:∃c∈cs,c≠0)
  (hF:1≤F) (hpF:∀c∈p,c.natAbs≤F) (hcF:∀c∈cs,c.natAbs≤F) (hR:1≤R) (hI:I.Ok) (hlo:-((R:Int)*I.den)≤I.lo) (hhi:I.hi≤R*I.den) (hW:(I.hi-I.lo).natAbs≤W) (hsg:sgn (hmL p I.lo I.den)*sgn (hmL p I.hi I.den)<0)
  (hden:(denB n F R W:Int)≤I.den):0<(enc I cs).1∨(enc I cs).2.1<0:=by
 have hb:=hI.pos
 have hle:=hI.le
 obtain ⟨B,hB⟩:∃B:Nat,I.den=B:=⟨I.den.toNat,by omega⟩
 have hPd:PDg (lP p) n:=by have:=lP_dg (cs:=p); rwa [hpl,Nat.add_sub_cancel] at this
 have hCd:PDg (lP cs) (n-1):=by have:=lP_dg (cs:=cs); rwa [hcl] at this
 have hPF:∀k,(lP p k).natAbs≤F:=fun k=>by
  unfold lP; split
  ·exact hpF _ (nth_mem zo)
  ·simp
 have hCF:∀k,(lP cs k).natAbs≤F:=fun k=>by
  unfold lP; split
  ·exact hcF _ (nth_mem zo)
  ·simp
 have hP1:lP p n=1:=by unfold lP; rw[if_pos zo,hp1]
 have hC0:¬∀i,lP cs i=0:=fun hz=>by
  obtain ⟨c,hc,hne⟩:=hc0
  obtain ⟨i,hi,rfl⟩:=mem_nth hc
  have:=hz i
  unfold lP at this
  rw[if_pos hi] at this
  exact hne this
 rcases bezout zo h4 hF hPd hP1 hCd hC0 hPF hCF with h | ⟨D,u,v,d0,hbz,hu,hv,bu,bv⟩
 ·exact absurd (div_red hn h4 hPd hP1 h) hred
 have hA1:I.lo.natAbs≤R*B:=by rw[hB] at hlo hhi; have:((R*B:Nat):Int)=R*B:=Int.natCast_mul .. ; omega
 have hA2:I.hi.natAbs≤R*B:=by rw[hB] at hlo hhi; have:((R*B:Nat):Int)=R*B:=Int.natCast_mul .. ; omega
 have hA3:I.den.natAbs≤R*B:=by
  have:1*B≤R*B:=Nat.mul_le_mul_right _ hR
  rw[hB,Int.natAbs_natCast]; omega
 obtain ⟨p1,p2,p3⟩:=enc_bd hA1 hA2 hA3 hW (cs:=p) hpF
 obtain ⟨c1,c2,c3⟩:=enc_bd hA1 hA2 hA3 hW (cs:=cs) hcF
 have pl:=enc_in_pt (I:=I) (a:=I.lo) (Int.le_refl _) hle (cs:=p)
 have ph:=enc_in_pt (I:=I) (a:=I.hi) hle (Int.le_refl _) (cs:=p)
 have cl:=enc_in_pt (I:=I) (a:=I.lo) (Int.le_refl _) hle (cs:=cs)
 rw[if_neg zo] at pl ph cl
 rw[hpl] at pl ph p3
 rw[hcl] at cl c3
 rw[Nat.add_sub_cancel] at pl ph
 have hpe:p.length-1=n:=by omega
 unfold hmL at hsg
 rw[hpe] at hsg
 have hsm:(I.den*hm (lP p) n I.lo I.den).natAbs≤((enc I p).2.1-(enc I p).1).natAbs:=by
  have s1:=sgn_cases (hm (lP p) n I.lo I.den)
  have s2:=sgn_cases (hm (lP p) n I.hi I.den)
  rcases s1 with ⟨q1,r1⟩ | ⟨q1,r1⟩ | ⟨q1,r1⟩<;>rcases s2 with ⟨q2,r2⟩ | ⟨q2,r2⟩ | ⟨q2,r2⟩<;>rw[r1,r2] at hsg<;>try omega
  ·have:=Int.mul_neg_of_pos_of_neg hb q1
   have:=Int.mul_pos hb q2
   omega
  ·have:=Int.mul_pos hb q1
   have:=Int.mul_neg_of_pos_of_neg hb q2
   omega
 have hT:0<R*B:=Nat.mul_pos zo zo
 have hwp:((enc I p).2.1-(enc I p).1).natAbs≤(n+1)*(n+1)*F*W*(R*B) ^ n:=by
  have e:(n+1)*(n+1)*F*W*(R*B) ^ (n+1)=(n+1)*(n+1)*F*W*(R*B) ^ n*(R*B):=by rw[Nat.pow_succ,← Nat.mul_assoc ((n+1)*(n+1)*F*W)]
  rw[e] at p3
  exact Nat.le_of_mul_le_mul_right p3 hT
 have hwc:((enc I cs).2.1-(enc I cs).1).natAbs≤n*n*F*W*(R*B) ^ (n-1):=by
  have e:(R*B) ^ n=(R*B) ^ (n-1)*(R*B):=by rw[← Nat.pow_succ]; congr 1; omega
  rw[e,← Nat.mul_assoc (n*n*F*W)] at c3
  exact Nat.le_of_mul_le_mul_right c3 hT
 have hub:=hm_bd (m:=28) hA1 hA3 bu
 have hvb:=hm_bd (m:=28) hA1 hA3 bv
 have e1:=hm_cnv (a:=I.lo) (b:=I.den) hPd hu
 have e2:=hm_cnv (a:=I.lo) (b:=I.den) hCd hv
 have e3:=hm_pad (j:=1) (a:=I.lo) (b:=I.den) (cnv_dg hv hCd)
 have e4:hm (fun k=>cnv u (lP p) k+cnv v (lP cs) k) (28+n) I.lo I.den=D*I.den ^ (28+n):=by
  rw[show (fun k=>cnv u (lP p) k+cnv v (lP cs) k)=fun k=>if k=0 then D else 0 from funext hbz]
  have:=hm_pad (f:=fun k=>if k=0 then D else 0) (m:=0) (j:=28+n) (a:=I.lo) (b:=I.den) (fun i hi=>by show (if i=0 then D else 0)=0; rw[if_neg zo])
  rw[Nat.zero_add] at this
  rw[this,Int.mul_comm]
  congr 1
  simp[hm,sumTo]
 rw[hm_add,e1,show 28+n=28+(n-1)+1 by omega,e3,e2,show 28+(n-1)+1=28+n by omega,Int.pow_one] at e4
 exact told_end (n:=n) (F:=F) (W:=W) (X7:=XI F 7) hn hR hB hden hT e4 d0 hub hvb hwp hwc hsm cl.1 cl.2
end Go.Fl

/- Values of polynomials at fractions, from the last coefficient on: sizes. No program in sight. -/
namespace Go.Fl
open Go
def hvK (a d:Int) (p:List Int) (k:Nat):Int×Int:=hvP a d (p.drop (p.length-k))
theorem drop_step {p:List Int} {k:Nat} (hk:k<p.length):p.drop (p.length-(k+1))=nth p (p.length-1-k)::p.drop (p.length-k):=by
 have h:=List.drop_eq_getElem_cons (l:=p) (i:=p.length-(k+1)) zo
 rw[h,show p.length-(k+1)+1=p.length-k by omega]
 refine congrArg (·::_) ?_
 rw[nth_of_get? (List.getElem?_eq_getElem (show p.length-1-k<p.length by omega))]
 congr 1
 omega
theorem hvK_step {a d:Int} {p:List Int} {k:Nat} (hk:k<p.length):hvK a d p (k+1)=((hvK a d p k).1*a+nth p (p.length-1-k)*(hvK a d p k).2,(hvK a d p k).2*d):=by
 unfold hvK
 rw[drop_step hk]
 rfl
theorem hvK_zero {a d:Int} {p:List Int}:hvK a d p 0=(0,1):=by
 unfold hvK
 rw[Nat.sub_zero,List.drop_length]
 rfl
theorem hvK_end {a d:Int} {p:List Int}:hvK a d p p.length=hvP a d p:=by
 unfold hvK
 rw[Nat.sub_self,List.drop_zero]
theorem hvK_dl {a d:Int} {p:List Int} {B C:Nat} (hp:∀i,dl (nth p i)≤C) (ha:dl a≤B) (hd:dl d≤B):∀{k:Nat},k≤p.length→dl (hvK a d p k).1≤k*(B+1)+C+1∧dl (hvK a d p k).2≤k*B+1
 | 0,_=>by
  rw[hvK_zero]
  have h0:dl (0:Int)=0:=dl_zero.2 rfl
  have h1:=dl_small (F:=1) zo zo
  exact ⟨by show dl 0≤_; omega,by show dl 1≤_; omega⟩
 | k+1,hk=>by
  obtain ⟨h1,h2⟩:=hvK_dl (p:=p) hp ha hd (k:=k) zo
  rw[hvK_step zo]
  have q1:=dl_mul (hvK a d p k).1 a
  have q2:=dl_mul (nth p (p.length-1-k)) (hvK a d p k).2
  have q3:=dl_add ((hvK a d p k).1*a) (nth p (p.length-1-k)*(hvK a d p k).2)
  have q4:=dl_mul (hvK a d p k).2 d
  have q5:=hp (p.length-1-k)
  have e1:(k+1)*(B+1)=k*(B+1)+B+1:=by rw[Nat.succ_mul]; omega
  have e2:(k+1)*B=k*B+B:=Nat.succ_mul _ _
  have e3:k*(B+1)=k*B+k:=by rw[Nat.mul_add,Nat.mul_one]
  exact ⟨by show dl ((hvK a d p k).1*a+_)≤_; omega,by show dl ((hvK a d p k).2*d)≤_; omega⟩
end Go.Fl

/- Contracts: signs of polynomials, enclosures, halving. -/
namespace Go.Fl
open Go Go.Proofs
open TrL renaming op→tO
open RunD renaming op→rO
set_option maxRecDepth 100000

section
open Go Go.RowKit Go.Proofs
attribute [local go_sem] Oper.semAt_some
set_option maxHeartbeats 2000000 in
theorem back_poly:BackOk Tryz.prog 225 eZ:=by
 intro J W xs ptr him hp
 obtain ⟨bx,ox,ds,rfl,hrd,hcell⟩:=hp
 obtain ⟨ad,cap,rfl,⟨hlen,hcap⟩,hrow⟩:=hrd
 obtain ⟨cv,hcv⟩:∃cv:Nat→List Value,∀i,i<xs.length→eZ.rd J (cv i) (nth xs i)∧∃b o,ad=some ⟨b,o,none⟩∧∀j v,(cv i)[j]?=some v→J b (o+i*2+j)=some v:=by
  have:∀i,∃l:List Value,i<xs.length→eZ.rd J l (nth xs i)∧∃b o,ad=some ⟨b,o,none⟩∧∀j v,l[j]?=some v→J b (o+i*2+j)=some v:=fun i=>by
   by_cases hi:i<xs.length
   ·obtain ⟨b,o,rfl,hrw⟩:=hrow.resolve_left (fun e=>by subst e; simp at hi)
    obtain ⟨l,q1,q2⟩:=hrw i _ (nth_get hi)
    exact ⟨l,fun _=>⟨q1,b,o,rfl,q2⟩⟩
   ·exact ⟨[],fun h=>absurd h hi⟩
  exact ⟨fun i=>(this i).choose,fun i hi=>(this i).choose_spec hi⟩
 refine ⟨fun i=>.agg (cv i).toArray,fun i hi=>⟨cv i,(hcv i hi).1,rfl⟩,?_⟩
 intro l Iv Ix hY h0
 have hbox:∀W',Im J W'→W'.cell? ⟨bx,ox,none⟩=some (.slice ad xs.length cap):=fun W' h=>h _ _ _ (by have:=hcell 0 _ rfl; simpa using this)
 simp only[lenMax] at hlen
 have hb0:=hbox W him
 refine (callsIn_wide (n:=3)).1 ?_; refine callsIn_of_wp Tryz.func225 rfl trivial ?_
 simp only[Tryz.ntmps225,List.size_toArray,List.length_cons,List.length_nil,Nat.reduceAdd,Nat.reduceSub,Array.replicate_succ,Array.replicate_zero,List.push_toArray,List.append_toArray,List.nil_append,List.cons_append]
 gi_wp2
 gi_loopw [3] (fun i wr=>∃k:Nat,k≤xs.length∧i=.int .i64 ((xs.length:Int)-1-k)∧Iv k wr∧Im J wr)
  (fun i _=>(intOf i+1).toNat)
 case atStart=>exact ⟨0,Nat.zero_le _,by simp,h0,him⟩
 case round =>
  obtain ⟨k,hk,rfl,hJs,himr⟩:=hrel
  have hbr:=hbox wr himr
  by_cases hlt:k<xs.length
  ·obtain ⟨fn,tmps,assign,body,hy,hR⟩:=hY k wr hlt himr hJs
   rw[show ((xs.length-1-k:Nat):Int)=(xs.length:Int)-1-k by omega] at hy
   obtain ⟨q1,b,o,rfl,q2⟩:=hcv (xs.length-1-k) zo
   obtain ⟨c1,c2,hc12⟩:∃c1 c2,cv (xs.length-1-k)=[c1,c2]:=by
    have hl2:(cv (xs.length-1-k)).length=2:=eZ.len q1
    match hcc:cv (xs.length-1-k),hl2 with
    | [c1,c2],_=>exact ⟨c1,c2,rfl⟩
   rw[hc12] at q2
   simp only[hc12] at hy
   have hx1:wr.cell? ⟨b,o+(xs.length-1-k)*2,none⟩=some c1:=himr _ _ _ (by have:=q2 0 c1 rfl; simpa using this)
   have hx2:wr.cell? ⟨b,o+(xs.length-1-k)*2+1,none⟩=some c2:=himr _ _ _ (q2 1 c2 rfl)
   gi_wp2
   refine hR.mono ?_
   rintro e W3 (⟨rfl,hJ3,hk3⟩ | ⟨rfl,hJx3⟩)
   ·gi_wp2
    go_roundw
    case rel=>exact ⟨k+1,by omega,by congr 1; omega,hJ3,hk3⟩
    case measure=>simp[intOf]; omega
   ·gi_wp2
    refine bodyPost_ret (results_none rfl _ _ _) rfl ?_; exact ⟨⟨_,rfl⟩,.inr ⟨k,hlt,hJx3⟩⟩
  ·obtain rfl:k=xs.length:=by omega
   gi_wp2
   go_end0
   exact ⟨⟨_,rfl⟩,.inl hJs⟩
end
theorem cB_zero {z:Int} (h:0=z):∀g b o,cBlk [kDet (.bool false),kDet (.slice none 0 0)] g b o→cBlk [kB (decide (z<0)),kRd (eL eI) (digN z.natAbs)] g b o:=fun g b o h'=>by
 subst h
 obtain ⟨cs,ty,h1,h2⟩:=h'
 refine ⟨cs,ty,h1,?_⟩
 match hcs:cs.toList,h2 with
 | [c1,c2],⟨k1,k2,_⟩=>exact ⟨k1,⟨_,rd_nil (c:=0),k2⟩,trivial⟩
theorem ct_backP (xs:List Int):Ct Tryz.prog 215 [kRd (eL eZ) xs] (kClo 225 [kPtr (eL eZ) xs]):=by
 refine Ct.mk Tryz.func215 rfl Tryz.ntmps215 rfl (fun w J=>?_); refine jx2 ?_; refine jb 1 rfl ?_; refine jx4 ?_; refine Tr.frzB 1 [1] (eL eZ) ⟨rfl,trivial⟩ rfl ?_; refine jn ?_; refine jx1 ?_; refine tO (ok_clo (.cons rfl uu<|.nil)) rfl rfl ?_; refine jx4 ?_; exact Rts.res1 (fn:=Tryz.f215) rfl (zk)

theorem ct_signAt (p:List Int) (a d:Int) (B C:Nat) (hl:p.length≤6) (hpp:∀i,dl (nth p i)≤C) (ha:dl a≤B) (hd:dl d≤B) (hB:B≤100000) (hC:C≤100000):Ct Tryz.prog 193 [kRd (eL eZ) p,kRd eW (wh a),kRd eW (wh d)] (kI (sgn (hvP a d p).1)):=by
 refine CtM.mk Tryz.func193 rfl Tryz.ntmps193 rfl (fun w J=>?_); refine jx2 ?_; refine jb 4 rfl ?_; refine jb 5 rfl ?_; refine jx5 ?_; refine tO (ok_build (fun hp=>.nil)) rfl rfl ?_; refine jc (ct_fsmall 1 zo) ?_; refine ja 7 ?_; refine ja 8 ?_; refine jx8 ?_; refine tO (ok_call (fun hp=>ct_backP _) (.a rfl uu<|.nil)) rfl rfl ?_; refine jx3 ?_
 refine Tr.back (e:=eZ) (xs:=p) back_poly [⟨4,true,_,_⟩,⟨5,true,_,_⟩,⟨6,true,_,_⟩,⟨7,true,_,_⟩,⟨8,true,_,_⟩,⟨14,true,_,_⟩] [4,5,7,8] (fun k=>[⟨4,[],cBlk [kB (decide (a<0)),kRd (eL eI) (digN (a).natAbs)]⟩,⟨5,[],cBlk [kB (decide (d<0)),kRd (eL eI) (digN (d).natAbs)]⟩,⟨7,[],cBlk [kB (decide ((hvK a d p k).1<0)),kRd (eL eI) (digN ((hvK a d p k).1).natAbs)]⟩,⟨8,[],cBlk [kB (decide ((hvK a d p k).2<0)),kRd (eL eI) (digN ((hvK a d p k).2).natAbs)]⟩]) (fun k=>[⟨4,[],cBlk [kB (decide (a<0)),kRd (eL eI) (digN (a).natAbs)]⟩,⟨5,[],cBlk [kB (decide (d<0)),kRd (eL eI) (digN (d).natAbs)]⟩,⟨7,[],cBlk [kB (decide ((hvK a d p k).1<0)),kRd (eL eI) (digN ((hvK a d p k).1).natAbs)]⟩,⟨8,[],cBlk [kB (decide ((hvK a d p k).2<0)),kRd (eL eI) (digN ((hvK a d p k).2).natAbs)]⟩]) (fun k=>True) (fun k=>False) (Ent.mk (.k rfl rfl<|.k rfl rfl<|.k rfl rfl<|.k rfl rfl<|.k rfl rfl<|.k rfl rfl<|.nil) (.k rfl<|.k rfl<|.conv (cB_zero (by rw[hvK_zero])) rfl<|.conv (cB_eq (dcell (by rw[hvK_zero]))) rfl<|.nil) rfl) rfl rfl (fun _=>rfl) (fun _=>rfl) (fun _=>inferInstance) (fun _=>inferInstance) rfl zi ?_ ?_ ?_
 ·intro k hk14 hR14 l14 w14 J14 b14 bks14
  refine jn ?_
  have hb:=hvK_dl hpp ha hd (k:=k) zo
  have hk5:k*(B+1)≤5*100001:=Nat.mul_le_mul zo zo
  have hk6:k*B≤5*100000:=Nat.mul_le_mul zo zo
  have hcp:=hpp (p.length-1-k)
  have hm1:=dl_mul (hvK a d p k).1 a
  have hm2:=dl_mul (nth p (p.length-1-k)) (hvK a d p k).2
  refine jx1 ?_; refine ja 10 ?_; refine jx2 ?_; refine End.asg (fun w1014 J1014 b1014=>?_); refine jn ?_; refine jx2 ?_; refine Tr.draw 5 mixed (by kernel_rfl) ?_; refine jx2 ?_; refine jd (ct_wtimes (hvK a d p k).1 a zo zo) ?_; refine jx3 ?_; refine jc (ct_wtimes (nth p (p.length-1-k)) (hvK a d p k).2 zo zo) ?_; refine jc (ct_wplus ((hvK a d p k).1*a) (nth p (p.length-1-k)*(hvK a d p k).2) zo zo) ?_; refine jx6 ?_; refine jc (ct_wtimes (hvK a d p k).2 d zo zo) ?_; refine jx3 ?_; exact End.rnd trivial (Ent.mk (zk) (.k rfl<|.k rfl<|.conv (cB_eq (dcell (by rw[hvK_step zo]))) rfl<|.conv (cB_eq (dcell (by rw[hvK_step zo]))) rfl<|.nil) rfl)
 ·intro hE14
  refine je ?_; refine jx5 ?_; refine jc (ct_wsign (hvK a d p p.length).1) ?_; refine jx4 ?_; refine Rts.mk ?_; exact Rts.res1 (fn:=Tryz.f193) rfl (.i rfl (by rw[hvK_end]; rfl)<|.nil)
 ·intro k hk14 hX14
  exact absurd hX14 id

end Go.Fl

/- Contracts: halving. -/
namespace Go.Fl
open Go Go.Proofs
open TrL renaming op→tO
open RunD renaming op→rO
set_option maxRecDepth 100000

theorem cBlk_J2 {ks:List Know} {dep:List Nat} [hd:KsDep ks dep] [hn:IsNil dep] {g:Gh} {bk:Bk} {o:Option Obj} {b cap:Nat} (h:cBlk ks g bk o):cBlk ks (g1 g.J b cap) (.blk b cap) o :=
 let ⟨cs,ty,h1,h2⟩:=h; ⟨cs,ty,h1,hd.dep (g:=g) (g':=g1 g.J b cap) (JV.le_refl _) (fun t ht=>by rw[hn.eq] at ht; cases ht) h2⟩
theorem sgn_bd (z:Int):-1≤sgn z∧sgn z≤1:=by unfold sgn cmpZ; split; omega; split<;>omega
theorem sgn_mul_bd (y z:Int):-1≤sgn y*sgn z∧sgn y*sgn z≤1:=by
 obtain ⟨h1,h2⟩:=sgn_bd y
 obtain ⟨h3,h4⟩:=sgn_bd z
 rcases (show sgn y=-1∨sgn y=0∨sgn y=1 by omega) with h | h | h<;>rw[h]<;>omega
theorem ct_halve (k1 k2 k3 k4 k5:Know) [KDep k1 []] [KDep k2 []] [KDep k3 []] [KDep k4 []] [KDep k5 []] (p:List Int) (I:Iv) (B:Nat) (hl:p.length≤6) (hpp:∀i,dl (nth p i)≤1) (h1:dl I.lo≤B) (h2:dl I.hi≤B) (h3:dl I.den≤B) (hB:B≤90000):CtB Tryz.prog 164 (kOwn 0 0) [] (cBlk [k1,k2,k3,k4,kRd (eL eZ) p,k5,kB (decide (I.lo<0)),kRd (eL eI) (digN (I.lo).natAbs),kB (decide (I.hi<0)),kRd (eL eI) (digN (I.hi).natAbs),kB (decide (I.den<0)),kRd (eL eI) (digN (I.den).natAbs)]) (cBlk [k1,k2,k3,k4,kRd (eL eZ) p,k5,kB (decide ((halveI p I).lo<0)),kRd (eL eI) (digN ((halveI p I).lo).natAbs),kB (decide ((halveI p I).hi<0)),kRd (eL eI) (digN ((halveI p I).hi).natAbs),kB (decide ((halveI p I).den<0)),kRd (eL eI) (digN ((halveI p I).den).natAbs)]) (kDet (.tuple #[])):=by
 have a1:=dl_add I.lo I.hi
 have a2:=dl_add I.den I.den
 have a3:=dl_add I.lo I.lo
 have a4:=dl_add I.hi I.hi
 refine CtB.mk Tryz.func164 rfl Tryz.ntmps164 rfl (fun w J bb cap=>?_); refine jx1 ?_; refine Tr.draw 20 mixed (by kernel_rfl) ?_; refine jx1 ?_; refine rO (ok_nilB rfl uu) rfl rfl ?_; refine jx3 ?_; refine rO (ok_nilB rfl uu) rfl rfl ?_; refine jx2 ?_; refine jd (ct_wplus I.lo I.hi zo zo) ?_; refine jx1 ?_; refine rO (ok_nilB rfl uu) rfl rfl ?_; refine jx3 ?_; refine rO (ok_nilB rfl uu) rfl rfl ?_; refine jx2 ?_; refine jd (ct_wplus I.den I.den zo zo) ?_; refine RunD.new (ok_alloc 2) rfl rfl rfl rfl ?_; refine RunD.new (ok_alloc 3) rfl rfl rfl rfl ?_
 refine jx7 ?_; refine Tr.draw 19 mixed (by kernel_rfl) ?_; refine jx1 ?_; refine rO (ok_nilB rfl uu) rfl rfl ?_; refine jx3 ?_; refine rO (ok_nilB rfl uu) rfl rfl ?_; refine jx3 ?_; refine rO (ok_nilB rfl uu) rfl rfl ?_; refine jx2 ?_; refine jd (ct_signAt p I.lo I.den 100000 1 hl hpp zo zo zo zo) ?_; refine jx1 ?_; refine rO (ok_nilB rfl uu) rfl rfl ?_; refine jx5 ?_; refine jc (ct_signAt p (I.lo+I.hi) (I.den+I.den) 100000 1 hl hpp zo zo zo zo) ?_; refine tO (ok_mul rfl uu rfl uu (fun _=>by have:=sgn_mul_bd (hvP I.lo I.den p).1 (hvP (I.lo+I.hi) (I.den+I.den) p).1; omega)) rfl rfl ?_
 refine jx3 ?_; refine jq ?_ ?_
 ·intro h1
  have hi:halveI p I=⟨I.lo+I.lo,I.lo+I.hi,I.den+I.den⟩:=if_pos h1
  rw[hi]
  refine Tr.drawS 14 0 mixed (by kernel_rfl) ?_; refine RunS.opA (ok_move rfl uu) (by kernel_rfl) rfl rfl ?_; refine RunS.op (ok_move rfl uu) rfl rfl ?_; refine RunS.opA (ok_move rfl uu) (by kernel_rfl) rfl rfl ?_; refine RunS.opA (ok_nilB rfl uu) (by kernel_rfl) rfl rfl ?_; refine RunS.opA (ok_fldO rfl uu) (by kernel_rfl) rfl rfl ?_; refine RunS.opA (ok_ldBS rfl uu) (by kernel_rfl) rfl rfl ?_; refine RunS.opA (ok_move rfl uu) (by kernel_rfl) rfl rfl ?_; refine RunS.opA (ok_nilB rfl uu) (by kernel_rfl) rfl rfl ?_; refine RunS.opA (ok_fldO rfl uu) (by kernel_rfl) rfl rfl ?_; refine RunS.opA (ok_ldBS rfl uu) (by kernel_rfl) rfl rfl ?_
  refine RunS.opA (ok_call (fun hp=>ct_wplus I.lo I.lo zo zo) (.se rfl uu rfl rfl<|.se rfl uu rfl rfl<|.nil)) (by kernel_rfl) rfl rfl ?_; refine RunS.op (ok_ldBS rfl uu) rfl rfl ?_; refine RunS.opA (ok_nilB rfl uu) (by kernel_rfl) rfl rfl ?_; refine RunS.opA (ok_fldO rfl uu) (by kernel_rfl) rfl rfl ?_; refine RunS.z (st_B rfl rfl rfl) rfl rfl rfl ?_; refine tO (ok_nilB rfl uu) rfl rfl ?_; refine jx7 ?_; refine tO (ok_nilB rfl uu) rfl rfl ?_; refine jx3 ?_; exact End.mutB (t:=0) rfl rfl (fun _ _ _ h=>cBlk_J2 h)
 ·intro h1
  replace h1:=Int.not_lt.1 h1
  have hi:halveI p I=⟨I.lo+I.hi,I.hi+I.hi,I.den+I.den⟩:=if_neg zo
  rw[hi]
  refine Tr.drawS 14 0 mixed (by kernel_rfl) ?_; refine RunS.opA (ok_move rfl uu) (by kernel_rfl) rfl rfl ?_; refine RunS.op (ok_move rfl uu) rfl rfl ?_; refine RunS.opA (ok_ldBS rfl uu) (by kernel_rfl) rfl rfl ?_; refine RunS.opA (ok_move rfl uu) (by kernel_rfl) rfl rfl ?_; refine RunS.opA (ok_nilB rfl uu) (by kernel_rfl) rfl rfl ?_; refine RunS.opA (ok_fldO rfl uu) (by kernel_rfl) rfl rfl ?_; refine RunS.opA (ok_ldBS rfl uu) (by kernel_rfl) rfl rfl ?_; refine RunS.opA (ok_move rfl uu) (by kernel_rfl) rfl rfl ?_; refine RunS.opA (ok_nilB rfl uu) (by kernel_rfl) rfl rfl ?_; refine RunS.opA (ok_fldO rfl uu) (by kernel_rfl) rfl rfl ?_
  refine RunS.opA (ok_ldBS rfl uu) (by kernel_rfl) rfl rfl ?_; refine RunS.opA (ok_call (fun hp=>ct_wplus I.hi I.hi zo zo) (.se rfl uu rfl rfl<|.se rfl uu rfl rfl<|.nil)) (by kernel_rfl) rfl rfl ?_; refine RunS.opA (ok_nilB rfl uu) (by kernel_rfl) rfl rfl ?_; refine RunS.opA (ok_fldO rfl uu) (by kernel_rfl) rfl rfl ?_; refine RunS.z (st_B rfl rfl rfl) rfl rfl rfl ?_; refine tO (ok_nilB rfl uu) rfl rfl ?_; refine jx7 ?_; refine tO (ok_nilB rfl uu) rfl rfl ?_; refine jx3 ?_; exact End.mutB (t:=0) rfl rfl (fun _ _ _ h=>cBlk_J2 h)

end Go.Fl

/- Contracts: loops over lists of integers of any size. -/
namespace Go.Fl
open Go Go.Proofs
open TrL renaming op→tO
open RunD renaming op→rO
set_option maxRecDepth 100000

section
open Go Go.RowKit Go.Proofs
attribute [local go_sem] Oper.semAt_some
set_option maxHeartbeats 2000000 in
theorem back_wholes:BackOk Tryz.prog 217 eZ:=by
 intro J W xs ptr him hp
 obtain ⟨bx,ox,ds,rfl,hrd,hcell⟩:=hp
 obtain ⟨ad,cap,rfl,⟨hlen,hcap⟩,hrow⟩:=hrd
 obtain ⟨cv,hcv⟩:∃cv:Nat→List Value,∀i,i<xs.length→eZ.rd J (cv i) (nth xs i)∧∃b o,ad=some ⟨b,o,none⟩∧∀j v,(cv i)[j]?=some v→J b (o+i*2+j)=some v:=by
  have:∀i,∃l:List Value,i<xs.length→eZ.rd J l (nth xs i)∧∃b o,ad=some ⟨b,o,none⟩∧∀j v,l[j]?=some v→J b (o+i*2+j)=some v:=fun i=>by
   by_cases hi:i<xs.length
   ·obtain ⟨b,o,rfl,hrw⟩:=hrow.resolve_left (fun e=>by subst e; simp at hi)
    obtain ⟨l,q1,q2⟩:=hrw i _ (nth_get hi)
    exact ⟨l,fun _=>⟨q1,b,o,rfl,q2⟩⟩
   ·exact ⟨[],fun h=>absurd h hi⟩
  exact ⟨fun i=>(this i).choose,fun i hi=>(this i).choose_spec hi⟩
 refine ⟨fun i=>.agg (cv i).toArray,fun i hi=>⟨cv i,(hcv i hi).1,rfl⟩,?_⟩
 intro l Iv Ix hY h0
 have hbox:∀W',Im J W'→W'.cell? ⟨bx,ox,none⟩=some (.slice ad xs.length cap):=fun W' h=>h _ _ _ (by have:=hcell 0 _ rfl; simpa using this)
 simp only[lenMax] at hlen
 have hb0:=hbox W him
 refine (callsIn_wide (n:=3)).1 ?_; refine callsIn_of_wp Tryz.func217 rfl trivial ?_
 simp only[Tryz.ntmps217,List.size_toArray,List.length_cons,List.length_nil,Nat.reduceAdd,Nat.reduceSub,Array.replicate_succ,Array.replicate_zero,List.push_toArray,List.append_toArray,List.nil_append,List.cons_append]
 gi_wp2
 gi_loopw [3] (fun i wr=>∃k:Nat,k≤xs.length∧i=.int .i64 ((xs.length:Int)-1-k)∧Iv k wr∧Im J wr)
  (fun i _=>(intOf i+1).toNat)
 case atStart=>exact ⟨0,Nat.zero_le _,by simp,h0,him⟩
 case round =>
  obtain ⟨k,hk,rfl,hJs,himr⟩:=hrel
  have hbr:=hbox wr himr
  by_cases hlt:k<xs.length
  ·obtain ⟨fn,tmps,assign,body,hy,hR⟩:=hY k wr hlt himr hJs
   rw[show ((xs.length-1-k:Nat):Int)=(xs.length:Int)-1-k by omega] at hy
   obtain ⟨q1,b,o,rfl,q2⟩:=hcv (xs.length-1-k) zo
   obtain ⟨c1,c2,hc12⟩:∃c1 c2,cv (xs.length-1-k)=[c1,c2]:=by
    have hl2:(cv (xs.length-1-k)).length=2:=eZ.len q1
    match hcc:cv (xs.length-1-k),hl2 with
    | [c1,c2],_=>exact ⟨c1,c2,rfl⟩
   rw[hc12] at q2
   simp only[hc12] at hy
   have hx1:wr.cell? ⟨b,o+(xs.length-1-k)*2,none⟩=some c1:=himr _ _ _ (by have:=q2 0 c1 rfl; simpa using this)
   have hx2:wr.cell? ⟨b,o+(xs.length-1-k)*2+1,none⟩=some c2:=himr _ _ _ (q2 1 c2 rfl)
   gi_wp2
   refine hR.mono ?_
   rintro e W3 (⟨rfl,hJ3,hk3⟩ | ⟨rfl,hJx3⟩)
   ·gi_wp2
    go_roundw
    case rel=>exact ⟨k+1,by omega,by congr 1; omega,hJ3,hk3⟩
    case measure=>simp[intOf]; omega
   ·gi_wp2
    refine bodyPost_ret (results_none rfl _ _ _) rfl ?_; exact ⟨⟨_,rfl⟩,.inr ⟨k,hlt,hJx3⟩⟩
  ·obtain rfl:k=xs.length:=by omega
   gi_wp2
   go_end0
   exact ⟨⟨_,rfl⟩,.inl hJs⟩
end
theorem ct_backW (xs:List Int):Ct Tryz.prog 201 [kRd (eL eZ) xs] (kClo 217 [kPtr (eL eZ) xs]):=by
 refine Ct.mk Tryz.func201 rfl Tryz.ntmps201 rfl (fun w J=>?_); refine jx2 ?_; refine jb 1 rfl ?_; refine jx4 ?_; refine Tr.frzB 1 [1] (eL eZ) ⟨rfl,trivial⟩ rfl ?_; refine jn ?_; refine jx1 ?_; refine tO (ok_clo (.cons rfl uu<|.nil)) rfl rfl ?_; refine jx4 ?_; exact Rts.res1 (fn:=Tryz.f201) rfl (zk)

end Go.Fl

/- Contracts: signs of numbers. -/
namespace Go.Fl
open Go Go.Proofs
open TrL renaming op→tO
open RunD renaming op→rO
set_option maxRecDepth 100000

def sgE (a b o:Int):Int:=if 0<cmpZ a 0 then 1 else if cmpZ b 0<0 then -1 else o
theorem ct_sign1 (a b c o:Int):CtL Tryz.prog 182 [kRd eW (wh a),kRd eW (wh b),kRd eW (wh c),kOwn 0 0] (cBlk [kI o]) (cBlk [kI (sgE a b o)]) (kB (decide (sgE a b o≠0))):=by
 refine CtL.mk Tryz.func182 rfl Tryz.ntmps182 rfl rfl (fun w J bb cap=>?_); refine jn ?_; refine jx2 ?_; refine jb 4 rfl ?_; refine jb 5 rfl ?_; refine jb 6 rfl ?_; refine jx7 ?_; refine jc (ct_wsign a) ?_; refine jx3 ?_; refine jq ?_ ?_
 ·intro h1
  refine jx12 ?_
  have e:sgE a b o=1:=if_pos zo
  exact Rts.loan1 (fn:=Tryz.f182) (s:=516) rfl rfl (.b rfl (by rw[e])<|.nil) (by rw[e])
 ·intro h1
  replace h1:=Int.not_lt.1 h1
  refine jx3 ?_; refine jc (ct_wsign b) ?_; refine jx3 ?_; refine jq ?_ ?_
  ·intro h3
   refine jx12 ?_
   have e:sgE a b o=-1:=by unfold sgE; rw[if_neg zo,if_pos zo]
   exact Rts.loan1 (fn:=Tryz.f182) (s:=516) rfl rfl (.b rfl (by rw[e])<|.nil) (by rw[e])
  ·intro h3
   replace h3:=Int.not_lt.1 h3
   refine jx10 ?_
   have e:sgE a b o=o:=by unfold sgE; rw[if_neg zo,if_neg zo]
   exact Rts.loan1 (fn:=Tryz.f182) (s:=516) rfl rfl (.b rfl (by rw[e])<|.nil) (by rw[e])

end Go.Fl

/- How long it takes until the sign of a number of a field is told. No program in sight. -/
namespace Go.Fl
open Go
structure FldOk (p:List Int) (I:Iv):Prop where
 pol:PolOk p
 three:3≤p.length
 top:nth p (p.length-1)=1
 small:∀c∈p,c.natAbs≤1000
 iv:I.Ok
 lo:-(1000000*I.den)≤I.lo
 hi:I.hi≤1000000*I.den
 wid:I.hi-I.lo≤2000000
 den:I.den≤1000000
 red:¬RedP (lP p) (p.length-1)
 sg:sgn (hmL p I.lo I.den)*sgn (hmL p I.hi I.den)<0
theorem dlc {x:Nat}:dl ((x:Nat):Int)=(digN x).length:=by unfold dl; rw[Int.natAbs_natCast]
theorem dlN_mul (x y:Nat):dl ((x*y:Nat):Int)≤dl (x:Int)+dl (y:Int):=by rw[Int.natCast_mul]; exact dl_mul _ _
theorem dlN_le {x y:Nat} (h:x≤y):dl (x:Int)≤dl (y:Int):=digN_len_le (by rw[Int.natAbs_natCast,Int.natAbs_natCast]; exact h)
theorem dlN_small {x:Nat} (h:x<100000000):dl (x:Int)≤1:=dl_small zo zo
theorem dlN_pow {x k:Nat} (h:dl (x:Int)≤1):dl ((x ^ k:Nat):Int)≤k+1:=by
 induction k with
 | zero=>rw[Nat.pow_zero]; exact Nat.le_trans (dlN_small zo) zo
 | succ k ih=>rw[Nat.pow_succ]; have:=dlN_mul (x ^ k) x; omega
theorem dl_XI:∀{m X:Nat},dl ((XI X m:Nat):Int)≤2 ^ m*dl (X:Int)+2 ^ m
 | 0,X=>by rw[XI]; omega
 | m+1,X=>by
  have h1:=dl_XI (m:=m) (X:=2*X*X)
  have h2:=dlN_mul (2*X) X
  have h3:=dlN_mul 2 X
  have h4:=dlN_small (x:=2) zo
  rw[XI,Nat.pow_succ]
  have h5:2 ^ m*dl ((2*X*X:Nat):Int)≤2 ^ m*(1+2*dl (X:Int)):=Nat.mul_le_mul_left _ zo
  rw[Nat.mul_add,Nat.mul_one,← Nat.mul_assoc] at h5
  omega
theorem dl_denB {n F:Nat} (hn:n≤4):dl ((denB n F 1000000 2000000:Nat):Int)≤129*dl (F:Int)+180:=by
 unfold denB
 have a1:=dl_XI (m:=7) (X:=F)
 have a2:=dlN_mul 29 (XI F 7)
 have a3:=dlN_mul (29*XI F 7) ((n+1)*(n+1)*F)
 have a4:=dlN_mul ((n+1)*(n+1)) F
 have a5:=dlN_mul (29*XI F 7*((n+1)*(n+1)*F)) 2000000
 have a6:=dlN_mul (29*XI F 7*((n+1)*(n+1)*F)*2000000) (1000000 ^ (28+n))
 have a7:=dlN_mul 2 (29*XI F 7*((n+1)*(n+1)*F)*2000000*1000000 ^ (28+n))
 have a8:=dlN_pow (x:=1000000) (k:=28+n) (dlN_small zo)
 have b1:=dlN_small (x:=29) zo
 have b2:=dlN_small (x:=2) zo
 have b3:=dlN_small (x:=2000000) zo
 have b4:dl (((n+1)*(n+1):Nat):Int)≤1:=dlN_small (Nat.lt_of_le_of_lt (Nat.mul_le_mul (show n+1≤5 by omega) (show n+1≤5 by omega)) zo)
 have a9:=dl_add ((2*(29*XI F 7*((n+1)*(n+1)*F)*2000000*1000000 ^ (28+n)):Nat):Int) 1
 have b5:=dl_small (F:=1) zo zo
 rw[show ((2*(29*XI F 7*((n+1)*(n+1)*F)*2000000*1000000 ^ (28+n))+1:Nat):Int)=((2*(29*XI F 7*((n+1)*(n+1)*F)*2000000*1000000 ^ (28+n)):Nat):Int)+1 from rfl]
 have e:(2:Nat) ^ 7=128:=by decide
 rw[e] at a1
 generalize dl ((XI F 7:Nat):Int)=x1 at *
 generalize dl ((29*XI F 7:Nat):Int)=x2 at *
 generalize dl ((29*XI F 7*((n+1)*(n+1)*F):Nat):Int)=x3 at *
 generalize dl (((n+1)*(n+1)*F:Nat):Int)=x4 at *
 generalize dl ((29*XI F 7*((n+1)*(n+1)*F)*2000000:Nat):Int)=x5 at *
 generalize dl ((29*XI F 7*((n+1)*(n+1)*F)*2000000*1000000 ^ (28+n):Nat):Int)=x6 at *
 generalize dl ((2*(29*XI F 7*((n+1)*(n+1)*F)*2000000*1000000 ^ (28+n)):Nat):Int)=x7 at *
 generalize dl ((1000000 ^ (28+n):Nat):Int)=x8 at *
 omega
theorem denB_ne {n F R W:Nat}:denB n F R W≠0:=by unfold denB; omega
section
variable {p:List Int} {I:Iv} (h:FldOk p I)
include h
theorem FldOk.len4:p.length≤5:=h.pol.1.2
theorem FldOk.noroot (a b:Int) (hb:0<b):hmL p a b≠0:=by
 have h3:=h.three
 have h5:=h.pol.1.2
 refine no_root (n:=p.length-1) zo zo lP_dg ?_ h.red hb
 show (if p.length-1<p.length then nth p (p.length-1) else 0)=1
 rw[if_pos zo,h.top]
theorem FldOk.told {cs:List Int} {F k:Nat} (hcl:cs.length=p.length-1) (hc0:∃c∈cs,c≠0) (hF:1000≤F) (hcF:∀c∈cs,c.natAbs≤F) (hk:(denB (p.length-1) F 1000000 2000000:Int)≤I.den*2 ^ k):0<(enc (ivK p I k) cs).1∨(enc (ivK p I k) cs).2.1<0:=by
 have h3:=h.three
 have h5:=h.pol.1.2
 obtain ⟨b1,b2⟩:=ivK_bd h.iv (R:=1000000) h.lo h.hi (p:=p) (k:=k)
 have hw:=ivK_wid (p:=p) (I:=I) (k:=k)
 have hle:=(ivK_ok h.iv (p:=p) (k:=k)).le
 have h6:=h.wid
 exact Go.Fl.told (n:=p.length-1) (F:=F) (R:=1000000) (W:=2000000) zo zo zo h.top h.red hcl hc0 zo (fun c hc=>Nat.le_trans (h.small c hc) hF) hcF zo (ivK_ok h.iv) b1 b2 zo (ivK_sgn h.iv (h.noroot) h.sg) (by rw[ivK_den]; exact hk)
theorem FldOk.bound {cs:List Int} {M:Nat} (hcl:cs.length=p.length-1) (hc0:∃c∈cs,c≠0) (hM:∀c∈cs,dl c≤M) (hM1:1≤M) (hM2:M≤560):∃K,64≤K∧(∀k,K≤k→0<(enc (ivK p I k) cs).1∨(enc (ivK p I k) cs).2.1<0)∧∀k,k≤K→dl (ivK p I k).lo≤73000∧dl (ivK p I k).hi≤73000∧dl (ivK p I k).den≤73000:=by
 have h3:=h.three
 have h5:=h.pol.1.2
 have hpos:=h.iv.pos
 obtain ⟨F,hF1,hF2,hF3⟩:∃F:Nat,1000≤F∧dl (F:Int)≤M∧∀c∈cs,c.natAbs≤F:=by
  have key:∀l:List Int,(∀c∈l,dl c≤M)→∃F:Nat,1000≤F∧dl (F:Int)≤M∧∀c∈l,c.natAbs≤F:=by
   intro l
   induction l with
   | nil=>intro _; exact ⟨1000,Nat.le_refl _,Nat.le_trans (dlN_small zo) hM1,fun c hc=>by cases hc⟩
   | cons x l ih =>
    intro hl
    obtain ⟨F,q1,q2,q3⟩:=ih fun c hc=>hl c (List.mem_cons_of_mem _ hc)
    refine ⟨max F x.natAbs,by omega,?_,fun c hc=>?_⟩
    ·rw[Nat.max_def]
     split
     ·have:=hl x List.mem_cons_self
      rw[dlc]; exact this
     ·exact q2
    ·rcases List.mem_cons.1 hc with rfl | hc
     ·omega
     ·have:=q3 c hc; omega
  exact key cs hM
 obtain ⟨d,hd⟩:∃d,d=denB (p.length-1) F 1000000 2000000:=⟨_,rfl⟩
 have hd0:d≠0:=hd▸denB_ne
 have hdl:dl (d:Int)≤129*560+180:=by
  rw[hd]
  have:=dl_denB (n:=p.length-1) (F:=F) zo
  have:129*dl (F:Int)≤129*560:=Nat.mul_le_mul_left _ zo
  omega
 have hden:((I.den.natAbs:Nat):Int)=I.den:=by omega
 have size:∀k:Nat,dl ((2 ^ k:Nat):Int)≤72422→dl (ivK p I k).lo≤73000∧dl (ivK p I k).hi≤73000∧dl (ivK p I k).den≤73000:=fun k hk=>by
  obtain ⟨b1,b2⟩:=ivK_bd h.iv (R:=1000000) h.lo h.hi (p:=p) (k:=k)
  have hle:=(ivK_ok h.iv (p:=p) (k:=k)).le
  have hp:=(ivK_ok h.iv (p:=p) (k:=k)).pos
  have hdk:dl (ivK p I k).den≤72423:=by
   rw[ivK_den]
   have q1:=dl_mul I.den (2 ^ k)
   have q2:dl I.den≤1:=dl_small zo (by have:=h.den; omega)
   have q3:dl ((2:Int) ^ k)≤72422:=by rw[show ((2:Int) ^ k)=((2 ^ k:Nat):Int) by rw[Int.natCast_pow]; rfl]; exact hk
   omega
  have q4:=dl_mul 1000000 (ivK p I k).den
  have q5:=dl_small (F:=1000000) zo zo
  have mono:∀z:Int,z.natAbs≤(1000000*(ivK p I k).den).natAbs→dl z≤73000:=fun z hz=>Nat.le_trans (digN_len_le hz) (by show dl (1000000*(ivK p I k).den)≤73000; omega)
  exact ⟨mono _ zo,mono _ zo,by omega⟩
 have hK:(d:Int)≤I.den*2 ^ (d.log2+1):=by
  have q1:=Nat.lt_log2_self (n:=d)
  have q2:((d:Nat):Int)<((2 ^ (d.log2+1):Nat):Int):=Int.ofNat_lt.2 q1
  rw[Int.natCast_pow] at q2
  have q3:=Int.mul_le_mul_of_nonneg_right (show 1≤I.den by omega) (show (0:Int)≤2 ^ (d.log2+1) from Int.le_of_lt (Int.pow_pos zo))
  rw[Int.one_mul] at q3
  have q4:((2:Nat):Int)=2:=rfl
  rw[q4] at q2
  omega
 refine ⟨max 64 (d.log2+1),Nat.le_max_left _ _,fun k hk=>?_,fun k hk=>?_⟩
 ·refine h.told hcl hc0 hF1 hF3 ?_
  rw[← hd]
  refine Int.le_trans hK (Int.mul_le_mul_of_nonneg_left ?_ zo)
  have:(2:Nat) ^ (d.log2+1)≤2 ^ k:=Nat.pow_le_pow_right zo zo
  have:=Int.ofNat_le.2 this
  rw[Int.natCast_pow,Int.natCast_pow] at this
  exact this
 ·refine size k ?_
  have hm:dl ((2 ^ k:Nat):Int)≤dl ((2 ^ (max 64 (d.log2+1)):Nat):Int):=dlN_le (Nat.pow_le_pow_right zo hk)
  refine Nat.le_trans hm ?_
  rcases Nat.le_total 64 (d.log2+1) with q | q
  ·rw[Nat.max_eq_right q]
   have q1:=Nat.log2_self_le hd0
   have q2:2 ^ (d.log2+1)≤2*d:=by rw[Nat.pow_succ]; omega
   have q3:=dlN_le q2
   have q4:=dlN_mul 2 d
   have q5:=dlN_small (x:=2) zo
   omega
  ·rw[Nat.max_eq_left q]
   exact Nat.le_trans (dlN_pow (x:=2) (k:=64) (dlN_small zo)) zo
end
theorem ivK_add {p:List Int} {I:Iv} {j:Nat}:∀{k:Nat},ivK p (ivK p I j) k=ivK p I (j+k)
 | 0=>rfl
 | k+1=>by rw[ivK,ivK_add]; rfl
theorem sgnF_ivK {p:List Int} {I:Iv} {cs:List Int} {j:Nat} (hI:I.Ok):sgnF p (ivK p I j) cs=sgnF p I cs:=by
 unfold sgnF
 have e1:(∃k,0<(enc (ivK p (ivK p I j) k) cs).1)↔∃k,0<(enc (ivK p I k) cs).1 :=
  ⟨fun ⟨k,hk⟩=>⟨j+k,by rw[← ivK_add]; exact hk⟩,fun ⟨k,hk⟩=>⟨k,by rw[ivK_add]; exact encK_pos hI (Nat.le_add_left k j) hk⟩⟩
 have e2:(∃k,(enc (ivK p (ivK p I j) k) cs).2.1<0)↔∃k,(enc (ivK p I k) cs).2.1<0 :=
  ⟨fun ⟨k,hk⟩=>⟨j+k,by rw[← ivK_add]; exact hk⟩,fun ⟨k,hk⟩=>⟨k,by rw[ivK_add]; exact encK_neg hI (Nat.le_add_left k j) hk⟩⟩
 by_cases h1:∃k,0<(enc (ivK p I k) cs).1
 ·rw[if_pos (e1.2 h1),if_pos h1]
 ·rw[if_neg (fun h=>h1 (e1.1 h)),if_neg h1]
  by_cases h2:∃k,(enc (ivK p I k) cs).2.1<0
  ·rw[if_pos (e2.2 h2),if_pos h2]
  ·rw[if_neg (fun h=>h2 (e2.1 h)),if_neg h2]
noncomputable def sgV (p:List Int) (I:Iv) (v:NvT):Int:=if ratB v.1=true then cmpZ (nth v.1 0) 0 else sgnF p I (v.1.take (p.length-1))
theorem rat_ne {p:List Int} {v:NvT} (_:3≤p.length) (hv:RedN p v) (h:ratB v.1≠true):(v.1.take (p.length-1)).length=min (p.length-1) 4∧∃c∈v.1.take (p.length-1),c≠0:=by
 have hl:=hv.len
 refine ⟨by rw[List.length_take,hl],?_⟩
 refine Classical.byContradiction fun hn=>h (ratB_of fun i h1 h2=>?_)
 by_cases hi:i<p.length-1
 ·refine Classical.byContradiction fun h0=>hn ⟨nth v.1 i,?_,h0⟩
  rw[← nth_take' hi]
  exact nth_mem' (by rw[List.length_take,hl]; omega)
 ·exact hv.hi i zo
theorem dl_min4 {a b c d:Int} {n:Nat} (h1:dl a≤n) (h2:dl b≤n) (h3:dl c≤n) (h4:dl d≤n):dl (min4 a b c d)≤n∧dl (max4 a b c d)≤n:=by
 have key:∀x:Int,x=a∨x=b∨x=c∨x=d→dl x≤n:=fun x hx=>by rcases hx with rfl | rfl | rfl | rfl<;>assumption
 exact ⟨key _ (by unfold min4; omega),key _ (by unfold max4; omega)⟩
def encK (I:Iv) (cs:List Int) (k:Nat):Int×Int×Int:=enc I (cs.drop (cs.length-k))
theorem encK_zero {I:Iv} {cs:List Int}:encK I cs 0=(0,0,1):=by unfold encK; rw[Nat.sub_zero,List.drop_length]; rfl
theorem encK_end {I:Iv} {cs:List Int}:encK I cs cs.length=enc I cs:=by unfold encK; rw[Nat.sub_self,List.drop_zero]
theorem encK_step {I:Iv} {cs:List Int} {k:Nat} (hk:k<cs.length):encK I cs (k+1)=(min4 ((encK I cs k).1*I.lo) ((encK I cs k).1*I.hi) ((encK I cs k).2.1*I.lo) ((encK I cs k).2.1*I.hi)+nth cs (cs.length-1-k)*((encK I cs k).2.2*I.den),max4 ((encK I cs k).1*I.lo) ((encK I cs k).1*I.hi) ((encK I cs k).2.1*I.lo) ((encK I cs k).2.1*I.hi)+nth cs (cs.length-1-k)*((encK I cs k).2.2*I.den),(encK I cs k).2.2*I.den):=by
 unfold encK
 rw[drop_step hk]
 rfl
theorem encK_dl {I:Iv} {cs:List Int} {A C:Nat} (h1:dl I.lo≤A) (h2:dl I.hi≤A) (h3:dl I.den≤A) (hc:∀i,dl (nth cs i)≤C):∀{k:Nat},k≤cs.length→dl (encK I cs k).1≤k*(A+1)+C+1∧dl (encK I cs k).2.1≤k*(A+1)+C+1∧dl (encK I cs k).2.2≤k*A+1
 | 0,_=>by
  rw[encK_zero]
  have h0:dl (0:Int)=0:=dl_zero.2 rfl
  have h1:=dl_small (F:=1) zo zo
  exact ⟨by show dl 0≤_; omega,by show dl 0≤_; omega,by show dl 1≤_; omega⟩
 | k+1,hk=>by
  obtain ⟨q1,q2,q3⟩:=encK_dl h1 h2 h3 hc (k:=k) zo
  rw[encK_step zo]
  have m1:=dl_mul (encK I cs k).1 I.lo
  have m2:=dl_mul (encK I cs k).1 I.hi
  have m3:=dl_mul (encK I cs k).2.1 I.lo
  have m4:=dl_mul (encK I cs k).2.1 I.hi
  have m5:=dl_mul (encK I cs k).2.2 I.den
  have m6:=dl_mul (nth cs (cs.length-1-k)) ((encK I cs k).2.2*I.den)
  have m7:=hc (cs.length-1-k)
  have e1:(k+1)*(A+1)=k*(A+1)+A+1:=by rw[Nat.succ_mul]; omega
  have e2:(k+1)*A=k*A+A:=Nat.succ_mul _ _
  have e3:k*(A+1)=k*A+k:=by rw[Nat.mul_add,Nat.mul_one]
  obtain ⟨u1,u2⟩:=dl_min4 (n:=k*(A+1)+C+1+A) (a:=(encK I cs k).1*I.lo) (b:=(encK I cs k).1*I.hi) (c:=(encK I cs k).2.1*I.lo) (d:=(encK I cs k).2.1*I.hi) zo zo zo zo
  have s1:=dl_add (min4 ((encK I cs k).1*I.lo) ((encK I cs k).1*I.hi) ((encK I cs k).2.1*I.lo) ((encK I cs k).2.1*I.hi)) (nth cs (cs.length-1-k)*((encK I cs k).2.2*I.den))
  have s2:=dl_add (max4 ((encK I cs k).1*I.lo) ((encK I cs k).1*I.hi) ((encK I cs k).2.1*I.lo) ((encK I cs k).2.1*I.hi)) (nth cs (cs.length-1-k)*((encK I cs k).2.2*I.den))
  refine ⟨?_,?_,?_⟩
  ·show dl (_+_)≤_; omega
  ·show dl (_+_)≤_; omega
  ·show dl (_*_)≤_; omega
end Go.Fl
