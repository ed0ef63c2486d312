/- Laws on walking typed knowledge through code, and contracts. -/
import Derived.Test.YthfaleobmefibaaGreatM5

/- Contracts: steps of rows and matrices of the reference. -/
namespace Go.Fl
open Go Go.Proofs
open d5 renaming op->tO
open i9 renaming op->rO
set_option maxRecDepth 100000

def FE (x:Int):Bool:=!decide (0<=x/\x<=1)
def K0 (ks:List Int):Int:=if 60<ks.length then 8 else if ks.any FE=true then 2 else 0
theorem UR {ks:List Int} (h:K0 ks=0):ks.length<=60/\∀k∈ks,k=0\/k=1:=by
 unfold K0 at h
 by_cases c:60<ks.length
 ·rw[if_pos c] at h; omega
 ·rw[if_neg c] at h
  by_cases d:ks.any FE=true
  ·rw[if_pos d] at h; omega
  ·refine ⟨by omega,fun k hk=>Classical.byContradiction fun e=>d (List.any_eq_true.2 ⟨k,hk,?_⟩)⟩
   unfold FE
   rw[Bool.not_eq_true',decide_eq_false_iff_not]; omega
structure nQ (n:Nat) (s:ZM):Prop where
 len:s.length=n
 row:∀i,i<n->(b6 s i).length=n
 rg:∀k j,0<=b6 (b6 s k) j/\b6 (b6 s k) j<=1
theorem JJ {n p q:Nat} (hp:p<n) (hq:q<n) (hpq:p≠q):nQ n (Q6 n p q):=⟨by unfold Q6; rw[List.length_set,TL],fun i hi=>eV hp hi,uX hp hq hpq⟩
theorem wQ {r:o6} (v:F2 r) (hi:z7 r=true) (k:Int):(w7 r k).toNat≠(y6 r k).toNat:=by
 have h1:=WY v hi
 have h2:=BX v.p1 (by have:=v.two; omega)
 have h3:=BX v.p2 (by have:=v.two; omega)
 unfold w7 y6
 split<;>omega
theorem sE (ks:List Int):Ct Tryz.prog 56 [b8 (eL eI) ks] (kI (K0 ks)):=by
 refine Ct.mk Tryz.func56 rfl Tryz.ntmps56 rfl (fun w J=>?_); refine Tr.fact (s:=0) rfl (fun _ _ h=>S4 h) (fun hb=>?_); refine B3 ?_; refine jq ?_ ?_
 ·intro h1
  have hr:K0 ks=8:=if_pos zo
  refine j3 ?_; exact g6.res1 (fn:=Tryz.f56) rfl (.i rfl hr.symm<|.nil)
 ·intro h1
  replace h1:=Int.not_lt.1 h1
  have hl60:¬60<ks.length:=by omega
  refine j1 ?_
  refine Tr.for1 (σ:=Nat) [⟨0,true,_,_⟩] [] (fun k=>[⟨3,true,[],kI (k:Int)⟩]) (fun k=>[]) (fun k=>k<=ks.length/\∀i,i<k->FE (b6 ks i)=false) (fun k=>∀i,i<ks.length->FE (b6 ks i)=false) (fun k=>ks.length-k) (0) ⟨by omega,fun i h=>absurd h (Nat.not_lt_zero _)⟩ (d6.mk (.i rfl zi<|zk) (.nil) rfl) ?_ ?_
  ·rintro k ⟨hk,hR⟩
   refine jn ?_; refine m9 ?_; refine jq ?_ ?_
   ·intro h4
    refine u5 ?_; refine jc (qD (b6 ks k) 0 1) ?_; refine i7 ?_; refine Tr.cnd rfl ?_ ?_
    ·intro h6
     have hr:K0 ks=2:=by unfold K0; rw[if_neg hl60,if_pos (List.any_eq_true.2 ⟨b6 ks k,E6 zo,h6⟩)]
     refine v9 ?_; exact g6.res1 (fn:=Tryz.f56) rfl (.i rfl hr.symm<|.nil)
    ·intro h6
     have hok:FE (b6 ks k)=false:=h6
     refine j1 ?_
     exact d9.lp (k+1) ⟨by omega,fun i hi=>by by_cases e:i=k; (rw[e]; exact hok); exact hR i zo⟩ zo (d6.mk (.i rfl zi<|zk) (.nil) rfl)
   ·intro h4
    replace h4:=Int.not_lt.1 h4
    refine g9 ?_
    exact d9.cut (k) (fun i hi=>hR i zo) (d6.mk (.i rfl zi<|zk) (.nil) rfl)
  ·intro k hE
   refine je ?_
   have hr:K0 ks=0:=by unfold K0; rw[if_neg hl60,if_neg]; intro a; obtain ⟨x,hx,e⟩:=List.any_eq_true.1 a; obtain ⟨i,hi,ei⟩:=List.mem_iff_getElem.1 hx; have:=hE i hi; rw[show b6 ks i=ks[i] by simp[b6,hi],ei,e] at this; cases this
   refine j3 ?_; exact g6.res1 (fn:=Tryz.f56) rfl (.i rfl hr.symm<|.nil)

end Go.Fl

/- Contracts: Move and Follow, with errors; the step of the example. -/
namespace Go.Fl
open Go Go.Proofs
open d5 renaming op->tO
open i9 renaming op->rO
set_option maxRecDepth 100000

theorem cC (l:List Int) (hn:l.length<=1000000):Ct Tryz.prog 106 [b8 (eL eI) l] (b8 (eL eI) l):=by
 refine Ct.mk Tryz.func106 rfl Tryz.ntmps106 rfl (fun w J=>?_); refine j3 ?_; refine d5.new (AX eI 3) rfl rfl rfl rfl ?_; refine g8 ?_; refine jl ?_; refine i7 ?_; refine Tr.frz 3 [2] ⟨rfl,trivial⟩ (by simp only[p9]; omega) rfl ?_; refine i5 ?_
 exact g6.res1 (fn:=Tryz.f106) rfl (.r rfl zi<|.nil)

set_option maxHeartbeats 2000000 in
theorem sI (r:o6) (kind:Int) (v:F2 r) (hir:z7 r=true):Ct Tryz.prog 58 [b8 eO r,kI kind] (z6 [b8 eO (L9 r kind),b8 (eL (eL eI)) (Q6 r.1.length (w7 r kind).toNat (y6 r kind).toNat)]):=by
 have hle:=v.le
 have htw:=v.two
 have hbl:=v.len
 have hr1:=BX v.p1 zo
 have hr2:=BX v.p2 zo
 have hne:=WY v hir
 have hla:b6 r.1 ((r.1.length:Int)-1).toNat=o4 r.1:=by unfold o4; rw[show ((r.1.length:Int)-1).toNat=r.1.length-1 by omega]
 have hlb:b6 r.2 ((r.1.length:Int)-1).toNat=o4 r.2:=by unfold o4; rw[show ((r.1.length:Int)-1).toNat=r.2.length-1 by omega]
 refine Ct.mk Tryz.func58 rfl Tryz.ntmps58 rfl (fun w J=>?_); refine g8 ?_; refine jb 2 rfl ?_; refine ja 4 ?_; refine v9 ?_; refine Tr.draw 13 o0 (by kernel_rfl) ?_; refine l3 ?_
 rw[hla]
 refine l3 ?_
 rw[hlb]
 refine j1 ?_; refine d5.inlX (σ:=List Value) [2,4] Tryz.func96 rfl Tryz.ntmps96 rfl (.cons rfl (fun _=>rfl)<|.nil) rfl rfl (fun hs=>[⟨6,[],l5 false 22 Q5 hs r.1.length⟩,⟨1000,[],s9 3 hs (B8 r.1.length) 0⟩,⟨1001,[],s9 3 hs (B8 r.1.length) 1⟩,⟨1002,[],s9 3 hs (B8 r.1.length) 2⟩,⟨1003,[],s9 3 hs (B8 r.1.length) 3⟩,⟨1004,[],s9 3 hs (B8 r.1.length) 4⟩,⟨1005,[],s9 3 hs (B8 r.1.length) 5⟩,⟨1006,[],s9 3 hs (B8 r.1.length) 6⟩,⟨1007,[],s9 3 hs (B8 r.1.length) 7⟩,⟨2,[],j5 [b8 (eL eI) r.1,b8 (eL eI) r.2]⟩,⟨4,[],j5 [j4 (.slice none 0 0),j4 (.slice none 0 0)]⟩]) (fun hs=>o9 6 r.1.length) (fun hs=>hs.length=r.1.length) (fun _=>rfl) (fun _=>inferInstance) (fun _=>rfl) rfl (fun J3 bks3 om3=>?_) ?_
 ·skip
  refine jn ?_; refine j1 ?_; refine d5.new (FX Q5 6 rfl uu rfl uu rfl rfl rfl (fun _=>zo)) rfl rfl rfl rfl ?_; refine m9 ?_; refine Tr.fam 1000 3 (hs:=(List.replicate r.1.length (Value.slice none 0 0))) (rows:=(List.replicate r.1.length [])) ac4 rfl ?_; refine jn ?_
  refine Tr.for1 (σ:=Nat×List Value) [⟨0,true,_,_⟩,⟨3,true,_,_⟩,⟨26,true,_,_⟩,⟨28,true,_,_⟩] [⟨2,_,_⟩,⟨4,_,_⟩] (fun (k,hs)=>[⟨4,true,[],kI (k:Int)⟩]) (fun (k,hs)=>[⟨6,[],l5 false 22 Q5 hs r.1.length⟩,⟨1000,[],s9 3 hs (L4 r.1.length k) 0⟩,⟨1001,[],s9 3 hs (L4 r.1.length k) 1⟩,⟨1002,[],s9 3 hs (L4 r.1.length k) 2⟩,⟨1003,[],s9 3 hs (L4 r.1.length k) 3⟩,⟨1004,[],s9 3 hs (L4 r.1.length k) 4⟩,⟨1005,[],s9 3 hs (L4 r.1.length k) 5⟩,⟨1006,[],s9 3 hs (L4 r.1.length k) 6⟩,⟨1007,[],s9 3 hs (L4 r.1.length k) 7⟩]) (fun (k,hs)=>k<=r.1.length/\hs.length=r.1.length) (fun (k,hs)=>k=r.1.length/\hs.length=r.1.length) (fun (k,hs)=>r.1.length-k) ((0,List.replicate r.1.length (Value.slice none 0 0))) ⟨by omega,by rw[List.length_replicate]⟩ (d6.mk (.i rfl zi<|zk) (.k rfl<|.e (by rw[GI]) rfl<|.e (by rw[GI]) rfl<|.e (by rw[GI]) rfl<|.e (by rw[GI]) rfl<|.e (by rw[GI]) rfl<|.e (by rw[GI]) rfl<|.e (by rw[GI]) rfl<|.e (by rw[GI]) rfl<|zk) rfl) ?_ ?_
  ·rintro ⟨k,hs⟩ ⟨hk,hhl⟩
   refine jn ?_; refine j1 ?_; refine jq ?_ ?_
   ·intro h3
    refine l3 ?_
    have hul:(L4 r.1.length k).length=r.1.length:=p8
    have hrl:(b6 ((L4 r.1.length k).set k (List.replicate r.1.length 0)) k).length=r.1.length:=by rw[KD zo,List.length_replicate]
    refine i7 ?_; refine d5.new (FX eI 15 rfl uu rfl uu rfl rfl rfl (fun _=>zo)) rfl rfl rfl rfl ?_; refine d5.raw 15 15 rfl (fun v=>?_); refine d5.norm (S':=⟨_,_,_,_⟩::⟨_,_,_,_⟩::⟨_,_,_,_⟩::⟨_,_,_,_⟩::⟨_,_,_,_⟩::⟨_,_,_,_⟩::⟨_,_,_,_⟩::⟨_,_,_,_⟩::⟨_,_,_,_⟩::⟨_,_,_,_⟩::⟨_,_,_,_⟩::⟨_,_,_,_⟩::⟨_,_,_,_⟩::[]) (M':=[⟨_,_,_⟩,⟨_,_,_⟩,⟨_,_,_⟩,⟨_,_,_⟩,⟨_,_,_⟩,⟨_,_,_⟩,⟨_,_,_⟩,⟨_,_,_⟩,⟨_,_,_⟩,⟨_,_,_⟩,⟨_,_,_⟩,⟨_,_,_⟩]) rfl rfl ?_; refine g8 ?_
    obtain ⟨q1,q2,q3,q4⟩:=ac3 (hs:=hs) (rows:=L4 r.1.length k) (k:=k) (v:=v) (xs:=List.replicate r.1.length 0) zo zo
    refine d5.ren 15 1000 k (hs.set k v) ((L4 r.1.length k).set k (List.replicate r.1.length 0)) inferInstance zo zo (.inr (ak0 (Nat.le_refl _))) q1 q2 q3 q4 rfl rfl ?_; refine d5.norm (S':=⟨_,_,_,_⟩::⟨_,_,_,_⟩::⟨_,_,_,_⟩::⟨_,_,_,_⟩::⟨_,_,_,_⟩::⟨_,_,_,_⟩::⟨_,_,_,_⟩::⟨_,_,_,_⟩::⟨_,_,_,_⟩::⟨_,_,_,_⟩::⟨_,_,_,_⟩::⟨_,_,_,_⟩::⟨_,_,_,_⟩::⟨_,_,_,_⟩::[]) (M':=[⟨_,_,_⟩,⟨_,_,_⟩,⟨_,_,_⟩,⟨_,_,_⟩,⟨_,_,_⟩,⟨_,_,_⟩,⟨_,_,_⟩,⟨_,_,_⟩,⟨_,_,_⟩,⟨_,_,_⟩,⟨_,_,_⟩]) rfl rfl ?_; refine j3 ?_
    refine d5.asRow 20 1000 rfl inferInstance (by rw[List.length_set]; omega) zo ?_; refine d5.norm (S':=⟨_,_,_,_⟩::⟨_,_,_,_⟩::⟨_,_,_,_⟩::⟨_,_,_,_⟩::⟨_,_,_,_⟩::⟨_,_,_,_⟩::⟨_,_,_,_⟩::⟨_,_,_,_⟩::⟨_,_,_,_⟩::⟨_,_,_,_⟩::⟨_,_,_,_⟩::⟨_,_,_,_⟩::⟨_,_,_,_⟩::⟨_,_,_,_⟩::⟨_,_,_,_⟩::⟨_,_,_,_⟩::⟨_,_,_,_⟩::⟨_,_,_,_⟩::⟨_,_,_,_⟩::[]) (M':=[⟨_,_,_⟩,⟨_,_,_⟩,⟨_,_,_⟩,⟨_,_,_⟩,⟨_,_,_⟩,⟨_,_,_⟩,⟨_,_,_⟩,⟨_,_,_⟩,⟨_,_,_⟩,⟨_,_,_⟩,⟨_,_,_⟩]) rfl rfl ?_; refine i5 ?_
    first | refine tO (YD rfl uu rfl uu (fun _=>zo)) rfl rfl ?_ | refine tO (RY rfl uu rfl uu (fun _=>zo)) rfl rfl ?_
    refine d5.stR (t0:=1000) inferInstance rfl rfl zo ?_; refine d5.norm (S':=⟨_,_,_,_⟩::⟨_,_,_,_⟩::⟨_,_,_,_⟩::⟨_,_,_,_⟩::⟨_,_,_,_⟩::⟨_,_,_,_⟩::⟨_,_,_,_⟩::⟨_,_,_,_⟩::⟨_,_,_,_⟩::⟨_,_,_,_⟩::⟨_,_,_,_⟩::⟨_,_,_,_⟩::⟨_,_,_,_⟩::⟨_,_,_,_⟩::⟨_,_,_,_⟩::⟨_,_,_,_⟩::⟨_,_,_,_⟩::⟨_,_,_,_⟩::⟨_,_,_,_⟩::⟨_,_,_,_⟩::⟨_,_,_,_⟩::[]) (M':=[⟨_,_,_⟩,⟨_,_,_⟩,⟨_,_,_⟩,⟨_,_,_⟩,⟨_,_,_⟩,⟨_,_,_⟩,⟨_,_,_⟩,⟨_,_,_⟩,⟨_,_,_⟩,⟨_,_,_⟩,⟨_,_,_⟩]) rfl rfl ?_; refine j1 ?_
    exact d9.lp ((k+1,hs.set k v)) ⟨by omega,by rw[List.length_set]; exact hhl⟩ (by show r.1.length-(k+1)<r.1.length-k; omega) (d6.mk (.i rfl zi<|zk) (.k rfl<|.e (by rw[<- GH zo]) rfl<|.e (by rw[<- GH zo]) rfl<|.e (by rw[<- GH zo]) rfl<|.e (by rw[<- GH zo]) rfl<|.e (by rw[<- GH zo]) rfl<|.e (by rw[<- GH zo]) rfl<|.e (by rw[<- GH zo]) rfl<|.e (by rw[<- GH zo]) rfl<|zk) rfl)
   ·intro h3
    replace h3:=Int.not_lt.1 h3
    refine g9 ?_
    exact d9.cut ((k,hs)) ⟨by omega,hhl⟩ (d6.mk (.i rfl zi<|zk) (zk) rfl)
  ·rintro ⟨k,hs⟩ ⟨hkn,hhl⟩
   refine je ?_; refine j1 ?_; exact g6.inlX (n:=24) (bks:=bks3) (hs) hhl (t:=2) rfl (d6.mk (zk) (.k rfl<|.e (by rw[hkn,GG]) rfl<|.e (by rw[hkn,GG]) rfl<|.e (by rw[hkn,GG]) rfl<|.e (by rw[hkn,GG]) rfl<|.e (by rw[hkn,GG]) rfl<|.e (by rw[hkn,GG]) rfl<|.e (by rw[hkn,GG]) rfl<|.e (by rw[hkn,GG]) rfl<|zk) rfl) (.cons rfl<|.cons rfl<|.nil) (fun _ _ h=>h)
 intro hs hhl
 refine d5.norm (S':=⟨_,_,_,_⟩::⟨_,_,_,_⟩::⟨_,_,_,_⟩::⟨_,_,_,_⟩::⟨_,_,_,_⟩::⟨_,_,_,_⟩::⟨_,_,_,_⟩::⟨_,_,_,_⟩::⟨_,_,_,_⟩::⟨_,_,_,_⟩::⟨_,_,_,_⟩::⟨_,_,_,_⟩::⟨_,_,_,_⟩::⟨_,_,_,_⟩::⟨_,_,_,_⟩::⟨_,_,_,_⟩::⟨_,_,_,_⟩::⟨_,_,_,_⟩::⟨_,_,_,_⟩::⟨_,_,_,_⟩::⟨_,_,_,_⟩::⟨_,_,_,_⟩::⟨_,_,_,_⟩::⟨_,_,_,_⟩::⟨_,_,_,_⟩::[]) (M':=[⟨_,_,_⟩,⟨_,_,_⟩,⟨_,_,_⟩,⟨_,_,_⟩,⟨_,_,_⟩,⟨_,_,_⟩,⟨_,_,_⟩,⟨_,_,_⟩,⟨_,_,_⟩,⟨_,_,_⟩,⟨_,_,_⟩]) rfl rfl ?_; refine u5 ?_; refine jq ?_ ?_
 ·intro h4
  have hk0:kind=0:=by assumption
  have hw:(o4 r.1).toNat<r.1.length/\(o4 r.2).toNat<r.1.length/\(o4 r.1).toNat≠(o4 r.2).toNat:=⟨by omega,by omega,by omega⟩
  refine l3 ?_; refine d5.asRow 32 1000 rfl inferInstance zo zo ?_; refine d5.norm (S':=⟨_,_,_,_⟩::⟨_,_,_,_⟩::⟨_,_,_,_⟩::⟨_,_,_,_⟩::⟨_,_,_,_⟩::⟨_,_,_,_⟩::⟨_,_,_,_⟩::⟨_,_,_,_⟩::⟨_,_,_,_⟩::⟨_,_,_,_⟩::⟨_,_,_,_⟩::⟨_,_,_,_⟩::⟨_,_,_,_⟩::⟨_,_,_,_⟩::⟨_,_,_,_⟩::⟨_,_,_,_⟩::⟨_,_,_,_⟩::⟨_,_,_,_⟩::⟨_,_,_,_⟩::⟨_,_,_,_⟩::⟨_,_,_,_⟩::⟨_,_,_,_⟩::⟨_,_,_,_⟩::⟨_,_,_,_⟩::⟨_,_,_,_⟩::⟨_,_,_,_⟩::⟨_,_,_,_⟩::⟨_,_,_,_⟩::⟨_,_,_,_⟩::⟨_,_,_,_⟩::⟨_,_,_,_⟩::⟨_,_,_,_⟩::⟨_,_,_,_⟩::[]) (M':=[⟨_,_,_⟩,⟨_,_,_⟩,⟨_,_,_⟩,⟨_,_,_⟩,⟨_,_,_⟩,⟨_,_,_⟩,⟨_,_,_⟩,⟨_,_,_⟩,⟨_,_,_⟩,⟨_,_,_⟩,⟨_,_,_⟩]) rfl rfl ?_
  have hur:=NT (n:=r.1.length) (i:=(o4 r.1).toNat) zo
  refine i5 ?_
  first | refine tO (YD rfl uu rfl uu (fun _=>zo)) rfl rfl ?_ | refine tO (RY rfl uu rfl uu (fun _=>zo)) rfl rfl ?_
  refine d5.stR (t0:=1000) inferInstance rfl rfl zo ?_; refine d5.norm (S':=⟨_,_,_,_⟩::⟨_,_,_,_⟩::⟨_,_,_,_⟩::⟨_,_,_,_⟩::⟨_,_,_,_⟩::⟨_,_,_,_⟩::⟨_,_,_,_⟩::⟨_,_,_,_⟩::⟨_,_,_,_⟩::⟨_,_,_,_⟩::⟨_,_,_,_⟩::⟨_,_,_,_⟩::⟨_,_,_,_⟩::⟨_,_,_,_⟩::⟨_,_,_,_⟩::⟨_,_,_,_⟩::⟨_,_,_,_⟩::⟨_,_,_,_⟩::⟨_,_,_,_⟩::⟨_,_,_,_⟩::⟨_,_,_,_⟩::⟨_,_,_,_⟩::⟨_,_,_,_⟩::⟨_,_,_,_⟩::⟨_,_,_,_⟩::⟨_,_,_,_⟩::⟨_,_,_,_⟩::⟨_,_,_,_⟩::⟨_,_,_,_⟩::⟨_,_,_,_⟩::⟨_,_,_,_⟩::⟨_,_,_,_⟩::⟨_,_,_,_⟩::⟨_,_,_,_⟩::⟨_,_,_,_⟩::[]) (M':=[⟨_,_,_⟩,⟨_,_,_⟩,⟨_,_,_⟩,⟨_,_,_⟩,⟨_,_,_⟩,⟨_,_,_⟩,⟨_,_,_⟩,⟨_,_,_⟩,⟨_,_,_⟩,⟨_,_,_⟩,⟨_,_,_⟩]) rfl rfl ?_
  refine i7 ?_; refine Tr.frzM 9 6 1000 rfl inferInstance zo (by show (Q6 r.1.length (o4 r.1).toNat (o4 r.2).toNat).length=_; rw[(JJ hw.1 hw.2.1 hw.2.2).len]; exact hhl.symm) (fun i=>by show (b6 (Q6 r.1.length (o4 r.1).toNat (o4 r.2).toNat) i).length<=_; by_cases hi:i<r.1.length; (rw[(JJ hw.1 hw.2.1 hw.2.2).row i hi]; simp only[p9]; omega); (rw[v5 (by rw[(JJ hw.1 hw.2.1 hw.2.2).len]; omega)]; exact Nat.zero_le _)) rfl ?_; refine jn ?_; refine Tr.drawS 10 4 o0 (by kernel_rfl) ?_; refine n8.opA (S9 rfl uu) (by kernel_rfl) rfl rfl ?_
  refine n8.opA (E2 rfl uu rfl) (by kernel_rfl) rfl rfl ?_; refine n8.opA (i6 (fun hp=>cC r.1 zo) (.a rfl uu<|.nil)) (by kernel_rfl) rfl rfl ?_; refine n8.opA (S9 rfl uu) (by kernel_rfl) rfl rfl ?_; refine n8.opA (E2 rfl uu rfl) (by kernel_rfl) rfl rfl ?_; refine n8.opA (G7 rfl uu) (by kernel_rfl) rfl rfl ?_; refine n8.opA (G7 rfl uu) (by kernel_rfl) rfl rfl ?_; refine n8.opA (i6 (fun hp=>dN r.2 (o4 r.2) (o4 r.1) zo) (.a rfl uu<|.a rfl uu<|.a rfl uu<|.nil)) (by kernel_rfl) rfl rfl ?_; refine n8.opA (A1 (fun hp=>.cons rfl rfl rfl<|.cons rfl rfl rfl<|.nil)) (by kernel_rfl) rfl rfl ?_
  refine n8.op (G7 rfl uu) rfl rfl ?_; refine n8.z (DL rfl rfl rfl) rfl rfl rfl ?_; refine l6 ?_; exact g6.resC (fn:=Tryz.f58) (ts:=[5]) rfl rfl rfl (t7 rfl (by unfold L9; rw[if_pos hk0,iC v.p2 zo zo hne])) (.r rfl (by unfold w7 y6; rw[if_pos hk0,if_pos hk0]; rfl)<|.nil)
 ·intro h4
  have hk0:¬kind=0:=by assumption
  have hw:(o4 r.2).toNat<r.1.length/\(o4 r.1).toNat<r.1.length/\(o4 r.2).toNat≠(o4 r.1).toNat:=⟨by omega,by omega,by omega⟩
  refine j1 ?_; refine d5.asRow 48 1000 rfl inferInstance zo zo ?_; refine d5.norm (S':=⟨_,_,_,_⟩::⟨_,_,_,_⟩::⟨_,_,_,_⟩::⟨_,_,_,_⟩::⟨_,_,_,_⟩::⟨_,_,_,_⟩::⟨_,_,_,_⟩::⟨_,_,_,_⟩::⟨_,_,_,_⟩::⟨_,_,_,_⟩::⟨_,_,_,_⟩::⟨_,_,_,_⟩::⟨_,_,_,_⟩::⟨_,_,_,_⟩::⟨_,_,_,_⟩::⟨_,_,_,_⟩::⟨_,_,_,_⟩::⟨_,_,_,_⟩::⟨_,_,_,_⟩::⟨_,_,_,_⟩::⟨_,_,_,_⟩::⟨_,_,_,_⟩::⟨_,_,_,_⟩::⟨_,_,_,_⟩::⟨_,_,_,_⟩::⟨_,_,_,_⟩::⟨_,_,_,_⟩::⟨_,_,_,_⟩::⟨_,_,_,_⟩::⟨_,_,_,_⟩::⟨_,_,_,_⟩::⟨_,_,_,_⟩::⟨_,_,_,_⟩::[]) (M':=[⟨_,_,_⟩,⟨_,_,_⟩,⟨_,_,_⟩,⟨_,_,_⟩,⟨_,_,_⟩,⟨_,_,_⟩,⟨_,_,_⟩,⟨_,_,_⟩,⟨_,_,_⟩,⟨_,_,_⟩,⟨_,_,_⟩]) rfl rfl ?_
  have hur:=NT (n:=r.1.length) (i:=(o4 r.2).toNat) zo
  refine i5 ?_
  first | refine tO (YD rfl uu rfl uu (fun _=>zo)) rfl rfl ?_ | refine tO (RY rfl uu rfl uu (fun _=>zo)) rfl rfl ?_
  refine d5.stR (t0:=1000) inferInstance rfl rfl zo ?_; refine d5.norm (S':=⟨_,_,_,_⟩::⟨_,_,_,_⟩::⟨_,_,_,_⟩::⟨_,_,_,_⟩::⟨_,_,_,_⟩::⟨_,_,_,_⟩::⟨_,_,_,_⟩::⟨_,_,_,_⟩::⟨_,_,_,_⟩::⟨_,_,_,_⟩::⟨_,_,_,_⟩::⟨_,_,_,_⟩::⟨_,_,_,_⟩::⟨_,_,_,_⟩::⟨_,_,_,_⟩::⟨_,_,_,_⟩::⟨_,_,_,_⟩::⟨_,_,_,_⟩::⟨_,_,_,_⟩::⟨_,_,_,_⟩::⟨_,_,_,_⟩::⟨_,_,_,_⟩::⟨_,_,_,_⟩::⟨_,_,_,_⟩::⟨_,_,_,_⟩::⟨_,_,_,_⟩::⟨_,_,_,_⟩::⟨_,_,_,_⟩::⟨_,_,_,_⟩::⟨_,_,_,_⟩::⟨_,_,_,_⟩::⟨_,_,_,_⟩::⟨_,_,_,_⟩::⟨_,_,_,_⟩::⟨_,_,_,_⟩::[]) (M':=[⟨_,_,_⟩,⟨_,_,_⟩,⟨_,_,_⟩,⟨_,_,_⟩,⟨_,_,_⟩,⟨_,_,_⟩,⟨_,_,_⟩,⟨_,_,_⟩,⟨_,_,_⟩,⟨_,_,_⟩,⟨_,_,_⟩]) rfl rfl ?_
  refine i7 ?_; refine Tr.frzM 9 6 1000 rfl inferInstance zo (by show (Q6 r.1.length (o4 r.2).toNat (o4 r.1).toNat).length=_; rw[(JJ hw.1 hw.2.1 hw.2.2).len]; exact hhl.symm) (fun i=>by show (b6 (Q6 r.1.length (o4 r.2).toNat (o4 r.1).toNat) i).length<=_; by_cases hi:i<r.1.length; (rw[(JJ hw.1 hw.2.1 hw.2.2).row i hi]; simp only[p9]; omega); (rw[v5 (by rw[(JJ hw.1 hw.2.1 hw.2.2).len]; omega)]; exact Nat.zero_le _)) rfl ?_; refine jn ?_; refine Tr.drawS 10 4 o0 (by kernel_rfl) ?_; refine n8.opA (S9 rfl uu) (by kernel_rfl) rfl rfl ?_
  refine n8.opA (E2 rfl uu rfl) (by kernel_rfl) rfl rfl ?_; refine n8.opA (G7 rfl uu) (by kernel_rfl) rfl rfl ?_; refine n8.opA (G7 rfl uu) (by kernel_rfl) rfl rfl ?_; refine n8.opA (i6 (fun hp=>dN r.1 (o4 r.1) (o4 r.2) zo) (.a rfl uu<|.a rfl uu<|.a rfl uu<|.nil)) (by kernel_rfl) rfl rfl ?_; refine n8.opA (S9 rfl uu) (by kernel_rfl) rfl rfl ?_; refine n8.opA (E2 rfl uu rfl) (by kernel_rfl) rfl rfl ?_; refine n8.opA (i6 (fun hp=>cC r.2 zo) (.a rfl uu<|.nil)) (by kernel_rfl) rfl rfl ?_; refine n8.opA (A1 (fun hp=>.cons rfl rfl rfl<|.cons rfl rfl rfl<|.nil)) (by kernel_rfl) rfl rfl ?_
  refine n8.op (G7 rfl uu) rfl rfl ?_; refine n8.z (DL rfl rfl rfl) rfl rfl rfl ?_; refine g9 ?_; exact g6.resC (fn:=Tryz.f58) (ts:=[5]) rfl rfl rfl (t7 rfl (by unfold L9; rw[if_neg hk0,iC v.p1 zo zo hne.symm])) (.r rfl (by unfold w7 y6; rw[if_neg hk0,if_neg hk0]; rfl)<|.nil)

end Go.Fl

/- Contracts: Follow and Move with errors, the law of paths. -/
namespace Go.Fl
open Go Go.Proofs
open d5 renaming op->tO
open i9 renaming op->rO
set_option maxRecDepth 100000

def S3 (r:o6) (ks:List Int):Int:=if E0 r≠0 then E0 r else K0 ks
def ML (r:o6) (ks:List Int):o6:=if S3 r ks≠0 then ([],[]) else o7 r ks ks.length
def MK (r:o6) (ks:List Int):ZM:=if S3 r ks≠0 then [] else E5 r ks ks.length
theorem bN {ks:List Int}:ks.any (fun x=>decide (x≠0)&&decide (x≠1))=ks.any FE:=by
 congr 1; funext x
 unfold FE
 rw[Bool.eq_iff_iff,Bool.and_eq_true,Bool.not_eq_true',decide_eq_true_iff,decide_eq_true_iff,decide_eq_false_iff_not]; omega
theorem vD {r:o6} {ks:List Int} (h:S3 r ks≠0):ML r ks=([],[])/\MK r ks=[]:=by unfold ML MK; rw[if_pos h,if_pos h]; exact ⟨rfl,rfl⟩
theorem vC {r:o6} {ks:List Int} (h:S3 r ks=0):(F2 r/\z7 r=true)/\(ks.length<=60/\∀k∈ks,k=0\/k=1)/\ML r ks=o7 r ks ks.length/\MK r ks=E5 r ks ks.length:=by
 have hi0:E0 r=0:=Classical.byContradiction fun e=>by unfold S3 at h; rw[if_pos e] at h; exact e h
 have hc0:K0 ks=0:=by unfold S3 at h; rw[if_neg (fun a=>a hi0)] at h; exact h
 refine ⟨WN hi0,UR hc0,?_,?_⟩
 ·unfold ML; rw[if_neg (fun a=>a h)]
 ·unfold MK; rw[if_neg (fun a=>a h)]
theorem rM (r:o6) (ks:List Int) (hne:S3 r ks≠0):Ct Tryz.prog 54 [b8 eO r,b8 (eL eI) ks] (z6 [b8 eO (([],[]):o6),b8 (eL (eL eI)) ([]:ZM),kI (S3 r ks)]):=by
 refine Ct.mk Tryz.func54 rfl Tryz.ntmps54 rfl (fun w J=>?_); refine g8 ?_; refine jb 2 rfl ?_; refine ja 4 ?_; refine j1 ?_; refine jc (VF r) ?_; refine m9 ?_; refine jq ?_ ?_
 ·intro h2
  have hfe:S3 r ks=E0 r:=by unfold S3; rw[if_pos h2]
  refine g8 ?_; refine tO (A1 (fun hp=>.nil)) rfl rfl ?_; refine j1 ?_
  exact g6.resC (fn:=Tryz.f54) (ts:=[5,6]) rfl rfl rfl (t7 rfl (by rfl)) (.n rfl zi<|.i rfl hfe.symm<|.nil)
 ·intro h2
  replace h2:=Classical.not_not.1 h2
  have hfe:S3 r ks=K0 ks:=by unfold S3; rw[if_neg (fun a=>a h2)]
  refine u5 ?_; refine jq ?_ ?_
  ·intro h4
   have hcc:K0 ks=8:=if_pos zo
   refine g8 ?_; refine tO (A1 (fun hp=>.nil)) rfl rfl ?_; refine j3 ?_
   exact g6.resC (fn:=Tryz.f54) (ts:=[5,6]) rfl rfl rfl (t7 rfl (by rfl)) (.n rfl zi<|.i rfl (by rw[hfe,hcc])<|.nil)
  ·intro h4
   replace h4:=Int.not_lt.1 h4
   have hl60:¬60<ks.length:=by omega
   refine l3 ?_; refine tO (i6 (fun hp=>UZ ks (fun _=>True) (fun x=>decide (x≠0)&&decide (x≠1)) (fun _ _=>trivial)) (.a rfl uu<|.cons rfl uu (fun g u h=>JR (cks:=[]) (fun a _=>cN a) g u ⟨[],h,trivial⟩)<|.nil)) rfl rfl ?_; refine g8 ?_; refine Tr.cnd rfl ?_ ?_
   ·intro h6
    have hcc:K0 ks=2:=by unfold K0; rw[if_neg hl60,if_pos (by rw[<- bN]; exact h6)]
    refine g8 ?_; refine tO (A1 (fun hp=>.nil)) rfl rfl ?_; refine j3 ?_
    exact g6.resC (fn:=Tryz.f54) (ts:=[5,6]) rfl rfl rfl (t7 rfl (by rfl)) (.n rfl zi<|.i rfl (by rw[hfe,hcc])<|.nil)
   ·intro h6
    exact absurd (show S3 r ks=0 by rw[hfe]; unfold K0; rw[if_neg hl60,if_neg (by rw[<- bN,h6]; exact fun a=>by cases a)]) hne

theorem rT  : Ct Tryz.prog 45 [] (kB true):=by
 have hw:∀n:Int,-1000<=n/\n<=1000->Ct Tryz.prog 28 [kI n] (b8 j7 (m8 (w6 n))):=fun n hn=>by have h:=JC n zo; rw[QM] at h; exact h
 have hst:Ct Tryz.prog 46 [b8 eX E3] (z6 [b8 eX ((KN,[0,1],[1,0],[m8 (w6 1),m8 (w6 2)]):o8),kI 1,kI 0]):=by have h:=tJ E3 aj8; rw[mS.1,mS.2,ZW] at h; exact h
 refine Ct.mk Tryz.func45 rfl Tryz.ntmps45 rfl (fun w J=>?_); refine j3 ?_; refine jc tK ?_; refine jc hst ?_; refine g9 ?_; refine ja 1 ?_; refine l3 ?_; refine Tr.draw 24 o0 (by kernel_rfl) ?_; refine m9 ?_; refine i9.gd rfl rfl rfl (N0 eI (fun hp=>.cons rfl<|.cons rfl<|.nil) rfl rfl rfl rfl) rfl rfl ?_; refine i9.gd rfl rfl rfl (i6 (fun hp=>IZ [0,1] [0,1]) (.a rfl id<|.a rfl id<|.nil)) rfl rfl ?_; refine g9 ?_; refine i9.gd rfl rfl rfl (N0 eI (fun hp=>.cons rfl<|.cons rfl<|.nil) rfl rfl rfl rfl) rfl rfl ?_; refine i9.gd rfl rfl rfl (i6 (fun hp=>IZ [1,0] [1,0]) (.a rfl id<|.a rfl id<|.nil)) rfl rfl ?_
 refine g9 ?_; refine i9.gd rfl rfl rfl (i6 (fun hp=>JC _ zo) (.a rfl uu<|.nil)) rfl rfl ?_; refine i9.gd rfl rfl rfl (i6 (fun hp=>JC _ zo) (.a rfl uu<|.nil)) rfl rfl ?_; refine i9.gd rfl rfl rfl (N0 j7 (fun hp=>.consG rfl (id hp)<|.consG rfl (id hp)<|.nil) rfl rfl rfl rfl) rfl rfl ?_; refine i5 ?_; refine d5.gd rfl rfl rfl (i6 (fun hp=>UY ((KN,[0,1],[1,0],[m8 (w6 1),m8 (w6 2)]):o8).2.2.2 [m8 (w6 1),m8 (w6 2)]) (.a rfl id<|.a rfl id<|.nil)) rfl rfl ?_; refine l6 ?_; exact g6.res1 (fn:=Tryz.f45) rfl (.b rfl (by simp)<|.nil)

theorem rL (r:o6) (ks:List Int):Ct Tryz.prog 54 [b8 eO r,b8 (eL eI) ks] (z6 [b8 eO (ML r ks),b8 (eL (eL eI)) (MK r ks),kI (S3 r ks)]):=by
 by_cases h:S3 r ks=0
 ·obtain ⟨hv,hk,e1,e2⟩:=vC h
  rw[e1,e2,h]
  exact cO r ks hv.1 hv.2 hk.1 hk.2
 ·obtain ⟨e1,e2⟩:=vD h
  rw[e1,e2]
  exact rM r ks h
end Go.Fl

/- Contracts: steps of exchanges of the reference. -/
namespace Go.Fl
open Go Go.Proofs
open d5 renaming op->tO
open i9 renaming op->rO
set_option maxRecDepth 100000

end Go.Fl

/- Contracts: paths of exchanges of the reference. -/
namespace Go.Fl
open Go Go.Proofs
open d5 renaming op->tO
open i9 renaming op->rO
set_option maxRecDepth 100000

theorem ai9 {x:o8} {n:Nat} (h:∀i,i<n->AB x i≠0):Y5 x n=false:=by
 cases e:Y5 x n with
 | false=>rfl
 | true=>obtain ⟨i,h1,h2⟩:=ZP e; exact absurd h2 (h i h1)
theorem yK {ls:List l7} {k:Nat} (h:∀a,a<ls.length->y3 k (m8 (b6 ls a))) (a:Nat):y3 k (b6 (ls.map m8) a):=by
 by_cases c:a<ls.length
 ·rw[EI c]; exact h a c
 ·rw[v5 (by rw[List.length_map]; omega)]; exact YC
end Go.Fl

/- Contracts: the law of steps. -/
namespace Go.Fl
open Go Go.Proofs
open d5 renaming op->tO
open i9 renaming op->rO
set_option maxRecDepth 100000

theorem ab0 {x:o8} (h:G3 x=0) (hsm:R6 x):L5 x/\z7 (oX x)=true:=by
 unfold G3 at h
 by_cases c:C1 x=0
 ·rw[if_neg (fun a=>a c)] at h
  exact ⟨UQ c hsm,(WN h).2⟩
 ·rw[if_pos c] at h; exact absurd h c
theorem jI {x:o8} {n:Int} (h:G8 x n=0):Z9 x n=NE x n.toNat/\U2 x n=j8 n.toNat (P2 x)/\EO x n=E5 (oX x) (j8 n.toNat (P2 x)) n.toNat:=by
 unfold Z9 U2 EO; rw[if_neg (fun a=>a h),if_neg (fun a=>a h),if_neg (fun a=>a h)]; exact ⟨rfl,rfl,rfl⟩
theorem zI {x:o8} {n:Int} (h:G3 x=0) (hn:0<=n/\n<=60):G8 x n=if Y5 x n.toNat=true then 14 else 0:=by unfold G8; rw[if_neg (fun a=>a h),if_pos hn]
theorem sS (x:o8) (hsm:R6 x):Ct Tryz.prog 48 [b8 eX x] (kI (G3 x)):=by
 refine Ct.mk Tryz.func48 rfl Tryz.ntmps48 rfl (fun w J=>?_); refine g8 ?_; refine jb 1 rfl ?_; refine l6 ?_; refine Tr.frzB 1 [1] eX (x:=x) ⟨rfl,trivial⟩ rfl ?_; refine jn ?_; refine g8 ?_; refine jc (tB x hsm) ?_; refine m9 ?_; refine jq ?_ ?_
 ·intro h2
  have hr:G3 x=C1 x:=by unfold G3; rw[if_pos h2]
  refine j1 ?_; exact g6.res1 (fn:=Tryz.f48) rfl (.i rfl hr.symm<|.nil)
 ·intro h2
  replace h2:=Classical.not_not.1 h2
  have hr:G3 x=E0 (oX x):=by unfold G3; rw[if_neg (fun a=>a h2)]
  refine l6 ?_; refine jc (PI x) ?_; refine jc (sD (oX x)) ?_; refine g9 ?_; exact g6.res1 (fn:=Tryz.f48) rfl (.i rfl hr.symm<|.nil)

end Go.Fl

/- Cones of paths; contracts: searches among numbers. -/
namespace Go.Fl
open Go Go.Proofs
open d5 renaming op->tO
open i9 renaming op->rO
set_option maxRecDepth 100000

def CX (r:o6) (ls:List l7) (ks:List Int):Nat->List l7
 | 0=>ls
 | i+1=>T2 (o7 r ks i) (CX r ls ks i) (b6 ks i)
theorem CW {p:List Int} {D:Int} {M n:Nat} {r:o6} {ls l0:List l7} {ks:List Int} (h:R7 p D M n 0 r ls) (h0:F8 p D M n l0) (hi:z7 r=true):∀i,R7 p D M n i (o7 r ks i) (CX r ls ks i)/\z7 (o7 r ks i)=true
 | 0=>⟨h,hi⟩
 | i+1=>by
  obtain ⟨h1,h2⟩:=CW h h0 hi (ks:=ks) i
  exact ⟨h1.step h0 h2 _,(RD h1.rows h2 _).2⟩
def posL (sg:l7->Int) (n:Nat) (ls:List l7):Prop:=∀a,a<n->0<sg (b6 ls a)
instance {sg:l7->Int} {n:Nat} {ls:List l7}:Decidable (posL sg n ls):=inferInstanceAs (Decidable (∀a,a<n->0<sg (b6 ls a)))
theorem lU {p:List Int} {u:l7} (hu:v7 p u):B0 u (w6 0)=u:=by
 have n0:S5 (w6 0)=w6 0:=rfl
 unfold B0; rw[n0]; exact aO hu
section
variable {p:List Int} {sg:l7->Int} {D:Int} {M n e:Nat} {r:o6} {ls:List l7}
theorem KX {k:Int} {a:Nat} (h:R7 p D M n e r ls):b6 (T2 r ls k) a=if a=(w7 r k).toNat then B0 (b6 ls (w7 r k).toNat) (b6 ls (y6 r k).toNat) else b6 ls a:=by
 have h1:=(DG h.rows k).2
 have h2:=h.nn; have h3:=h.len
 unfold T2
 rw[YB zo]
theorem zS {k:Int} (hs:O5 p sg) (h:R7 p D M n e r ls) (hi:z7 r=true) (hp:posL sg n (T2 r ls k)):posL sg n ls:=by
 obtain ⟨h1,h2⟩:=DG h.rows k
 have h3:=wQ h.rows hi k
 have hn:=h.nn
 intro a ha
 by_cases e:a=(w7 r k).toNat
 ·have hw:=hp a ha
  have hl:=hp (y6 r k).toNat zo
  rw[KX h,if_pos e] at hw
  rw[KX h,if_neg zo] at hl
  have r1:=h.red (w7 r k).toNat zo
  have r2:=h.red (y6 r k).toNat zo
  have r0:=QP hs.pol 0
  have:=hs.lt_of (u:=w6 0) (v:=b6 ls (y6 r k).toNat) (w:=b6 ls (w7 r k).toNat) r0 r2 r1 (by rw[lU r2]; omega) hw
  rw[lU r1] at this
  rw[e]; exact this
 ·have:=hp a ha
  rwa [KX h,if_neg e] at this
theorem zU {k:Int} (hs:O5 p sg) (ht:∀v,sg v=1\/sg v=-1\/sg v=0) (h:R7 p D M n e r ls) (hk:k=0\/k=1) (hp:posL sg n (T2 r ls k)):T9 sg r ls=k/\H4 sg r ls≠0:=by
 obtain ⟨h1,h2⟩:=DG h.rows k
 have hn:=h.nn
 have hw:=hp (w7 r k).toNat zo
 rw[KX h,if_pos rfl] at hw
 rcases hk with rfl | rfl
 ·have e:H4 sg r ls=1:=by
   have hw:0<H4 sg r ls:=hw
   rcases ht (B0 (b6 ls (o4 r.1).toNat) (b6 ls (o4 r.2).toNat)) with q | q | q
   ·exact q
   ·have q:H4 sg r ls=-1:=q
    omega
   ·have q:H4 sg r ls=0:=q
    omega
  exact ⟨if_pos e,by omega⟩
 ·have r1:=h.red (w7 r 1).toNat zo
  have r2:=h.red (y6 r 1).toNat zo
  have e:=hs.swap r1 r2
  have e:sg (B0 (b6 ls (o4 r.1).toNat) (b6 ls (o4 r.2).toNat))=-sg (B0 (b6 ls (w7 r 1).toNat) (b6 ls (y6 r 1).toNat)):=e
  have e2:H4 sg r ls<0:=by
   show sg (B0 (b6 ls (o4 r.1).toNat) (b6 ls (o4 r.2).toNat))<0
   omega
  exact ⟨if_neg zo,by omega⟩
theorem zT (hs:O5 p sg) (ht:∀v,sg v=1\/sg v=-1\/sg v=0) (h:R7 p D M n e r ls) (hz:H4 sg r ls≠0) (hp:posL sg n ls):posL sg n (T2 r ls (T9 sg r ls)):=by
 intro a ha
 rw[KX h]
 split
 ·have htr:H4 sg r ls=1\/H4 sg r ls=-1\/H4 sg r ls=0:=ht _
  by_cases c:H4 sg r ls=1
  ·have e:T9 sg r ls=0:=if_pos c
   rw[e]
   show 0<H4 sg r ls
   omega
  ·have e:T9 sg r ls=1:=if_neg c
   have h2:=(DG h.rows 1)
   have hn:=h.nn
   have r1:=h.red (w7 r 1).toNat zo
   have r2:=h.red (y6 r 1).toNat zo
   have q:=hs.swap r2 r1
   rw[e]
   have q2:sg (B0 (b6 ls (y6 r 1).toNat) (b6 ls (w7 r 1).toNat))=H4 sg r ls:=rfl
   omega
 ·exact hp a ha
end
section
variable {p:List Int} {sg:l7->Int} {D:Int} {M n:Nat} {r:o6} {ls l0:List l7} {ks:List Int} (hs:O5 p sg) (ht:∀v,sg v=1\/sg v=-1\/sg v=0) (h:R7 p D M n 0 r ls) (h0:F8 p D M n l0) (hi:z7 r=true)
include hs h h0 hi
theorem bZ {m:Nat} (hp:posL sg n (CX r ls ks m)):∀j,j<=m->posL sg n (CX r ls ks (m-j))
 | 0,_=>hp
 | j+1,hj=>by
  have ih:=bZ hp j zo
  obtain ⟨h1,h2⟩:=CW h h0 hi (ks:=ks) (m-(j+1))
  rw[show m-j=m-(j+1)+1 by omega] at ih
  exact zS hs h1 h2 ih
include ht
theorem cA (hk:∀k∈ks,k=0\/k=1) (hp:posL sg n (CX r ls ks ks.length)):∀i,i<=ks.length->K9 sg r ls i=(o7 r ks i,CX r ls ks i)/\∀j,j<i->X9 sg r ls j=b6 ks j/\HP sg r ls j≠0
 | 0,_=>⟨rfl,fun j hj=>absurd hj (Nat.not_lt_zero _)⟩
 | i+1,hm=>by
  obtain ⟨e1,e2⟩:=cA hk hp i zo
  have hq:=bZ hs h h0 hi hp (ks.length-(i+1)) zo
  rw[show ks.length-(ks.length-(i+1))=i+1 by omega] at hq
  obtain ⟨h1,h2⟩:=CW h h0 hi (ks:=ks) i
  have hki:b6 ks i=0\/b6 ks i=1:=hk _ (E6 zo)
  obtain ⟨q1,q2⟩:=zU hs ht h1 hki hq
  have d1:X9 sg r ls i=b6 ks i:=by unfold X9; rw[e1]; exact q1
  have d2:HP sg r ls i≠0:=by unfold HP; rw[e1]; exact q2
  refine ⟨?_,fun j hj=>?_⟩
  ·show (L9 (K9 sg r ls i).1 (X9 sg r ls i),T2 (K9 sg r ls i).1 (K9 sg r ls i).2 (X9 sg r ls i))=_
   rw[d1,e1]; rfl
  ·by_cases c:j=i
   ·rw[c]; exact ⟨d1,d2⟩
   ·exact e2 j zo
theorem jK {m:Nat} (hp:posL sg n ls) (hd:∀j,j<m->X9 sg r ls j=b6 ks j/\HP sg r ls j≠0):∀i,i<=m->K9 sg r ls i=(o7 r ks i,CX r ls ks i)/\posL sg n (CX r ls ks i)
 | 0,_=>⟨rfl,hp⟩
 | i+1,hm=>by
  obtain ⟨e1,e2⟩:=jK hp hd i zo
  obtain ⟨d1,d2⟩:=hd i zo
  obtain ⟨h1,h2⟩:=CW h h0 hi (ks:=ks) i
  refine ⟨?_,?_⟩
  ·show (L9 (K9 sg r ls i).1 (X9 sg r ls i),T2 (K9 sg r ls i).1 (K9 sg r ls i).2 (X9 sg r ls i))=_
   rw[d1,e1]; rfl
  ·have q:=zT hs ht h1 (by have:=d2; unfold HP at this; rw[e1] at this; exact this) e2
   have:T9 sg (o7 r ks i) (CX r ls ks i)=b6 ks i:=by have:=d1; unfold X9 at this; rw[e1] at this; exact this
   rw[this] at q
   exact q
end
def DE (f:s5->Bool):List s5->Int
 | []=>-1
 | x::l=>if f x=true then 0 else if DE f l<0 then -1 else DE f l+1
theorem gH {f:s5->Bool}:∀{l:List s5},(∀i,i<l.length->f (b6 l i)=false)->DE f l=-1
 | [],_=>rfl
 | x::l,h=>by
  have h0:=h 0 (by simp)
  have e:b6 (x::l) 0=x:=rfl
  rw[e] at h0
  rw[DE,if_neg (by rw[h0]; simp),gH fun i hi=>h (i+1) (by simpa using hi)]
  rfl
theorem gG {f:s5->Bool}:∀{l:List s5} {k:Nat},k<l.length->(∀i,i<k->f (b6 l i)=false)->f (b6 l k)=true->DE f l=k
 | [],k,hk,_,_=>by simp at hk
 | x::l,0,_,_,h=>by
  have e:b6 (x::l) 0=x:=rfl
  rw[e] at h
  rw[DE,if_pos h]; rfl
 | x::l,k+1,hk,hn,h=>by
  have h0:=hn 0 zo
  have e:b6 (x::l) 0=x:=rfl
  rw[e] at h0
  have ih:=gG (l:=l) (k:=k) (by simpa using hk) (fun i hi=>hn (i+1) zo) h
  rw[DE,if_neg (by rw[h0]; simp),ih,if_neg zo]
  rfl
theorem gF {f:s5->Bool}:∀{l:List s5},decide (0<=DE f l)=l.any f
 | []=>rfl
 | x::l=>by
  have ih:=gF (f:=f) (l:=l)
  rw[List.any_cons,DE]
  by_cases h:f x=true
  ·rw[if_pos h,h]; rfl
  ·rw[if_neg h,Bool.eq_false_iff.2 h,Bool.false_or,<- ih]
   split
   ·rw[decide_eq_decide]; omega
   ·rw[decide_eq_decide]; omega
theorem rS (l:List s5) (φ:s5->Prop) (f:s5->Bool) (hl:∀x∈l,φ x):Ct Tryz.prog 156 [b8 (eL j7) l,FQ Tryz.prog φ (fun x:s5=>[b8 j7 x]) (fun x:s5=>kB (f x))] (kI (DE f l)):=by
 refine Ct.mk Tryz.func156 rfl Tryz.ntmps156 rfl (fun w J=>?_); refine Tr.fact (s:=0) rfl (fun _ _ h=>S4 h) (fun hb=>?_); refine B3 ?_
 refine Tr.for1 (σ:=Nat) [⟨0,true,_,_⟩,⟨1,true,_,_⟩,⟨7,true,_,_⟩] [] (fun k=>[⟨8,true,[],kI (k:Int)⟩]) (fun k=>[]) (fun k=>k<=l.length/\∀i,i<k->f (b6 l i)=false) (fun k=>∀i,i<l.length->f (b6 l i)=false) (fun k=>l.length-k) (0) ⟨by omega,fun i h=>absurd h zo⟩ (d6.mk (.i rfl zi<|zk) (.nil) rfl) ?_ ?_
 ·rintro k ⟨hk,hR⟩
  refine jn ?_; refine l3 ?_; refine jq ?_ ?_
  ·intro h2
   refine P1 ?_; refine tO (RS (b6 l k) rfl uu (fun _=>hl _ (E6 zo)) (.a rfl uu<|.nil)) rfl rfl ?_; refine g8 ?_; refine Tr.cnd rfl ?_ ?_
   ·intro h4
    refine B3 ?_; exact g6.res1 (fn:=Tryz.f156) rfl (.i rfl (gG zo hR h4).symm<|.nil)
   ·intro h4
    refine j3 ?_
    exact d9.lp (k+1) ⟨by omega,fun i hi=>by (rcases Nat.lt_succ_iff_lt_or_eq.1 hi with h | h; exact hR i h; subst h; exact h4)⟩ zo (d6.mk (.i rfl zi<|zk) (.nil) rfl)
  ·intro h2
   replace h2:=Int.not_lt.1 h2
   refine g9 ?_
   exact d9.cut (k) (fun i hi=>hR i zo) (d6.mk (.i rfl zi<|zk) (.nil) rfl)
 ·intro k hE
  refine je ?_; refine j3 ?_; exact g6.res1 (fn:=Tryz.f156) rfl (.i rfl (gH hE).symm<|.nil)

theorem qS (l:List s5) (φ:s5->Prop) (f:s5->Bool) (hl:∀x∈l,φ x):Ct Tryz.prog 110 [b8 (eL j7) l,FQ Tryz.prog φ (fun x:s5=>[b8 j7 x]) (fun x:s5=>kB (f x))] (kB (l.any f)):=by
 refine Ct.mk Tryz.func110 rfl Tryz.ntmps110 rfl (fun w J=>?_); refine m9 ?_; refine tO (i6 (fun hp=>rS _ _ _ (by assumption)) (.a rfl uu<|.a rfl uu<|.nil)) rfl rfl ?_; refine l6 ?_; exact g6.res1 (fn:=Tryz.f110) rfl (.b rfl gF<|.nil)

end Go.Fl

/- Contracts: cones of paths (the program). -/
namespace Go.Fl
open Go Go.Proofs
open d5 renaming op->tO
open i9 renaming op->rO
set_option maxRecDepth 100000

noncomputable abbrev D2 (x:o8) (ks:List Int) (i:Nat):List l7:=CX (oX x) (F3 x) ks i
theorem hH {l:List s5} {q:s5} (h:q∈l):∃i,i<l.length/\b6 l i=q:=by
 obtain ⟨i,hi,e⟩:=List.mem_iff_getElem.1 h
 exact ⟨i,hi,by simp[b6,hi,e]⟩
noncomputable def O7 (x:o8) (ks:List Int):Int:=if G3 x≠0 then G3 x else if K0 ks≠0 then K0 ks else if posL (w3 x) x.2.1.length (D2 x ks ks.length) then 0 else 11
noncomputable def N3 (x:o8) (ks:List Int):List s5:=if O7 x ks≠0 then [] else (D2 x ks ks.length).map m8
theorem oJ {x:o8} {n:Nat} {ls:List l7} (hl:ls.length=n) (hr:∀a,a<n->v7 x.1.1 (b6 ls a)):((ls.map m8).any fun q=>decide (w3 x (j9 x.1.1 q)<=0))=!decide (posL (w3 x) n ls):=by
 rw[Bool.eq_iff_iff,List.any_eq_true,Bool.not_eq_true',decide_eq_false_iff_not]
 constructor
 ·rintro ⟨q,hq,e⟩ hp
  obtain ⟨a,ha,rfl⟩:=hH hq
  have ha:a<n:=by rw[List.length_map] at ha; omega
  rw[EI zo,W7 (hr a ha),decide_eq_true_eq] at e
  have:=hp a ha
  omega
 ·intro hp
  obtain ⟨a,ha⟩:=Classical.not_forall.1 hp
  obtain ⟨ha,hn⟩:=Classical.not_imp.1 ha
  refine ⟨b6 (ls.map m8) a,E6 (by rw[List.length_map]; omega),?_⟩
  rw[EI zo,W7 (hr a ha),decide_eq_true_eq]
  omega
theorem qO (l:s5) (x:o8) (h0:z5 x.1=0) (hl:y3 250 l):Ct Tryz.prog 111 [b8 j7 l,r7 (Z0 L8) (EG x)] (kB (decide (w3 x (j9 x.1.1 l)<=0))):=by
 refine Ct.mk Tryz.func111 rfl Tryz.ntmps111 rfl (fun w J=>?_); refine g8 ?_; refine jb 2 rfl ?_; refine g9 ?_; refine Tr.frzB 2 [2] j7 (x:=l) ⟨rfl,trivial⟩ rfl ?_; refine jn ?_; refine Tr.draw 5 o0 (by kernel_rfl) ?_; refine i5 ?_; refine rO (CB rfl uu) rfl rfl ?_; refine g9 ?_; refine jc (dP x.1 l h0 hl) ?_; refine l6 ?_
 exact g6.res1 (fn:=Tryz.f111) rfl (.b rfl zi<|.nil)

theorem qQ (x:o8) (ks:List Int) (hsm:R6 x) (hne:C1 x≠0):Ct Tryz.prog 62 [b8 eX x,b8 (eL eI) ks] (z6 [b8 (eL j7) [],kI (C1 x)]):=by
 refine Ct.mk Tryz.func62 rfl Tryz.ntmps62 rfl (fun w J=>?_); refine g8 ?_; refine jb 2 rfl ?_; refine j3 ?_; refine jc (dJ x hsm hne) ?_; refine i7 ?_; refine ja 6 ?_; refine y8 ?_; refine Tr.cnd rfl ?_ ?_
 ·intro h2
  refine m9 ?_
  exact g6.res (fn:=Tryz.f62) (ts:=[4,5]) rfl rfl (.n rfl (by rfl)<|.i rfl zi<|.nil)
 ·intro h2
  exact absurd (of_decide_eq_false h2) (fun e=>e hne)

set_option maxHeartbeats 2000000 in
theorem qR (x:o8) (D:Int) (M:Nat) (ks:List Int) (hx:L5 x) (hlo:F8 x.1.1 D M x.2.1.length (F3 x)) (hz:C1 x=0) (hkl:ks.length<=12\/60<ks.length):Ct Tryz.prog 62 [b8 eX x,b8 (eL eI) ks] (z6 [b8 (eL j7) (N3 x ks),kI (O7 x ks)]):=by
 have h0:=hx.fld
 have hpo:=R1 h0
 have hs:=(Y8 h0).1.2.1
 have v:=hx.rows
 have hp1:A6 x.2.1 x.2.1.length:=v.p1
 have hp2:A6 x.2.2.1 x.2.1.length:=v.p2
 have hle:x.2.1.length<=8:=v.le
 have htwo:2<=x.2.1.length:=v.two
 have hbl:x.2.2.1.length=x.2.1.length:=v.len
 have hxl:=hx.len
 have hll:=hlo.len
 have hic_:=gA (r:=oX x) (OX hx.rows)
 have hrd:G3 x=E0 (oX x):=by unfold G3; rw[if_neg (fun a=>a hz)]
 refine Ct.mk Tryz.func62 rfl Tryz.ntmps62 rfl (fun w J=>?_); refine g8 ?_; refine jb 2 rfl ?_; refine l6 ?_; refine Tr.frzB 2 [2] eX (x:=x) ⟨rfl,trivial⟩ rfl ?_; refine jn ?_; refine g8 ?_; refine jc (LZ x D M hx hlo) ?_; refine i7 ?_; refine ja 6 ?_; refine y8 ?_; refine Tr.cnd rfl ?_ ?_
 ·intro h2
  have hir:E0 (oX x)≠0:=by simpa using h2
  have he:O7 x ks=E0 (oX x):=by unfold O7; rw[hrd,if_pos hir]
  have hl0:N3 x ks=[]:=by unfold N3; rw[he,if_pos hir]
  refine m9 ?_; exact g6.res (fn:=Tryz.f62) (ts:=[4,5]) rfl rfl (.n rfl hl0.symm<|.i rfl he.symm<|.nil)
 ·intro h2
  have hir:E0 (oX x)=0:=by simpa using h2
  have hirr:z7 (oX x)=true:=(WN hir).2
  have hfe:S3 (oX x) ks=K0 ks:=by unfold S3; rw[if_neg (fun a=>a hir)]
  refine l3 ?_; refine tO (CB rfl uu) rfl rfl ?_; refine i7 ?_; refine jc (rL (oX x) ks) ?_; refine g9 ?_; refine ja 8 ?_; refine y8 ?_; refine Tr.cnd rfl ?_ ?_
  ·intro h5
   have hc:K0 ks≠0:=by rw[<- hfe]; simpa using h5
   have he:O7 x ks=K0 ks:=by unfold O7; rw[hrd,if_neg (fun a=>a hir),if_pos hc]
   have hl0:N3 x ks=[]:=by unfold N3; rw[he,if_pos hc]
   refine m9 ?_; exact g6.res (fn:=Tryz.f62) (ts:=[4,5]) rfl rfl (.n rfl hl0.symm<|.i rfl (by rw[hfe,he])<|.nil)
  ·intro h5
   have hc:K0 ks=0:=by rw[<- hfe]; simpa using h5
   have hkk:=UR hc
   refine g8 ?_; refine Tr.meet2 (σ:=Unit) [⟨1,true,_,_⟩,⟨6,true,_,_⟩] [] (zk) (.nil) (fun _=>[⟨11,true,[11],y5 11 0⟩,⟨12,true,[],b8 (eL j7) ((F3 x).map m8)⟩]) (fun _=>[⟨11,[],j5 [b8 (eL eI) (oX x).1,b8 (eL eI) (oX x).2]⟩,⟨6,[],j5 [r7 L8 (EG x)]⟩]) (fun _=>True) ?_ ?_
   ·skip
    refine Tr.drawA o0 #[false,false,false,false,false,false,false,false,false,false,false] rfl ?_; refine b7.all [0,4,8] (by kernel_rfl) (by simp) (fun i hi=>?_)
    simp only[List.mem_cons,List.not_mem_nil,or_false] at hi
    rcases hi with rfl | rfl | rfl
    ·refine ⟨_,rfl,?_⟩
     refine tO (E2 rfl uu rfl) rfl rfl ?_; refine b7.k #[true,false,false,false,false,false,false,false,false,false,false] rfl (fun _ _ _ _=>trivial) ?_; refine b7.take 1 #[true,true,false,false,false,false,false,false,false,false,false] (by kernel_rfl) (by kernel_rfl) (by kernel_rfl) rfl rfl (J7 rfl) rfl rfl ?_; refine b7.take 2 #[true,true,true,false,false,false,false,false,false,false,false] (by kernel_rfl) (by kernel_rfl) (by kernel_rfl) rfl rfl (J6 rfl rfl) rfl rfl ?_; refine b7.all [3,4,8] (by kernel_rfl) (by simp) (fun i hi=>?_)
     simp only[List.mem_cons,List.not_mem_nil,or_false] at hi
     rcases hi with rfl | rfl | rfl
     ·refine ⟨_,rfl,?_⟩
      refine tO (C2 rfl uu rfl rfl) rfl rfl ?_; refine b7.k #[true,true,true,true,false,false,false,false,false,false,false] rfl (fun _ _ _ _=>trivial) ?_; refine b7.all [4,8] (by kernel_rfl) (by simp) (fun i hi=>?_)
      simp only[List.mem_cons,List.not_mem_nil,or_false] at hi
      rcases hi with rfl | rfl
      ·refine ⟨_,rfl,?_⟩
       refine tO (E2 rfl uu rfl) rfl rfl ?_; refine b7.k #[true,true,true,true,true,false,false,false,false,false,false] rfl (fun _ _ _ _=>trivial) ?_; refine b7.take 5 #[true,true,true,true,true,true,false,false,false,false,false] (by kernel_rfl) (by kernel_rfl) (by kernel_rfl) rfl rfl (J7 rfl) rfl rfl ?_; refine b7.take 6 #[true,true,true,true,true,true,true,false,false,false,false] (by kernel_rfl) (by kernel_rfl) (by kernel_rfl) rfl rfl (J6 rfl rfl) rfl rfl ?_; refine b7.all [7,8] (by kernel_rfl) (by simp) (fun i hi=>?_)
       simp only[List.mem_cons,List.not_mem_nil,or_false] at hi
       rcases hi with rfl | rfl
       ·refine ⟨_,rfl,?_⟩
        refine tO (v8 rfl uu rfl) rfl rfl ?_; refine b7.k #[true,true,true,true,true,true,true,true,false,false,false] rfl (fun _ _ _ _=>trivial) ?_; refine b7.one 8 (by kernel_rfl) rfl ?_; refine ja 11 ?_; refine b7.k #[true,true,true,true,true,true,true,true,true,false,false] rfl (fun _ _ _ _=>trivial) ?_; refine b7.one 9 (by kernel_rfl) rfl ?_; refine d5.stB rfl rfl rfl rfl ?_; refine b7.k #[true,true,true,true,true,true,true,true,true,true,false] rfl (fun _ _ _ _=>trivial) ?_; refine b7.one 10 (by kernel_rfl) rfl ?_; refine mw rfl rfl rfl ?_
        refine b7.k #[true,true,true,true,true,true,true,true,true,true,true] rfl (fun _ _ _ _=>trivial) ?_; refine b7.done (by kernel_rfl) ?_
        exact d9.cut (()) zi (d6.mk (.k rfl rfl<|.r rfl (by rfl)<|zk) (zk) rfl)
       ·refine ⟨_,rfl,?_⟩
        refine ja 11 ?_; refine b7.k #[true,true,true,true,true,true,true,false,true,false,false] rfl (fun _ _ _ _=>trivial) ?_; refine b7.all [7,9] (by kernel_rfl) (by simp) (fun i hi=>?_)
        simp only[List.mem_cons,List.not_mem_nil,or_false] at hi
        rcases hi with rfl | rfl
        ·refine ⟨_,rfl,?_⟩
         refine tO (v8 rfl uu rfl) rfl rfl ?_; refine b7.k #[true,true,true,true,true,true,true,true,true,false,false] rfl (fun _ _ _ _=>trivial) ?_; refine b7.one 9 (by kernel_rfl) rfl ?_; refine d5.stB rfl rfl rfl rfl ?_; refine b7.k #[true,true,true,true,true,true,true,true,true,true,false] rfl (fun _ _ _ _=>trivial) ?_; refine b7.one 10 (by kernel_rfl) rfl ?_; refine mw rfl rfl rfl ?_; refine b7.k #[true,true,true,true,true,true,true,true,true,true,true] rfl (fun _ _ _ _=>trivial) ?_; refine b7.done (by kernel_rfl) ?_
         exact d9.cut (()) zi (d6.mk (.k rfl rfl<|.r rfl (by rfl)<|zk) (zk) rfl)
        ·refine ⟨_,rfl,?_⟩
         refine d5.stB rfl rfl rfl rfl ?_; refine b7.k #[true,true,true,true,true,true,true,false,true,true,false] rfl (fun _ _ _ _=>trivial) ?_; refine b7.one 7 (by kernel_rfl) rfl ?_; refine tO (v8 rfl uu rfl) rfl rfl ?_; refine b7.k #[true,true,true,true,true,true,true,true,true,true,false] rfl (fun _ _ _ _=>trivial) ?_; refine b7.one 10 (by kernel_rfl) rfl ?_; refine mw rfl rfl rfl ?_; refine b7.k #[true,true,true,true,true,true,true,true,true,true,true] rfl (fun _ _ _ _=>trivial) ?_; refine b7.done (by kernel_rfl) ?_
         exact d9.cut (()) zi (d6.mk (.k rfl rfl<|.r rfl (by rfl)<|zk) (zk) rfl)
      ·refine ⟨_,rfl,?_⟩
       refine ja 11 ?_; refine b7.k #[true,true,true,true,false,false,false,false,true,false,false] rfl (fun _ _ _ _=>trivial) ?_; refine b7.all [4,9] (by kernel_rfl) (by simp) (fun i hi=>?_)
       simp only[List.mem_cons,List.not_mem_nil,or_false] at hi
       rcases hi with rfl | rfl
       ·refine ⟨_,rfl,?_⟩
        refine tO (E2 rfl uu rfl) rfl rfl ?_; refine b7.k #[true,true,true,true,true,false,false,false,true,false,false] rfl (fun _ _ _ _=>trivial) ?_; refine b7.take 5 #[true,true,true,true,true,true,false,false,true,false,false] (by kernel_rfl) (by kernel_rfl) (by kernel_rfl) rfl rfl (J7 rfl) rfl rfl ?_; refine b7.take 6 #[true,true,true,true,true,true,true,false,true,false,false] (by kernel_rfl) (by kernel_rfl) (by kernel_rfl) rfl rfl (J6 rfl rfl) rfl rfl ?_; refine b7.all [7,9] (by kernel_rfl) (by simp) (fun i hi=>?_)
        simp only[List.mem_cons,List.not_mem_nil,or_false] at hi
        rcases hi with rfl | rfl
        ·refine ⟨_,rfl,?_⟩
         refine tO (v8 rfl uu rfl) rfl rfl ?_; refine b7.k #[true,true,true,true,true,true,true,true,true,false,false] rfl (fun _ _ _ _=>trivial) ?_; refine b7.one 9 (by kernel_rfl) rfl ?_; refine d5.stB rfl rfl rfl rfl ?_; refine b7.k #[true,true,true,true,true,true,true,true,true,true,false] rfl (fun _ _ _ _=>trivial) ?_; refine b7.one 10 (by kernel_rfl) rfl ?_; refine mw rfl rfl rfl ?_; refine b7.k #[true,true,true,true,true,true,true,true,true,true,true] rfl (fun _ _ _ _=>trivial) ?_; refine b7.done (by kernel_rfl) ?_
         exact d9.cut (()) zi (d6.mk (.k rfl rfl<|.r rfl (by rfl)<|zk) (zk) rfl)
        ·refine ⟨_,rfl,?_⟩
         refine d5.stB rfl rfl rfl rfl ?_; refine b7.k #[true,true,true,true,true,true,true,false,true,true,false] rfl (fun _ _ _ _=>trivial) ?_; refine b7.one 7 (by kernel_rfl) rfl ?_; refine tO (v8 rfl uu rfl) rfl rfl ?_; refine b7.k #[true,true,true,true,true,true,true,true,true,true,false] rfl (fun _ _ _ _=>trivial) ?_; refine b7.one 10 (by kernel_rfl) rfl ?_; refine mw rfl rfl rfl ?_; refine b7.k #[true,true,true,true,true,true,true,true,true,true,true] rfl (fun _ _ _ _=>trivial) ?_; refine b7.done (by kernel_rfl) ?_
         exact d9.cut (()) zi (d6.mk (.k rfl rfl<|.r rfl (by rfl)<|zk) (zk) rfl)
       ·refine ⟨_,rfl,?_⟩
        refine d5.stB rfl rfl rfl rfl ?_; refine b7.k #[true,true,true,true,false,false,false,false,true,true,false] rfl (fun _ _ _ _=>trivial) ?_; refine b7.one 4 (by kernel_rfl) rfl ?_; refine tO (E2 rfl uu rfl) rfl rfl ?_; refine b7.k #[true,true,true,true,true,false,false,false,true,true,false] rfl (fun _ _ _ _=>trivial) ?_; refine b7.take 5 #[true,true,true,true,true,true,false,false,true,true,false] (by kernel_rfl) (by kernel_rfl) (by kernel_rfl) rfl rfl (J7 rfl) rfl rfl ?_; refine b7.take 6 #[true,true,true,true,true,true,true,false,true,true,false] (by kernel_rfl) (by kernel_rfl) (by kernel_rfl) rfl rfl (J6 rfl rfl) rfl rfl ?_
        refine b7.one 7 (by kernel_rfl) rfl ?_; refine tO (v8 rfl uu rfl) rfl rfl ?_; refine b7.k #[true,true,true,true,true,true,true,true,true,true,false] rfl (fun _ _ _ _=>trivial) ?_; refine b7.one 10 (by kernel_rfl) rfl ?_; refine mw rfl rfl rfl ?_; refine b7.k #[true,true,true,true,true,true,true,true,true,true,true] rfl (fun _ _ _ _=>trivial) ?_; refine b7.done (by kernel_rfl) ?_
        exact d9.cut (()) zi (d6.mk (.k rfl rfl<|.r rfl (by rfl)<|zk) (zk) rfl)
     ·refine ⟨_,rfl,?_⟩
      refine tO (E2 rfl uu rfl) rfl rfl ?_; refine b7.k #[true,true,true,false,true,false,false,false,false,false,false] rfl (fun _ _ _ _=>trivial) ?_; refine b7.take 5 #[true,true,true,false,true,true,false,false,false,false,false] (by kernel_rfl) (by kernel_rfl) (by kernel_rfl) rfl rfl (J7 rfl) rfl rfl ?_; refine b7.take 6 #[true,true,true,false,true,true,true,false,false,false,false] (by kernel_rfl) (by kernel_rfl) (by kernel_rfl) rfl rfl (J6 rfl rfl) rfl rfl ?_; refine b7.all [3,7,8] (by kernel_rfl) (by simp) (fun i hi=>?_)
      simp only[List.mem_cons,List.not_mem_nil,or_false] at hi
      rcases hi with rfl | rfl | rfl
      ·refine ⟨_,rfl,?_⟩
       refine tO (C2 rfl uu rfl rfl) rfl rfl ?_; refine b7.k #[true,true,true,true,true,true,true,false,false,false,false] rfl (fun _ _ _ _=>trivial) ?_; refine b7.all [7,8] (by kernel_rfl) (by simp) (fun i hi=>?_)
       simp only[List.mem_cons,List.not_mem_nil,or_false] at hi
       rcases hi with rfl | rfl
       ·refine ⟨_,rfl,?_⟩
        refine tO (v8 rfl uu rfl) rfl rfl ?_; refine b7.k #[true,true,true,true,true,true,true,true,false,false,false] rfl (fun _ _ _ _=>trivial) ?_; refine b7.one 8 (by kernel_rfl) rfl ?_; refine ja 11 ?_; refine b7.k #[true,true,true,true,true,true,true,true,true,false,false] rfl (fun _ _ _ _=>trivial) ?_; refine b7.one 9 (by kernel_rfl) rfl ?_; refine d5.stB rfl rfl rfl rfl ?_; refine b7.k #[true,true,true,true,true,true,true,true,true,true,false] rfl (fun _ _ _ _=>trivial) ?_; refine b7.one 10 (by kernel_rfl) rfl ?_; refine mw rfl rfl rfl ?_
        refine b7.k #[true,true,true,true,true,true,true,true,true,true,true] rfl (fun _ _ _ _=>trivial) ?_; refine b7.done (by kernel_rfl) ?_
        exact d9.cut (()) zi (d6.mk (.k rfl rfl<|.r rfl (by rfl)<|zk) (zk) rfl)
       ·refine ⟨_,rfl,?_⟩
        refine ja 11 ?_; refine b7.k #[true,true,true,true,true,true,true,false,true,false,false] rfl (fun _ _ _ _=>trivial) ?_; refine b7.all [7,9] (by kernel_rfl) (by simp) (fun i hi=>?_)
        simp only[List.mem_cons,List.not_mem_nil,or_false] at hi
        rcases hi with rfl | rfl
        ·refine ⟨_,rfl,?_⟩
         refine tO (v8 rfl uu rfl) rfl rfl ?_; refine b7.k #[true,true,true,true,true,true,true,true,true,false,false] rfl (fun _ _ _ _=>trivial) ?_; refine b7.one 9 (by kernel_rfl) rfl ?_; refine d5.stB rfl rfl rfl rfl ?_; refine b7.k #[true,true,true,true,true,true,true,true,true,true,false] rfl (fun _ _ _ _=>trivial) ?_; refine b7.one 10 (by kernel_rfl) rfl ?_; refine mw rfl rfl rfl ?_; refine b7.k #[true,true,true,true,true,true,true,true,true,true,true] rfl (fun _ _ _ _=>trivial) ?_; refine b7.done (by kernel_rfl) ?_
         exact d9.cut (()) zi (d6.mk (.k rfl rfl<|.r rfl (by rfl)<|zk) (zk) rfl)
        ·refine ⟨_,rfl,?_⟩
         refine d5.stB rfl rfl rfl rfl ?_; refine b7.k #[true,true,true,true,true,true,true,false,true,true,false] rfl (fun _ _ _ _=>trivial) ?_; refine b7.one 7 (by kernel_rfl) rfl ?_; refine tO (v8 rfl uu rfl) rfl rfl ?_; refine b7.k #[true,true,true,true,true,true,true,true,true,true,false] rfl (fun _ _ _ _=>trivial) ?_; refine b7.one 10 (by kernel_rfl) rfl ?_; refine mw rfl rfl rfl ?_; refine b7.k #[true,true,true,true,true,true,true,true,true,true,true] rfl (fun _ _ _ _=>trivial) ?_; refine b7.done (by kernel_rfl) ?_
         exact d9.cut (()) zi (d6.mk (.k rfl rfl<|.r rfl (by rfl)<|zk) (zk) rfl)
      ·refine ⟨_,rfl,?_⟩
       refine tO (v8 rfl uu rfl) rfl rfl ?_; refine b7.k #[true,true,true,false,true,true,true,true,false,false,false] rfl (fun _ _ _ _=>trivial) ?_; refine b7.all [3,8] (by kernel_rfl) (by simp) (fun i hi=>?_)
       simp only[List.mem_cons,List.not_mem_nil,or_false] at hi
       rcases hi with rfl | rfl
       ·refine ⟨_,rfl,?_⟩
        refine tO (C2 rfl uu rfl rfl) rfl rfl ?_; refine b7.k #[true,true,true,true,true,true,true,true,false,false,false] rfl (fun _ _ _ _=>trivial) ?_; refine b7.one 8 (by kernel_rfl) rfl ?_; refine ja 11 ?_; refine b7.k #[true,true,true,true,true,true,true,true,true,false,false] rfl (fun _ _ _ _=>trivial) ?_; refine b7.one 9 (by kernel_rfl) rfl ?_; refine d5.stB rfl rfl rfl rfl ?_; refine b7.k #[true,true,true,true,true,true,true,true,true,true,false] rfl (fun _ _ _ _=>trivial) ?_; refine b7.one 10 (by kernel_rfl) rfl ?_; refine mw rfl rfl rfl ?_
        refine b7.k #[true,true,true,true,true,true,true,true,true,true,true] rfl (fun _ _ _ _=>trivial) ?_; refine b7.done (by kernel_rfl) ?_
        exact d9.cut (()) zi (d6.mk (.k rfl rfl<|.r rfl (by rfl)<|zk) (zk) rfl)
       ·refine ⟨_,rfl,?_⟩
        refine ja 11 ?_; refine b7.k #[true,true,true,false,true,true,true,true,true,false,false] rfl (fun _ _ _ _=>trivial) ?_; refine b7.one 3 (by kernel_rfl) rfl ?_; refine tO (C2 rfl uu rfl rfl) rfl rfl ?_; refine b7.k #[true,true,true,true,true,true,true,true,true,false,false] rfl (fun _ _ _ _=>trivial) ?_; refine b7.one 9 (by kernel_rfl) rfl ?_; refine d5.stB rfl rfl rfl rfl ?_; refine b7.k #[true,true,true,true,true,true,true,true,true,true,false] rfl (fun _ _ _ _=>trivial) ?_; refine b7.one 10 (by kernel_rfl) rfl ?_; refine mw rfl rfl rfl ?_
        refine b7.k #[true,true,true,true,true,true,true,true,true,true,true] rfl (fun _ _ _ _=>trivial) ?_; refine b7.done (by kernel_rfl) ?_
        exact d9.cut (()) zi (d6.mk (.k rfl rfl<|.r rfl (by rfl)<|zk) (zk) rfl)
      ·refine ⟨_,rfl,?_⟩
       refine ja 11 ?_; refine b7.k #[true,true,true,false,true,true,true,false,true,false,false] rfl (fun _ _ _ _=>trivial) ?_; refine b7.all [3,7] (by kernel_rfl) (by simp) (fun i hi=>?_)
       simp only[List.mem_cons,List.not_mem_nil,or_false] at hi
       rcases hi with rfl | rfl
       ·refine ⟨_,rfl,?_⟩
        refine tO (C2 rfl uu rfl rfl) rfl rfl ?_; refine b7.k #[true,true,true,true,true,true,true,false,true,false,false] rfl (fun _ _ _ _=>trivial) ?_; refine b7.all [7,9] (by kernel_rfl) (by simp) (fun i hi=>?_)
        simp only[List.mem_cons,List.not_mem_nil,or_false] at hi
        rcases hi with rfl | rfl
        ·refine ⟨_,rfl,?_⟩
         refine tO (v8 rfl uu rfl) rfl rfl ?_; refine b7.k #[true,true,true,true,true,true,true,true,true,false,false] rfl (fun _ _ _ _=>trivial) ?_; refine b7.one 9 (by kernel_rfl) rfl ?_; refine d5.stB rfl rfl rfl rfl ?_; refine b7.k #[true,true,true,true,true,true,true,true,true,true,false] rfl (fun _ _ _ _=>trivial) ?_; refine b7.one 10 (by kernel_rfl) rfl ?_; refine mw rfl rfl rfl ?_; refine b7.k #[true,true,true,true,true,true,true,true,true,true,true] rfl (fun _ _ _ _=>trivial) ?_; refine b7.done (by kernel_rfl) ?_
         exact d9.cut (()) zi (d6.mk (.k rfl rfl<|.r rfl (by rfl)<|zk) (zk) rfl)
        ·refine ⟨_,rfl,?_⟩
         refine d5.stB rfl rfl rfl rfl ?_; refine b7.k #[true,true,true,true,true,true,true,false,true,true,false] rfl (fun _ _ _ _=>trivial) ?_; refine b7.one 7 (by kernel_rfl) rfl ?_; refine tO (v8 rfl uu rfl) rfl rfl ?_; refine b7.k #[true,true,true,true,true,true,true,true,true,true,false] rfl (fun _ _ _ _=>trivial) ?_; refine b7.one 10 (by kernel_rfl) rfl ?_; refine mw rfl rfl rfl ?_; refine b7.k #[true,true,true,true,true,true,true,true,true,true,true] rfl (fun _ _ _ _=>trivial) ?_; refine b7.done (by kernel_rfl) ?_
         exact d9.cut (()) zi (d6.mk (.k rfl rfl<|.r rfl (by rfl)<|zk) (zk) rfl)
       ·refine ⟨_,rfl,?_⟩
        refine tO (v8 rfl uu rfl) rfl rfl ?_; refine b7.k #[true,true,true,false,true,true,true,true,true,false,false] rfl (fun _ _ _ _=>trivial) ?_; refine b7.one 3 (by kernel_rfl) rfl ?_; refine tO (C2 rfl uu rfl rfl) rfl rfl ?_; refine b7.k #[true,true,true,true,true,true,true,true,true,false,false] rfl (fun _ _ _ _=>trivial) ?_; refine b7.one 9 (by kernel_rfl) rfl ?_; refine d5.stB rfl rfl rfl rfl ?_; refine b7.k #[true,true,true,true,true,true,true,true,true,true,false] rfl (fun _ _ _ _=>trivial) ?_; refine b7.one 10 (by kernel_rfl) rfl ?_
        refine mw rfl rfl rfl ?_; refine b7.k #[true,true,true,true,true,true,true,true,true,true,true] rfl (fun _ _ _ _=>trivial) ?_; refine b7.done (by kernel_rfl) ?_
        exact d9.cut (()) zi (d6.mk (.k rfl rfl<|.r rfl (by rfl)<|zk) (zk) rfl)
     ·refine ⟨_,rfl,?_⟩
      refine ja 11 ?_; refine b7.k #[true,true,true,false,false,false,false,false,true,false,false] rfl (fun _ _ _ _=>trivial) ?_; refine b7.all [3,4] (by kernel_rfl) (by simp) (fun i hi=>?_)
      simp only[List.mem_cons,List.not_mem_nil,or_false] at hi
      rcases hi with rfl | rfl
      ·refine ⟨_,rfl,?_⟩
       refine tO (C2 rfl uu rfl rfl) rfl rfl ?_; refine b7.k #[true,true,true,true,false,false,false,false,true,false,false] rfl (fun _ _ _ _=>trivial) ?_; refine b7.all [4,9] (by kernel_rfl) (by simp) (fun i hi=>?_)
       simp only[List.mem_cons,List.not_mem_nil,or_false] at hi
       rcases hi with rfl | rfl
       ·refine ⟨_,rfl,?_⟩
        refine tO (E2 rfl uu rfl) rfl rfl ?_; refine b7.k #[true,true,true,true,true,false,false,false,true,false,false] rfl (fun _ _ _ _=>trivial) ?_; refine b7.take 5 #[true,true,true,true,true,true,false,false,true,false,false] (by kernel_rfl) (by kernel_rfl) (by kernel_rfl) rfl rfl (J7 rfl) rfl rfl ?_; refine b7.take 6 #[true,true,true,true,true,true,true,false,true,false,false] (by kernel_rfl) (by kernel_rfl) (by kernel_rfl) rfl rfl (J6 rfl rfl) rfl rfl ?_; refine b7.all [7,9] (by kernel_rfl) (by simp) (fun i hi=>?_)
        simp only[List.mem_cons,List.not_mem_nil,or_false] at hi
        rcases hi with rfl | rfl
        ·refine ⟨_,rfl,?_⟩
         refine tO (v8 rfl uu rfl) rfl rfl ?_; refine b7.k #[true,true,true,true,true,true,true,true,true,false,false] rfl (fun _ _ _ _=>trivial) ?_; refine b7.one 9 (by kernel_rfl) rfl ?_; refine d5.stB rfl rfl rfl rfl ?_; refine b7.k #[true,true,true,true,true,true,true,true,true,true,false] rfl (fun _ _ _ _=>trivial) ?_; refine b7.one 10 (by kernel_rfl) rfl ?_; refine mw rfl rfl rfl ?_; refine b7.k #[true,true,true,true,true,true,true,true,true,true,true] rfl (fun _ _ _ _=>trivial) ?_; refine b7.done (by kernel_rfl) ?_
         exact d9.cut (()) zi (d6.mk (.k rfl rfl<|.r rfl (by rfl)<|zk) (zk) rfl)
        ·refine ⟨_,rfl,?_⟩
         refine d5.stB rfl rfl rfl rfl ?_; refine b7.k #[true,true,true,true,true,true,true,false,true,true,false] rfl (fun _ _ _ _=>trivial) ?_; refine b7.one 7 (by kernel_rfl) rfl ?_; refine tO (v8 rfl uu rfl) rfl rfl ?_; refine b7.k #[true,true,true,true,true,true,true,true,true,true,false] rfl (fun _ _ _ _=>trivial) ?_; refine b7.one 10 (by kernel_rfl) rfl ?_; refine mw rfl rfl rfl ?_; refine b7.k #[true,true,true,true,true,true,true,true,true,true,true] rfl (fun _ _ _ _=>trivial) ?_; refine b7.done (by kernel_rfl) ?_
         exact d9.cut (()) zi (d6.mk (.k rfl rfl<|.r rfl (by rfl)<|zk) (zk) rfl)
       ·refine ⟨_,rfl,?_⟩
        refine d5.stB rfl rfl rfl rfl ?_; refine b7.k #[true,true,true,true,false,false,false,false,true,true,false] rfl (fun _ _ _ _=>trivial) ?_; refine b7.one 4 (by kernel_rfl) rfl ?_; refine tO (E2 rfl uu rfl) rfl rfl ?_; refine b7.k #[true,true,true,true,true,false,false,false,true,true,false] rfl (fun _ _ _ _=>trivial) ?_; refine b7.take 5 #[true,true,true,true,true,true,false,false,true,true,false] (by kernel_rfl) (by kernel_rfl) (by kernel_rfl) rfl rfl (J7 rfl) rfl rfl ?_; refine b7.take 6 #[true,true,true,true,true,true,true,false,true,true,false] (by kernel_rfl) (by kernel_rfl) (by kernel_rfl) rfl rfl (J6 rfl rfl) rfl rfl ?_
        refine b7.one 7 (by kernel_rfl) rfl ?_; refine tO (v8 rfl uu rfl) rfl rfl ?_; refine b7.k #[true,true,true,true,true,true,true,true,true,true,false] rfl (fun _ _ _ _=>trivial) ?_; refine b7.one 10 (by kernel_rfl) rfl ?_; refine mw rfl rfl rfl ?_; refine b7.k #[true,true,true,true,true,true,true,true,true,true,true] rfl (fun _ _ _ _=>trivial) ?_; refine b7.done (by kernel_rfl) ?_
        exact d9.cut (()) zi (d6.mk (.k rfl rfl<|.r rfl (by rfl)<|zk) (zk) rfl)
      ·refine ⟨_,rfl,?_⟩
       refine tO (E2 rfl uu rfl) rfl rfl ?_; refine b7.k #[true,true,true,false,true,false,false,false,true,false,false] rfl (fun _ _ _ _=>trivial) ?_; refine b7.take 5 #[true,true,true,false,true,true,false,false,true,false,false] (by kernel_rfl) (by kernel_rfl) (by kernel_rfl) rfl rfl (J7 rfl) rfl rfl ?_; refine b7.take 6 #[true,true,true,false,true,true,true,false,true,false,false] (by kernel_rfl) (by kernel_rfl) (by kernel_rfl) rfl rfl (J6 rfl rfl) rfl rfl ?_; refine b7.all [3,7] (by kernel_rfl) (by simp) (fun i hi=>?_)
       simp only[List.mem_cons,List.not_mem_nil,or_false] at hi
       rcases hi with rfl | rfl
       ·refine ⟨_,rfl,?_⟩
        refine tO (C2 rfl uu rfl rfl) rfl rfl ?_; refine b7.k #[true,true,true,true,true,true,true,false,true,false,false] rfl (fun _ _ _ _=>trivial) ?_; refine b7.all [7,9] (by kernel_rfl) (by simp) (fun i hi=>?_)
        simp only[List.mem_cons,List.not_mem_nil,or_false] at hi
        rcases hi with rfl | rfl
        ·refine ⟨_,rfl,?_⟩
         refine tO (v8 rfl uu rfl) rfl rfl ?_; refine b7.k #[true,true,true,true,true,true,true,true,true,false,false] rfl (fun _ _ _ _=>trivial) ?_; refine b7.one 9 (by kernel_rfl) rfl ?_; refine d5.stB rfl rfl rfl rfl ?_; refine b7.k #[true,true,true,true,true,true,true,true,true,true,false] rfl (fun _ _ _ _=>trivial) ?_; refine b7.one 10 (by kernel_rfl) rfl ?_; refine mw rfl rfl rfl ?_; refine b7.k #[true,true,true,true,true,true,true,true,true,true,true] rfl (fun _ _ _ _=>trivial) ?_; refine b7.done (by kernel_rfl) ?_
         exact d9.cut (()) zi (d6.mk (.k rfl rfl<|.r rfl (by rfl)<|zk) (zk) rfl)
        ·refine ⟨_,rfl,?_⟩
         refine d5.stB rfl rfl rfl rfl ?_; refine b7.k #[true,true,true,true,true,true,true,false,true,true,false] rfl (fun _ _ _ _=>trivial) ?_; refine b7.one 7 (by kernel_rfl) rfl ?_; refine tO (v8 rfl uu rfl) rfl rfl ?_; refine b7.k #[true,true,true,true,true,true,true,true,true,true,false] rfl (fun _ _ _ _=>trivial) ?_; refine b7.one 10 (by kernel_rfl) rfl ?_; refine mw rfl rfl rfl ?_; refine b7.k #[true,true,true,true,true,true,true,true,true,true,true] rfl (fun _ _ _ _=>trivial) ?_; refine b7.done (by kernel_rfl) ?_
         exact d9.cut (()) zi (d6.mk (.k rfl rfl<|.r rfl (by rfl)<|zk) (zk) rfl)
       ·refine ⟨_,rfl,?_⟩
        refine tO (v8 rfl uu rfl) rfl rfl ?_; refine b7.k #[true,true,true,false,true,true,true,true,true,false,false] rfl (fun _ _ _ _=>trivial) ?_; refine b7.one 3 (by kernel_rfl) rfl ?_; refine tO (C2 rfl uu rfl rfl) rfl rfl ?_; refine b7.k #[true,true,true,true,true,true,true,true,true,false,false] rfl (fun _ _ _ _=>trivial) ?_; refine b7.one 9 (by kernel_rfl) rfl ?_; refine d5.stB rfl rfl rfl rfl ?_; refine b7.k #[true,true,true,true,true,true,true,true,true,true,false] rfl (fun _ _ _ _=>trivial) ?_; refine b7.one 10 (by kernel_rfl) rfl ?_
        refine mw rfl rfl rfl ?_; refine b7.k #[true,true,true,true,true,true,true,true,true,true,true] rfl (fun _ _ _ _=>trivial) ?_; refine b7.done (by kernel_rfl) ?_
        exact d9.cut (()) zi (d6.mk (.k rfl rfl<|.r rfl (by rfl)<|zk) (zk) rfl)
    ·refine ⟨_,rfl,?_⟩
     refine tO (E2 rfl uu rfl) rfl rfl ?_; refine b7.k #[false,false,false,false,true,false,false,false,false,false,false] rfl (fun _ _ _ _=>trivial) ?_; refine b7.take 5 #[false,false,false,false,true,true,false,false,false,false,false] (by kernel_rfl) (by kernel_rfl) (by kernel_rfl) rfl rfl (J7 rfl) rfl rfl ?_; refine b7.take 6 #[false,false,false,false,true,true,true,false,false,false,false] (by kernel_rfl) (by kernel_rfl) (by kernel_rfl) rfl rfl (J6 rfl rfl) rfl rfl ?_; refine b7.all [0,7,8] (by kernel_rfl) (by simp) (fun i hi=>?_)
     simp only[List.mem_cons,List.not_mem_nil,or_false] at hi
     rcases hi with rfl | rfl | rfl
     ·refine ⟨_,rfl,?_⟩
      refine tO (E2 rfl uu rfl) rfl rfl ?_; refine b7.k #[true,false,false,false,true,true,true,false,false,false,false] rfl (fun _ _ _ _=>trivial) ?_; refine b7.take 1 #[true,true,false,false,true,true,true,false,false,false,false] (by kernel_rfl) (by kernel_rfl) (by kernel_rfl) rfl rfl (J7 rfl) rfl rfl ?_; refine b7.take 2 #[true,true,true,false,true,true,true,false,false,false,false] (by kernel_rfl) (by kernel_rfl) (by kernel_rfl) rfl rfl (J6 rfl rfl) rfl rfl ?_; refine b7.all [3,7,8] (by kernel_rfl) (by simp) (fun i hi=>?_)
      simp only[List.mem_cons,List.not_mem_nil,or_false] at hi
      rcases hi with rfl | rfl | rfl
      ·refine ⟨_,rfl,?_⟩
       refine tO (C2 rfl uu rfl rfl) rfl rfl ?_; refine b7.k #[true,true,true,true,true,true,true,false,false,false,false] rfl (fun _ _ _ _=>trivial) ?_; refine b7.all [7,8] (by kernel_rfl) (by simp) (fun i hi=>?_)
       simp only[List.mem_cons,List.not_mem_nil,or_false] at hi
       rcases hi with rfl | rfl
       ·refine ⟨_,rfl,?_⟩
        refine tO (v8 rfl uu rfl) rfl rfl ?_; refine b7.k #[true,true,true,true,true,true,true,true,false,false,false] rfl (fun _ _ _ _=>trivial) ?_; refine b7.one 8 (by kernel_rfl) rfl ?_; refine ja 11 ?_; refine b7.k #[true,true,true,true,true,true,true,true,true,false,false] rfl (fun _ _ _ _=>trivial) ?_; refine b7.one 9 (by kernel_rfl) rfl ?_; refine d5.stB rfl rfl rfl rfl ?_; refine b7.k #[true,true,true,true,true,true,true,true,true,true,false] rfl (fun _ _ _ _=>trivial) ?_; refine b7.one 10 (by kernel_rfl) rfl ?_; refine mw rfl rfl rfl ?_
        refine b7.k #[true,true,true,true,true,true,true,true,true,true,true] rfl (fun _ _ _ _=>trivial) ?_; refine b7.done (by kernel_rfl) ?_
        exact d9.cut (()) zi (d6.mk (.k rfl rfl<|.r rfl (by rfl)<|zk) (zk) rfl)
       ·refine ⟨_,rfl,?_⟩
        refine ja 11 ?_; refine b7.k #[true,true,true,true,true,true,true,false,true,false,false] rfl (fun _ _ _ _=>trivial) ?_; refine b7.all [7,9] (by kernel_rfl) (by simp) (fun i hi=>?_)
        simp only[List.mem_cons,List.not_mem_nil,or_false] at hi
        rcases hi with rfl | rfl
        ·refine ⟨_,rfl,?_⟩
         refine tO (v8 rfl uu rfl) rfl rfl ?_; refine b7.k #[true,true,true,true,true,true,true,true,true,false,false] rfl (fun _ _ _ _=>trivial) ?_; refine b7.one 9 (by kernel_rfl) rfl ?_; refine d5.stB rfl rfl rfl rfl ?_; refine b7.k #[true,true,true,true,true,true,true,true,true,true,false] rfl (fun _ _ _ _=>trivial) ?_; refine b7.one 10 (by kernel_rfl) rfl ?_; refine mw rfl rfl rfl ?_; refine b7.k #[true,true,true,true,true,true,true,true,true,true,true] rfl (fun _ _ _ _=>trivial) ?_; refine b7.done (by kernel_rfl) ?_
         exact d9.cut (()) zi (d6.mk (.k rfl rfl<|.r rfl (by rfl)<|zk) (zk) rfl)
        ·refine ⟨_,rfl,?_⟩
         refine d5.stB rfl rfl rfl rfl ?_; refine b7.k #[true,true,true,true,true,true,true,false,true,true,false] rfl (fun _ _ _ _=>trivial) ?_; refine b7.one 7 (by kernel_rfl) rfl ?_; refine tO (v8 rfl uu rfl) rfl rfl ?_; refine b7.k #[true,true,true,true,true,true,true,true,true,true,false] rfl (fun _ _ _ _=>trivial) ?_; refine b7.one 10 (by kernel_rfl) rfl ?_; refine mw rfl rfl rfl ?_; refine b7.k #[true,true,true,true,true,true,true,true,true,true,true] rfl (fun _ _ _ _=>trivial) ?_; refine b7.done (by kernel_rfl) ?_
         exact d9.cut (()) zi (d6.mk (.k rfl rfl<|.r rfl (by rfl)<|zk) (zk) rfl)
      ·refine ⟨_,rfl,?_⟩
       refine tO (v8 rfl uu rfl) rfl rfl ?_; refine b7.k #[true,true,true,false,true,true,true,true,false,false,false] rfl (fun _ _ _ _=>trivial) ?_; refine b7.all [3,8] (by kernel_rfl) (by simp) (fun i hi=>?_)
       simp only[List.mem_cons,List.not_mem_nil,or_false] at hi
       rcases hi with rfl | rfl
       ·refine ⟨_,rfl,?_⟩
        refine tO (C2 rfl uu rfl rfl) rfl rfl ?_; refine b7.k #[true,true,true,true,true,true,true,true,false,false,false] rfl (fun _ _ _ _=>trivial) ?_; refine b7.one 8 (by kernel_rfl) rfl ?_; refine ja 11 ?_; refine b7.k #[true,true,true,true,true,true,true,true,true,false,false] rfl (fun _ _ _ _=>trivial) ?_; refine b7.one 9 (by kernel_rfl) rfl ?_; refine d5.stB rfl rfl rfl rfl ?_; refine b7.k #[true,true,true,true,true,true,true,true,true,true,false] rfl (fun _ _ _ _=>trivial) ?_; refine b7.one 10 (by kernel_rfl) rfl ?_; refine mw rfl rfl rfl ?_
        refine b7.k #[true,true,true,true,true,true,true,true,true,true,true] rfl (fun _ _ _ _=>trivial) ?_; refine b7.done (by kernel_rfl) ?_
        exact d9.cut (()) zi (d6.mk (.k rfl rfl<|.r rfl (by rfl)<|zk) (zk) rfl)
       ·refine ⟨_,rfl,?_⟩
        refine ja 11 ?_; refine b7.k #[true,true,true,false,true,true,true,true,true,false,false] rfl (fun _ _ _ _=>trivial) ?_; refine b7.one 3 (by kernel_rfl) rfl ?_; refine tO (C2 rfl uu rfl rfl) rfl rfl ?_; refine b7.k #[true,true,true,true,true,true,true,true,true,false,false] rfl (fun _ _ _ _=>trivial) ?_; refine b7.one 9 (by kernel_rfl) rfl ?_; refine d5.stB rfl rfl rfl rfl ?_; refine b7.k #[true,true,true,true,true,true,true,true,true,true,false] rfl (fun _ _ _ _=>trivial) ?_; refine b7.one 10 (by kernel_rfl) rfl ?_; refine mw rfl rfl rfl ?_
        refine b7.k #[true,true,true,true,true,true,true,true,true,true,true] rfl (fun _ _ _ _=>trivial) ?_; refine b7.done (by kernel_rfl) ?_
        exact d9.cut (()) zi (d6.mk (.k rfl rfl<|.r rfl (by rfl)<|zk) (zk) rfl)
      ·refine ⟨_,rfl,?_⟩
       refine ja 11 ?_; refine b7.k #[true,true,true,false,true,true,true,false,true,false,false] rfl (fun _ _ _ _=>trivial) ?_; refine b7.all [3,7] (by kernel_rfl) (by simp) (fun i hi=>?_)
       simp only[List.mem_cons,List.not_mem_nil,or_false] at hi
       rcases hi with rfl | rfl
       ·refine ⟨_,rfl,?_⟩
        refine tO (C2 rfl uu rfl rfl) rfl rfl ?_; refine b7.k #[true,true,true,true,true,true,true,false,true,false,false] rfl (fun _ _ _ _=>trivial) ?_; refine b7.all [7,9] (by kernel_rfl) (by simp) (fun i hi=>?_)
        simp only[List.mem_cons,List.not_mem_nil,or_false] at hi
        rcases hi with rfl | rfl
        ·refine ⟨_,rfl,?_⟩
         refine tO (v8 rfl uu rfl) rfl rfl ?_; refine b7.k #[true,true,true,true,true,true,true,true,true,false,false] rfl (fun _ _ _ _=>trivial) ?_; refine b7.one 9 (by kernel_rfl) rfl ?_; refine d5.stB rfl rfl rfl rfl ?_; refine b7.k #[true,true,true,true,true,true,true,true,true,true,false] rfl (fun _ _ _ _=>trivial) ?_; refine b7.one 10 (by kernel_rfl) rfl ?_; refine mw rfl rfl rfl ?_; refine b7.k #[true,true,true,true,true,true,true,true,true,true,true] rfl (fun _ _ _ _=>trivial) ?_; refine b7.done (by kernel_rfl) ?_
         exact d9.cut (()) zi (d6.mk (.k rfl rfl<|.r rfl (by rfl)<|zk) (zk) rfl)
        ·refine ⟨_,rfl,?_⟩
         refine d5.stB rfl rfl rfl rfl ?_; refine b7.k #[true,true,true,true,true,true,true,false,true,true,false] rfl (fun _ _ _ _=>trivial) ?_; refine b7.one 7 (by kernel_rfl) rfl ?_; refine tO (v8 rfl uu rfl) rfl rfl ?_; refine b7.k #[true,true,true,true,true,true,true,true,true,true,false] rfl (fun _ _ _ _=>trivial) ?_; refine b7.one 10 (by kernel_rfl) rfl ?_; refine mw rfl rfl rfl ?_; refine b7.k #[true,true,true,true,true,true,true,true,true,true,true] rfl (fun _ _ _ _=>trivial) ?_; refine b7.done (by kernel_rfl) ?_
         exact d9.cut (()) zi (d6.mk (.k rfl rfl<|.r rfl (by rfl)<|zk) (zk) rfl)
       ·refine ⟨_,rfl,?_⟩
        refine tO (v8 rfl uu rfl) rfl rfl ?_; refine b7.k #[true,true,true,false,true,true,true,true,true,false,false] rfl (fun _ _ _ _=>trivial) ?_; refine b7.one 3 (by kernel_rfl) rfl ?_; refine tO (C2 rfl uu rfl rfl) rfl rfl ?_; refine b7.k #[true,true,true,true,true,true,true,true,true,false,false] rfl (fun _ _ _ _=>trivial) ?_; refine b7.one 9 (by kernel_rfl) rfl ?_; refine d5.stB rfl rfl rfl rfl ?_; refine b7.k #[true,true,true,true,true,true,true,true,true,true,false] rfl (fun _ _ _ _=>trivial) ?_; refine b7.one 10 (by kernel_rfl) rfl ?_
        refine mw rfl rfl rfl ?_; refine b7.k #[true,true,true,true,true,true,true,true,true,true,true] rfl (fun _ _ _ _=>trivial) ?_; refine b7.done (by kernel_rfl) ?_
        exact d9.cut (()) zi (d6.mk (.k rfl rfl<|.r rfl (by rfl)<|zk) (zk) rfl)
     ·refine ⟨_,rfl,?_⟩
      refine tO (v8 rfl uu rfl) rfl rfl ?_; refine b7.k #[false,false,false,false,true,true,true,true,false,false,false] rfl (fun _ _ _ _=>trivial) ?_; refine b7.all [0,8] (by kernel_rfl) (by simp) (fun i hi=>?_)
      simp only[List.mem_cons,List.not_mem_nil,or_false] at hi
      rcases hi with rfl | rfl
      ·refine ⟨_,rfl,?_⟩
       refine tO (E2 rfl uu rfl) rfl rfl ?_; refine b7.k #[true,false,false,false,true,true,true,true,false,false,false] rfl (fun _ _ _ _=>trivial) ?_; refine b7.take 1 #[true,true,false,false,true,true,true,true,false,false,false] (by kernel_rfl) (by kernel_rfl) (by kernel_rfl) rfl rfl (J7 rfl) rfl rfl ?_; refine b7.take 2 #[true,true,true,false,true,true,true,true,false,false,false] (by kernel_rfl) (by kernel_rfl) (by kernel_rfl) rfl rfl (J6 rfl rfl) rfl rfl ?_; refine b7.all [3,8] (by kernel_rfl) (by simp) (fun i hi=>?_)
       simp only[List.mem_cons,List.not_mem_nil,or_false] at hi
       rcases hi with rfl | rfl
       ·refine ⟨_,rfl,?_⟩
        refine tO (C2 rfl uu rfl rfl) rfl rfl ?_; refine b7.k #[true,true,true,true,true,true,true,true,false,false,false] rfl (fun _ _ _ _=>trivial) ?_; refine b7.one 8 (by kernel_rfl) rfl ?_; refine ja 11 ?_; refine b7.k #[true,true,true,true,true,true,true,true,true,false,false] rfl (fun _ _ _ _=>trivial) ?_; refine b7.one 9 (by kernel_rfl) rfl ?_; refine d5.stB rfl rfl rfl rfl ?_; refine b7.k #[true,true,true,true,true,true,true,true,true,true,false] rfl (fun _ _ _ _=>trivial) ?_; refine b7.one 10 (by kernel_rfl) rfl ?_; refine mw rfl rfl rfl ?_
        refine b7.k #[true,true,true,true,true,true,true,true,true,true,true] rfl (fun _ _ _ _=>trivial) ?_; refine b7.done (by kernel_rfl) ?_
        exact d9.cut (()) zi (d6.mk (.k rfl rfl<|.r rfl (by rfl)<|zk) (zk) rfl)
       ·refine ⟨_,rfl,?_⟩
        refine ja 11 ?_; refine b7.k #[true,true,true,false,true,true,true,true,true,false,false] rfl (fun _ _ _ _=>trivial) ?_; refine b7.one 3 (by kernel_rfl) rfl ?_; refine tO (C2 rfl uu rfl rfl) rfl rfl ?_; refine b7.k #[true,true,true,true,true,true,true,true,true,false,false] rfl (fun _ _ _ _=>trivial) ?_; refine b7.one 9 (by kernel_rfl) rfl ?_; refine d5.stB rfl rfl rfl rfl ?_; refine b7.k #[true,true,true,true,true,true,true,true,true,true,false] rfl (fun _ _ _ _=>trivial) ?_; refine b7.one 10 (by kernel_rfl) rfl ?_; refine mw rfl rfl rfl ?_
        refine b7.k #[true,true,true,true,true,true,true,true,true,true,true] rfl (fun _ _ _ _=>trivial) ?_; refine b7.done (by kernel_rfl) ?_
        exact d9.cut (()) zi (d6.mk (.k rfl rfl<|.r rfl (by rfl)<|zk) (zk) rfl)
      ·refine ⟨_,rfl,?_⟩
       refine ja 11 ?_; refine b7.k #[false,false,false,false,true,true,true,true,true,false,false] rfl (fun _ _ _ _=>trivial) ?_; refine b7.one 0 (by kernel_rfl) rfl ?_; refine tO (E2 rfl uu rfl) rfl rfl ?_; refine b7.k #[true,false,false,false,true,true,true,true,true,false,false] rfl (fun _ _ _ _=>trivial) ?_; refine b7.take 1 #[true,true,false,false,true,true,true,true,true,false,false] (by kernel_rfl) (by kernel_rfl) (by kernel_rfl) rfl rfl (J7 rfl) rfl rfl ?_; refine b7.take 2 #[true,true,true,false,true,true,true,true,true,false,false] (by kernel_rfl) (by kernel_rfl) (by kernel_rfl) rfl rfl (J6 rfl rfl) rfl rfl ?_
       refine b7.one 3 (by kernel_rfl) rfl ?_; refine tO (C2 rfl uu rfl rfl) rfl rfl ?_; refine b7.k #[true,true,true,true,true,true,true,true,true,false,false] rfl (fun _ _ _ _=>trivial) ?_; refine b7.one 9 (by kernel_rfl) rfl ?_; refine d5.stB rfl rfl rfl rfl ?_; refine b7.k #[true,true,true,true,true,true,true,true,true,true,false] rfl (fun _ _ _ _=>trivial) ?_; refine b7.one 10 (by kernel_rfl) rfl ?_; refine mw rfl rfl rfl ?_; refine b7.k #[true,true,true,true,true,true,true,true,true,true,true] rfl (fun _ _ _ _=>trivial) ?_
       refine b7.done (by kernel_rfl) ?_
       exact d9.cut (()) zi (d6.mk (.k rfl rfl<|.r rfl (by rfl)<|zk) (zk) rfl)
     ·refine ⟨_,rfl,?_⟩
      refine ja 11 ?_; refine b7.k #[false,false,false,false,true,true,true,false,true,false,false] rfl (fun _ _ _ _=>trivial) ?_; refine b7.all [0,7] (by kernel_rfl) (by simp) (fun i hi=>?_)
      simp only[List.mem_cons,List.not_mem_nil,or_false] at hi
      rcases hi with rfl | rfl
      ·refine ⟨_,rfl,?_⟩
       refine tO (E2 rfl uu rfl) rfl rfl ?_; refine b7.k #[true,false,false,false,true,true,true,false,true,false,false] rfl (fun _ _ _ _=>trivial) ?_; refine b7.take 1 #[true,true,false,false,true,true,true,false,true,false,false] (by kernel_rfl) (by kernel_rfl) (by kernel_rfl) rfl rfl (J7 rfl) rfl rfl ?_; refine b7.take 2 #[true,true,true,false,true,true,true,false,true,false,false] (by kernel_rfl) (by kernel_rfl) (by kernel_rfl) rfl rfl (J6 rfl rfl) rfl rfl ?_; refine b7.all [3,7] (by kernel_rfl) (by simp) (fun i hi=>?_)
       simp only[List.mem_cons,List.not_mem_nil,or_false] at hi
       rcases hi with rfl | rfl
       ·refine ⟨_,rfl,?_⟩
        refine tO (C2 rfl uu rfl rfl) rfl rfl ?_; refine b7.k #[true,true,true,true,true,true,true,false,true,false,false] rfl (fun _ _ _ _=>trivial) ?_; refine b7.all [7,9] (by kernel_rfl) (by simp) (fun i hi=>?_)
        simp only[List.mem_cons,List.not_mem_nil,or_false] at hi
        rcases hi with rfl | rfl
        ·refine ⟨_,rfl,?_⟩
         refine tO (v8 rfl uu rfl) rfl rfl ?_; refine b7.k #[true,true,true,true,true,true,true,true,true,false,false] rfl (fun _ _ _ _=>trivial) ?_; refine b7.one 9 (by kernel_rfl) rfl ?_; refine d5.stB rfl rfl rfl rfl ?_; refine b7.k #[true,true,true,true,true,true,true,true,true,true,false] rfl (fun _ _ _ _=>trivial) ?_; refine b7.one 10 (by kernel_rfl) rfl ?_; refine mw rfl rfl rfl ?_; refine b7.k #[true,true,true,true,true,true,true,true,true,true,true] rfl (fun _ _ _ _=>trivial) ?_; refine b7.done (by kernel_rfl) ?_
         exact d9.cut (()) zi (d6.mk (.k rfl rfl<|.r rfl (by rfl)<|zk) (zk) rfl)
        ·refine ⟨_,rfl,?_⟩
         refine d5.stB rfl rfl rfl rfl ?_; refine b7.k #[true,true,true,true,true,true,true,false,true,true,false] rfl (fun _ _ _ _=>trivial) ?_; refine b7.one 7 (by kernel_rfl) rfl ?_; refine tO (v8 rfl uu rfl) rfl rfl ?_; refine b7.k #[true,true,true,true,true,true,true,true,true,true,false] rfl (fun _ _ _ _=>trivial) ?_; refine b7.one 10 (by kernel_rfl) rfl ?_; refine mw rfl rfl rfl ?_; refine b7.k #[true,true,true,true,true,true,true,true,true,true,true] rfl (fun _ _ _ _=>trivial) ?_; refine b7.done (by kernel_rfl) ?_
         exact d9.cut (()) zi (d6.mk (.k rfl rfl<|.r rfl (by rfl)<|zk) (zk) rfl)
       ·refine ⟨_,rfl,?_⟩
        refine tO (v8 rfl uu rfl) rfl rfl ?_; refine b7.k #[true,true,true,false,true,true,true,true,true,false,false] rfl (fun _ _ _ _=>trivial) ?_; refine b7.one 3 (by kernel_rfl) rfl ?_; refine tO (C2 rfl uu rfl rfl) rfl rfl ?_; refine b7.k #[true,true,true,true,true,true,true,true,true,false,false] rfl (fun _ _ _ _=>trivial) ?_; refine b7.one 9 (by kernel_rfl) rfl ?_; refine d5.stB rfl rfl rfl rfl ?_; refine b7.k #[true,true,true,true,true,true,true,true,true,true,false] rfl (fun _ _ _ _=>trivial) ?_; refine b7.one 10 (by kernel_rfl) rfl ?_
        refine mw rfl rfl rfl ?_; refine b7.k #[true,true,true,true,true,true,true,true,true,true,true] rfl (fun _ _ _ _=>trivial) ?_; refine b7.done (by kernel_rfl) ?_
        exact d9.cut (()) zi (d6.mk (.k rfl rfl<|.r rfl (by rfl)<|zk) (zk) rfl)
      ·refine ⟨_,rfl,?_⟩
       refine tO (v8 rfl uu rfl) rfl rfl ?_; refine b7.k #[false,false,false,false,true,true,true,true,true,false,false] rfl (fun _ _ _ _=>trivial) ?_; refine b7.one 0 (by kernel_rfl) rfl ?_; refine tO (E2 rfl uu rfl) rfl rfl ?_; refine b7.k #[true,false,false,false,true,true,true,true,true,false,false] rfl (fun _ _ _ _=>trivial) ?_; refine b7.take 1 #[true,true,false,false,true,true,true,true,true,false,false] (by kernel_rfl) (by kernel_rfl) (by kernel_rfl) rfl rfl (J7 rfl) rfl rfl ?_; refine b7.take 2 #[true,true,true,false,true,true,true,true,true,false,false] (by kernel_rfl) (by kernel_rfl) (by kernel_rfl) rfl rfl (J6 rfl rfl) rfl rfl ?_
       refine b7.one 3 (by kernel_rfl) rfl ?_; refine tO (C2 rfl uu rfl rfl) rfl rfl ?_; refine b7.k #[true,true,true,true,true,true,true,true,true,false,false] rfl (fun _ _ _ _=>trivial) ?_; refine b7.one 9 (by kernel_rfl) rfl ?_; refine d5.stB rfl rfl rfl rfl ?_; refine b7.k #[true,true,true,true,true,true,true,true,true,true,false] rfl (fun _ _ _ _=>trivial) ?_; refine b7.one 10 (by kernel_rfl) rfl ?_; refine mw rfl rfl rfl ?_; refine b7.k #[true,true,true,true,true,true,true,true,true,true,true] rfl (fun _ _ _ _=>trivial) ?_
       refine b7.done (by kernel_rfl) ?_
       exact d9.cut (()) zi (d6.mk (.k rfl rfl<|.r rfl (by rfl)<|zk) (zk) rfl)
    ·refine ⟨_,rfl,?_⟩
     refine ja 11 ?_; refine b7.k #[false,false,false,false,false,false,false,false,true,false,false] rfl (fun _ _ _ _=>trivial) ?_; refine b7.all [0,4] (by kernel_rfl) (by simp) (fun i hi=>?_)
     simp only[List.mem_cons,List.not_mem_nil,or_false] at hi
     rcases hi with rfl | rfl
     ·refine ⟨_,rfl,?_⟩
      refine tO (E2 rfl uu rfl) rfl rfl ?_; refine b7.k #[true,false,false,false,false,false,false,false,true,false,false] rfl (fun _ _ _ _=>trivial) ?_; refine b7.take 1 #[true,true,false,false,false,false,false,false,true,false,false] (by kernel_rfl) (by kernel_rfl) (by kernel_rfl) rfl rfl (J7 rfl) rfl rfl ?_; refine b7.take 2 #[true,true,true,false,false,false,false,false,true,false,false] (by kernel_rfl) (by kernel_rfl) (by kernel_rfl) rfl rfl (J6 rfl rfl) rfl rfl ?_; refine b7.all [3,4] (by kernel_rfl) (by simp) (fun i hi=>?_)
      simp only[List.mem_cons,List.not_mem_nil,or_false] at hi
      rcases hi with rfl | rfl
      ·refine ⟨_,rfl,?_⟩
       refine tO (C2 rfl uu rfl rfl) rfl rfl ?_; refine b7.k #[true,true,true,true,false,false,false,false,true,false,false] rfl (fun _ _ _ _=>trivial) ?_; refine b7.all [4,9] (by kernel_rfl) (by simp) (fun i hi=>?_)
       simp only[List.mem_cons,List.not_mem_nil,or_false] at hi
       rcases hi with rfl | rfl
       ·refine ⟨_,rfl,?_⟩
        refine tO (E2 rfl uu rfl) rfl rfl ?_; refine b7.k #[true,true,true,true,true,false,false,false,true,false,false] rfl (fun _ _ _ _=>trivial) ?_; refine b7.take 5 #[true,true,true,true,true,true,false,false,true,false,false] (by kernel_rfl) (by kernel_rfl) (by kernel_rfl) rfl rfl (J7 rfl) rfl rfl ?_; refine b7.take 6 #[true,true,true,true,true,true,true,false,true,false,false] (by kernel_rfl) (by kernel_rfl) (by kernel_rfl) rfl rfl (J6 rfl rfl) rfl rfl ?_; refine b7.all [7,9] (by kernel_rfl) (by simp) (fun i hi=>?_)
        simp only[List.mem_cons,List.not_mem_nil,or_false] at hi
        rcases hi with rfl | rfl
        ·refine ⟨_,rfl,?_⟩
         refine tO (v8 rfl uu rfl) rfl rfl ?_; refine b7.k #[true,true,true,true,true,true,true,true,true,false,false] rfl (fun _ _ _ _=>trivial) ?_; refine b7.one 9 (by kernel_rfl) rfl ?_; refine d5.stB rfl rfl rfl rfl ?_; refine b7.k #[true,true,true,true,true,true,true,true,true,true,false] rfl (fun _ _ _ _=>trivial) ?_; refine b7.one 10 (by kernel_rfl) rfl ?_; refine mw rfl rfl rfl ?_; refine b7.k #[true,true,true,true,true,true,true,true,true,true,true] rfl (fun _ _ _ _=>trivial) ?_; refine b7.done (by kernel_rfl) ?_
         exact d9.cut (()) zi (d6.mk (.k rfl rfl<|.r rfl (by rfl)<|zk) (zk) rfl)
        ·refine ⟨_,rfl,?_⟩
         refine d5.stB rfl rfl rfl rfl ?_; refine b7.k #[true,true,true,true,true,true,true,false,true,true,false] rfl (fun _ _ _ _=>trivial) ?_; refine b7.one 7 (by kernel_rfl) rfl ?_; refine tO (v8 rfl uu rfl) rfl rfl ?_; refine b7.k #[true,true,true,true,true,true,true,true,true,true,false] rfl (fun _ _ _ _=>trivial) ?_; refine b7.one 10 (by kernel_rfl) rfl ?_; refine mw rfl rfl rfl ?_; refine b7.k #[true,true,true,true,true,true,true,true,true,true,true] rfl (fun _ _ _ _=>trivial) ?_; refine b7.done (by kernel_rfl) ?_
         exact d9.cut (()) zi (d6.mk (.k rfl rfl<|.r rfl (by rfl)<|zk) (zk) rfl)
       ·refine ⟨_,rfl,?_⟩
        refine d5.stB rfl rfl rfl rfl ?_; refine b7.k #[true,true,true,true,false,false,false,false,true,true,false] rfl (fun _ _ _ _=>trivial) ?_; refine b7.one 4 (by kernel_rfl) rfl ?_; refine tO (E2 rfl uu rfl) rfl rfl ?_; refine b7.k #[true,true,true,true,true,false,false,false,true,true,false] rfl (fun _ _ _ _=>trivial) ?_; refine b7.take 5 #[true,true,true,true,true,true,false,false,true,true,false] (by kernel_rfl) (by kernel_rfl) (by kernel_rfl) rfl rfl (J7 rfl) rfl rfl ?_; refine b7.take 6 #[true,true,true,true,true,true,true,false,true,true,false] (by kernel_rfl) (by kernel_rfl) (by kernel_rfl) rfl rfl (J6 rfl rfl) rfl rfl ?_
        refine b7.one 7 (by kernel_rfl) rfl ?_; refine tO (v8 rfl uu rfl) rfl rfl ?_; refine b7.k #[true,true,true,true,true,true,true,true,true,true,false] rfl (fun _ _ _ _=>trivial) ?_; refine b7.one 10 (by kernel_rfl) rfl ?_; refine mw rfl rfl rfl ?_; refine b7.k #[true,true,true,true,true,true,true,true,true,true,true] rfl (fun _ _ _ _=>trivial) ?_; refine b7.done (by kernel_rfl) ?_
        exact d9.cut (()) zi (d6.mk (.k rfl rfl<|.r rfl (by rfl)<|zk) (zk) rfl)
      ·refine ⟨_,rfl,?_⟩
       refine tO (E2 rfl uu rfl) rfl rfl ?_; refine b7.k #[true,true,true,false,true,false,false,false,true,false,false] rfl (fun _ _ _ _=>trivial) ?_; refine b7.take 5 #[true,true,true,false,true,true,false,false,true,false,false] (by kernel_rfl) (by kernel_rfl) (by kernel_rfl) rfl rfl (J7 rfl) rfl rfl ?_; refine b7.take 6 #[true,true,true,false,true,true,true,false,true,false,false] (by kernel_rfl) (by kernel_rfl) (by kernel_rfl) rfl rfl (J6 rfl rfl) rfl rfl ?_; refine b7.all [3,7] (by kernel_rfl) (by simp) (fun i hi=>?_)
       simp only[List.mem_cons,List.not_mem_nil,or_false] at hi
       rcases hi with rfl | rfl
       ·refine ⟨_,rfl,?_⟩
        refine tO (C2 rfl uu rfl rfl) rfl rfl ?_; refine b7.k #[true,true,true,true,true,true,true,false,true,false,false] rfl (fun _ _ _ _=>trivial) ?_; refine b7.all [7,9] (by kernel_rfl) (by simp) (fun i hi=>?_)
        simp only[List.mem_cons,List.not_mem_nil,or_false] at hi
        rcases hi with rfl | rfl
        ·refine ⟨_,rfl,?_⟩
         refine tO (v8 rfl uu rfl) rfl rfl ?_; refine b7.k #[true,true,true,true,true,true,true,true,true,false,false] rfl (fun _ _ _ _=>trivial) ?_; refine b7.one 9 (by kernel_rfl) rfl ?_; refine d5.stB rfl rfl rfl rfl ?_; refine b7.k #[true,true,true,true,true,true,true,true,true,true,false] rfl (fun _ _ _ _=>trivial) ?_; refine b7.one 10 (by kernel_rfl) rfl ?_; refine mw rfl rfl rfl ?_; refine b7.k #[true,true,true,true,true,true,true,true,true,true,true] rfl (fun _ _ _ _=>trivial) ?_; refine b7.done (by kernel_rfl) ?_
         exact d9.cut (()) zi (d6.mk (.k rfl rfl<|.r rfl (by rfl)<|zk) (zk) rfl)
        ·refine ⟨_,rfl,?_⟩
         refine d5.stB rfl rfl rfl rfl ?_; refine b7.k #[true,true,true,true,true,true,true,false,true,true,false] rfl (fun _ _ _ _=>trivial) ?_; refine b7.one 7 (by kernel_rfl) rfl ?_; refine tO (v8 rfl uu rfl) rfl rfl ?_; refine b7.k #[true,true,true,true,true,true,true,true,true,true,false] rfl (fun _ _ _ _=>trivial) ?_; refine b7.one 10 (by kernel_rfl) rfl ?_; refine mw rfl rfl rfl ?_; refine b7.k #[true,true,true,true,true,true,true,true,true,true,true] rfl (fun _ _ _ _=>trivial) ?_; refine b7.done (by kernel_rfl) ?_
         exact d9.cut (()) zi (d6.mk (.k rfl rfl<|.r rfl (by rfl)<|zk) (zk) rfl)
       ·refine ⟨_,rfl,?_⟩
        refine tO (v8 rfl uu rfl) rfl rfl ?_; refine b7.k #[true,true,true,false,true,true,true,true,true,false,false] rfl (fun _ _ _ _=>trivial) ?_; refine b7.one 3 (by kernel_rfl) rfl ?_; refine tO (C2 rfl uu rfl rfl) rfl rfl ?_; refine b7.k #[true,true,true,true,true,true,true,true,true,false,false] rfl (fun _ _ _ _=>trivial) ?_; refine b7.one 9 (by kernel_rfl) rfl ?_; refine d5.stB rfl rfl rfl rfl ?_; refine b7.k #[true,true,true,true,true,true,true,true,true,true,false] rfl (fun _ _ _ _=>trivial) ?_; refine b7.one 10 (by kernel_rfl) rfl ?_
        refine mw rfl rfl rfl ?_; refine b7.k #[true,true,true,true,true,true,true,true,true,true,true] rfl (fun _ _ _ _=>trivial) ?_; refine b7.done (by kernel_rfl) ?_
        exact d9.cut (()) zi (d6.mk (.k rfl rfl<|.r rfl (by rfl)<|zk) (zk) rfl)
     ·refine ⟨_,rfl,?_⟩
      refine tO (E2 rfl uu rfl) rfl rfl ?_; refine b7.k #[false,false,false,false,true,false,false,false,true,false,false] rfl (fun _ _ _ _=>trivial) ?_; refine b7.take 5 #[false,false,false,false,true,true,false,false,true,false,false] (by kernel_rfl) (by kernel_rfl) (by kernel_rfl) rfl rfl (J7 rfl) rfl rfl ?_; refine b7.take 6 #[false,false,false,false,true,true,true,false,true,false,false] (by kernel_rfl) (by kernel_rfl) (by kernel_rfl) rfl rfl (J6 rfl rfl) rfl rfl ?_; refine b7.all [0,7] (by kernel_rfl) (by simp) (fun i hi=>?_)
      simp only[List.mem_cons,List.not_mem_nil,or_false] at hi
      rcases hi with rfl | rfl
      ·refine ⟨_,rfl,?_⟩
       refine tO (E2 rfl uu rfl) rfl rfl ?_; refine b7.k #[true,false,false,false,true,true,true,false,true,false,false] rfl (fun _ _ _ _=>trivial) ?_; refine b7.take 1 #[true,true,false,false,true,true,true,false,true,false,false] (by kernel_rfl) (by kernel_rfl) (by kernel_rfl) rfl rfl (J7 rfl) rfl rfl ?_; refine b7.take 2 #[true,true,true,false,true,true,true,false,true,false,false] (by kernel_rfl) (by kernel_rfl) (by kernel_rfl) rfl rfl (J6 rfl rfl) rfl rfl ?_; refine b7.all [3,7] (by kernel_rfl) (by simp) (fun i hi=>?_)
       simp only[List.mem_cons,List.not_mem_nil,or_false] at hi
       rcases hi with rfl | rfl
       ·refine ⟨_,rfl,?_⟩
        refine tO (C2 rfl uu rfl rfl) rfl rfl ?_; refine b7.k #[true,true,true,true,true,true,true,false,true,false,false] rfl (fun _ _ _ _=>trivial) ?_; refine b7.all [7,9] (by kernel_rfl) (by simp) (fun i hi=>?_)
        simp only[List.mem_cons,List.not_mem_nil,or_false] at hi
        rcases hi with rfl | rfl
        ·refine ⟨_,rfl,?_⟩
         refine tO (v8 rfl uu rfl) rfl rfl ?_; refine b7.k #[true,true,true,true,true,true,true,true,true,false,false] rfl (fun _ _ _ _=>trivial) ?_; refine b7.one 9 (by kernel_rfl) rfl ?_; refine d5.stB rfl rfl rfl rfl ?_; refine b7.k #[true,true,true,true,true,true,true,true,true,true,false] rfl (fun _ _ _ _=>trivial) ?_; refine b7.one 10 (by kernel_rfl) rfl ?_; refine mw rfl rfl rfl ?_; refine b7.k #[true,true,true,true,true,true,true,true,true,true,true] rfl (fun _ _ _ _=>trivial) ?_; refine b7.done (by kernel_rfl) ?_
         exact d9.cut (()) zi (d6.mk (.k rfl rfl<|.r rfl (by rfl)<|zk) (zk) rfl)
        ·refine ⟨_,rfl,?_⟩
         refine d5.stB rfl rfl rfl rfl ?_; refine b7.k #[true,true,true,true,true,true,true,false,true,true,false] rfl (fun _ _ _ _=>trivial) ?_; refine b7.one 7 (by kernel_rfl) rfl ?_; refine tO (v8 rfl uu rfl) rfl rfl ?_; refine b7.k #[true,true,true,true,true,true,true,true,true,true,false] rfl (fun _ _ _ _=>trivial) ?_; refine b7.one 10 (by kernel_rfl) rfl ?_; refine mw rfl rfl rfl ?_; refine b7.k #[true,true,true,true,true,true,true,true,true,true,true] rfl (fun _ _ _ _=>trivial) ?_; refine b7.done (by kernel_rfl) ?_
         exact d9.cut (()) zi (d6.mk (.k rfl rfl<|.r rfl (by rfl)<|zk) (zk) rfl)
       ·refine ⟨_,rfl,?_⟩
        refine tO (v8 rfl uu rfl) rfl rfl ?_; refine b7.k #[true,true,true,false,true,true,true,true,true,false,false] rfl (fun _ _ _ _=>trivial) ?_; refine b7.one 3 (by kernel_rfl) rfl ?_; refine tO (C2 rfl uu rfl rfl) rfl rfl ?_; refine b7.k #[true,true,true,true,true,true,true,true,true,false,false] rfl (fun _ _ _ _=>trivial) ?_; refine b7.one 9 (by kernel_rfl) rfl ?_; refine d5.stB rfl rfl rfl rfl ?_; refine b7.k #[true,true,true,true,true,true,true,true,true,true,false] rfl (fun _ _ _ _=>trivial) ?_; refine b7.one 10 (by kernel_rfl) rfl ?_
        refine mw rfl rfl rfl ?_; refine b7.k #[true,true,true,true,true,true,true,true,true,true,true] rfl (fun _ _ _ _=>trivial) ?_; refine b7.done (by kernel_rfl) ?_
        exact d9.cut (()) zi (d6.mk (.k rfl rfl<|.r rfl (by rfl)<|zk) (zk) rfl)
      ·refine ⟨_,rfl,?_⟩
       refine tO (v8 rfl uu rfl) rfl rfl ?_; refine b7.k #[false,false,false,false,true,true,true,true,true,false,false] rfl (fun _ _ _ _=>trivial) ?_; refine b7.one 0 (by kernel_rfl) rfl ?_; refine tO (E2 rfl uu rfl) rfl rfl ?_; refine b7.k #[true,false,false,false,true,true,true,true,true,false,false] rfl (fun _ _ _ _=>trivial) ?_; refine b7.take 1 #[true,true,false,false,true,true,true,true,true,false,false] (by kernel_rfl) (by kernel_rfl) (by kernel_rfl) rfl rfl (J7 rfl) rfl rfl ?_; refine b7.take 2 #[true,true,true,false,true,true,true,true,true,false,false] (by kernel_rfl) (by kernel_rfl) (by kernel_rfl) rfl rfl (J6 rfl rfl) rfl rfl ?_
       refine b7.one 3 (by kernel_rfl) rfl ?_; refine tO (C2 rfl uu rfl rfl) rfl rfl ?_; refine b7.k #[true,true,true,true,true,true,true,true,true,false,false] rfl (fun _ _ _ _=>trivial) ?_; refine b7.one 9 (by kernel_rfl) rfl ?_; refine d5.stB rfl rfl rfl rfl ?_; refine b7.k #[true,true,true,true,true,true,true,true,true,true,false] rfl (fun _ _ _ _=>trivial) ?_; refine b7.one 10 (by kernel_rfl) rfl ?_; refine mw rfl rfl rfl ?_; refine b7.k #[true,true,true,true,true,true,true,true,true,true,true] rfl (fun _ _ _ _=>trivial) ?_
       refine b7.done (by kernel_rfl) ?_
       exact d9.cut (()) zi (d6.mk (.k rfl rfl<|.r rfl (by rfl)<|zk) (zk) rfl)
   ·intro _ hM
    refine jn ?_; refine j1 ?_
    refine Tr.for1 (σ:=Nat) [⟨6,true,_,_⟩,⟨11,true,_,_⟩,⟨44,true,_,_⟩,⟨45,true,_,_⟩] [] (fun k=>[⟨12,true,[],b8 (eL j7) ((D2 x ks k).map m8)⟩,⟨46,true,[],kI (k:Int)⟩]) (fun k=>[⟨11,[],j5 [b8 (eL eI) (o7 (oX x) ks k).1,b8 (eL eI) (o7 (oX x) ks k).2]⟩,⟨6,[],j5 [r7 L8 (EG x)]⟩]) (fun k=>k<=ks.length) (fun k=>k=ks.length) (fun k=>ks.length-k) (0) zi (d6.mk (.r rfl (by rfl)<|.i rfl zi<|zk) (.e (by rfl) rfl<|zk) rfl) ?_ ?_
    ·intro k hR0
     refine jn ?_
     obtain ⟨hst,hik⟩:=CW (ks:=ks) (hx.st hlo) hlo hirr k
     refine l3 ?_; refine jq ?_ ?_
     ·intro h9
      refine Z2 ?_; refine jc (VE x D M k (o7 (oX x) ks k) (D2 x ks k) (b6 ks k) hx hlo hst zo) ?_; refine v9 ?_
      exact d9.lp (k+1) zi zo (d6.mk (.r rfl (by rfl)<|.i rfl zi<|zk) (.e (by rfl) rfl<|zk) rfl)
     ·intro h9
      replace h9:=Int.not_lt.1 h9
      refine g9 ?_
      exact d9.cut (k) zo (d6.mk (.r rfl zi<|.i rfl zi<|zk) (zk) rfl)
    ·rintro _ rfl
     refine je ?_
     obtain ⟨hst,hik⟩:=CW (ks:=ks) (hx.st hlo) hlo hirr ks.length
     have hany:=oJ (x:=x) hst.len hst.red
     refine i7 ?_; refine Tr.frzB 6 [6] (Z0 L8) (x:=EG x) ⟨rfl,trivial⟩ rfl ?_; refine jn ?_; refine g8 ?_; refine tO (EK (ks:=[r7 (Z0 L8) (EG x)]) (.cons rfl uu<|.nil)) rfl rfl ?_; refine tO (i6 (fun hp=>qS ((D2 x ks ks.length).map m8) (y3 250) (fun q=>decide (w3 x (j9 x.1.1 q)<=0)) (fun q hq=>by obtain ⟨a,ha,rfl⟩:=hH hq; exact yK (fun b hb=>(X5 (hst.nbd hlo zo (by have:=hst.len; omega))).mono zo) a)) (.a rfl uu<|.cons rfl uu (fun g u h=>JR (fun a ha=>qO a x h0 ha) g u h)<|.nil)) rfl rfl ?_
     refine g8 ?_; refine Tr.cnd rfl ?_ ?_
     ·intro h13
      have hnp:¬(posL (w3 x) x.2.1.length (D2 x ks ks.length)):=by rw[hany] at h13; simpa using h13
      have he:O7 x ks=11:=by unfold O7; rw[hrd,if_neg (fun a=>a hir),if_neg (fun a=>a hc),if_neg hnp]
      have hl0:N3 x ks=[]:=by unfold N3; rw[he,if_pos (by decide)]
      refine j1 ?_; exact g6.res (fn:=Tryz.f62) (ts:=[4,5]) rfl rfl (.n rfl hl0.symm<|.i rfl he.symm<|.nil)
     ·intro h13
      have hp:(posL (w3 x) x.2.1.length (D2 x ks ks.length)):=by rw[hany] at h13; simpa using h13
      have he:O7 x ks=0:=by unfold O7; rw[hrd,if_neg (fun a=>a hir),if_neg (fun a=>a hc),if_pos hp]
      have hl0:N3 x ks=(D2 x ks ks.length).map m8:=by unfold N3; rw[he,if_neg (fun a=>a rfl)]
      refine u5 ?_; exact g6.res (fn:=Tryz.f62) (ts:=[4,5]) rfl rfl (.r rfl hl0.symm<|.i rfl he.symm<|.nil)

end Go.Fl

/- Contracts: cones of paths (the reference). -/
namespace Go.Fl
open Go Go.Proofs
open d5 renaming op->tO
open i9 renaming op->rO
set_option maxRecDepth 100000

noncomputable def Q1 (x:o8) (ks:List Int):Nat->List s5
 | 0=>x.2.2.2
 | i+1=>(Q1 x ks i).set (w7 (o7 (oX x) ks i) (b6 ks i)).toNat (m8 (B0 (j9 x.1.1 (b6 (Q1 x ks i) (w7 (o7 (oX x) ks i) (b6 ks i)).toNat)) (j9 x.1.1 (b6 (Q1 x ks i) (y6 (o7 (oX x) ks i) (b6 ks i)).toNat))))
theorem iR {l:List s5} {k j:Nat} {x:s5} (h:k<l.length):b6 (l.set k x) j=if j=k then x else b6 l j:=by
 by_cases e:j=k
 ·subst e; rw[if_pos rfl]; simp[b6,h]
 ·rw[if_neg e]; simp[b6,List.getElem?_set_ne (Ne.symm e)]
theorem UX {x:o8} {D:Int} {M:Nat} {ks:List Int} (hx:L5 x) (hlo:F8 x.1.1 D M x.2.1.length (F3 x)) (hi:z7 (oX x)=true):∀i,i<=15->(Q1 x ks i).length=x.2.1.length/\∀a,a<x.2.1.length->j9 x.1.1 (b6 (Q1 x ks i) a)=b6 (D2 x ks i) a/\y3 250 (b6 (Q1 x ks i) a)
 | 0,_=>⟨hx.len,fun a ha=>⟨(RI (by show a<x.2.2.2.length; rw[hx.len]; exact ha)).symm,(hx.num a ha).mono zo⟩⟩
 | i+1,hb=>by
  obtain ⟨h1,h2⟩:=UX hx hlo hi (ks:=ks) i zo
  obtain ⟨s1,s2⟩:=CW (ks:=ks) (hx.st hlo) hlo hi i
  obtain ⟨t1,_⟩:=CW (ks:=ks) (hx.st hlo) hlo hi (i+1)
  have hlw:=DG s1.rows (b6 ks i)
  have hn:(o7 (oX x) ks i).1.length=x.2.1.length:=s1.nn
  refine ⟨by rw[Q1,List.length_set]; exact h1,fun a ha=>?_⟩
  have hat:b6 (D2 x ks (i+1)) a=_:=KX (k:=b6 ks i) (a:=a) s1
  rw[Q1,iR zo,(h2 _ zo).1,(h2 _ zo).1]
  by_cases e:a=(w7 (o7 (oX x) ks i) (b6 ks i)).toNat
  ·rw[if_pos e] at hat ⊢
   have hr:=t1.red a ha
   have hg:B0 (b6 (D2 x ks i) (w7 (o7 (oX x) ks i) (b6 ks i)).toNat) (b6 (D2 x ks i) (y6 (o7 (oX x) ks i) (b6 ks i)).toNat)=b6 (D2 x ks (i+1)) a:=hat.symm
   rw[hg]
   exact ⟨W7 hr,(X5 (t1.nbd hlo zo ha)).mono zo⟩
  ·rw[if_neg e] at hat ⊢
   rw[hat]
   exact h2 a ha
noncomputable def T7 (x:o8) (ks:List Int) (i:Nat):List s5:=j8 x.2.1.length fun j=>if j<i then m8 (b6 (D2 x ks ks.length) j) else b6 (Q1 x ks ks.length) j
theorem DV {x:o8} {ks:List Int} {i:Nat}:(T7 x ks i).length=x.2.1.length:=p8
theorem pV {x:o8} {ks:List Int} (h:(Q1 x ks ks.length).length=x.2.1.length):T7 x ks 0=Q1 x ks ks.length:=D6 (by rw[DV,h]) fun i hi=>by
 rw[DV] at hi
 unfold T7; rw[r5 hi,if_neg zo]
theorem pT {x:o8} {ks:List Int} (h:(D2 x ks ks.length).length=x.2.1.length):T7 x ks x.2.1.length=(D2 x ks ks.length).map m8:=D6 (by rw[DV,List.length_map,h]) fun i hi=>by
 rw[DV] at hi
 unfold T7; rw[r5 hi,if_pos hi,EI zo]
theorem cB {x:o8} {ks:List Int} {i:Nat} (h:i<x.2.1.length):b6 (T7 x ks i) i=b6 (Q1 x ks ks.length) i:=by unfold T7; rw[r5 h,if_neg zo]
theorem UW {x:o8} {ks:List Int} {i:Nat} (h:i<x.2.1.length):b6 (T7 x ks (i+1)) i=m8 (b6 (D2 x ks ks.length) i):=by unfold T7; rw[r5 h,if_pos zo]
theorem pU {x:o8} {ks:List Int} {i:Nat} (h:i<x.2.1.length):(T7 x ks i).set i (m8 (b6 (D2 x ks ks.length) i))=T7 x ks (i+1):=D6 (by rw[List.length_set,DV,DV]) fun j hj=>by
 rw[List.length_set,DV] at hj
 rw[iR (by rw[DV]; exact h)]
 have e1:b6 (T7 x ks i) j=if j<i then m8 (b6 (D2 x ks ks.length) j) else b6 (Q1 x ks ks.length) j:=r5 hj
 have e2:b6 (T7 x ks (i+1)) j=if j<i+1 then m8 (b6 (D2 x ks ks.length) j) else b6 (Q1 x ks ks.length) j:=r5 hj
 rw[e1,e2]
 rcases Nat.lt_trichotomy j i with c | c | c
 ·rw[if_neg zo,if_pos c,if_pos zo]
 ·rw[if_pos c,if_pos zo,c]
 ·rw[if_neg zo,if_neg zo,if_neg zo]
set_option maxHeartbeats 2000000 in
theorem sF (x:o8) (D:Int) (M:Nat) (ks:List Int) (hx:L5 x) (hlo:F8 x.1.1 D M x.2.1.length (F3 x)) (hir:z7 (oX x)=true) (hn:ks.length<=12) (hkk:∀k∈ks,k=0\/k=1):Ct Tryz.prog 63 [b8 eX x,b8 (eL eI) ks] (z6 [b8 (eL j7) (if (posL (w3 x) x.2.1.length (D2 x ks ks.length)) then (D2 x ks ks.length).map m8 else []),kB (decide (posL (w3 x) x.2.1.length (D2 x ks ks.length)))]):=by
 have h0:=hx.fld
 have hpo:=R1 h0
 have hs:=(Y8 h0).1.2.1
 have v:=hx.rows
 have hp1:A6 x.2.1 x.2.1.length:=v.p1
 have hp2:A6 x.2.2.1 x.2.1.length:=v.p2
 have hle:x.2.1.length<=8:=v.le
 have htwo:2<=x.2.1.length:=v.two
 have hbl:x.2.2.1.length=x.2.1.length:=v.len
 have hxl:=hx.len
 have hll:=hlo.len
 have hm8:x.2.2.2.length<=8:=by omega
 refine Ct.mk Tryz.func63 rfl Tryz.ntmps63 rfl (fun w J=>?_); refine g8 ?_; refine jb 2 rfl ?_; refine l6 ?_; refine Tr.frzB 2 [2] eX (x:=x) ⟨rfl,trivial⟩ rfl ?_; refine jn ?_; refine g8 ?_; refine jc (sW x h0) ?_; refine ja 6 ?_; refine l6 ?_; refine d5.new (AX j7 16) rfl rfl rfl rfl ?_; refine g8 ?_; refine d5.app rfl rfl rfl rfl rfl rfl rfl rfl zo zo ?_; refine jl ?_; refine l3 ?_; refine jc (PI x) ?_; refine ja 8 ?_; refine m9 ?_
 refine Tr.for1 (σ:=Nat) [⟨1,true,_,_⟩,⟨6,true,_,_⟩,⟨8,true,_,_⟩] [] (fun k=>[⟨7,true,[16],o9 16 x.2.1.length⟩,⟨9,true,[],kI (k:Int)⟩]) (fun k=>[⟨16,[],l5 false 30 j7 (Q1 x ks k) x.2.1.length⟩,⟨8,[],j5 [b8 (eL eI) (o7 (oX x) ks k).1,b8 (eL eI) (o7 (oX x) ks k).2]⟩,⟨6,[],j5 [b8 (eL eI) x.1.1,kI x.1.2.1,kI x.1.2.2.1,kI x.1.2.2.2]⟩]) (fun k=>k<=ks.length) (fun k=>k=ks.length) (fun k=>ks.length-k) (0) zi (d6.mk (.o rfl zo rfl<|.i rfl zi<|zk) (.a (by rfl) (by simp; omega)<|.e (by rfl) rfl<|zk) rfl) ?_ ?_
 ·intro k hR0
  refine jn ?_
  obtain ⟨hst,hik⟩:=CW (ks:=ks) (hx.st hlo) hlo hir k
  have hnn:(o7 (oX x) ks k).1.length=x.2.1.length:=hst.nn
  have hr2:(o7 (oX x) ks k).2.length=(o7 (oX x) ks k).1.length:=hst.rows.len
  have hr1:=BX hst.rows.p1 zo
  have hr3:=BX hst.rows.p2 zo
  have hlw:=DG hst.rows (b6 ks k)
  obtain ⟨hcl,hca⟩:=UX (ks:=ks) hx hlo hir k zo
  have hla:b6 (o7 (oX x) ks k).1 (((o7 (oX x) ks k).1.length:Int)-1).toNat=(o4 (o7 (oX x) ks k).1):=by unfold o4; rw[show (((o7 (oX x) ks k).1.length:Int)-1).toNat=(o7 (oX x) ks k).1.length-1 by omega]
  have hlb:b6 (o7 (oX x) ks k).2 (((o7 (oX x) ks k).1.length:Int)-1).toNat=(o4 (o7 (oX x) ks k).2):=by unfold o4; rw[show (((o7 (oX x) ks k).1.length:Int)-1).toNat=(o7 (oX x) ks k).2.length-1 by omega]
  refine m9 ?_; refine jq ?_ ?_
  ·intro h5
   refine B3 ?_; refine Tr.draw 13 o0 (by kernel_rfl) ?_; refine l3 ?_
   rw[hla]
   refine l3 ?_
   rw[hlb]
   refine l6 ?_; refine Tr.meet2 (σ:=Unit) [⟨1,true,_,_⟩,⟨6,true,_,_⟩,⟨7,true,_,_⟩,⟨8,true,_,_⟩,⟨9,true,_,_⟩] [] (zk) (.nil) (fun _=>[⟨11,true,[],kI (w7 (o7 (oX x) ks k) (b6 ks k))⟩,⟨12,true,[],kI (y6 (o7 (oX x) ks k) (b6 ks k))⟩]) (fun _=>[⟨16,[],l5 false 30 j7 (Q1 x ks k) x.2.1.length⟩,⟨8,[],j5 [b8 (eL eI) (o7 (oX x) ks k).1,b8 (eL eI) (o7 (oX x) ks k).2]⟩,⟨6,[],j5 [b8 (eL eI) x.1.1,kI x.1.2.1,kI x.1.2.2.1,kI x.1.2.2.2]⟩]) (fun _=>True) ?_ ?_
   ·skip
    refine m9 ?_; refine jq ?_ ?_
    ·intro h9
     have hw1:(w7 (o7 (oX x) ks k) (b6 ks k))=(o4 (o7 (oX x) ks k).2):=by unfold w7; rw[if_neg zo]
     have hl1:(y6 (o7 (oX x) ks k) (b6 ks k))=(o4 (o7 (oX x) ks k).1):=by unfold y6; rw[if_neg zo]
     refine l3 ?_
     exact d9.cut (()) zi (d6.mk (.i rfl hw1.symm<|.i rfl hl1.symm<|zk) (zk) rfl)
    ·intro h9
     have hk01:=hkk (b6 ks k) (E6 zo)
     have hw1:(w7 (o7 (oX x) ks k) (b6 ks k))=(o4 (o7 (oX x) ks k).1):=by unfold w7; rw[if_pos zo]
     have hl1:(y6 (o7 (oX x) ks k) (b6 ks k))=(o4 (o7 (oX x) ks k).2):=by unfold y6; rw[if_pos zo]
     refine i5 ?_
     exact d9.cut (()) zi (d6.mk (.i rfl hw1.symm<|.i rfl hl1.symm<|zk) (zk) rfl)
   ·intro _ hM
    refine jn ?_; refine i5 ?_; refine Tr.draw 12 o0 (by kernel_rfl) ?_; refine l3 ?_; refine rO (X8 rfl uu rfl rfl rfl rfl) rfl rfl ?_; refine i7 ?_; refine rO (X8 rfl uu rfl rfl rfl rfl) rfl rfl ?_; refine rO (i6 (fun hp=>sP x.1 (b6 (Q1 x ks k) (w7 (o7 (oX x) ks k) (b6 ks k)).toNat) (b6 (Q1 x ks k) (y6 (o7 (oX x) ks k) (b6 ks k)).toNat) 250 hpo hs (hca _ zo).2 (hca _ zo).2 zo) (.se rfl uu rfl rfl<|.a rfl uu<|.a rfl uu<|.nil)) rfl rfl ?_; refine l6 ?_; refine Tr.drawS 9 8 o0 (by kernel_rfl) ?_; refine n8.opA (Q9 rfl uu) (by kernel_rfl) rfl rfl ?_
    refine n8.opA (G7 rfl uu) (by kernel_rfl) rfl rfl ?_; refine n8.opA (G7 rfl uu) (by kernel_rfl) rfl rfl ?_
    first | refine n8.opA (F6 rfl uu rfl uu rfl (fun _=>zo)) (by kernel_rfl) rfl rfl ?_ | refine n8.opA (AY rfl uu rfl uu rfl (fun _=>zo)) (by kernel_rfl) rfl rfl ?_
    refine n8.opA (v8 rfl uu rfl) (by kernel_rfl) rfl rfl ?_; refine n8.opA (i6 (fun hp=>sI (o7 (oX x) ks k) (b6 ks k) hst.rows hik) (.s rfl uu rfl<|.a rfl uu<|.nil)) (by kernel_rfl) rfl rfl ?_; refine n8.opA (G7 rfl uu) (by kernel_rfl) rfl rfl ?_; refine n8.opA (FV rfl uu rfl) (by kernel_rfl) rfl rfl ?_; refine n8.op (FV rfl uu rfl) rfl rfl ?_; refine n8.z (DL rfl rfl rfl) rfl rfl rfl ?_; refine j1 ?_
    exact d9.lp (k+1) zi zo (d6.mk (.k rfl rfl<|.i rfl zi<|zk) (.a (by rfl) zi<|.e (by rfl) rfl<|zk) rfl)
  ·intro h5
   replace h5:=Int.not_lt.1 h5
   refine g9 ?_
   exact d9.cut (k) zo (d6.mk (.k rfl rfl<|.i rfl zi<|zk) (zk) rfl)
 ·rintro _ rfl
  refine je ?_
  obtain ⟨hcl,hcb⟩:=UX (ks:=ks) hx hlo hir ks.length zo
  obtain ⟨hst,hik⟩:=CW (ks:=ks) (hx.st hlo) hlo hir ks.length
  refine j3 ?_
  refine Tr.for1 (σ:=Nat) [⟨6,true,_,_⟩,⟨7,true,_,_⟩] [] (fun k=>[⟨13,true,[],kI (k:Int)⟩]) (fun k=>[⟨16,[],l5 false 30 j7 (T7 x ks k) x.2.1.length⟩,⟨6,[],j5 [b8 (eL eI) x.1.1,kI x.1.2.1,kI x.1.2.2.1,kI x.1.2.2.2]⟩]) (fun k=>k<=x.2.1.length/\∀j,j<k->0<w3 x (b6 (D2 x ks ks.length) j)) (fun k=>k=x.2.1.length/\∀j,j<x.2.1.length->0<w3 x (b6 (D2 x ks ks.length) j)) (fun k=>x.2.1.length-k) (0) ⟨by omega,fun j h=>absurd h (Nat.not_lt_zero _)⟩ (d6.mk (.i rfl zi<|zk) (.a (by rw[pV hcl]) zi<|zk) rfl) ?_ ?_
  ·rintro k ⟨hk,hR⟩
   refine jn ?_
   have hql:=DV (x:=x) (ks:=ks) (i:=k)
   have hkr:=fun (h:k<x.2.1.length)=>hst.red k h
   have hkb:=fun (h:k<x.2.1.length)=>hst.nbd hlo zo h
   refine l6 ?_; refine tO (U1 rfl uu) rfl rfl ?_; refine i7 ?_; refine jq ?_ ?_
   ·intro h14
    refine l6 ?_; refine Tr.draw 8 o0 (by kernel_rfl) ?_
    have hred:v7 x.1.1 (b6 (D2 x ks ks.length) k):=hkr zo
    have hnbd:=hkb zo
    have hgn:=X5 hnbd
    refine l3 ?_; refine rO (X8 rfl uu rfl rfl rfl rfl) rfl rfl ?_; refine jd (dE x.1 (b6 (T7 x ks k) k) 250 hpo hs (by rw[cB zo]; exact (hcb k zo).2) zo) ?_
    rw[cB zo,(hcb k zo).1]
    refine l3 ?_
    rw[pU zo]
    refine Tr.draw 5 o0 (by kernel_rfl) ?_; refine g9 ?_; refine rO (X8 rfl uu rfl rfl rfl rfl) rfl rfl ?_; refine i5 ?_; refine jc (dH x.1 (b6 (T7 x ks (k+1)) k) h0 (by rw[UW zo]; exact hgn.mono zo) (by rw[UW zo,W7 hred]; exact hnbd.mono zo)) ?_
    rw[UW zo,W7 hred]
    refine i7 ?_; refine jq ?_ ?_
    ·intro h17
     have hnp:¬(posL (w3 x) x.2.1.length (D2 x ks ks.length)):=fun hp=>by have hpk:0<A7 x.1.1 (u6 x.1) (b6 (D2 x ks ks.length) k):=hp k zo; omega
     refine B3 ?_; exact g6.res (fn:=Tryz.f63) (ts:=[4,5]) rfl rfl (.n rfl (by rw[if_neg hnp])<|.b rfl (decide_eq_false hnp).symm<|.nil)
    ·intro h17
     replace h17:=Int.not_le.1 h17
     have hok:0<A7 x.1.1 (u6 x.1) (b6 (D2 x ks ks.length) k):=by omega
     refine j1 ?_
     exact d9.lp (k+1) ⟨by omega,fun j hj=>by by_cases e:j=k; (rw[e]; exact hok); exact hR j zo⟩ zo (d6.mk (.i rfl zi<|zk) (zk) rfl)
   ·intro h14
    replace h14:=Int.not_lt.1 h14
    refine g9 ?_
    exact d9.cut (k) ⟨by omega,fun j hj=>hR j zo⟩ (d6.mk (.i rfl zi<|zk) (zk) rfl)
  ·rintro k ⟨hkn,hE⟩
   refine je ?_
   have hp:(posL (w3 x) x.2.1.length (D2 x ks ks.length)):=hE
   rw[hkn]
   refine j1 ?_; refine Tr.frz 16 [4] ⟨rfl,trivial⟩ (by simp only[p9]; omega) rfl ?_; refine i5 ?_; exact g6.res (fn:=Tryz.f63) (ts:=[4,5]) rfl rfl (.r rfl (by rw[if_pos hp,pT hst.len])<|.b rfl (decide_eq_true hp).symm<|.nil)

end Go.Fl

/- Contracts: the law of cones. -/
namespace Go.Fl
open Go Go.Proofs
open d5 renaming op->tO
open i9 renaming op->rO
set_option maxRecDepth 100000

theorem qP (x:o8) (ks:List Int) (hsm:R6 x) (hkl:ks.length<=12\/60<ks.length):Ct Tryz.prog 62 [b8 eX x,b8 (eL eI) ks] (z6 [b8 (eL j7) (N3 x ks),kI (O7 x ks)]):=by
 by_cases h:C1 x=0
 ·have hx:=UQ h hsm
  obtain ⟨D,M,hlo⟩:=hx.d0 hsm
  exact qR x D M ks hx hlo h hkl
 ·have hrd:G3 x=C1 x:=by unfold G3; rw[if_pos h]
  have e:O7 x ks=C1 x:=by unfold O7; rw[if_pos (by rw[hrd]; exact h),hrd]
  have e2:N3 x ks=[]:=by unfold N3; rw[e,if_pos h]
  rw[e,e2]
  exact qQ x ks hsm h
theorem mG {x:o8} (v:l7):w3 x v=1\/w3 x v=-1\/w3 x v=0:=lE
theorem L5.posL {x:o8} (hx:L5 x):posL (w3 x) x.2.1.length (F3 x):=fun a ha=>by
 rw[show b6 (F3 x) a=j9 x.1.1 (b6 x.2.2.2 a) from RI (by rw[hx.len]; exact ha)]
 exact hx.pos a ha
theorem pS {x:o8} {D:Int} {M:Nat} {ks:List Int} (hx:L5 x) (hlo:F8 x.1.1 D M x.2.1.length (F3 x)) (hir:z7 (oX x)=true) (hz:G3 x=0) (hk:∀k∈ks,k=0\/k=1) (hn:ks.length<=60) :
  (Go.Fl.posL (w3 x) x.2.1.length (D2 x ks ks.length)->G8 x ks.length=0/\U2 x ks.length=ks/\(Z9 x ks.length).2.2.2=(D2 x ks ks.length).map m8) /\
  (¬Go.Fl.posL (w3 x) x.2.1.length (D2 x ks ks.length)->G8 x ks.length≠0\/U2 x ks.length≠ks):=by
 have hs:=O5.of_chk hx.fld
 have e:=zI (x:=x) (n:=(ks.length:Int)) hz zo
 rw[Int.toNat_natCast] at e
 constructor
 ·intro hp
  obtain ⟨h1,h2⟩:=cA (sg:=w3 x) (ks:=ks) hs mG (hx.st hlo) hlo hir hk hp ks.length (Nat.le_refl _)
  have ht:Y5 x ks.length=false:=ai9 fun i hi=>(h2 i hi).2
  rw[if_neg (by rw[ht]; decide)] at e
  obtain ⟨q1,q2,_⟩:=jI e
  rw[Int.toNat_natCast] at q1 q2
  refine ⟨e,?_,?_⟩
  ·rw[q2]
   exact D6 p8 fun i hi=>by rw[p8] at hi; rw[r5 hi]; exact (h2 i hi).1
  ·rw[q1]
   show (E7 x ks.length).2.map m8=_
   rw[show E7 x ks.length=_ from h1]
 ·intro hnp
  by_cases c:G8 x ks.length=0
  ·refine .inr fun hkk=>hnp ?_
   have ht:Y5 x ks.length=false:=by
    cases ht:Y5 x ks.length with
    | false=>rfl
    | true=>rw[if_pos ht] at e; omega
   obtain ⟨_,q2,_⟩:=jI c
   rw[Int.toNat_natCast] at q2
   have hd:∀j,j<ks.length->X9 (w3 x) (oX x) (F3 x) j=b6 ks j/\HP (w3 x) (oX x) (F3 x) j≠0:=fun j hj=>by
    refine ⟨?_,ZQ ht j hj⟩
    have:b6 (j8 ks.length (P2 x)) j=b6 ks j:=by rw[<- q2,hkk]
    rwa [r5 hj] at this
   exact (jK (sg:=w3 x) (ks:=ks) hs mG (hx.st hlo) hlo hir hx.posL hd ks.length (Nat.le_refl _)).2
  ·exact .inl c
set_option maxHeartbeats 2000000 in
theorem pY (x:o8) (ks:List Int) (hxn:∀a,BI (b6 x.2.2.2 a)):Ct Tryz.prog 10 [b8 eX x,b8 (eL eI) ks] (kB true):=by
 refine Ct.mk Tryz.func10 rfl Tryz.ntmps10 rfl (fun w J=>?_); refine g8 ?_; refine jb 2 rfl ?_; refine l6 ?_; refine Tr.frzB 2 [2] eX (x:=x) ⟨rfl,trivial⟩ rfl ?_; refine jn ?_; refine i5 ?_; refine jc rT ?_; refine i7 ?_; refine Tr.cnd rfl ?_ ?_
 ·intro h1
  exact absurd h1 (by decide)
 ·intro h1
  refine l3 ?_; refine jc (tR x) ?_; refine m9 ?_; refine d5.gd rfl rfl rfl (RR rfl id rfl (fun hp h=>QK (id hp) h)) rfl rfl ?_; refine j1 ?_; refine Tr.cnd rfl ?_ ?_
  ·intro h3
   refine j3 ?_
   exact g6.res1 (fn:=Tryz.f10) rfl (.b rfl zi<|.nil)
  ·intro h3
   have hs3:DK x=true/\(ks.length<=12\/60<ks.length):=by simp at h3; exact ⟨h3.1.1,by omega⟩
   have hsm:=ag7 hs3.1 hxn
   have hkl:=hs3.2
   have hk70:ks.length<=70:=by simp at h3; omega
   refine l3 ?_; refine jc (qP x ks hsm hkl) ?_; refine u5 ?_; refine jc (sS x hsm) ?_; refine i7 ?_; refine Tr.meet2 (σ:=Unit) [⟨1,true,_,_⟩,⟨2,true,_,_⟩,⟨5,true,_,_⟩,⟨6,true,_,_⟩] [] (zk) (.nil) (fun _=>[⟨7,true,[],kI (if G3 x≠0 then G3 x else K0 ks)⟩]) (fun _=>[]) (fun _=>True) ?_ ?_
   ·skip
    refine l3 ?_; refine jq ?_ ?_
    ·intro h7
     refine g8 ?_; refine jc (sE ks) ?_; refine g8 ?_
     exact d9.cut (()) zi (d6.mk (.i rfl (by rw[if_neg (fun a=>a h7)])<|zk) (.nil) rfl)
    ·intro h7
     refine i5 ?_
     exact d9.cut (()) zi (d6.mk (.i rfl (by rw[if_pos h7])<|zk) (.nil) rfl)
   ·intro _ hM
    refine jn ?_; refine j3 ?_; refine jq ?_ ?_
    ·intro h9
     have he:O7 x ks=if G3 x≠0 then G3 x else K0 ks:=by unfold O7; by_cases c:G3 x=0; (simp only[c,ne_eq,not_true_eq_false,if_false] at h9 ⊢; rw[if_pos h9]); (rw[if_pos c,if_pos c])
     have hl0:N3 x ks=[]:=by unfold N3; rw[he,if_pos h9]
     refine K3 ?_; exact g6.res1 (fn:=Tryz.f10) rfl (.b rfl (by rw[he,hl0]; simp)<|.nil)
    ·intro h9
     replace h9:=Classical.not_not.1 h9
     have hz:G3 x=0:=Classical.byContradiction fun c=>by rw[if_pos c] at h9; exact c h9
     have hc:K0 ks=0:=by rw[if_neg (fun a=>a hz)] at h9; exact h9
     obtain ⟨hx,hir⟩:=ab0 hz hsm
     obtain ⟨D,M,hlo⟩:=hx.d0 hsm
     have hck:=UR hc
     obtain ⟨hl1,hl2⟩:=pS hx hlo hir hz hck.2 hck.1
     refine l3 ?_; refine jc (sF x D M ks hx hlo hir zo hck.2) ?_; refine v9 ?_; refine jc (cV x (ks.length:Int) hsm zo zo) ?_; refine l6 ?_; refine ja 10 ?_; refine B3 ?_; refine Tr.cnd rfl ?_ ?_
     ·intro h13
      try simp only[decide_eq_false_iff_not,Bool.not_eq_true'] at h13
      have hnp:¬(posL (w3 x) x.2.1.length (D2 x ks ks.length)):=by simpa using h13
      have he:O7 x ks=11:=by unfold O7; rw[if_neg (fun a=>a hz),if_neg (fun a=>a hc),if_neg hnp]
      have hl0:N3 x ks=[]:=by unfold N3; rw[he,if_pos (by decide)]
      have hpa:=hl2 hnp
      refine K3 ?_; refine d5.gd rfl rfl rfl (i6 (fun hp=>IZ (U2 x ks.length) ks) (.a rfl id<|.a rfl id<|.nil)) rfl rfl ?_; refine i5 ?_; refine d5.gd rfl rfl rfl (SJ rfl id rfl (fun hp h=>QJ (id hp) h)) rfl rfl ?_; refine l3 ?_; exact g6.res1 (fn:=Tryz.f10) rfl (.b rfl (by rw[he,hl0]; simp; exact hpa)<|.nil)
     ·intro h13
      try simp only[decide_eq_true_eq,Bool.not_eq_false'] at h13
      have hp:(posL (w3 x) x.2.1.length (D2 x ks ks.length)):=by simpa using h13
      have he:O7 x ks=0:=by unfold O7; rw[if_neg (fun a=>a hz),if_neg (fun a=>a hc),if_pos hp]
      have hl0:N3 x ks=(D2 x ks ks.length).map m8:=by unfold N3; rw[he,if_neg (fun a=>a rfl)]
      obtain ⟨p1,p2,p3⟩:=hl1 hp
      refine m9 ?_; refine d5.gd rfl rfl rfl (i6 (fun hp=>UY (N3 x ks) (if (posL (w3 x) x.2.1.length (D2 x ks ks.length)) then (D2 x ks ks.length).map m8 else [])) (.a rfl id<|.a rfl id<|.nil)) rfl rfl ?_; refine j1 ?_; refine d5.gd rfl rfl rfl (i6 (fun hp=>IZ (U2 x ks.length) ks) (.a rfl id<|.a rfl id<|.nil)) rfl rfl ?_; refine l6 ?_; refine d5.gd rfl rfl rfl (i6 (fun hp=>UY (Z9 x ks.length).2.2.2 (N3 x ks)) (.a rfl id<|.a rfl id<|.nil)) rfl rfl ?_; refine l6 ?_; exact g6.res1 (fn:=Tryz.f10) rfl (.b rfl (by rw[he,hl0,p1,p2,p3,if_pos hp]; simp)<|.nil)

end Go.Fl
