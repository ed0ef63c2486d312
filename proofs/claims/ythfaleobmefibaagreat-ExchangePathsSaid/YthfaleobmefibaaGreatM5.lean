/- Laws on walking typed knowledge through code, and contracts. -/
import Derived.Test.YthfaleobmefibaaGreatM4
import Derived.Ground.Names2Prog
import Derived.Shelf.Spec.SlicesInsert
import Derived.Shelf.Spec.SlicesInsertGrow
import Derived.Test.YthfaleobmefibaaGreatProg

/- Contracts: open with its errors; orbits. -/
namespace Go.Fl
open Go Go.Proofs
open b8 renaming op->tO
open i7 renaming op->rO
set_option maxRecDepth 100000

noncomputable abbrev NN (x:t8):AP:=U5 (K3 x.1) (oX x) (G8 x)
theorem mW (x:t8) (D:Int) (M:Nat) (hx:Q6 x) (hlo:F3 x.1.1 D M x.2.1.length (G8 x)):Ct Tryz.prog 66 [b7 eX x] (v6 [r5 N3 (NN x),kI 0]) :=
 mX x (K3 x.1) (B5 x) D M (XJ _ hx.fld) (X4 hx.fld) (UQ hx.fld) hx.rows hx.len (fun a h=>(hx.num a h).mono zo) hlo hx.pos
theorem mJ (f:y4) (p:B7) (h0:C8 f=0) (hp:C1 250 p):Ct Tryz.prog 82 [r5 v9 (K3 f),b7 m9 p] (kI (H2 f.1 (F1 f) (o0 f.1 p))):=(UQ h0).sign p hp
theorem kK (f:y4) (p q:B7) (h0:C8 f=0) (hp:C1 250 p) (hq:C1 250 q):Ct Tryz.prog 83 [r5 v9 (K3 f),b7 m9 p,b7 m9 q] (kI (H2 f.1 (F1 f) (J6 (o0 f.1 p) (o0 f.1 q)))):=(UQ h0).cmp p q hp hq
theorem lO (f:y4) (p:B7) (h0:C8 f=0) (hp:C1 250 p):Ct Tryz.prog 69 [r5 v9 (K3 f),b7 m9 p] (b7 m9 (o4 (o0 f.1 p))):=XH (K3 f) p 250 (X4 h0) hp zo
theorem mZ (x:t8) (h0:C8 x.1≠0):Ct Tryz.prog 66 [b7 eX x] (v6 [j4 (.pointer none),kI (H5 x)]):=by
 refine Ct.mk Tryz.func66 rfl Tryz.ntmps66 rfl (fun w J=>?_); refine g8 ?_; refine jb 1 rfl ?_; refine j3 ?_; refine jc (kU x.1 h0) ?_; refine C6 ?_; refine Tr.cnd rfl ?_ ?_
 ·intro h2
  refine l7 ?_; exact f0.res (fn:=Tryz.f66) (ts:=[2,3]) rfl rfl (.k rfl<|.i rfl (by unfold H5; rw[if_pos h0])<|.nil)
 ·intro h2
  exact absurd (of_decide_eq_false h2) (fun e=>e h0)

set_option maxHeartbeats 1000000 in
theorem nA (x:t8) (h0:C8 x.1=0) (hsm:AQ x) (hne:H5 x≠0):Ct Tryz.prog 66 [b7 eX x] (v6 [j4 (.pointer none),kI (H5 x)]):=by
 have he1:=(if_neg (fun e=>e h0):H5 x=_)
 have hpo:=X4 h0
 have ht1:=hsm.top
 have ht2:=hsm.bot
 have ht3:=hsm.len
 obtain ⟨ls,hls⟩:∃ls,ls=G8 x:=⟨_,rfl⟩
 have hll:ls.length=x.2.2.2.length:=by rw[hls,List.length_map]
 have hnk:∀k,k<x.2.2.2.length->b6 ls k=o0 x.1.1 (b6 x.2.2.2 k):=fun k hk=>by rw[hls]; exact cD hk
 refine Ct.mk Tryz.func66 rfl Tryz.ntmps66 rfl (fun w J=>?_); refine g8 ?_; refine jb 1 rfl ?_; refine j3 ?_; refine jc (XJ x.1 h0) ?_; refine C6 ?_; refine Tr.cnd rfl ?_ ?_
 ·intro h2
  exact absurd h2 (by decide)
 ·intro h2
  refine l5 ?_; refine tO (i9 (fun hp=>MC _) (.s rfl uu rfl<|.nil)) rfl rfl ?_; refine tO (i9 (fun hp=>LV _) (.a rfl uu<|.nil)) rfl rfl ?_; refine l7 ?_; refine jq ?_ ?_
  ·intro h5
   have hr:H5 x=E1 (x.2.1,x.2.2.1):=he1.trans (if_pos h5)
   refine l7 ?_
   exact f0.res (fn:=Tryz.f66) (ts:=[2,3]) rfl rfl (.k rfl<|.i rfl zi<|.nil)
  ·intro h5
   replace h5:=Classical.not_not.1 h5
   have he2:=he1.trans (if_neg (fun e=>e h5))
   refine C6 ?_; refine jq ?_ ?_
   ·intro h7
    have hr:H5 x=10:=he2.trans (if_pos zo)
    refine j3 ?_; exact f0.res (fn:=Tryz.f66) (ts:=[2,3]) rfl rfl (.k rfl<|.i rfl (by rw[hr])<|.nil)
   ·intro h7
    replace h7:=Classical.not_not.1 h7
    have he3:=he2.trans (if_neg zo)
    refine l5 ?_; refine tO (i9 (fun hp=>MC _) (.s rfl uu rfl<|.nil)) rfl rfl ?_; refine tO (i9 (fun hp=>QY _ (by show x.2.1.length<=1000; omega) (by show x.2.2.1.length<=1000; omega)) (.a rfl uu<|.nil)) rfl rfl ?_; refine tO (w5 (fun hp=>.cons rfl rfl rfl<|.cons rfl rfl rfl<|.nil)) rfl rfl ?_; refine jb 38 rfl ?_; refine w3 ?_; refine Tr.growC 38 3 139 rfl (ks':=[_,_,_,o7 139 0,_,_,_,_,_]) rfl rfl 30 m9 rfl (.cons inferInstance rfl<|.cons inferInstance rfl<|.cons inferInstance rfl<|.cons inferInstance rfl<|.cons inferInstance rfl<|.cons inferInstance rfl<|.cons inferInstance rfl<|.cons inferInstance rfl<|.cons inferInstance rfl<|inferInstance) ?_
    refine Tr.for1 (σ:=Nat) [⟨1,true,_,_⟩,⟨4,true,_,_⟩,⟨7,true,_,_⟩,⟨40,true,_,_⟩,⟨41,true,_,_⟩] [⟨1,_,_⟩] (fun k=>[⟨42,true,[],kI (k:Int)⟩]) (fun k=>[⟨38,[139],j1 [r5 v9 (K3 x.1),b7 (eL eI) x.2.1,b7 (eL eI) x.2.2.1,o7 139 k,j4 (.slice none 0 0),j4 (.slice none 0 0),j4 (.slice none 0 0),j4 (.slice none 0 0),j4 (.slice none 0 0)]⟩,⟨139,[],l3 true 30 m9 ((ls.take k).map o4) k⟩]) (fun k=>k<=x.2.2.2.length/\∀j,j<k->0<H2 x.1.1 (F1 x.1) (o0 x.1.1 (b6 x.2.2.2 j))) (fun k=>False) (fun k=>x.2.2.2.length-k) (0) ⟨by omega,fun j h=>absurd h (Nat.not_lt_zero _)⟩ (d8.mk (.i rfl zi<|zk) (.e (by rfl) rfl<|.a (by rfl) zi<|zk) rfl) ?_ ?_
    ·rintro k ⟨hk,hR⟩
     refine jn ?_; refine l5 ?_; refine jq ?_ ?_
     ·intro h11
      refine j3 ?_; refine ja 9 ?_; refine j3 ?_; refine jc (mJ x.1 (b6 x.2.2.2 k) h0 ((hsm.num k).mono zo)) ?_; refine j5 ?_; refine jq ?_ ?_
      ·intro h13
       have hr:H5 x=12:=he3.trans (if_neg (fun e=>by have e2:0<H2 x.1.1 (F1 x.1) (o0 x.1.1 (b6 x.2.2.2 k)):=e k zo; omega))
       refine C6 ?_; exact f0.res (fn:=Tryz.f66) (ts:=[2,3]) rfl rfl (.k rfl<|.i rfl (by rw[hr])<|.nil)
      ·intro h13
       replace h13:=Int.not_le.1 h13
       have hok:0<H2 x.1.1 (F1 x.1) (o0 x.1.1 (b6 x.2.2.2 k)):=by omega
       refine g8 ?_; refine Tr.drawM (m:=9) p7 (by kernel_rfl) rfl (by kernel_rfl) (by kernel_rfl) (by kernel_rfl) ?_; refine g8 ?_; refine rO (M9 rfl uu) rfl rfl ?_; refine i1 ?_; refine jd (lO x.1 (b6 x.2.2.2 k) h0 ((hsm.num k).mono zo)) ?_; refine i7.new (A1 m9 58 (fun hp=>.cons rfl<|.nil) rfl rfl rfl rfl) rfl rfl rfl rfl ?_; refine i6 ?_; refine b8.wkC 38 (.k<|.k<|.k<|.any<|.k<|.k<|.k<|.k<|.k<|.nil) rfl ?_; refine i6 ?_; refine jl ?_; refine tO (M9 rfl uu) rfl rfl ?_; refine g8 ?_; refine b8.finN ?_; refine l5 ?_
       exact g6.lp (k+1) ⟨by omega,fun j hj=>by by_cases e:j=k; (rw[e]; exact hok); exact hR j zo⟩ zo (d8.mk (.i rfl zi<|zk) (.e (by rfl) rfl<|.a (by rw[V2 zo,List.map_append,hnk k zo]; rfl) zi<|zk) rfl)
     ·intro h11
      replace h11:=Int.not_lt.1 h11
      refine i1 ?_
      exact g6.cut (k) (hne (he3.trans (if_pos fun j hj=>hR j zo))) (d8.mk (.i rfl zi<|zk) (zk) rfl)
    ·intro k hE0
     exact hE0.elim

end Go.Fl

/- Contracts: errors of Apply and Orbit. -/
namespace Go.Fl
open Go Go.Proofs
open b8 renaming op->tO
open i7 renaming op->rO
set_option maxRecDepth 100000

theorem mY (x:t8) (hsm:AQ x) (hne:H5 x≠0):Ct Tryz.prog 66 [b7 eX x] (v6 [j4 (.pointer none),kI (H5 x)]):=by
 by_cases h0:C8 x.1=0
 ·exact nA x h0 hsm hne
 ·exact mZ x h0
end Go.Fl

/- The law of orbits. -/
namespace Go.Fl
open Go Go.Proofs
open b8 renaming op->tO
open i7 renaming op->rO
set_option maxRecDepth 100000

theorem Q6.dm {x:t8} (hx:Q6 x) (hsm:AQ x) {ps:List B7} (hp:∀p∈ps,C1 2 p) (hl:ps.length<=2):∃(D:Int) (M:Nat),F3 x.1.1 D M x.2.1.length (G8 x)/\∀p∈ps,HB D M (o0 x.1.1 p):=by
 have hpo:=X4 hx.fld
 obtain ⟨D,M,h1,h2⟩:=vI (more:=ps.map (o0 x.1.1)) hpo hx.len hx.rows.le (fun a _=>hsm.num a) (by rw[List.length_map]; exact hl) fun v hv=>by
  obtain ⟨p,hpm,rfl⟩:=List.mem_map.1 hv
  exact ⟨KJ hpo,Y1 hpo (hp p hpm)⟩
 exact ⟨D,M,h1,fun p hpm=>h2 _ (List.mem_map.2 ⟨p,hpm,rfl⟩)⟩
end Go.Fl

/- Places of letters; lists that are filled letter by letter; renumbered rows. No program in sight. -/
namespace Go.Fl
open Go
end Go.Fl

/- Contracts: the reference: renumbered rows, normal and inverse exchanges; comparisons of exchanges. -/
namespace Go.Fl
open Go Go.Proofs
open b8 renaming op->tO
open i7 renaming op->rO
set_option maxRecDepth 100000

end Go.Fl

/- Contracts: Check, Normal, Total, Shifts and Inverse of the program. -/
namespace Go.Fl
open Go Go.Proofs
open b8 renaming op->tO
open i7 renaming op->rO
set_option maxRecDepth 100000

theorem YR (r:l8):Ct Tryz.prog 85 [b7 eO r] (b7 eO (r.2,r.1)):=by
 refine Ct.mk Tryz.func85 rfl Tryz.ntmps85 rfl (fun w J=>?_); refine g8 ?_; refine jb 1 rfl ?_; refine ja 2 ?_; refine j5 ?_; refine Tr.frzB 1 [1] eO (x:=r) ⟨rfl,trivial⟩ rfl ?_; refine jn ?_; refine n7 ?_; refine tO (w5 (fun hp=>.cons rfl rfl rfl<|.cons rfl rfl rfl<|.nil)) rfl rfl ?_; refine i1 ?_; exact f0.resC1 (fn:=Tryz.f85) rfl rfl (s6 rfl (by rfl))

theorem kT (r:z7) (hl:r.1.1.length<=1000):Ct Tryz.prog 142 [r5 v9 r] (b7 E3 r.1):=by
 refine Ct.mk Tryz.func142 rfl Tryz.ntmps142 rfl (fun w J=>?_); refine g8 ?_; refine ja 2 ?_; refine l5 ?_; refine tO (DT rfl uu) rfl rfl ?_; refine g8 ?_; refine Tr.cnd rfl ?_ ?_
 ·intro h1
  exact absurd h1 (by decide)
 ·intro h1
  refine n7 ?_; refine tO (CM rfl uu) rfl rfl ?_; refine g8 ?_; refine ja 3 ?_; refine j8 ?_; refine tO (i9 (fun hp=>AV _ zo) (.a rfl uu<|.nil)) rfl rfl ?_; refine B0 ?_
  exact f0.resC1 (fn:=Tryz.f142) rfl rfl (s6 rfl zi)

theorem mU (r:z7) (o q:l8) (ls:List m8) (l:List B7) (hf:r.1.1.length<=1000) (h1:q.1.length<=1000) (h2:q.2.length<=1000):Ct Tryz.prog 84 [r5 N3 (U5 r o ls),b7 eO q,b7 (eL m9) l] (b7 eX (r.1,q.1,q.2,l)):=by
 refine Ct.mk Tryz.func84 rfl Tryz.ntmps84 rfl (fun w J=>?_); refine g8 ?_; refine jb 4 rfl ?_; refine ja 6 ?_; refine j5 ?_; refine Tr.frzB 4 [4] eO (x:=q) ⟨rfl,trivial⟩ rfl ?_; refine jn ?_; refine Tr.draw 12 p7 (by kernel_rfl) ?_; refine i6 ?_; refine rO (CM rfl uu) rfl rfl ?_; refine g8 ?_; refine jd (kT r hf) ?_; refine g8 ?_; refine jd (AV q.1 zo) ?_; refine g8 ?_; refine jd (AV q.2 zo) ?_; refine g8 ?_; refine tO (w5 (fun hp=>.cons rfl rfl rfl<|.cons rfl rfl rfl<|.cons rfl rfl rfl<|.cons rfl rfl rfl<|.nil)) rfl rfl ?_
 refine i1 ?_; exact f0.resC1 (fn:=Tryz.f84) rfl rfl (s6 rfl (by rfl))

end Go.Fl

/- Contracts: errors of Check, Normal, Total, Shifts and Inverse. -/
namespace Go.Fl
open Go Go.Proofs
open b8 renaming op->tO
open i7 renaming op->rO
set_option maxRecDepth 100000

end Go.Fl

/- The law of exchanges. -/
namespace Go.Fl
open Go Go.Proofs
open b8 renaming op->tO
open i7 renaming op->rO
set_option maxRecDepth 100000

end Go.Fl

/- Sums of numbers: laws; numbers in order. No program in sight. -/
namespace Go.Fl
open Go
structure KY (p:List Int) (sg:m8->Int):Prop where
 pol:I1 p
 neg:∀v,A7 p v->sg (FB v)=-sg v
 add:∀u v,A7 p u->A7 p v->0<=sg u->0<sg v->0<sg (H3 u v)
 zero:∀v,A7 p v->sg v=0->v=v5 0
 int0:sg (v5 0)=0
section
variable {p:List Int} {sg:m8->Int} (h:KY p sg) {u v w:m8} (hu:A7 p u) (hv:A7 p v) (hw:A7 p w)
include h hu hv
include hw
end
end Go.Fl

/- The sign of a field's numbers goes with sums. No program in sight. -/
namespace Go.Fl
open Go
theorem uQ {p:List Int} {I:Iv} {cs:List Int}:Y0 p I cs=1\/Y0 p I cs=-1\/Y0 p I cs=0:=by
 unfold Y0
 split
 ·exact .inl rfl
 ·split
  ·exact .inr (.inl rfl)
  ·exact .inr (.inr rfl)
theorem jH {a:Int}:(0<a/\s7 a 0=1)\/(a<0/\s7 a 0=-1)\/(a=0/\s7 a 0=0):=by
 unfold s7
 by_cases h:a<0
 ·exact .inr (.inl ⟨h,if_pos h⟩)
 ·by_cases h2:0<a
  ·exact .inl ⟨h2,by rw[if_neg h,if_pos h2]⟩
  ·exact .inr (.inr ⟨by omega,by rw[if_neg h,if_neg h2]⟩)
end Go.Fl

/- The sign of a field's numbers goes with sums: fields of every degree. No program in sight. -/
namespace Go.Fl
open Go
end Go.Fl

/- Points, letters and images: the interval of a point is the only one that holds it. No program in sight. -/
namespace Go.Fl
open Go
section
variable {p:List Int} {sg:m8->Int} {D:Int} {M n:Nat} {ls:List m8} {row:List Int} (h:KY p sg) (hlo:F3 p D M n ls) (hr:y3 row n) (hpos:∀a,a<n->0<sg (b6 ls a))
include h hlo hr
include hpos
end
end Go.Fl

/- The image of a point lies in the image of its interval; the inverse exchange takes it back. No program in sight. -/
namespace Go.Fl
open Go
structure gU (p:List Int) (sg:m8->Int) (D:Int) (M:Nat) (o:List Int×List Int) (ls:List m8):Prop where
 sgl:KY p sg
 len:F3 p D M o.1.length ls
 top:y3 o.1 o.1.length
 bot:y3 o.2 o.1.length
 two:1<=o.1.length
 pos:∀a,a<o.1.length->0<sg (b6 ls a)
section
variable {p:List Int} {sg:m8->Int} {D:Int} {M:Nat} {o:List Int×List Int} {ls:List m8} (h:gU p sg D M o ls) {pv:m8} (hv:A7 p pv)
include h hv
end
end Go.Fl

/- The law: an exchange is a bijection. -/
namespace Go.Fl
open Go Go.Proofs
open b8 renaming op->tO
open i7 renaming op->rO
set_option maxRecDepth 100000

end Go.Fl

/- Connections: which interval begins at a point. No program in sight. -/
namespace Go.Fl
open Go
def hJ (sg:m8->Int) (row:List Int) (ls:List m8) (pv:m8):Option Int:=if NG sg (H9 ls row) row pv (row.length-1)≠b6 row 0/\sg (J6 (b6 (H9 ls row) (NG sg (H9 ls row) row pv (row.length-1)).toNat) pv)=0 then some (NG sg (H9 ls row) row pv (row.length-1)) else none
section
variable {p:List Int} {sg:m8->Int} {D:Int} {M n:Nat} {ls:List m8} {row:List Int} (h:KY p sg) (hlo:F3 p D M n ls) (hr:y3 row n) (hpos:∀a,a<n->0<sg (b6 ls a)) {pv:m8} (hv:A7 p pv)
include h hlo hr hpos hv
end
end Go.Fl

/- Contracts: connections of exchanges. -/
namespace Go.Fl
open Go Go.Proofs
open b8 renaming op->tO
open i7 renaming op->rO
set_option maxRecDepth 100000

end Go.Fl

/- Contracts: connections of the program. -/
namespace Go.Fl
open Go Go.Proofs
open b8 renaming op->tO
open i7 renaming op->rO
set_option maxRecDepth 100000

end Go.Fl

/- Contracts: connections of the reference; the law of connections. -/
namespace Go.Fl
open Go Go.Proofs
open b8 renaming op->tO
open i7 renaming op->rO
set_option maxRecDepth 100000

end Go.Fl

/- The law of connections. -/
namespace Go.Fl
open Go Go.Proofs
open b8 renaming op->tO
open i7 renaming op->rO
set_option maxRecDepth 100000

theorem XB (n a b:Int):Ct Tryz.prog 34 [kI n,kI a,kI b] (kB (decide (a<=n/\n<=b))):=by
 refine Ct.mk Tryz.func34 rfl Tryz.ntmps34 rfl (fun w J=>?_); refine JJ ?_; exact f0.res1 (fn:=Tryz.f34) rfl (.b rfl (by symm; exact Bool.decide_and _ _)<|.nil)

end Go.Fl

/- Matrices of integers, minors, determinants: how large they are. The first of so many times. No program in sight. -/
namespace Go.Fl
open Go
section
variable {α:Type} [Inhabited α] {l:List α} {r k:Nat}
end
end Go.Fl

/- Contracts: lowest terms over any denominator, matrices and minors. -/
namespace Go.Fl
open Go Go.Proofs
open b8 renaming op->tO
open i7 renaming op->rO
set_option maxRecDepth 100000

end Go.Fl

/- Contracts: matrices of multiplications, determinants. -/
namespace Go.Fl
open Go Go.Proofs
open b8 renaming op->tO
open i7 renaming op->rO
set_option maxRecDepth 100000

end Go.Fl

/- Contracts: inverses and quotients of the reference. -/
namespace Go.Fl
open Go Go.Proofs
open b8 renaming op->tO
open i7 renaming op->rO
set_option maxRecDepth 100000

end Go.Fl

/- Contracts: first returns. -/
namespace Go.Fl
open Go Go.Proofs
open b8 renaming op->tO
open i7 renaming op->rO
set_option maxRecDepth 100000

end Go.Fl

/- The law of first returns. -/
namespace Go.Fl
open Go Go.Proofs
open b8 renaming op->tO
open i7 renaming op->rO
set_option maxRecDepth 100000

end Go.Fl

/- Rows as they are printed, step by step. Plain Lean, no program in sight. -/
namespace Go.Fl
end Go.Fl

/- Irreducible rows, step by step. Plain Lean, no program in sight. -/
namespace Go.Fl
theorem tV {r:l8} {k:Nat}:BL r k 0=true:=rfl
theorem tU {r:l8} {k i:Nat} (h:i<r.2.length):BL r k (i+1)=(BL r k i&&decide (b6 r.2 i∈r.1.take k)):=by
 unfold BL
 rw[V2 h,List.all_append]
 simp
theorem pE {r:l8} (h:A3 r) {k:Nat} (h1:1<=k) (hk:k<r.1.length) (hs:BL r k k=true):x9 r=false:=by
 unfold x9
 rw[decide_eq_false_iff_not]
 intro hh
 have:=hh k hk h1
 rw[NE h zo,hs] at this
 cases this
theorem pF {r:l8} {k:Nat} (h1:1<=k) (hk:k<r.1.length) (hs:O9 r k=false):x9 r=false:=by
 unfold x9
 rw[decide_eq_false_iff_not]
 intro hh
 have:=hh k hk h1
 rw[hs] at this
 cases this
theorem aM {r:l8} (h:∀k,k<r.1.length->1<=k->O9 r k=true):x9 r=true:=decide_eq_true h
end Go.Fl

/- Steps of rows, and their matrices. No program in sight. -/
namespace Go.Fl
open Go
def L1 (f:Int->Bool):List Int->Int
 | []=>-1
 | x::l=>if f x=true then 0 else if L1 f l<0 then -1 else L1 f l+1
theorem SU {f:Int->Bool}:∀{l:List Int},(∀i,i<l.length->f (b6 l i)=false)->L1 f l=-1
 | [],_=>rfl
 | x::l,h=>by
  have h0:=h 0 (by simp)
  have e:b6 (x::l) 0=x:=rfl
  rw[e] at h0
  rw[L1,if_neg (by rw[h0]; simp),SU fun i hi=>h (i+1) (by simpa using hi)]
  rfl
theorem NF {f:Int->Bool}:∀{l:List Int} {k:Nat},k<l.length->(∀i,i<k->f (b6 l i)=false)->f (b6 l k)=true->L1 f l=k
 | [],k,hk,_,_=>by simp at hk
 | x::l,0,_,_,h=>by
  have e:b6 (x::l) 0=x:=rfl
  rw[e] at h
  rw[L1,if_pos h]; rfl
 | x::l,k+1,hk,hn,h=>by
  have h0:=hn 0 zo
  have e:b6 (x::l) 0=x:=rfl
  rw[e] at h0
  have ih:=NF (l:=l) (k:=k) (by simpa using hk) (fun i hi=>hn (i+1) zo) h
  rw[L1,if_neg (by rw[h0]; simp),ih,if_neg zo]
  rfl
theorem ST {f:Int->Bool}:∀{l:List Int},decide (0<=L1 f l)=l.any f
 | []=>rfl
 | x::l=>by
  have ih:=ST (f:=f) (l:=l)
  rw[List.any_cons,L1]
  by_cases h:f x=true
  ·rw[if_pos h,h]; rfl
  ·rw[if_neg h,Bool.eq_false_iff.2 h,Bool.false_or,<- ih]
   split
   ·rw[decide_eq_decide]; omega
   ·rw[decide_eq_decide]; omega
def o6 (l:List Int):Int:=b6 l (l.length-1)
def K6 (row:List Int) (b:Int):List Int:=BB (row.take (row.length-1)) (L1 (fun y=>decide (b=y)) (row.take (row.length-1))+1).toNat (o6 row)
def G9 (r:l8) (kind:Int):l8:=if kind=0 then (r.1,K6 r.2 (o6 r.1)) else (K6 r.1 (o6 r.2),r.2)
def y0 (r:l8) (kind:Int):Int:=if kind=0 then o6 r.1 else o6 r.2
def y2 (r:l8) (kind:Int):Int:=if kind=0 then o6 r.2 else o6 r.1
def F7 (row:List Int) (l b:Int):Nat->List Int
 | 0=>[]
 | i+1=>F7 row l b i++(if b6 row i≠l then [b6 row i] else [])++(if b6 row i=b then [l] else [])
theorem KK {row:List Int} {i:Nat} (h:i<row.length):row.take (i+1)=row.take i++[b6 row i]:=by
 rw[List.take_succ_eq_append_getElem h]
 congr 2
 simp[b6,h]
theorem OU {row:List Int} {n:Nat} (hl:row.length=n) (h:1<=n):row.take (n-1)++[o6 row]=row:=by
 unfold o6
 rw[hl,<- KK zo,show n-1+1=n by omega,<- hl,List.take_length]
theorem pG {row:List Int} {n j:Nat} {b:Int} (hp:y3 row n) (hj:j<n-1) (hb:b6 row j=b):L1 (fun y=>decide (b=y)) (row.take (row.length-1))=(j:Int):=by
 have hl:=hp.2.2
 have ht:(row.take (row.length-1)).length=n-1:=by rw[List.length_take]; omega
 have hg:∀i,i<n-1->b6 (row.take (row.length-1)) i=b6 row i:=fun i hi=>by
  unfold b6
  simp only[List.getD_eq_getElem?_getD]
  rw[List.getElem?_take,if_pos zo]
 refine NF zo (fun i hi=>?_) ?_
 ·rw[hg i zo]
  refine decide_eq_false fun e=>?_
  have:=HG hp.2.1 (i:=i) (j:=j) zo zo (by rw[hb,<- e])
  omega
 ·rw[hg j hj,hb]; exact decide_eq_true rfl
theorem eM {row:List Int} {n j:Nat} {b:Int} (hp:y3 row n) (hj:j<n-1) (hb:b6 row j=b):K6 row b=row.take (j+1)++[o6 row]++(row.take (n-1)).drop (j+1):=by
 have hl:=hp.2.2
 unfold K6 BB
 rw[pG hp hj hb,show ((j:Int)+1).toNat=j+1 by omega,hl,List.take_take,Nat.min_eq_left zo]
theorem UR {row:List Int} {n:Nat} {b:Int} (hl:row.length=n) (h:1<=n):(K6 row b).Perm row:=by
 unfold K6 BB
 generalize (L1 (fun y=>decide (b=y)) (row.take (row.length-1))+1).toNat=i
 have h1:((row.take (row.length-1)).take i++[o6 row]++(row.take (row.length-1)).drop i).Perm ((row.take (row.length-1)).take i++(row.take (row.length-1)).drop i++[o6 row]):=by
  rw[List.append_assoc,List.append_assoc]
  exact List.Perm.append_left _ List.perm_append_comm
 rw[List.take_append_drop,hl,OU hl h] at h1
 rw[hl]; exact h1
theorem sP {p q:List Int} {n:Nat} (h:q.Perm p) (hp:y3 p n):y3 q n:=by
 have hl:=h.length_eq
 refine ⟨fun i hi=>?_,h.nodup_iff.2 hp.2.1,by rw[hl]; exact hp.2.2⟩
 have:b6 q i∈p:=h.mem_iff.1 (G5 hi)
 obtain ⟨k,hk,e⟩:=List.mem_iff_getElem.1 this
 have:=hp.1 k hk
 rw[show b6 p k=p[k] by simp[b6,hk],e] at this
 exact this
theorem aN {r:l8} (h:A3 r) (hi:x9 r=true):A3 (r.2,r.1)/\x9 (r.2,r.1)=true:=by
 have hl:=h.len
 refine ⟨⟨hl.symm,by show 2<=r.2.length; rw[hl]; exact h.two,by show r.2.length<=8; rw[hl]; exact h.le,by show y3 r.2 r.2.length; rw[hl]; exact h.p2,by show y3 r.1 r.2.length; rw[hl]; exact h.p1⟩,decide_eq_true fun k hk h1=>?_⟩
 have hk:k<r.2.length:=hk
 have hi:=of_decide_eq_true hi k zo h1
 rw[NE h zo,Bool.not_eq_true'] at hi
 unfold BL at hi
 unfold O9
 rw[<- Bool.not_eq_true,List.all_eq_true] at hi
 refine Classical.byContradiction fun hn=>hi fun a ha=>?_
 refine Classical.byContradiction fun hq=>hn ?_
 exact List.any_eq_true.2 ⟨a,ha,by simpa using hq⟩
theorem SZ {r:l8} (h:A3 r) (hi:x9 r=true):o6 r.1≠o6 r.2:=by
 have hl:=h.len
 have h2:=h.two
 have hi:=of_decide_eq_true hi (r.1.length-1) zo zo
 obtain ⟨a,ha,hb⟩:=List.any_eq_true.1 hi
 simp only[Bool.not_eq_true',decide_eq_false_iff_not] at hb
 intro e
 have h1:=OU (row:=r.1) rfl zo
 have d:=h.p1.2.1
 rw[<- h1] at d
 have:a≠o6 r.1:=fun e=>(List.nodup_append.1 d).2.2 a ha (o6 r.1) (by simp) e
 have ha2:a∈r.2:=by
  have hm:a∈r.1:=List.mem_of_mem_take ha
  obtain ⟨i,hi',e'⟩:=List.mem_iff_getElem.1 hm
  have hr:=h.p1.1 i hi'
  rw[show b6 r.1 i=r.1[i] by simp[b6,hi'],e'] at hr
  obtain ⟨j,hj,ej⟩:=KA h.p2.2.1 h.p2.1 h.p2.2.2 hr.1 hr.2
  rw[<- ej]; exact G5 zo
 have h3:=OU (row:=r.2) hl zo
 rw[<- h3] at ha2
 rcases List.mem_append.1 ha2 with ha2 | ha2
 ·exact hb ha2
 ·rw[List.mem_singleton,<- e] at ha2; exact this ha2
theorem WE {row:List Int} {n:Nat} {b:Int} (hp:y3 row n) (h0:0<=b/\b<n) (hb:b≠o6 row):∃j,j<n-1/\b6 row j=b:=by
 obtain ⟨j,hj,e⟩:=KA hp.2.1 hp.1 hp.2.2 h0.1 h0.2
 refine ⟨j,Nat.lt_of_le_of_ne zo fun e'=>hb ?_,e⟩
 unfold o6
 rw[hp.2.2,<- e',e]
theorem CF {row:List Int} {n:Nat} (hp:y3 row n) (h:1<=n):0<=o6 row/\o6 row<n:=by
 have:=hp.1 (row.length-1) (by have:=hp.2.2; omega)
 exact this
theorem bN {r:l8} (h:A3 r) (hi:x9 r=true):A3 (r.1,K6 r.2 (o6 r.1))/\x9 (r.1,K6 r.2 (o6 r.1))=true:=by
 have hl:=h.len
 have h2:=h.two
 have hp:=UR (b:=o6 r.1) hl zo
 have hv:A3 (r.1,K6 r.2 (o6 r.1)):=⟨by show (K6 r.2 (o6 r.1)).length=_; rw[hp.length_eq,hl],h.two,h.le,h.p1,sP hp h.p2⟩
 refine ⟨hv,decide_eq_true fun k hk h1=>?_⟩
 have hk:k<r.1.length:=hk
 obtain ⟨j,hj,ej⟩:=WE h.p2 (CF h.p1 zo) (SZ h hi)
 have es:=eM h.p2 hj ej
 by_cases c:k<=j
 ·have e:(K6 r.2 (o6 r.1)).take k=r.2.take k:=by
   rw[es,List.append_assoc,List.take_append_of_le_length (by rw[List.length_take]; omega),List.take_take,Nat.min_eq_left zo]
  have:=of_decide_eq_true hi k hk h1
  unfold O9 at this ⊢
  show (r.1.take k).any (fun a=>!decide (a∈(K6 r.2 (o6 r.1)).take k))=true
  rw[e]; exact this
 ·rw[NE hv (Nat.le_of_lt hk)]
  have hm:o6 r.1∈(K6 r.2 (o6 r.1)).take k:=by
   rw[es,List.append_assoc,List.take_append,List.mem_append]
   left
   rw[List.take_take,Nat.min_eq_right zo,KK zo,ej]
   simp
  have hn:o6 r.1∉r.1.take k:=fun hm=>by
   have d:=h.p1.2.1
   rw[<- OU (row:=r.1) rfl zo] at d
   refine (List.nodup_append.1 d).2.2 (o6 r.1) ?_ (o6 r.1) (by simp) rfl
   exact List.Sublist.subset (List.take_sublist_take_left zo) hm
  rw[Bool.not_eq_true']
  unfold BL
  refine Bool.eq_false_iff.2 fun ha=>hn ?_
  have:=List.all_eq_true.1 ha (o6 r.1) hm
  simpa using this
theorem TN {r:l8} (h:A3 r) (hi:x9 r=true) (kind:Int):A3 (G9 r kind)/\x9 (G9 r kind)=true:=by
 unfold G9
 split
 ·exact bN h hi
 ·obtain ⟨h1,h2⟩:=aN h hi
  obtain ⟨h3,h4⟩:=bN h1 h2
  exact aN h3 h4
theorem bR {row:List Int} {n j:Nat} {b:Int} (hp:y3 row n) (hj:j<n-1) (hb:b6 row j=b):∀{i:Nat},i<=j->F7 row (o6 row) b i=row.take i
 | 0,_=>rfl
 | i+1,hi=>by
  have hl:=hp.2.2
  rw[F7,bR hp hj hb zo,if_pos,if_neg,List.append_nil,KK zo]
  ·intro e
   have:=HG hp.2.1 (i:=i) (j:=j) zo zo (by rw[e,hb])
   omega
  ·intro e
   have:=HG hp.2.1 (i:=i) (j:=row.length-1) zo zo e
   omega
theorem bQ {row:List Int} {n j:Nat} {b:Int} (hp:y3 row n) (hj:j<n-1) (hb:b6 row j=b):∀{i:Nat},j<i->i<=n-1->F7 row (o6 row) b i=row.take (j+1)++[o6 row]++(row.take i).drop (j+1)
 | 0,q,_=>by omega
 | i+1,q,hi=>by
  have hl:=hp.2.2
  have hne:b6 row i≠o6 row:=fun e=>by
   have:=HG hp.2.1 (i:=i) (j:=row.length-1) zo zo e
   omega
  by_cases e:i=j
  ·subst e
   rw[F7,bR hp hj hb (Nat.le_refl _),if_pos hne,if_pos hb,<- KK zo,List.drop_of_length_le (by rw[List.length_take]; omega),List.append_nil]
  ·rw[F7,bQ hp hj hb zo zo,if_pos hne,if_neg,List.append_nil,KK (row:=row) (i:=i) zo,List.drop_append_of_le_length (by rw[List.length_take]; omega),List.append_assoc]
   intro e'
   have:=HG hp.2.1 (i:=i) (j:=j) zo zo (by rw[e',hb])
   omega
theorem bP {row:List Int} {n:Nat} {b:Int} (hp:y3 row n) (h2:2<=n) (h0:0<=b/\b<n) (hb:b≠o6 row):F7 row (o6 row) b row.length=K6 row b:=by
 obtain ⟨j,hj,ej⟩:=WE hp h0 hb
 have hl:=hp.2.2
 rw[hl,show n=(n-1)+1 by omega,F7,bQ hp hj ej zo (Nat.le_refl _),eM hp hj ej]
 have e:b6 row (n-1)=o6 row:=by unfold o6; rw[hl]
 rw[if_neg (fun a=>a e),if_neg (fun a=>hb (by rw[<- a,e])),List.append_nil,List.append_nil]
theorem TM {row:List Int} {l b:Int}:∀{i:Nat},(F7 row l b i).length<=2*i
 | 0=>Nat.le_refl _
 | i+1=>by
  rw[F7,List.length_append,List.length_append]
  have:=TM (row:=row) (l:=l) (b:=b) (i:=i)
  have h1:(if b6 row i≠l then [b6 row i] else []).length<=1:=by split<;>simp
  have h2:(if b6 row i=b then [l] else []).length<=1:=by split<;>simp
  omega
abbrev ZM:=List (List Int)
structure I9 (n B:Nat) (m:ZM):Prop where
 len:m.length=n
 row:∀i,i<n->(b6 m i).length=n
 rg:∀i j,0<=b6 (b6 m i) j/\b6 (b6 m i) j<=B
def GD (to col:Nat) (row:List Int):List Int:=row.set to (b6 row to+b6 row col)
def G2 (m:ZM) (to col:Nat):ZM:=m.map (GD to col)
theorem JR {m:ZM} {f:List Int->List Int} {i:Nat} (h:i<m.length):b6 (m.map f) i=f (b6 m i):=by simp[b6,h]
theorem HH {l:List Int} {k j:Nat} {x:Int} (h:k<l.length):b6 (l.set k x) j=if j=k then x else b6 l j:=by
 by_cases e:j=k
 ·subst e; rw[if_pos rfl]; simp[b6,h]
 ·rw[if_neg e]; simp[b6,List.getElem?_set_ne (Ne.symm e)]
theorem gW {n B:Nat} {m:ZM} {to col:Nat} (h:I9 n B m) (ht:to<n):I9 n (2*B) (G2 m to col):=by
 have hl:(G2 m to col).length=n:=by unfold G2; rw[List.length_map,h.len]
 refine ⟨hl,fun i hi=>?_,fun i j=>?_⟩
 ·unfold G2; rw[JR (by rw[h.len]; exact hi)]; unfold GD; rw[List.length_set]; exact h.row i hi
 ·by_cases hi:i<n
  ·unfold G2; rw[JR (by rw[h.len]; exact hi)]; unfold GD
   rw[HH (by rw[h.row i hi]; exact ht)]
   have a:=h.rg i to; have b:=h.rg i col; have d:=h.rg i j
   split<;>omega
  ·rw[show b6 (G2 m to col) i=[] from by simp[b6,List.getElem?_eq_none (show (G2 m to col).length<=i by omega)]; rfl]
   show 0<=(0:Int)/\(0:Int)<=_
   omega
end Go.Fl

/- The matrix of a step, and products with it. No program in sight. -/
namespace Go.Fl
open Go
def w7 (n:Nat):List (List Int):=l6 n fun i=>(List.replicate n 0).set i 1
def V4 (m s:ZM) (i j k:Nat):Int:=r6 (fun q=>b6 (b6 m i) q*b6 (b6 s q) j) k
def KM (m s:ZM):ZM:=l6 m.length fun i=>l6 (b6 s 0).length fun j=>V4 m s i j s.length
def R6 (m s:ZM) (n i j k:Nat):List Int:=l6 n fun q=>if q<j then V4 m s i q n else if q=j then V4 m s i j k else 0
theorem tT {m s:ZM} {n i:Nat}:List.replicate n 0=R6 m s n i 0 0:=by
 refine F5 (by rw[List.length_replicate]; exact q9.symm) fun q hq=>?_
 rw[List.length_replicate] at hq
 unfold R6
 rw[s9 hq,if_neg zo]
 have:b6 (List.replicate n (0:Int)) q=0:=by simp[b6,hq]
 rw[this]
 split<;>rfl
theorem OX {m s:ZM} {n i j k:Nat}:(R6 m s n i j k).length=n:=q9
theorem tQ {m s:ZM} {n i j k:Nat} (h:j<n):b6 (R6 m s n i j k) j=V4 m s i j k:=by unfold R6; rw[s9 h,if_neg zo,if_pos rfl]
theorem tS {m s:ZM} {n i j k:Nat} (h:j<n):(R6 m s n i j k).set j (V4 m s i j k+b6 (b6 m i) k*b6 (b6 s k) j)=R6 m s n i j (k+1):=by
 refine F5 (by rw[List.length_set,OX,OX]) fun q hq=>?_
 rw[List.length_set,OX] at hq
 rw[HH (by rw[OX]; exact h)]
 unfold R6
 rw[s9 hq,s9 hq]
 by_cases e:q=j
 ·subst e; rw[if_pos rfl,if_neg zo,if_pos rfl]; rfl
 ·rw[if_neg e,if_neg e,if_neg e]
theorem tR {m s:ZM} {n i j:Nat}:R6 m s n i j n=R6 m s n i (j+1) 0:=by
 unfold R6
 refine D9 fun q hq=>?_
 by_cases h1:q<j
 ·rw[if_pos h1,if_pos zo]
 ·by_cases h2:q=j
  ·subst h2; rw[if_neg h1,if_pos rfl,if_pos zo]
  ·rw[if_neg h1,if_neg h2,if_neg zo]
   split<;>rfl
theorem tP {m s:ZM} {n i k:Nat}:R6 m s n i n k=l6 n fun j=>V4 m s i j n:=by
 unfold R6
 exact D9 fun q hq=>if_pos hq
def D2 (n p q:Nat):ZM:=(w7 n).set p ((b6 (w7 n) p).set q 1)
theorem cK {n i j:Nat} (hi:i<n) (hj:j<n):b6 (b6 (w7 n) i) j=if i=j then 1 else 0:=by
 unfold w7
 rw[s9 hi,HH (by rw[List.length_replicate]; exact hi)]
 by_cases e:j=i
 ·rw[if_pos e,if_pos e.symm]
 ·rw[if_neg e,if_neg (Ne.symm e)]; simp[b6,hj]
theorem EC {n:Nat}:(w7 n).length=n:=q9
theorem KN {n i:Nat} (h:i<n):(b6 (w7 n) i).length=n:=by unfold w7; rw[s9 h,List.length_set,List.length_replicate]
theorem RU {n p q i:Nat} (hp:p<n) (h:i<n):(b6 (D2 n p q) i).length=n:=by
 unfold D2
 by_cases e:i=p
 ·subst e
  rw[show b6 ((w7 n).set i ((b6 (w7 n) i).set q 1)) i=(b6 (w7 n) i).set q 1 by simp[b6,EC,h],List.length_set,KN h]
 ·rw[show b6 ((w7 n).set p ((b6 (w7 n) p).set q 1)) i=b6 (w7 n) i by simp[b6,List.getElem?_set_ne (Ne.symm e)],KN h]
theorem cC {n p q i j:Nat} (hp:p<n) (hq:q<n) (hpq:p≠q) (hi:i<n) (hj:j<n):b6 (b6 (D2 n p q) i) j=(if i=j then 1 else 0)+(if i=p/\j=q then 1 else 0):=by
 unfold D2
 by_cases e:i=p
 ·subst e
  rw[show b6 ((w7 n).set i ((b6 (w7 n) i).set q 1)) i=(b6 (w7 n) i).set q 1 by simp[b6,EC,hi],HH (by rw[KN hi]; exact hq),cK hi hj]
  by_cases c:j=q
  ·subst c; rw[if_pos rfl,if_neg hpq,if_pos ⟨rfl,rfl⟩]; rfl
  ·rw[if_neg c,if_neg (show ¬(i=i/\j=q) from fun a=>c a.2)]; omega
 ·rw[show b6 ((w7 n).set p ((b6 (w7 n) p).set q 1)) i=b6 (w7 n) i by simp[b6,List.getElem?_set_ne (Ne.symm e)],cK hi hj,if_neg (show ¬(i=p/\j=q) from fun a=>e a.1)]; omega
theorem fL {m:ZM} {n p q i j:Nat} (hp:p<n) (hq:q<n) (hpq:p≠q) (hj:j<n):∀{k:Nat},k<=n->V4 m (D2 n p q) i j k=(if j<k then b6 (b6 m i) j else 0)+(if j=q/\p<k then b6 (b6 m i) p else 0)
 | 0,_=>by rw[if_neg zo,if_neg zo]; rfl
 | k+1,hk=>by
  have ih:=fL (m:=m) (i:=i) hp hq hpq hj (k:=k) zo
  unfold V4 at ih ⊢
  rw[I6,ih,cC hp hq hpq zo hj]
  have e1:(if j<k+1 then b6 (b6 m i) j else 0)=(if j<k then b6 (b6 m i) j else 0)+(if k=j then b6 (b6 m i) j else 0):=by
   split<;>split<;>split<;>omega
  have e2:(if j=q/\p<k+1 then b6 (b6 m i) p else 0)=(if j=q/\p<k then b6 (b6 m i) p else 0)+(if k=p/\j=q then b6 (b6 m i) p else 0):=by
   split<;>split<;>split<;>omega
  have f1:b6 (b6 m i) k*(if k=j then 1 else 0)=if k=j then b6 (b6 m i) j else 0:=by
   split
   ·rename_i h; rw[h,Int.mul_one]
   ·rw[Int.mul_zero]
  have f2:b6 (b6 m i) k*(if k=p/\j=q then 1 else 0)=if k=p/\j=q then b6 (b6 m i) p else 0:=by
   split
   ·rename_i h; rw[h.1,Int.mul_one]
   ·rw[Int.mul_zero]
  rw[e1,e2,Int.mul_add,f1,f2]
  omega
theorem vK {m:ZM} {n B p q:Nat} (h:I9 n B m) (hp:p<n) (hq:q<n) (hpq:p≠q):KM m (D2 n p q)=G2 m q p:=by
 have hel:(D2 n p q).length=n:=by unfold D2; rw[List.length_set,EC]
 have h0:0<n:=by omega
 unfold KM G2
 refine F5 (by rw[q9,List.length_map]) fun i hi=>?_
 rw[q9,h.len] at hi
 rw[s9 (by rw[h.len]; exact hi),JR (by rw[h.len]; exact hi),RU hp h0,hel]
 unfold GD
 refine F5 (by rw[q9,List.length_set,h.row i hi]) fun j hj=>?_
 rw[q9] at hj
 rw[s9 hj,fL hp hq hpq hj (Nat.le_refl _),HH (by rw[h.row i hi]; exact hq),if_pos hj]
 by_cases c:j=q
 ·rw[if_pos ⟨c,hp⟩,if_pos c,c]
 ·rw[if_neg (fun a=>c a.1),if_neg c,Int.add_zero]
theorem fK {m s:ZM} {n B:Nat} (h:I9 n B m) (hs:∀k j,0<=b6 (b6 s k) j/\b6 (b6 s k) j<=1) {i j:Nat}:∀{k:Nat},0<=V4 m s i j k/\V4 m s i j k<=k*B
 | 0=>by show 0<=(0:Int)/\(0:Int)<=_; omega
 | k+1=>by
  have ih:=fK h hs (i:=i) (j:=j) (k:=k)
  unfold V4 at ih ⊢
  rw[I6]
  have a:=h.rg i k
  have b:=hs k j
  have e:b6 (b6 s k) j=0\/b6 (b6 s k) j=1:=by omega
  have:((k+1:Nat):Int)*B=k*B+B:=by rw[Int.natCast_add,Int.add_mul]; simp
  rw[this]
  rcases e with e | e
  ·rw[e,Int.mul_zero]; omega
  ·rw[e,Int.mul_one]; omega
theorem oC {n p q:Nat} (hp:p<n) (hq:q<n) (hpq:p≠q):∀k j,0<=b6 (b6 (D2 n p q) k) j/\b6 (b6 (D2 n p q) k) j<=1:=fun k j=>by
 have hel:(D2 n p q).length=n:=by unfold D2; rw[List.length_set,EC]
 by_cases hk:k<n
 ·by_cases hj:j<n
  ·rw[cC hp hq hpq hk hj]
   split<;>split<;>omega
  ·rw[w4 (show (b6 (D2 n p q) k).length<=j by rw[RU hp hk]; omega)]
   show 0<=(0:Int)/\(0:Int)<=1
   omega
 ·rw[show b6 (D2 n p q) k=[] from by simp[b6,List.getElem?_eq_none (show (D2 n p q).length<=k by omega)]<;>rfl]
  show 0<=(0:Int)/\(0:Int)<=1
  omega
end Go.Fl

/- Contracts: unit matrices. -/
namespace Go.Fl
open Go Go.Proofs
open b8 renaming op->tO
open i7 renaming op->rO
set_option maxRecDepth 100000

def A6 (n k:Nat):List (List Int):=l6 n fun i=>if i<k then (List.replicate n 0).set i 1 else []
theorem P6 {n:Nat}:List.replicate n []=A6 n 0:=by
 refine F5 (by rw[List.length_replicate]; exact q9.symm) fun i hi=>?_
 rw[List.length_replicate] at hi
 unfold A6
 rw[s9 hi,if_neg zo]
 simp[b6,hi]
theorem CV {n:Nat}:A6 n n=w7 n:=D9 fun _ hi=>if_pos hi
theorem gB {n k j:Nat} (h:k<=j):b6 (A6 n k) j=[]:=by
 by_cases hj:j<n
 ·unfold A6; rw[s9 hj,if_neg zo]
 ·exact w4 (by show (l6 _ _).length<=j; rw[q9]; omega)
theorem BE {α:Type} [Inhabited α] {l:List α} {k:Nat} {x:α} (h:k<l.length):b6 (l.set k x) k=x:=by simp[b6,h]
theorem CJ {α:Type} [Inhabited α] {l:List α} {k j:Nat} {x:α} (h:j≠k):b6 (l.set k x) j=b6 l j:=by simp[b6,List.getElem?_set_ne (Ne.symm h)]
theorem P5 {n k:Nat} (hk:k<n):((A6 n k).set k (List.replicate n 0)).set k ((b6 ((A6 n k).set k (List.replicate n 0)) k).set k 1)=A6 n (k+1):=by
 have hl:(A6 n k).length=n:=q9
 rw[BE zo]
 refine F5 (by rw[List.length_set,List.length_set,hl]; exact q9.symm) fun i hi=>?_
 rw[List.length_set,List.length_set,hl] at hi
 by_cases e:i=k
 ·subst e
  rw[BE (by rw[List.length_set]; omega)]
  unfold A6; rw[s9 hi,if_pos zo]
 ·rw[CJ e,CJ e]
  unfold A6; rw[s9 hi,s9 hi]
  by_cases q:i<k
  ·rw[if_pos q,if_pos zo]
  ·rw[if_neg q,if_neg zo]
theorem dV {hs:List Value} {rows:List (List Int)} {k:Nat} {v:Value} {xs:List Int} (hk:k<hs.length) (hr:k<rows.length):k<(hs.set k v).length/\b6 (hs.set k v) k=v/\b6 (rows.set k xs) k=xs/\∀j,j≠k->(j<(hs.set k v).length->j<hs.length/\b6 (hs.set k v) j=b6 hs j/\b6 (rows.set k xs) j=b6 rows j)/\((hs.set k v).length<=j->hs.length<=j) :=
 ⟨by rw[List.length_set]; exact hk,BE hk,BE hr,fun j hj=>⟨fun h=>⟨by rw[List.length_set] at h; exact h,CJ hj,CJ hj⟩,fun h=>by rw[List.length_set] at h; exact h⟩⟩
theorem dW {n:Nat}:∀j,j<(List.replicate n (Value.slice none 0 0)).length->b6 (List.replicate n (Value.slice none 0 0)) j=.slice none 0 0/\b6 (List.replicate n ([]:List Int)) j=[]:=fun j hj=>by
 rw[List.length_replicate] at hj
 constructor<;>simp[b6,hj]
theorem vU {n k i:Nat}:(b6 (A6 n k) i).length<=n:=by
 by_cases hi:i<n
 ·unfold A6; rw[s9 hi]; split
  ·rw[List.length_set,List.length_replicate]; omega
  ·exact Nat.zero_le _
 ·rw[w4 (by show (l6 _ _).length<=i; rw[q9]; omega)]; exact Nat.zero_le _
set_option maxHeartbeats 1000000 in
theorem mC (n:Nat) (h8:n<=8):Ct Tryz.prog 96 [kI (n:Int)] (b7 (eL (eL eI)) (w7 n)):=by
 refine Ct.mk Tryz.func96 rfl Tryz.ntmps96 rfl (fun w J=>?_); refine j3 ?_; refine b8.new (AB K0 6 rfl uu rfl uu rfl rfl rfl (fun _=>zo)) rfl rfl rfl rfl ?_; refine l7 ?_; refine Tr.fam 1000 3 (hs:=(List.replicate n (Value.slice none 0 0))) (rows:=(List.replicate n [])) dW rfl ?_; refine jn ?_
 refine Tr.for1 (σ:=Nat×List Value) [⟨0,true,_,_⟩,⟨3,true,_,_⟩] [] (fun (k,hs)=>[⟨4,true,[],kI (k:Int)⟩]) (fun (k,hs)=>[⟨6,[],l3 false 22 K0 hs n⟩,⟨1000,[],p9 3 hs (A6 n k) 0⟩,⟨1001,[],p9 3 hs (A6 n k) 1⟩,⟨1002,[],p9 3 hs (A6 n k) 2⟩,⟨1003,[],p9 3 hs (A6 n k) 3⟩,⟨1004,[],p9 3 hs (A6 n k) 4⟩,⟨1005,[],p9 3 hs (A6 n k) 5⟩,⟨1006,[],p9 3 hs (A6 n k) 6⟩,⟨1007,[],p9 3 hs (A6 n k) 7⟩]) (fun (k,hs)=>k<=n/\hs.length=n) (fun (k,hs)=>k=n/\hs.length=n) (fun (k,hs)=>n-k) ((0,List.replicate n (Value.slice none 0 0))) ⟨by omega,by rw[List.length_replicate]⟩ (d8.mk (.i rfl zi<|zk) (.k rfl<|.e (by rw[P6]) rfl<|.e (by rw[P6]) rfl<|.e (by rw[P6]) rfl<|.e (by rw[P6]) rfl<|.e (by rw[P6]) rfl<|.e (by rw[P6]) rfl<|.e (by rw[P6]) rfl<|.e (by rw[P6]) rfl<|.nil) rfl) ?_ ?_
 ·rintro ⟨k,hs⟩ ⟨hk,hhl⟩
  refine jn ?_; refine j3 ?_; refine jq ?_ ?_
  ·intro h3
   refine l5 ?_
   have hul:(A6 n k).length=n:=q9
   have hrl:(b6 ((A6 n k).set k (List.replicate n 0)) k).length=n:=by rw[BE zo,List.length_replicate]
   refine j5 ?_; refine b8.new (AB eI 15 rfl uu rfl uu rfl rfl rfl (fun _=>zo)) rfl rfl rfl rfl ?_; refine b8.raw 15 15 rfl (fun v=>?_); refine b8.norm (S':=⟨_,_,_,_⟩::⟨_,_,_,_⟩::⟨_,_,_,_⟩::⟨_,_,_,_⟩::⟨_,_,_,_⟩::⟨_,_,_,_⟩::⟨_,_,_,_⟩::⟨_,_,_,_⟩::⟨_,_,_,_⟩::⟨_,_,_,_⟩::⟨_,_,_,_⟩::[]) (M':=[⟨_,_,_⟩,⟨_,_,_⟩,⟨_,_,_⟩,⟨_,_,_⟩,⟨_,_,_⟩,⟨_,_,_⟩,⟨_,_,_⟩,⟨_,_,_⟩,⟨_,_,_⟩,⟨_,_,_⟩]) rfl rfl ?_; refine g8 ?_
   obtain ⟨q1,q2,q3,q4⟩:=dV (hs:=hs) (rows:=A6 n k) (k:=k) (v:=v) (xs:=List.replicate n 0) zo zo
   refine b8.ren 15 1000 k (hs.set k v) ((A6 n k).set k (List.replicate n 0)) inferInstance zo zo (.inr (gB (Nat.le_refl _))) q1 q2 q3 q4 rfl rfl ?_; refine b8.norm (S':=⟨_,_,_,_⟩::⟨_,_,_,_⟩::⟨_,_,_,_⟩::⟨_,_,_,_⟩::⟨_,_,_,_⟩::⟨_,_,_,_⟩::⟨_,_,_,_⟩::⟨_,_,_,_⟩::⟨_,_,_,_⟩::⟨_,_,_,_⟩::⟨_,_,_,_⟩::⟨_,_,_,_⟩::[]) (M':=[⟨_,_,_⟩,⟨_,_,_⟩,⟨_,_,_⟩,⟨_,_,_⟩,⟨_,_,_⟩,⟨_,_,_⟩,⟨_,_,_⟩,⟨_,_,_⟩,⟨_,_,_⟩]) rfl rfl ?_; refine j8 ?_; refine b8.asRow 20 1000 rfl inferInstance (by rw[List.length_set]; omega) zo ?_
   refine b8.norm (S':=⟨_,_,_,_⟩::⟨_,_,_,_⟩::⟨_,_,_,_⟩::⟨_,_,_,_⟩::⟨_,_,_,_⟩::⟨_,_,_,_⟩::⟨_,_,_,_⟩::⟨_,_,_,_⟩::⟨_,_,_,_⟩::⟨_,_,_,_⟩::⟨_,_,_,_⟩::⟨_,_,_,_⟩::⟨_,_,_,_⟩::⟨_,_,_,_⟩::⟨_,_,_,_⟩::⟨_,_,_,_⟩::⟨_,_,_,_⟩::[]) (M':=[⟨_,_,_⟩,⟨_,_,_⟩,⟨_,_,_⟩,⟨_,_,_⟩,⟨_,_,_⟩,⟨_,_,_⟩,⟨_,_,_⟩,⟨_,_,_⟩,⟨_,_,_⟩]) rfl rfl ?_; refine i6 ?_
   first | refine tO (NY rfl uu rfl uu (fun _=>zo)) rfl rfl ?_ | refine tO (JY rfl uu rfl uu (fun _=>zo)) rfl rfl ?_
   refine b8.stR (t0:=1000) inferInstance rfl rfl zo ?_; refine b8.norm (S':=⟨_,_,_,_⟩::⟨_,_,_,_⟩::⟨_,_,_,_⟩::⟨_,_,_,_⟩::⟨_,_,_,_⟩::⟨_,_,_,_⟩::⟨_,_,_,_⟩::⟨_,_,_,_⟩::⟨_,_,_,_⟩::⟨_,_,_,_⟩::⟨_,_,_,_⟩::⟨_,_,_,_⟩::⟨_,_,_,_⟩::⟨_,_,_,_⟩::⟨_,_,_,_⟩::⟨_,_,_,_⟩::⟨_,_,_,_⟩::⟨_,_,_,_⟩::⟨_,_,_,_⟩::[]) (M':=[⟨_,_,_⟩,⟨_,_,_⟩,⟨_,_,_⟩,⟨_,_,_⟩,⟨_,_,_⟩,⟨_,_,_⟩,⟨_,_,_⟩,⟨_,_,_⟩,⟨_,_,_⟩]) rfl rfl ?_; refine j3 ?_
   exact g6.lp ((k+1,hs.set k v)) ⟨by omega,by rw[List.length_set]; exact hhl⟩ (by show n-(k+1)<n-k; omega) (d8.mk (.i rfl zi<|zk) (.k rfl<|.e (by rw[<- P5 zo]) rfl<|.e (by rw[<- P5 zo]) rfl<|.e (by rw[<- P5 zo]) rfl<|.e (by rw[<- P5 zo]) rfl<|.e (by rw[<- P5 zo]) rfl<|.e (by rw[<- P5 zo]) rfl<|.e (by rw[<- P5 zo]) rfl<|.e (by rw[<- P5 zo]) rfl<|.nil) rfl)
  ·intro h3
   replace h3:=Int.not_lt.1 h3
   refine i1 ?_
   exact g6.cut ((k,hs)) ⟨by omega,hhl⟩ (d8.mk (.i rfl zi<|zk) (zk) rfl)
 ·rintro ⟨k,hs⟩ ⟨hkn,hhl⟩
  refine je ?_; refine g8 ?_; refine Tr.frzM 3 6 1000 rfl inferInstance zo (by rw[hkn,hhl]; exact q9) (fun i=>Nat.le_trans vU (by simp only[q7]; omega)) rfl ?_; refine jn ?_; refine l5 ?_; exact f0.res1 (fn:=Tryz.f96) rfl (.r rfl (by rw[hkn,CV])<|.nil)

end Go.Fl

/-
 DERIVED: THE SHELF's CONTRACTS AT THIS DUMP, IN PLAIN WORDS (tools/lay-plain.mjs out of 'YthfaleobmefibaaGreatInsRaw.lean', which tools/lay-shelf.mjs wrote): THE SAME DECLARATIONS UNDER THE SAME NAMES: 'import', 'namespace', 'open', 'def', 'theorem' AND NOTHING ELSE: no command of the shelf's: FOR A HAND-IN. Each laying: the table of numbers ('.._ren') and one theorem, a field a fact of the dump's own or the kernel's comparison; each contract: ONE APPLICATION.
-/
namespace Go.Proofs
open Go.Shelf
def Tryz.laysIns_ren:Go.Shelf.Ren:=⟨fun | 21=>184 | 27=>207 | 28=>208 | 35=>220 | 39=>226 | n=>n,fun | 22=>22 | 3=>3 | 4=>4 | 0=>0 | n=>n,fun | n=>n⟩
theorem Tryz.laysIns:Go.Proofs.Lays2.n21 Tryz.prog Tryz.laysIns_ren:={
 mixed:=by kernel_rfl
 f21:=Tryz.func184.trans (congrArg some (by kernel_rfl))
 f27:=Tryz.func207.trans (congrArg some (by kernel_rfl))
 f28:=Tryz.func208.trans (congrArg some (by kernel_rfl))
 f35:=Tryz.func220.trans (congrArg some (by kernel_rfl))
 f39:=Tryz.func226.trans (congrArg some (by kernel_rfl))
 t0:=Tryz.underlying0
 a0:=Tryz.isAgg0
 z0:=Tryz.sizeOf0
 v0:=Tryz.zeroValue0
 t3:=Tryz.underlying3
 a3:=Tryz.isAgg3
 z3:=Tryz.sizeOf3
 v3:=Tryz.zeroValue3
 t4:=Tryz.underlying4
 a4:=Tryz.isAgg4
 z4:=Tryz.sizeOf4
 v4:=Tryz.zeroValue4
 t22:=Tryz.underlying22
 a22:=Tryz.isAgg22
 z22:=Tryz.sizeOf22
 v22:=Tryz.zeroValue22
 i3:=by kernel_rfl }
end Go.Proofs

/- Contracts: irreducible rows, steps of rows. -/
namespace Go.Fl
open Go Go.Proofs
open b8 renaming op->tO
open i7 renaming op->rO
set_option maxRecDepth 100000

def A9 (r:l8):Int:=if E1 r≠0 then E1 r else if x9 r=true then 0 else 3
theorem aL {r:l8} (h:A9 r=0):A3 r/\x9 r=true:=by
 unfold A9 at h
 by_cases c:E1 r=0
 ·rw[if_neg (fun a=>a c)] at h
  by_cases c2:x9 r=true
  ·exact ⟨HV c,c2⟩
  ·rw[if_neg c2] at h; omega
 ·rw[if_pos c] at h; exact absurd h c
theorem aQ {f:Int->Bool}:∀{l:List Int},-1<=L1 f l/\L1 f l<l.length
 | []=>by show -1<=(-1:Int)/\(-1:Int)<_; simp
 | x::l=>by
  have ih:=aQ (f:=f) (l:=l)
  rw[L1,List.length_cons]
  split
  ·omega
  ·split<;>omega
theorem lZ (r:l8) (v:A3 r):Ct Tryz.prog 105 [b7 eO r] (kB (x9 r)):=by
 have hv1:=v.len
 have hv2:=v.two
 have hv3:=v.le
 have hrb:∀i,i<r.1.length->0<=b6 r.1 i/\b6 r.1 i<100:=fun i hi=>v.b1 _ (G5 hi)
 have hub:∀i,i<r.2.length->0<=b6 r.2 i/\b6 r.2 i<100:=fun i hi=>v.b2 _ (G5 hi)
 have hpl:=dD v
 refine Ct.mk Tryz.func105 rfl Tryz.ntmps105 rfl (fun w J=>?_); refine g8 ?_; refine jb 1 rfl ?_; refine l7 ?_; refine Tr.for1 (σ:=Nat) [⟨1,true,_,_⟩] [⟨1,_,_⟩] (fun k=>[⟨3,true,[],kI (k:Int)⟩]) (fun k=>[]) (fun k=>1<=k/\k<=r.1.length/\∀j,j<k->1<=j->O9 r j=true) (fun k=>∀j,j<r.1.length->1<=j->O9 r j=true) (fun k=>r.1.length-k) (1) ⟨Nat.le_refl _,by omega,fun j hj hj1=>absurd hj1 zo⟩ (d8.mk (.i rfl (by rfl)<|zk) (zk) rfl) ?_ ?_
 ·rintro k ⟨hk1,hk2,hR0⟩
  refine jn ?_; refine t6 ?_; refine jq ?_ ?_
  ·intro h2
   refine L3 ?_
   refine Tr.for1 (σ:=Nat) [⟨1,true,_,_⟩,⟨3,true,_,_⟩] [⟨1,_,_⟩] (fun i=>[⟨5,true,[],kI (i:Int)⟩,⟨4,true,[],kB (BL r k i)⟩]) (fun i=>[]) (fun i=>i<=k) (fun i=>i=k) (fun i=>k-i) (0) (Nat.zero_le _) (d8.mk (.i rfl zi<|.b rfl tV.symm<|zk) (zk) rfl) ?_ ?_
   ·intro i hR1
    refine jn ?_; refine j3 ?_; refine jq ?_ ?_
    ·intro h6
     refine i1 ?_; refine Tr.draw 11 p7 (by kernel_rfl) ?_; refine n7 ?_; refine i7.gd rfl rfl rfl (FH rfl id rfl id (fun hp=>by simp at hp; omega)) rfl rfl ?_; refine j5 ?_
     first | refine i7.gd rfl rfl rfl (D8 rfl id rfl id rfl (fun hp=>by simp at hp; omega)) rfl rfl ?_ | refine i7.gd rfl rfl rfl (R2 rfl id rfl id rfl (fun hp=>by simp at hp; omega)) rfl rfl ?_
     refine g8 ?_; refine b8.gd rfl rfl rfl (i9 (fun hp=>XC _ _) (.a rfl id<|.a rfl id<|.nil)) rfl rfl ?_; refine t6 ?_
     exact g6.lp (i+1) zi zo (d8.mk (.i rfl zi<|.b rfl (tU zo).symm<|zk) (zk) rfl)
    ·intro h6
     replace h6:=Int.not_lt.1 h6
     refine i1 ?_
     exact g6.cut (i) zo (d8.mk (.i rfl zi<|.b rfl zi<|zk) (zk) rfl)
   ·intro i hEi
    refine je ?_; refine l5 ?_; refine Tr.cnd rfl ?_ ?_
    ·intro h9
     rw[hEi] at h9
     have hno:=pE v (k:=k) zo zo h9
     refine w3 ?_; exact f0.res1 (fn:=Tryz.f105) rfl (.b rfl hno.symm<|.nil)
    ·intro h9
     rw[hEi] at h9
     have hyes:O9 r k=true:=by rw[NE v zo,h9]; rfl
     refine j3 ?_
     exact g6.lp (k+1) ⟨by omega,by omega,fun j hj hj1=>by (rcases Nat.lt_succ_iff_lt_or_eq.1 hj with h | h; exact hR0 j h hj1; rw[h]; exact hyes)⟩ zo (d8.mk (.i rfl zi<|zk) (zk) rfl)
  ·intro h2
   replace h2:=Int.not_lt.1 h2
   refine i1 ?_
   exact g6.cut (k) (fun j hj hj1=>hR0 j zo hj1) (d8.mk (.i rfl zi<|zk) (zk) rfl)
 ·intro k hE0
  refine je ?_; refine j8 ?_; exact f0.res1 (fn:=Tryz.f105) rfl (.b rfl (aM hE0).symm<|.nil)

theorem lI (l:List Int) (φ:Int->Prop) (f:Int->Bool) (hl:∀x∈l,φ x):Ct Tryz.prog 149 [b7 (eL eI) l,GZ Tryz.prog φ (fun x:Int=>[kI x]) (fun x:Int=>kB (f x))] (kI (L1 f l)):=by
 refine Ct.mk Tryz.func149 rfl Tryz.ntmps149 rfl (fun w J=>?_); refine Tr.fact (s:=0) rfl (fun _ _ h=>P0 h) (fun hb=>?_); refine B1 ?_
 refine Tr.for1 (σ:=Nat) [⟨0,true,_,_⟩,⟨1,true,_,_⟩,⟨7,true,_,_⟩] [] (fun k=>[⟨8,true,[],kI (k:Int)⟩]) (fun k=>[]) (fun k=>k<=l.length/\∀i,i<k->f (b6 l i)=false) (fun k=>∀i,i<l.length->f (b6 l i)=false) (fun k=>l.length-k) (0) ⟨by omega,fun i h=>absurd h zo⟩ (d8.mk (.i rfl zi<|zk) (.nil) rfl) ?_ ?_
 ·rintro k ⟨hk,hR⟩
  refine jn ?_; refine l5 ?_; refine jq ?_ ?_
  ·intro h2
   refine T0 ?_; refine tO (TW (b6 l k) rfl uu (fun _=>hl _ (G5 zo)) (.a rfl uu<|.nil)) rfl rfl ?_; refine g8 ?_; refine Tr.cnd rfl ?_ ?_
   ·intro h4
    refine B1 ?_; exact f0.res1 (fn:=Tryz.f149) rfl (.i rfl (NF zo hR h4).symm<|.nil)
   ·intro h4
    refine j8 ?_
    exact g6.lp (k+1) ⟨by omega,fun i hi=>by (rcases Nat.lt_succ_iff_lt_or_eq.1 hi with h | h; exact hR i h; subst h; exact h4)⟩ zo (d8.mk (.i rfl zi<|zk) (.nil) rfl)
  ·intro h2
   replace h2:=Int.not_lt.1 h2
   refine i1 ?_
   exact g6.cut (k) (fun i hi=>hR i zo) (d8.mk (.i rfl zi<|zk) (.nil) rfl)
 ·intro k hE
  refine je ?_; refine j8 ?_; exact f0.res1 (fn:=Tryz.f149) rfl (.i rfl (SU hE).symm<|.nil)

theorem QX (l:List Int) (φ:Int->Prop) (f:Int->Bool) (hl:∀x∈l,φ x):Ct Tryz.prog 99 [b7 (eL eI) l,GZ Tryz.prog φ (fun x:Int=>[kI x]) (fun x:Int=>kB (f x))] (kB (l.any f)):=by
 refine Ct.mk Tryz.func99 rfl Tryz.ntmps99 rfl (fun w J=>?_); refine l7 ?_; refine tO (i9 (fun hp=>lI _ _ _ (by assumption)) (.a rfl uu<|.a rfl uu<|.nil)) rfl rfl ?_; refine n7 ?_; exact f0.res1 (fn:=Tryz.f99) rfl (.b rfl ST<|.nil)

theorem YO (l:List Int) (x:Int):Ct Tryz.prog 185 [b7 (eL eI) l,kI x] (kI (L1 (fun y=>decide (x=y)) l)):=by
 refine Ct.mk Tryz.func185 rfl Tryz.ntmps185 rfl (fun w J=>?_); refine Tr.fact (s:=0) rfl (fun _ _ h=>P0 h) (fun hb=>?_); refine B1 ?_
 refine Tr.for1 (σ:=Nat) [⟨0,true,_,_⟩,⟨1,true,_,_⟩,⟨7,true,_,_⟩] [] (fun k=>[⟨8,true,[],kI (k:Int)⟩]) (fun k=>[]) (fun k=>k<=l.length/\∀i,i<k->decide (x=b6 l i)=false) (fun k=>∀i,i<l.length->decide (x=b6 l i)=false) (fun k=>l.length-k) (0) ⟨by omega,fun i h=>absurd h zo⟩ (d8.mk (.i rfl zi<|zk) (.nil) rfl) ?_ ?_
 ·rintro k ⟨hk,hR⟩
  refine jn ?_; refine l5 ?_; refine jq ?_ ?_
  ·intro h2
   refine JK ?_; refine jq ?_ ?_
   ·intro h4
    refine B1 ?_; exact f0.res1 (fn:=Tryz.f185) rfl (.i rfl (NF zo hR (decide_eq_true h4)).symm<|.nil)
   ·intro h4
    refine j8 ?_
    exact g6.lp (k+1) ⟨by omega,fun i hi=>by (rcases Nat.lt_succ_iff_lt_or_eq.1 hi with h | h; exact hR i h; subst h; exact decide_eq_false h4)⟩ zo (d8.mk (.i rfl zi<|zk) (.nil) rfl)
  ·intro h2
   replace h2:=Int.not_lt.1 h2
   refine i1 ?_
   exact g6.cut (k) (fun i hi=>hR i zo) (d8.mk (.i rfl zi<|zk) (.nil) rfl)
 ·intro k hE
  refine je ?_; refine j8 ?_; exact f0.res1 (fn:=Tryz.f185) rfl (.i rfl (SU hE).symm<|.nil)

theorem mL (l:List Int) (x:Int):Ct Tryz.prog 155 [b7 (eL eI) l,kI x] (kB (l.any fun y=>decide (x=y))):=by
 refine Ct.mk Tryz.func155 rfl Tryz.ntmps155 rfl (fun w J=>?_); refine l7 ?_; refine tO (i9 (fun hp=>YO _ _) (.a rfl uu<|.a rfl uu<|.nil)) rfl rfl ?_; refine n7 ?_; exact f0.res1 (fn:=Tryz.f155) rfl (.b rfl ST<|.nil)

theorem lK (x:Int) (r:l8) (k:Nat) (hk:k<=r.2.length):Ct Tryz.prog 154 [kI x,r5 eO r,r5 eI (k:Int)] (kB (!decide (x∈r.2.take k))):=by
 refine Ct.mk Tryz.func154 rfl Tryz.ntmps154 rfl (fun w J=>?_); refine t6 ?_; refine tO (FH rfl uu rfl uu (fun _=>zo)) rfl rfl ?_; refine i6 ?_; refine tO (i9 (fun hp=>mL _ _) (.a rfl uu<|.a rfl uu<|.nil)) rfl rfl ?_; refine n7 ?_; exact f0.res1 (fn:=Tryz.f154) rfl (.b rfl (by congr 1; rw[Bool.eq_iff_iff]; simp[List.any_eq_true])<|.nil)

theorem XQ (r:l8) (v:A3 r):Ct Tryz.prog 109 [b7 eO r] (kB (x9 r)):=by
 have hv1:=v.len
 have hv2:=v.two
 have hv3:=v.le
 have hrb:∀i,i<r.1.length->0<=b6 r.1 i/\b6 r.1 i<100:=fun i hi=>v.b1 _ (G5 hi)
 have hub:∀i,i<r.2.length->0<=b6 r.2 i/\b6 r.2 i<100:=fun i hi=>v.b2 _ (G5 hi)
 have hpl:=dD v
 refine Ct.mk Tryz.func109 rfl Tryz.ntmps109 rfl (fun w J=>?_); refine g8 ?_; refine jb 1 rfl ?_; refine n7 ?_; refine Tr.frzB 1 [1] eO ⟨rfl,trivial⟩ rfl ?_; refine jn ?_; refine i6 ?_; refine ja 3 ?_; refine j5 ?_; refine Tr.for1 (σ:=Nat) [⟨1,true,_,_⟩] [] (fun k=>[⟨3,true,[3],u4 3 0⟩]) (fun k=>[⟨3,[],j1 [kI (k:Int)]⟩]) (fun k=>1<=k/\k<=r.1.length/\∀j,j<k->1<=j->O9 r j=true) (fun k=>∀j,j<r.1.length->1<=j->O9 r j=true) (fun k=>r.1.length-k) (1) ⟨Nat.le_refl _,by omega,fun j hj hj1=>absurd hj1 zo⟩ (d8.mk (zk) (.e (by rfl) rfl<|.nil) rfl) ?_ ?_
 ·rintro k ⟨hk1,hk2,hR0⟩
  refine jn ?_; refine t6 ?_; refine jq ?_ ?_
  ·intro h2
   refine n7 ?_; refine Tr.frzB 3 [3] eI ⟨rfl,trivial⟩ rfl ?_; refine jn ?_; refine i1 ?_; refine tO (FH rfl uu rfl uu (fun _=>zo)) rfl rfl ?_; refine tO (DS (.cons rfl uu<|.cons rfl uu .nil)) rfl rfl ?_; refine tO (i9 (fun hp=>QX (r.1.take k) (fun _=>True) (fun x=>!decide (x∈r.2.take k)) (fun _ _=>trivial)) (.a rfl uu<|.cons rfl uu (fun g u h=>JL (fun a _=>lK a r k zo) g u h)<|.nil)) rfl rfl ?_; refine j5 ?_; refine Tr.cnd rfl ?_ ?_
   ·intro h4
    have hno:O9 r k=false:=by simpa [O9] using h4
    refine w3 ?_; exact f0.res1 (fn:=Tryz.f109) rfl (.b rfl (pF hk1 zo hno).symm<|.nil)
   ·intro h4
    have hyes:O9 r k=true:=by simpa [O9] using h4
    refine t6 ?_; refine ja 3 ?_; refine j3 ?_; exact g6.lp (k+1) ⟨by omega,by omega,fun j hj hj1=>by (rcases Nat.lt_succ_iff_lt_or_eq.1 hj with h | h; exact hR0 j h hj1; rw[h]; exact hyes)⟩ zo (d8.mk (zk) (.e (by rfl) rfl<|.nil) rfl)
  ·intro h2
   replace h2:=Int.not_lt.1 h2
   refine i1 ?_; exact g6.cut (k) (fun j hj hj1=>hR0 j zo hj1) (d8.mk (zk) (zk) rfl)
 ·intro k hE0
  refine je ?_; refine j8 ?_; exact f0.res1 (fn:=Tryz.f109) rfl (.b rfl (aM hE0).symm<|.nil)

theorem XF (r:l8):Ct Tryz.prog 61 [b7 eO r] (v6 [kB (if E1 r=0 then x9 r else false),kI (E1 r)]):=by
 refine Ct.mk Tryz.func61 rfl Tryz.ntmps61 rfl (fun w J=>?_); refine g8 ?_; refine jb 1 rfl ?_; refine j3 ?_; refine tO (i9 (fun hp=>LV _) (.s rfl uu rfl<|.nil)) rfl rfl ?_; refine l7 ?_; refine jq ?_ ?_
 ·intro h2
  refine l7 ?_
  exact f0.res (fn:=Tryz.f61) (ts:=[2,3]) rfl rfl (.b rfl (by rw[if_neg h2])<|.i rfl zi<|.nil)
 ·intro h2
  replace h2:=Classical.not_not.1 h2
  have v:A3 r:=HV h2
  refine n7 ?_; refine tO (i9 (fun hp=>XQ _ v) (.s rfl uu rfl<|.nil)) rfl rfl ?_; refine n7 ?_; exact f0.res (fn:=Tryz.f61) (ts:=[2,3]) rfl rfl (.b rfl (by rw[if_pos h2])<|.i rfl h2.symm<|.nil)

theorem IY (r:l8):Ct Tryz.prog 98 [b7 eO r] (kI (A9 r)):=by
 refine Ct.mk Tryz.func98 rfl Tryz.ntmps98 rfl (fun w J=>?_); refine g8 ?_; refine jb 1 rfl ?_; refine j8 ?_; refine tO (i9 (fun hp=>LV _) (.s rfl uu rfl<|.nil)) rfl rfl ?_; refine l7 ?_; refine jq ?_ ?_
 ·intro h2
  have hr:A9 r=E1 r:=if_pos h2
  refine j3 ?_; exact f0.res1 (fn:=Tryz.f98) rfl (.i rfl hr.symm<|.nil)
 ·intro h2
  replace h2:=Classical.not_not.1 h2
  have v:=HV (by omega:E1 r=0)
  refine l5 ?_; refine tO (i9 (fun hp=>XQ _ v) (.s rfl uu rfl<|.nil)) rfl rfl ?_; refine j5 ?_; refine Tr.cnd rfl ?_ ?_
  ·intro h4
   have hir:x9 r=false:=by simpa using h4
   have hr:A9 r=3:=by unfold A9; rw[if_neg (fun a=>a h2),hir]; rfl
   refine j8 ?_; exact f0.res1 (fn:=Tryz.f98) rfl (.i rfl hr.symm<|.nil)
  ·intro h4
   have hir:x9 r=true:=by simpa using h4
   have hr:A9 r=0:=by unfold A9; rw[if_neg (fun a=>a h2),if_pos hir]
   refine j3 ?_; exact f0.res1 (fn:=Tryz.f98) rfl (.i rfl hr.symm<|.nil)

theorem lX (r:l8):Ct Tryz.prog 55 [b7 eO r] (kI (A9 r)):=by
 refine Ct.mk Tryz.func55 rfl Tryz.ntmps55 rfl (fun w J=>?_); refine g8 ?_; refine jb 1 rfl ?_; refine j8 ?_; refine tO (i9 (fun hp=>lW _) (.s rfl uu rfl<|.nil)) rfl rfl ?_; refine l7 ?_; refine jq ?_ ?_
 ·intro h2
  have hr:A9 r=E1 r:=if_pos h2
  refine j3 ?_; exact f0.res1 (fn:=Tryz.f55) rfl (.i rfl hr.symm<|.nil)
 ·intro h2
  replace h2:=Classical.not_not.1 h2
  have v:=HV (by omega:E1 r=0)
  refine l5 ?_; refine tO (i9 (fun hp=>lZ _ v) (.s rfl uu rfl<|.nil)) rfl rfl ?_; refine j5 ?_; refine Tr.cnd rfl ?_ ?_
  ·intro h4
   have hir:x9 r=false:=by simpa using h4
   have hr:A9 r=3:=by unfold A9; rw[if_neg (fun a=>a h2),hir]; rfl
   refine j8 ?_; exact f0.res1 (fn:=Tryz.f55) rfl (.i rfl hr.symm<|.nil)
  ·intro h4
   have hir:x9 r=true:=by simpa using h4
   have hr:A9 r=0:=by unfold A9; rw[if_neg (fun a=>a h2),if_pos hir]
   refine j3 ?_; exact f0.res1 (fn:=Tryz.f55) rfl (.i rfl hr.symm<|.nil)

theorem LX (row:List Int) (h:1<=row.length):Ct Tryz.prog 147 [b7 (eL eI) row] (kI (o6 row)):=by
 refine Ct.mk Tryz.func147 rfl Tryz.ntmps147 rfl (fun w J=>?_); refine Tr.fact (s:=0) rfl (fun _ _ h=>P0 h) (fun hb=>?_); refine T0 ?_; exact f0.res1 (fn:=Tryz.f147) rfl (.i rfl (by unfold o6; rw[show ((row.length:Int)-1).toNat=row.length-1 by omega])<|.nil)

theorem RI (row:List Int) (b:Int) (h2:2<=row.length) (hn:row.length<=900):Ct Tryz.prog 151 [b7 (eL eI) row,kI b] (b7 (eL eI) (K6 row b)):=by
 have hix:=aQ (f:=fun y=>decide (b=y)) (l:=(row.take (row.length-1)))
 have htl:(row.take (row.length-1)).length=row.length-1:=by rw[List.length_take]; omega
 have htk:row.take ((row.length:Int)-1).toNat=(row.take (row.length-1)):=by rw[show ((row.length:Int)-1).toNat=row.length-1 by omega]
 refine Ct.mk Tryz.func151 rfl Tryz.ntmps151 rfl (fun w J=>?_); refine T0 ?_; refine tO (FH rfl uu rfl uu (fun _=>zo)) rfl rfl ?_
 rw[htk]
 refine b8.new (CK 13 (fun hp=>LU (row.take (row.length-1)) zo zo) (.a rfl uu<|.nil)) rfl rfl rfl rfl ?_; refine i1 ?_; refine Tr.draw 10 p7 (by kernel_rfl) ?_; refine j5 ?_; refine rO (rW (fun hp=>YO (row.take (row.length-1)) b) rfl uu (fun _=>by simp only[q7]; omega) (.a rfl uu<|.nil)) rfl rfl ?_; refine i6 ?_
 rw[show (L1 (fun y=>decide (b=y)) (row.take (row.length-1)))+1=((((L1 (fun y=>decide (b=y)) (row.take (row.length-1)))+1).toNat:Nat):Int) by omega]
 refine i1 ?_; refine i7.new (A1 eI 23 (fun hp=>.cons rfl<|.nil) rfl rfl rfl rfl) rfl rfl rfl rfl ?_; refine i6 ?_; refine b8.insI (f:=184) Go.Proofs.Tryz.laysIns rfl rfl rfl rfl zo rfl rfl zo rfl rfl ?_; refine jl ?_; refine j5 ?_; refine Tr.frz 13 [4] ⟨rfl,trivial⟩ (by simp only[q7]; omega) rfl ?_; refine i6 ?_; exact f0.res1 (fn:=Tryz.f151) rfl (.r rfl (by unfold K6 o6; rw[show ((row.length:Int)-1).toNat=row.length-1 by omega])<|.nil)

theorem XU (r:l8) (h1:2<=r.1.length/\r.1.length<=900) (h2:2<=r.2.length/\r.2.length<=900):Ct Tryz.prog 150 [b7 eO r] (v6 [b7 eO (r.1,K6 r.2 (o6 r.1)),kI (o6 r.1),kI (o6 r.2)]):=by
 refine Ct.mk Tryz.func150 rfl Tryz.ntmps150 rfl (fun w J=>?_); refine g8 ?_; refine jb 1 rfl ?_; refine ja 2 ?_; refine n7 ?_; refine Tr.draw 5 p7 (by kernel_rfl) ?_; refine g8 ?_; refine jd (LX r.1 zo) ?_; refine j5 ?_; refine jc (LX r.2 zo) ?_; refine n7 ?_; refine Tr.drawA p7 #[false,false,false,false,false,false,false,false,false,false,false,false,false] rfl ?_; refine d5.take 0 #[true,false,false,false,false,false,false,false,false,false,false,false,false] (by kernel_rfl) (by kernel_rfl) (by kernel_rfl) rfl rfl (EF rfl) rfl rfl ?_
 refine d5.take 3 #[true,false,false,true,false,false,false,false,false,false,false,false,false] (by kernel_rfl) (by kernel_rfl) (by kernel_rfl) rfl rfl (EF rfl) rfl rfl ?_; refine d5.take 5 #[true,false,false,true,false,true,false,false,false,false,false,false,false] (by kernel_rfl) (by kernel_rfl) (by kernel_rfl) rfl rfl (E6 rfl) rfl rfl ?_; refine d5.take 8 #[true,false,false,true,false,true,false,false,true,false,false,false,false] (by kernel_rfl) (by kernel_rfl) (by kernel_rfl) rfl rfl (E6 rfl) rfl rfl ?_; refine d5.take 9 #[true,false,false,true,false,true,false,false,true,true,false,false,false] (by kernel_rfl) (by kernel_rfl) (by kernel_rfl) rfl rfl (E6 rfl) rfl rfl ?_
 refine d5.all [1,4] (by kernel_rfl) (by simp) (fun i hi=>?_)
 simp only[List.mem_cons,List.not_mem_nil,or_false] at hi
 rcases hi with rfl | rfl
 ·refine ⟨_,rfl,?_⟩
  refine tO (R3 rfl uu rfl) rfl rfl ?_; refine d5.k #[true,true,false,true,false,true,false,false,true,true,false,false,false] rfl (fun _ _ _ _=>trivial) ?_; refine d5.all [2,4] (by kernel_rfl) (by simp) (fun i hi=>?_)
  simp only[List.mem_cons,List.not_mem_nil,or_false] at hi
  rcases hi with rfl | rfl
  ·refine ⟨_,rfl,?_⟩
   refine jc (AV r.1 zo) ?_; refine d5.k #[true,true,true,true,false,true,false,false,true,true,false,false,false] rfl (fun _ _ _ _=>trivial) ?_; refine d5.one 4 (by kernel_rfl) rfl ?_; refine tO (R3 rfl uu rfl) rfl rfl ?_; refine d5.k #[true,true,true,true,true,true,false,false,true,true,false,false,false] rfl (fun _ _ _ _=>trivial) ?_; refine d5.one 6 (by kernel_rfl) rfl ?_; refine jc (RI r.2 (o6 r.1) h2.1 h2.2) ?_; refine d5.k #[true,true,true,true,true,true,true,false,true,true,false,false,false] rfl (fun _ _ _ _=>trivial) ?_
   refine d5.one 7 (by kernel_rfl) rfl ?_; refine tO (w5 (fun hp=>.cons rfl rfl rfl<|.cons rfl rfl rfl<|.nil)) rfl rfl ?_; refine d5.k #[true,true,true,true,true,true,true,true,true,true,false,false,false] rfl (fun _ _ _ _=>trivial) ?_; refine d5.one 10 (by kernel_rfl) rfl ?_; refine b8.stB rfl rfl rfl rfl ?_; refine d5.k #[true,true,true,true,true,true,true,true,true,true,true,false,false] rfl (fun _ _ _ _=>trivial) ?_; refine d5.one 11 (by kernel_rfl) rfl ?_; refine mw rfl rfl rfl ?_; refine d5.k #[true,true,true,true,true,true,true,true,true,true,true,true,false] rfl (fun _ _ _ _=>trivial) ?_
   refine d5.one 12 (by kernel_rfl) rfl ?_; refine mw rfl rfl rfl ?_; refine d5.k #[true,true,true,true,true,true,true,true,true,true,true,true,true] rfl (fun _ _ _ _=>trivial) ?_; refine d5.done (by kernel_rfl) ?_; refine g8 ?_
   exact f0.resC (fn:=Tryz.f150) (ts:=[3,4]) rfl rfl rfl (s6 rfl (by rfl)) (.i rfl zi<|.i rfl zi<|.nil)
  ·refine ⟨_,rfl,?_⟩
   refine tO (R3 rfl uu rfl) rfl rfl ?_; refine d5.k #[true,true,false,true,true,true,false,false,true,true,false,false,false] rfl (fun _ _ _ _=>trivial) ?_; refine d5.one 2 (by kernel_rfl) rfl ?_; refine jc (AV r.1 zo) ?_; refine d5.k #[true,true,true,true,true,true,false,false,true,true,false,false,false] rfl (fun _ _ _ _=>trivial) ?_; refine d5.one 6 (by kernel_rfl) rfl ?_; refine jc (RI r.2 (o6 r.1) h2.1 h2.2) ?_; refine d5.k #[true,true,true,true,true,true,true,false,true,true,false,false,false] rfl (fun _ _ _ _=>trivial) ?_
   refine d5.one 7 (by kernel_rfl) rfl ?_; refine tO (w5 (fun hp=>.cons rfl rfl rfl<|.cons rfl rfl rfl<|.nil)) rfl rfl ?_; refine d5.k #[true,true,true,true,true,true,true,true,true,true,false,false,false] rfl (fun _ _ _ _=>trivial) ?_; refine d5.one 10 (by kernel_rfl) rfl ?_; refine b8.stB rfl rfl rfl rfl ?_; refine d5.k #[true,true,true,true,true,true,true,true,true,true,true,false,false] rfl (fun _ _ _ _=>trivial) ?_; refine d5.one 11 (by kernel_rfl) rfl ?_; refine mw rfl rfl rfl ?_; refine d5.k #[true,true,true,true,true,true,true,true,true,true,true,true,false] rfl (fun _ _ _ _=>trivial) ?_
   refine d5.one 12 (by kernel_rfl) rfl ?_; refine mw rfl rfl rfl ?_; refine d5.k #[true,true,true,true,true,true,true,true,true,true,true,true,true] rfl (fun _ _ _ _=>trivial) ?_; refine d5.done (by kernel_rfl) ?_; refine g8 ?_
   exact f0.resC (fn:=Tryz.f150) (ts:=[3,4]) rfl rfl rfl (s6 rfl (by rfl)) (.i rfl zi<|.i rfl zi<|.nil)
 ·refine ⟨_,rfl,?_⟩
  refine tO (R3 rfl uu rfl) rfl rfl ?_; refine d5.k #[true,false,false,true,true,true,false,false,true,true,false,false,false] rfl (fun _ _ _ _=>trivial) ?_; refine d5.one 1 (by kernel_rfl) rfl ?_; refine tO (R3 rfl uu rfl) rfl rfl ?_; refine d5.k #[true,true,false,true,true,true,false,false,true,true,false,false,false] rfl (fun _ _ _ _=>trivial) ?_; refine d5.one 2 (by kernel_rfl) rfl ?_; refine jc (AV r.1 zo) ?_; refine d5.k #[true,true,true,true,true,true,false,false,true,true,false,false,false] rfl (fun _ _ _ _=>trivial) ?_
  refine d5.one 6 (by kernel_rfl) rfl ?_; refine jc (RI r.2 (o6 r.1) h2.1 h2.2) ?_; refine d5.k #[true,true,true,true,true,true,true,false,true,true,false,false,false] rfl (fun _ _ _ _=>trivial) ?_; refine d5.one 7 (by kernel_rfl) rfl ?_; refine tO (w5 (fun hp=>.cons rfl rfl rfl<|.cons rfl rfl rfl<|.nil)) rfl rfl ?_; refine d5.k #[true,true,true,true,true,true,true,true,true,true,false,false,false] rfl (fun _ _ _ _=>trivial) ?_; refine d5.one 10 (by kernel_rfl) rfl ?_; refine b8.stB rfl rfl rfl rfl ?_; refine d5.k #[true,true,true,true,true,true,true,true,true,true,true,false,false] rfl (fun _ _ _ _=>trivial) ?_
  refine d5.one 11 (by kernel_rfl) rfl ?_; refine mw rfl rfl rfl ?_; refine d5.k #[true,true,true,true,true,true,true,true,true,true,true,true,false] rfl (fun _ _ _ _=>trivial) ?_; refine d5.one 12 (by kernel_rfl) rfl ?_; refine mw rfl rfl rfl ?_; refine d5.k #[true,true,true,true,true,true,true,true,true,true,true,true,true] rfl (fun _ _ _ _=>trivial) ?_; refine d5.done (by kernel_rfl) ?_; refine g8 ?_
  exact f0.resC (fn:=Tryz.f150) (ts:=[3,4]) rfl rfl rfl (s6 rfl (by rfl)) (.i rfl zi<|.i rfl zi<|.nil)

theorem XT (r:l8) (kind:Int) (g1:2<=r.1.length/\r.1.length<=900) (g2:2<=r.2.length/\r.2.length<=900):Ct Tryz.prog 103 [b7 eO r,kI kind] (v6 [b7 eO (G9 r kind),kI (y0 r kind),kI (y2 r kind)]):=by
 refine Ct.mk Tryz.func103 rfl Tryz.ntmps103 rfl (fun w J=>?_); refine g8 ?_; refine jb 2 rfl ?_; refine ja 4 ?_; refine Z5 ?_; refine jq ?_ ?_
 ·intro h2
  have h2_:kind=0:=by assumption
  refine i1 ?_; refine tO (HK rfl uu (fun hp=>XU r g1 g2) (.s rfl uu rfl<|.nil)) rfl rfl ?_; refine t6 ?_; exact f0.resC (fn:=Tryz.f103) (ts:=[5,6]) rfl rfl rfl (s6 rfl (by unfold G9; rw[if_pos h2_])) (.i rfl (by unfold y0; rw[if_pos h2_])<|.i rfl (by unfold y2; rw[if_pos h2_])<|.nil)
 ·intro h2
  have h2_:¬kind=0:=by assumption
  refine l5 ?_; refine jc (YR r) ?_; refine tO (HK rfl uu (fun hp=>XU (r.2,r.1) g2 g1) (.a rfl uu<|.nil)) rfl rfl ?_; refine i1 ?_; refine ja 8 ?_; refine j3 ?_; refine jc (YR (r.2,K6 r.1 (o6 r.2))) ?_; refine j3 ?_; exact f0.resC (fn:=Tryz.f103) (ts:=[5,6]) rfl rfl rfl (s6 rfl (by unfold G9; rw[if_neg h2_])) (.i rfl (by unfold y0; rw[if_neg h2_])<|.i rfl (by unfold y2; rw[if_neg h2_])<|.nil)

set_option maxHeartbeats 1000000 in
theorem YJ (row:List Int) (l b:Int) (hn:row.length<=900):Ct Tryz.prog 107 [b7 (eL eI) row,kI l,kI b] (b7 (eL eI) (F7 row l b row.length)):=by
 refine Ct.mk Tryz.func107 rfl Tryz.ntmps107 rfl (fun w J=>?_); refine Z5 ?_; refine Tr.grow (s:=7) rfl rfl 107 rfl 3 eI rfl ?_
 refine Tr.for1 (σ:=Nat) [⟨0,true,_,_⟩,⟨1,true,_,_⟩,⟨2,true,_,_⟩] [] (fun i=>[⟨7,true,[107],o7 107 (F7 row l b i).length⟩,⟨8,true,[],kI (i:Int)⟩]) (fun i=>[⟨107,[],l3 true 3 eI (F7 row l b i) (F7 row l b i).length⟩]) (fun i=>i<=row.length) (fun i=>i=row.length) (fun i=>row.length-i) (0) zi (d8.mk (.o rfl zi rfl<|.i rfl zi<|zk) (.a (by rfl) zi<|.nil) rfl) ?_ ?_
 ·intro i hR0
  refine jn ?_
  have hml:=TM (row:=row) (l:=l) (b:=b) (i:=i)
  refine l7 ?_; refine jq ?_ ?_
  ·intro h3
   refine L3 ?_; refine jq ?_ ?_
   ·intro h5
    have e5:(if b6 row i≠l then [b6 row i] else [])=[b6 row i]:=if_pos h5
    refine l5 ?_; refine b8.new (A1 eI 26 (fun hp=>.cons rfl<|.nil) rfl rfl rfl rfl) rfl rfl rfl rfl ?_; refine i6 ?_; refine jl ?_; refine B1 ?_; refine jq ?_ ?_
    ·intro h7
     have e7:(if b6 row i=b then [l] else [])=[l]:=if_pos h7
     refine j5 ?_; refine b8.new (A1 eI 36 (fun hp=>.cons rfl<|.nil) rfl rfl rfl rfl) rfl rfl rfl rfl ?_; refine i6 ?_; refine jl ?_; refine l7 ?_
     exact g6.lp (i+1) zi zo (d8.mk (.o rfl (by rw[F7,e5,e7]; simp) rfl<|.i rfl zi<|zk) (.a (by rw[F7,e5,e7]) (by rw[F7,e5,e7]; simp)<|.nil) rfl)
    ·intro h7
     have e7:(if b6 row i=b then [l] else [])=[]:=if_neg h7
     refine j3 ?_
     exact g6.lp (i+1) zi zo (d8.mk (.o rfl (by rw[F7,e5,e7]; simp) rfl<|.i rfl zi<|zk) (.a (by rw[F7,e5,e7]; simp) (by rw[F7,e5,e7]; simp)<|.nil) rfl)
   ·intro h5
    replace h5:=Classical.not_not.1 h5
    have e5:(if b6 row i≠l then [b6 row i] else [])=[]:=if_neg (fun a=>a h5)
    refine w3 ?_; refine jq ?_ ?_
    ·intro h7
     have e7:(if b6 row i=b then [l] else [])=[l]:=if_pos h7
     refine j5 ?_; refine b8.new (A1 eI 36 (fun hp=>.cons rfl<|.nil) rfl rfl rfl rfl) rfl rfl rfl rfl ?_; refine i6 ?_; refine jl ?_; refine l7 ?_
     exact g6.lp (i+1) zi zo (d8.mk (.o rfl (by rw[F7,e5,e7]; simp) rfl<|.i rfl zi<|zk) (.a (by rw[F7,e5,e7]; simp) (by rw[F7,e5,e7]; simp)<|.nil) rfl)
    ·intro h7
     have e7:(if b6 row i=b then [l] else [])=[]:=if_neg h7
     refine j3 ?_
     exact g6.lp (i+1) zi zo (d8.mk (.o rfl (by rw[F7,e5,e7]; simp) rfl<|.i rfl zi<|zk) (.a (by rw[F7,e5,e7]; simp) (by rw[F7,e5,e7]; simp)<|.nil) rfl)
  ·intro h3
   replace h3:=Int.not_lt.1 h3
   refine i1 ?_
   exact g6.cut (i) zo (d8.mk (.o rfl zi rfl<|.i rfl zi<|zk) (zk) rfl)
 ·rintro i hin
  refine je ?_
  rw[hin]
  have hml:=TM (row:=row) (l:=l) (b:=b) (i:=row.length)
  refine j8 ?_; refine Tr.frz 107 [6] ⟨rfl,trivial⟩ (by simp only[q7]; omega) rfl ?_; refine i6 ?_
  exact f0.res1 (fn:=Tryz.f107) rfl (.r rfl zi<|.nil)

end Go.Fl

/- Contracts: paths of rows and their matrices. -/
namespace Go.Fl
open Go Go.Proofs
open b8 renaming op->tO
open i7 renaming op->rO
set_option maxRecDepth 100000

def p8 (r:l8) (ks:List Int):Nat->l8
 | 0=>r
 | i+1=>G9 (p8 r ks i) (b6 ks i)
def u6 (r:l8) (ks:List Int):Nat->ZM
 | 0=>w7 r.1.length
 | i+1=>G2 (u6 r ks i) (y2 (p8 r ks i) (b6 ks i)).toNat (y0 (p8 r ks i) (b6 ks i)).toNat
theorem bO {r:l8} {k:Int} (h2:r.2.length=r.1.length) (h1:2<=r.1.length):(G9 r k).1.length=r.1.length/\(G9 r k).2.length=r.1.length:=by
 unfold G9
 split
 ·exact ⟨rfl,by show (K6 r.2 (o6 r.1)).length=_; rw[(UR (b:=o6 r.1) h2 zo).length_eq,h2]⟩
 ·exact ⟨by show (K6 r.1 (o6 r.2)).length=_; rw[(UR (row:=r.1) (b:=o6 r.2) rfl zo).length_eq],h2⟩
theorem O8 {r:l8} {ks:List Int} (v:A3 r) (hi:x9 r=true):∀i,(A3 (p8 r ks i)/\x9 (p8 r ks i)=true)/\(p8 r ks i).1.length=r.1.length
 | 0=>⟨⟨v,hi⟩,rfl⟩
 | i+1=>by
  obtain ⟨⟨h1,h2⟩,h3⟩:=O8 v hi (ks:=ks) i
  exact ⟨TN h1 h2 _,(bO h1.len h1.two).1.trans h3⟩
theorem P1 {r:l8} (v:A3 r) (k:Int):(0<=y2 r k/\y2 r k<r.1.length)/\(0<=y0 r k/\y0 r k<r.1.length):=by
 have h1:=CF v.p1 (by have:=v.two; omega)
 have h2:=CF v.p2 (by have:=v.two; omega)
 unfold y2 y0
 split<;>exact ⟨by assumption,by assumption⟩
theorem vT {n:Nat}:I9 n 1 (w7 n):=by
 refine ⟨q9,fun i hi=>?_,fun i j=>?_⟩
 ·unfold w7; rw[s9 hi,List.length_set,List.length_replicate]
 ·by_cases hi:i<n
  ·unfold w7; rw[s9 hi,HH (by rw[List.length_replicate]; exact hi)]
   split
   ·omega
   ·by_cases hj:j<n
    ·have:b6 (List.replicate n (0:Int)) j=0:=by simp[b6,hj]
     rw[this]; omega
    ·rw[w4 (by rw[List.length_replicate]; omega)]; show 0<=(0:Int)/\(0:Int)<=_; omega
  ·rw[show b6 (w7 n) i=[] from w4 (by show (l6 _ _).length<=i; rw[q9]; omega)]
   show 0<=(0:Int)/\(0:Int)<=_; omega
theorem U3 {r:l8} {ks:List Int} (v:A3 r) (hi:x9 r=true):∀i,I9 r.1.length (2 ^ i) (u6 r ks i)
 | 0=>vT
 | i+1=>by
  obtain ⟨⟨h1,_⟩,h3⟩:=O8 v hi (ks:=ks) i
  have:=gW (to:=(y2 (p8 r ks i) (b6 ks i)).toNat) (col:=(y0 (p8 r ks i) (b6 ks i)).toNat) (U3 v hi (ks:=ks) i) (by have:=(P1 h1 (b6 ks i)).1; omega)
  rw[<- Nat.pow_succ'] at this
  exact this
theorem I9.mono {n B C:Nat} {m:ZM} (h:I9 n B m) (hBC:B<=C):I9 n C m:=⟨h.len,h.row,fun i j=>⟨(h.rg i j).1,Int.le_trans (h.rg i j).2 zo⟩⟩
theorem ZV {r:l8} {ks:List Int} (v:A3 r) (hi:x9 r=true) {i:Nat} (h:i<=61):I9 r.1.length 2305843009213693952 (u6 r ks i):=(U3 v hi i).mono (Nat.le_trans (Nat.pow_le_pow_right zo h) (by decide))
def N2 (n k:Nat):ZM:=l6 k fun i=>(List.replicate n 0).set i 1
def G3 (m:ZM) (to col i:Nat):ZM:=l6 m.length fun q=>if q<i then GD to col (b6 m q) else b6 m q
theorem DF {m:ZM} {to col:Nat}:m=G3 m to col 0:=by
 refine F5 (by show m.length=(l6 _ _).length; rw[q9]) fun i hi=>?_
 unfold G3; rw[s9 hi,if_neg zo]
theorem DE {m:ZM} {to col:Nat}:G3 m to col m.length=G2 m to col:=by
 refine F5 (by show (l6 _ _).length=_; unfold G2; rw[q9,List.length_map]) fun i hi=>?_
 have hi:i<m.length:=by rw[show (G3 m to col m.length).length=m.length from q9] at hi; exact hi
 unfold G3 G2; rw[s9 hi,if_pos hi,JR hi]
theorem VV {m:ZM} {to col i:Nat} (h:i<m.length):b6 (G3 m to col i) i=b6 m i:=by unfold G3; rw[s9 h,if_neg zo]
theorem O5 {m:ZM} {to col i:Nat} (h:i<m.length):(G3 m to col i).set i ((b6 (G3 m to col i) i).set to (b6 (b6 (G3 m to col i) i) to+b6 (b6 (G3 m to col i) i) col))=G3 m to col (i+1):=by
 rw[VV h]
 refine F5 (by rw[List.length_set]; show (l6 _ _).length=(l6 _ _).length; rw[q9,q9]) fun q hq=>?_
 have hq:q<m.length:=by rw[List.length_set,show (G3 m to col i).length=m.length from q9] at hq; exact hq
 by_cases e:q=i
 ·subst e
  rw[BE (by rw[show (G3 m to col q).length=m.length from q9]; exact h)]
  unfold G3; rw[s9 h,if_pos zo]; rfl
 ·rw[CJ e]
  unfold G3; rw[s9 hq,s9 hq]
  by_cases c:q<i
  ·rw[if_pos c,if_pos zo]
  ·rw[if_neg c,if_neg zo]
theorem tG {hs:List Value} {rows:List (List Int)} {k:Nat} {v:Value} {xs:List Int} (hk:hs.length=k) (hr:rows.length=k):k<(hs++[v]).length/\b6 (hs++[v]) k=v/\b6 (rows++[xs]) k=xs/\∀j,j≠k->(j<(hs++[v]).length->j<hs.length/\b6 (hs++[v]) j=b6 hs j/\b6 (rows++[xs]) j=b6 rows j)/\((hs++[v]).length<=j->hs.length<=j):=by
 subst hk
 refine ⟨by simp,by simp[b6],by rw[<- hr]; simp[b6],fun j hj=>⟨fun h=>?_,fun h=>by simp at h; omega⟩⟩
 have h:j<hs.length:=by simp at h; omega
 refine ⟨h,?_,?_⟩
 ·simp[b6,List.getElem?_append_left h]
 ·simp[b6,List.getElem?_append_left (show j<rows.length by omega)]
theorem IW {r:l8} (v:A3 r):E1 r=0:=by
 have h1:=v.len; have h2:=v.two; have h3:=v.le
 unfold E1
 rw[if_neg zo,if_neg (fun a=>a ⟨v.p1,v.p2⟩)]
theorem XN (k:Int):Ct Tryz.prog 100 [kI k] (kB (decide (k≠0)&&decide (k≠1))):=by
 refine Ct.mk Tryz.func100 rfl Tryz.ntmps100 rfl (fun w J=>?_); refine T0 ?_
 exact f0.res1 (fn:=Tryz.f100) rfl (.b rfl zi<|.nil)

set_option maxHeartbeats 2000000 in
theorem RA (r:l8) (ks:List Int) (v:A3 r) (hi:x9 r=true) (hl:ks.length<=60) (hk:∀k∈ks,k=0\/k=1):Ct Tryz.prog 54 [b7 eO r,b7 (eL eI) ks] (v6 [b7 eO (p8 r ks ks.length),b7 (eL (eL eI)) (u6 r ks ks.length),kI 0]):=by
 have hle:=v.le
 have htw:=v.two
 have hbl:=v.len
 have hic:A9 r=0:=by unfold A9; rw[if_neg,if_pos hi]; exact fun a=>a (IW v)
 have han:ks.any (fun x=>decide (x≠0)&&decide (x≠1))=false:=by rw[<- Bool.not_eq_true,List.any_eq_true]; rintro ⟨x,hx,e⟩; rcases hk x hx with h | h<;>simp[h] at e
 refine Ct.mk Tryz.func54 rfl Tryz.ntmps54 rfl (fun w J=>?_); refine g8 ?_; refine jb 2 rfl ?_; refine ja 4 ?_; refine j3 ?_; refine jc (IY r) ?_; refine l7 ?_; refine jq ?_ ?_
 ·intro h2
  exact absurd hic h2
 ·intro h2
  replace h2:=Classical.not_not.1 h2
  refine t6 ?_; refine jq ?_ ?_
  ·intro h4
   omega
  ·intro h4
   replace h4:=Int.not_lt.1 h4
   refine l5 ?_; refine tO (i9 (fun hp=>QX ks (fun _=>True) (fun x=>decide (x≠0)&&decide (x≠1)) (fun _ _=>trivial)) (.a rfl uu<|.cons rfl uu (fun g u h=>JL (cks:=[]) (fun a _=>XN a) g u ⟨[],h,trivial⟩)<|.nil)) rfl rfl ?_; refine g8 ?_; refine Tr.cnd rfl ?_ ?_
   ·intro h6
    rw[han] at h6; cases h6
   ·intro h6
    refine n7 ?_; refine jc (QY r zo zo) ?_; refine j3 ?_; refine b8.inlX (σ:=List Value) [2,4] Tryz.func102 rfl Tryz.ntmps102 rfl (.cons rfl (fun _=>rfl)<|.nil) rfl rfl (fun hs=>[⟨103,[],l3 true 22 K0 hs r.1.length⟩,⟨1000,[],p9 3 hs (w7 r.1.length) 0⟩,⟨1001,[],p9 3 hs (w7 r.1.length) 1⟩,⟨1002,[],p9 3 hs (w7 r.1.length) 2⟩,⟨1003,[],p9 3 hs (w7 r.1.length) 3⟩,⟨1004,[],p9 3 hs (w7 r.1.length) 4⟩,⟨1005,[],p9 3 hs (w7 r.1.length) 5⟩,⟨1006,[],p9 3 hs (w7 r.1.length) 6⟩,⟨1007,[],p9 3 hs (w7 r.1.length) 7⟩,⟨2,[],j1 [b7 (eL eI) r.1,b7 (eL eI) r.2]⟩,⟨4,[],j1 [j4 (.slice none 0 0),j4 (.slice none 0 0)]⟩]) (fun hs=>o7 103 r.1.length) (fun hs=>hs.length=r.1.length) (fun _=>rfl) (fun _=>inferInstance) (fun _=>rfl) rfl (fun J9 bks9 om9=>?_) ?_
    ·skip
     refine jn ?_; refine T0 ?_; refine Tr.grow (s:=3) rfl rfl 103 rfl 22 K0 rfl ?_; refine Tr.fam 1000 3 (hs:=[]) (rows:=[]) (fun j h=>absurd h (Nat.not_lt_zero _)) rfl ?_; refine jn ?_
     refine Tr.for1 (σ:=Nat×List Value) [⟨0,true,_,_⟩,⟨6,true,_,_⟩,⟨23,true,_,_⟩,⟨25,true,_,_⟩] [⟨2,_,_⟩,⟨4,_,_⟩] (fun (k,hs)=>[⟨3,true,[103],o7 103 k⟩,⟨7,true,[],kI (k:Int)⟩]) (fun (k,hs)=>[⟨103,[],l3 true 22 K0 hs k⟩,⟨1000,[],p9 3 hs (N2 r.1.length k) 0⟩,⟨1001,[],p9 3 hs (N2 r.1.length k) 1⟩,⟨1002,[],p9 3 hs (N2 r.1.length k) 2⟩,⟨1003,[],p9 3 hs (N2 r.1.length k) 3⟩,⟨1004,[],p9 3 hs (N2 r.1.length k) 4⟩,⟨1005,[],p9 3 hs (N2 r.1.length k) 5⟩,⟨1006,[],p9 3 hs (N2 r.1.length k) 6⟩,⟨1007,[],p9 3 hs (N2 r.1.length k) 7⟩]) (fun (k,hs)=>k<=r.1.length/\hs.length=k) (fun (k,hs)=>k=r.1.length/\hs.length=r.1.length) (fun (k,hs)=>r.1.length-k) ((0,[])) ⟨by omega,rfl⟩ (d8.mk (.o rfl zi rfl<|.i rfl zi<|zk) (.k rfl<|.e (by rfl) rfl<|.e (by rfl) rfl<|.e (by rfl) rfl<|.e (by rfl) rfl<|.e (by rfl) rfl<|.e (by rfl) rfl<|.e (by rfl) rfl<|.e (by rfl) rfl<|zk) rfl) ?_ ?_
     ·rintro ⟨k,hs⟩ ⟨hk,hhl⟩
      refine jn ?_; refine l5 ?_; refine jq ?_ ?_
      ·intro h3
       refine B1 ?_; refine b8.new (AB eI 11 rfl uu rfl uu rfl rfl rfl (fun _=>zo)) rfl rfl rfl rfl ?_; refine C6 ?_; refine b8.raw 16 11 rfl (fun v=>?_); refine b8.norm (S':=⟨_,_,_,_⟩::⟨_,_,_,_⟩::⟨_,_,_,_⟩::⟨_,_,_,_⟩::⟨_,_,_,_⟩::⟨_,_,_,_⟩::⟨_,_,_,_⟩::⟨_,_,_,_⟩::⟨_,_,_,_⟩::⟨_,_,_,_⟩::⟨_,_,_,_⟩::⟨_,_,_,_⟩::⟨_,_,_,_⟩::⟨_,_,_,_⟩::⟨_,_,_,_⟩::⟨_,_,_,_⟩::⟨_,_,_,_⟩::⟨_,_,_,_⟩::[]) (M':=[⟨_,_,_⟩,⟨_,_,_⟩,⟨_,_,_⟩,⟨_,_,_⟩,⟨_,_,_⟩,⟨_,_,_⟩,⟨_,_,_⟩,⟨_,_,_⟩,⟨_,_,_⟩,⟨_,_,_⟩,⟨_,_,_⟩,⟨_,_,_⟩]) rfl rfl ?_
       refine b8.new (A1 K0 17 (fun hp=>.cons rfl<|.nil) rfl rfl rfl rfl) rfl rfl rfl rfl ?_; refine i6 ?_; refine jl ?_; refine i6 ?_
       obtain ⟨q1,q2,q3,q4⟩:=tG (hs:=hs) (rows:=N2 r.1.length k) (k:=k) (v:=v) (xs:=(List.replicate r.1.length 0).set k 1) hhl q9
       refine b8.ren 11 1000 k (hs++[v]) (N2 r.1.length k++[(List.replicate r.1.length 0).set k 1]) inferInstance zo zo (.inl zo) q1 q2 q3 q4 rfl rfl ?_; refine b8.norm (S':=⟨_,_,_,_⟩::⟨_,_,_,_⟩::⟨_,_,_,_⟩::⟨_,_,_,_⟩::⟨_,_,_,_⟩::⟨_,_,_,_⟩::⟨_,_,_,_⟩::⟨_,_,_,_⟩::⟨_,_,_,_⟩::⟨_,_,_,_⟩::⟨_,_,_,_⟩::⟨_,_,_,_⟩::⟨_,_,_,_⟩::⟨_,_,_,_⟩::⟨_,_,_,_⟩::⟨_,_,_,_⟩::⟨_,_,_,_⟩::⟨_,_,_,_⟩::⟨_,_,_,_⟩::⟨_,_,_,_⟩::⟨_,_,_,_⟩::[]) (M':=[⟨_,_,_⟩,⟨_,_,_⟩,⟨_,_,_⟩,⟨_,_,_⟩,⟨_,_,_⟩,⟨_,_,_⟩,⟨_,_,_⟩,⟨_,_,_⟩,⟨_,_,_⟩,⟨_,_,_⟩,⟨_,_,_⟩,⟨_,_,_⟩]) rfl rfl ?_
       refine j8 ?_
       exact g6.lp ((k+1,hs++[v])) ⟨by omega,by rw[List.length_append,hhl]; rfl⟩ (by show r.1.length-(k+1)<r.1.length-k; omega) (d8.mk (.o rfl zi rfl<|.i rfl zi<|zk) (.k rfl<|.e (by rw[show N2 r.1.length (k+1)=_ from F9]; rfl) rfl<|.e (by rw[show N2 r.1.length (k+1)=_ from F9]; rfl) rfl<|.e (by rw[show N2 r.1.length (k+1)=_ from F9]; rfl) rfl<|.e (by rw[show N2 r.1.length (k+1)=_ from F9]; rfl) rfl<|.e (by rw[show N2 r.1.length (k+1)=_ from F9]; rfl) rfl<|.e (by rw[show N2 r.1.length (k+1)=_ from F9]; rfl) rfl<|.e (by rw[show N2 r.1.length (k+1)=_ from F9]; rfl) rfl<|.e (by rw[show N2 r.1.length (k+1)=_ from F9]; rfl) rfl<|zk) rfl)
      ·intro h3
       replace h3:=Int.not_lt.1 h3
       refine i1 ?_
       exact g6.cut ((k,hs)) ⟨zo,zo⟩ (d8.mk (.o rfl zi rfl<|.i rfl zi<|zk) (zk) rfl)
     ·rintro ⟨_,hs⟩ ⟨rfl,hhl⟩
      refine je ?_; refine j3 ?_; exact f0.inlX (n:=21) (bks:=bks9) (hs) hhl (t:=2) rfl (d8.mk (zk) (.k rfl<|.e (by rfl) rfl<|.e (by rfl) rfl<|.e (by rfl) rfl<|.e (by rfl) rfl<|.e (by rfl) rfl<|.e (by rfl) rfl<|.e (by rfl) rfl<|.e (by rfl) rfl<|zk) rfl) (.cons rfl<|.cons rfl<|.nil) (fun _ _ h=>h)
    intro hs hhl
    refine b8.norm (S':=⟨_,_,_,_⟩::⟨_,_,_,_⟩::⟨_,_,_,_⟩::⟨_,_,_,_⟩::⟨_,_,_,_⟩::⟨_,_,_,_⟩::⟨_,_,_,_⟩::⟨_,_,_,_⟩::⟨_,_,_,_⟩::⟨_,_,_,_⟩::⟨_,_,_,_⟩::⟨_,_,_,_⟩::⟨_,_,_,_⟩::⟨_,_,_,_⟩::⟨_,_,_,_⟩::⟨_,_,_,_⟩::⟨_,_,_,_⟩::⟨_,_,_,_⟩::⟨_,_,_,_⟩::⟨_,_,_,_⟩::⟨_,_,_,_⟩::⟨_,_,_,_⟩::[]) (M':=[⟨_,_,_⟩,⟨_,_,_⟩,⟨_,_,_⟩,⟨_,_,_⟩,⟨_,_,_⟩,⟨_,_,_⟩,⟨_,_,_⟩,⟨_,_,_⟩,⟨_,_,_⟩,⟨_,_,_⟩,⟨_,_,_⟩]) rfl rfl ?_; refine B0 ?_
    refine Tr.for1 (σ:=Nat) [⟨2,true,_,_⟩,⟨4,true,_,_⟩,⟨8,true,_,_⟩,⟨32,true,_,_⟩,⟨33,true,_,_⟩] [⟨103,_,_⟩,⟨4,_,_⟩] (fun k=>[⟨34,true,[],kI (k:Int)⟩]) (fun k=>[⟨2,[],j1 [b7 (eL eI) (p8 r ks k).1,b7 (eL eI) (p8 r ks k).2]⟩,⟨1000,[],p9 3 hs (u6 r ks k) 0⟩,⟨1001,[],p9 3 hs (u6 r ks k) 1⟩,⟨1002,[],p9 3 hs (u6 r ks k) 2⟩,⟨1003,[],p9 3 hs (u6 r ks k) 3⟩,⟨1004,[],p9 3 hs (u6 r ks k) 4⟩,⟨1005,[],p9 3 hs (u6 r ks k) 5⟩,⟨1006,[],p9 3 hs (u6 r ks k) 6⟩,⟨1007,[],p9 3 hs (u6 r ks k) 7⟩]) (fun k=>k<=ks.length) (fun k=>k=ks.length) (fun k=>ks.length-k) (0) zi (d8.mk (.i rfl zi<|zk) (.e (by rfl) rfl<|.e (by rfl) rfl<|.e (by rfl) rfl<|.e (by rfl) rfl<|.e (by rfl) rfl<|.e (by rfl) rfl<|.e (by rfl) rfl<|.e (by rfl) rfl<|.e (by rfl) rfl<|zk) rfl) ?_ ?_
    ·intro k hR0
     refine jn ?_; refine l5 ?_; refine jq ?_ ?_
     ·intro h11
      refine JJ ?_
      obtain ⟨⟨v2,_⟩,hfl⟩:=O8 v hi (ks:=ks) k
      have hfl2:=v2.len
      have hmz:=ZV (ks:=ks) v hi (i:=k) zo
      have hlw:=P1 v2 (b6 ks k)
      refine g8 ?_; refine jc (XT (p8 r ks k) (b6 ks k) ⟨zo,zo⟩ ⟨zo,zo⟩) ?_; refine B1 ?_; refine b8.inlX (σ:=Unit) [2,4,103,1000,1001,1002,1003,1004,1005,1006,1007] Tryz.func104 rfl Tryz.ntmps104 rfl (.cons rfl (fun _=>rfl)<|.cons rfl (fun _=>rfl)<|.cons rfl (fun _=>rfl)<|.nil) rfl rfl (fun _=>[⟨103,[],l3 true 22 K0 hs r.1.length⟩,⟨1000,[],p9 3 hs (G2 (u6 r ks k) (y2 (p8 r ks k) (b6 ks k)).toNat (y0 (p8 r ks k) (b6 ks k)).toNat) 0⟩,⟨1001,[],p9 3 hs (G2 (u6 r ks k) (y2 (p8 r ks k) (b6 ks k)).toNat (y0 (p8 r ks k) (b6 ks k)).toNat) 1⟩,⟨1002,[],p9 3 hs (G2 (u6 r ks k) (y2 (p8 r ks k) (b6 ks k)).toNat (y0 (p8 r ks k) (b6 ks k)).toNat) 2⟩,⟨1003,[],p9 3 hs (G2 (u6 r ks k) (y2 (p8 r ks k) (b6 ks k)).toNat (y0 (p8 r ks k) (b6 ks k)).toNat) 3⟩,⟨1004,[],p9 3 hs (G2 (u6 r ks k) (y2 (p8 r ks k) (b6 ks k)).toNat (y0 (p8 r ks k) (b6 ks k)).toNat) 4⟩,⟨1005,[],p9 3 hs (G2 (u6 r ks k) (y2 (p8 r ks k) (b6 ks k)).toNat (y0 (p8 r ks k) (b6 ks k)).toNat) 5⟩,⟨1006,[],p9 3 hs (G2 (u6 r ks k) (y2 (p8 r ks k) (b6 ks k)).toNat (y0 (p8 r ks k) (b6 ks k)).toNat) 6⟩,⟨1007,[],p9 3 hs (G2 (u6 r ks k) (y2 (p8 r ks k) (b6 ks k)).toNat (y0 (p8 r ks k) (b6 ks k)).toNat) 7⟩,⟨2,[],j1 [b7 (eL eI) (G9 (p8 r ks k) (b6 ks k)).1,b7 (eL eI) (G9 (p8 r ks k) (b6 ks k)).2]⟩,⟨4,[],j1 [j4 (.slice none 0 0),j4 (.slice none 0 0)]⟩]) (fun _=>j4 (.tuple #[])) (fun _=>True) (fun _=>rfl) (fun _=>inferInstance) (fun _=>rfl) rfl (fun J15 bks15 om15=>?_) ?_
      ·skip
       refine jn ?_; refine j5 ?_; refine tO (U8 rfl uu) rfl rfl ?_; refine j5 ?_
       refine Tr.for1 (σ:=Nat) [⟨1,true,_,_⟩,⟨2,true,_,_⟩,⟨8,true,_,_⟩,⟨9,true,_,_⟩,⟨27,true,_,_⟩,⟨29,true,_,_⟩,⟨128,true,_,_⟩,⟨1025,true,_,_⟩,⟨1026,true,_,_⟩,⟨1027,true,_,_⟩,⟨1028,true,_,_⟩,⟨1029,true,_,_⟩,⟨1030,true,_,_⟩,⟨1031,true,_,_⟩,⟨1032,true,_,_⟩] [⟨103,_,_⟩,⟨4,_,_⟩,⟨2,_,_⟩] (fun i=>[⟨10,true,[],kI (i:Int)⟩]) (fun i=>[⟨1000,[],p9 3 hs (G3 (u6 r ks k) (y2 (p8 r ks k) (b6 ks k)).toNat (y0 (p8 r ks k) (b6 ks k)).toNat i) 0⟩,⟨1001,[],p9 3 hs (G3 (u6 r ks k) (y2 (p8 r ks k) (b6 ks k)).toNat (y0 (p8 r ks k) (b6 ks k)).toNat i) 1⟩,⟨1002,[],p9 3 hs (G3 (u6 r ks k) (y2 (p8 r ks k) (b6 ks k)).toNat (y0 (p8 r ks k) (b6 ks k)).toNat i) 2⟩,⟨1003,[],p9 3 hs (G3 (u6 r ks k) (y2 (p8 r ks k) (b6 ks k)).toNat (y0 (p8 r ks k) (b6 ks k)).toNat i) 3⟩,⟨1004,[],p9 3 hs (G3 (u6 r ks k) (y2 (p8 r ks k) (b6 ks k)).toNat (y0 (p8 r ks k) (b6 ks k)).toNat i) 4⟩,⟨1005,[],p9 3 hs (G3 (u6 r ks k) (y2 (p8 r ks k) (b6 ks k)).toNat (y0 (p8 r ks k) (b6 ks k)).toNat i) 5⟩,⟨1006,[],p9 3 hs (G3 (u6 r ks k) (y2 (p8 r ks k) (b6 ks k)).toNat (y0 (p8 r ks k) (b6 ks k)).toNat i) 6⟩,⟨1007,[],p9 3 hs (G3 (u6 r ks k) (y2 (p8 r ks k) (b6 ks k)).toNat (y0 (p8 r ks k) (b6 ks k)).toNat i) 7⟩]) (fun i=>i<=r.1.length) (fun i=>i=r.1.length) (fun i=>r.1.length-i) (0) zi (d8.mk (.i rfl zi<|zk) (.e (by rw[<- DF]) rfl<|.e (by rw[<- DF]) rfl<|.e (by rw[<- DF]) rfl<|.e (by rw[<- DF]) rfl<|.e (by rw[<- DF]) rfl<|.e (by rw[<- DF]) rfl<|.e (by rw[<- DF]) rfl<|.e (by rw[<- DF]) rfl<|zk) rfl) ?_ ?_
       ·intro i hR0
        refine jn ?_; refine l5 ?_; refine jq ?_ ?_
        ·intro h1
         refine j3 ?_; refine b8.asRow 13 1000 rfl inferInstance zo zo ?_; refine b8.norm (S':=⟨_,_,_,_⟩::⟨_,_,_,_⟩::⟨_,_,_,_⟩::⟨_,_,_,_⟩::⟨_,_,_,_⟩::⟨_,_,_,_⟩::⟨_,_,_,_⟩::⟨_,_,_,_⟩::⟨_,_,_,_⟩::⟨_,_,_,_⟩::⟨_,_,_,_⟩::⟨_,_,_,_⟩::⟨_,_,_,_⟩::⟨_,_,_,_⟩::⟨_,_,_,_⟩::⟨_,_,_,_⟩::⟨_,_,_,_⟩::⟨_,_,_,_⟩::⟨_,_,_,_⟩::⟨_,_,_,_⟩::[]) (M':=[⟨_,_,_⟩,⟨_,_,_⟩,⟨_,_,_⟩,⟨_,_,_⟩,⟨_,_,_⟩,⟨_,_,_⟩,⟨_,_,_⟩,⟨_,_,_⟩,⟨_,_,_⟩,⟨_,_,_⟩,⟨_,_,_⟩]) rfl rfl ?_; refine j5 ?_
         refine Tr.drawA p7 #[false,false,false,false,false,false,false,false,false,false,false] rfl ?_
         have hat:=VV (m:=(u6 r ks k)) (to:=(y2 (p8 r ks k) (b6 ks k)).toNat) (col:=(y0 (p8 r ks k) (b6 ks k)).toNat) (i:=i) (by rw[hmz.len]; omega)
         have hrl:(b6 (G3 (u6 r ks k) (y2 (p8 r ks k) (b6 ks k)).toNat (y0 (p8 r ks k) (b6 ks k)).toNat i) i).length=r.1.length:=by rw[hat]; exact hmz.row i zo
         have hr1:=hmz.rg i (y2 (p8 r ks k) (b6 ks k)).toNat
         have hr2:=hmz.rg i (y0 (p8 r ks k) (b6 ks k)).toNat
         rw[<- hat] at hr1 hr2
         refine d5.take 0 #[true,false,false,false,false,false,false,false,false,false,false] (by kernel_rfl) (by kernel_rfl) (by kernel_rfl) rfl rfl (E6 rfl) rfl rfl ?_; refine d5.take 1 #[true,true,false,false,false,false,false,false,false,false,false] (by kernel_rfl) (by kernel_rfl) (by kernel_rfl) rfl rfl (E6 rfl) rfl rfl ?_; refine d5.take 2 #[true,true,true,false,false,false,false,false,false,false,false] (by kernel_rfl) (by kernel_rfl) (by kernel_rfl) rfl rfl (PR rfl rfl zo) rfl rfl ?_; refine d5.take 4 #[true,true,true,false,true,false,false,false,false,false,false] (by kernel_rfl) (by kernel_rfl) (by kernel_rfl) rfl rfl (E6 rfl) rfl rfl ?_
         refine d5.take 5 #[true,true,true,false,true,true,false,false,false,false,false] (by kernel_rfl) (by kernel_rfl) (by kernel_rfl) rfl rfl (E6 rfl) rfl rfl ?_; refine d5.take 6 #[true,true,true,false,true,true,true,false,false,false,false] (by kernel_rfl) (by kernel_rfl) (by kernel_rfl) rfl rfl (PR rfl rfl zo) rfl rfl ?_; refine d5.all [3,7] (by kernel_rfl) (by simp) (fun i hi=>?_)
         simp only[List.mem_cons,List.not_mem_nil,or_false] at hi
         rcases hi with rfl | rfl
         ·refine ⟨_,rfl,?_⟩
          refine tO (OA (t0:=1000) inferInstance rfl uu (fun _=>zo)) rfl rfl ?_; refine d5.k #[true,true,true,true,true,true,true,false,false,false,false] rfl (fun _ _ _ _=>trivial) ?_; refine d5.one 7 (by kernel_rfl) rfl ?_; refine tO (OA (t0:=1000) inferInstance rfl uu (fun _=>zo)) rfl rfl ?_; refine d5.k #[true,true,true,true,true,true,true,true,false,false,false] rfl (fun _ _ _ _=>trivial) ?_; refine d5.take 8 #[true,true,true,true,true,true,true,true,true,false,false] (by kernel_rfl) (by kernel_rfl) (by kernel_rfl) rfl rfl (gT rfl rfl zo) rfl rfl ?_
          refine d5.take 9 #[true,true,true,true,true,true,true,true,true,true,false] (by kernel_rfl) (by kernel_rfl) (by kernel_rfl) rfl rfl (PR rfl rfl zo) rfl rfl ?_; refine d5.one 10 (by kernel_rfl) rfl ?_; refine b8.stR (t0:=1000) inferInstance rfl rfl zo ?_; refine b8.norm (S':=⟨_,_,_,_⟩::⟨_,_,_,_⟩::⟨_,_,_,_⟩::⟨_,_,_,_⟩::⟨_,_,_,_⟩::⟨_,_,_,_⟩::⟨_,_,_,_⟩::⟨_,_,_,_⟩::⟨_,_,_,_⟩::⟨_,_,_,_⟩::⟨_,_,_,_⟩::⟨_,_,_,_⟩::⟨_,_,_,_⟩::⟨_,_,_,_⟩::⟨_,_,_,_⟩::⟨_,_,_,_⟩::⟨_,_,_,_⟩::⟨_,_,_,_⟩::⟨_,_,_,_⟩::⟨_,_,_,_⟩::⟨_,_,_,_⟩::⟨_,_,_,_⟩::⟨_,_,_,_⟩::⟨_,_,_,_⟩::⟨_,_,_,_⟩::⟨_,_,_,_⟩::⟨_,_,_,_⟩::⟨_,_,_,_⟩::⟨_,_,_,_⟩::⟨_,_,_,_⟩::⟨_,_,_,_⟩::[]) (M':=[⟨_,_,_⟩,⟨_,_,_⟩,⟨_,_,_⟩,⟨_,_,_⟩,⟨_,_,_⟩,⟨_,_,_⟩,⟨_,_,_⟩,⟨_,_,_⟩,⟨_,_,_⟩,⟨_,_,_⟩,⟨_,_,_⟩]) rfl rfl ?_
          refine d5.k #[true,true,true,true,true,true,true,true,true,true,true] rfl (fun _ _ _ _=>trivial) ?_; refine d5.done (by kernel_rfl) ?_; refine l5 ?_
          exact g6.lp (i+1) zi zo (d8.mk (.i rfl zi<|zk) (.e (by rw[<- O5 (by rw[hmz.len]; omega)]) rfl<|.e (by rw[<- O5 (by rw[hmz.len]; omega)]) rfl<|.e (by rw[<- O5 (by rw[hmz.len]; omega)]) rfl<|.e (by rw[<- O5 (by rw[hmz.len]; omega)]) rfl<|.e (by rw[<- O5 (by rw[hmz.len]; omega)]) rfl<|.e (by rw[<- O5 (by rw[hmz.len]; omega)]) rfl<|.e (by rw[<- O5 (by rw[hmz.len]; omega)]) rfl<|.e (by rw[<- O5 (by rw[hmz.len]; omega)]) rfl<|zk) rfl)
         ·refine ⟨_,rfl,?_⟩
          refine tO (OA (t0:=1000) inferInstance rfl uu (fun _=>zo)) rfl rfl ?_; refine d5.k #[true,true,true,false,true,true,true,true,false,false,false] rfl (fun _ _ _ _=>trivial) ?_; refine d5.one 3 (by kernel_rfl) rfl ?_; refine tO (OA (t0:=1000) inferInstance rfl uu (fun _=>zo)) rfl rfl ?_; refine d5.k #[true,true,true,true,true,true,true,true,false,false,false] rfl (fun _ _ _ _=>trivial) ?_; refine d5.take 8 #[true,true,true,true,true,true,true,true,true,false,false] (by kernel_rfl) (by kernel_rfl) (by kernel_rfl) rfl rfl (gT rfl rfl zo) rfl rfl ?_
          refine d5.take 9 #[true,true,true,true,true,true,true,true,true,true,false] (by kernel_rfl) (by kernel_rfl) (by kernel_rfl) rfl rfl (PR rfl rfl zo) rfl rfl ?_; refine d5.one 10 (by kernel_rfl) rfl ?_; refine b8.stR (t0:=1000) inferInstance rfl rfl zo ?_; refine b8.norm (S':=⟨_,_,_,_⟩::⟨_,_,_,_⟩::⟨_,_,_,_⟩::⟨_,_,_,_⟩::⟨_,_,_,_⟩::⟨_,_,_,_⟩::⟨_,_,_,_⟩::⟨_,_,_,_⟩::⟨_,_,_,_⟩::⟨_,_,_,_⟩::⟨_,_,_,_⟩::⟨_,_,_,_⟩::⟨_,_,_,_⟩::⟨_,_,_,_⟩::⟨_,_,_,_⟩::⟨_,_,_,_⟩::⟨_,_,_,_⟩::⟨_,_,_,_⟩::⟨_,_,_,_⟩::⟨_,_,_,_⟩::⟨_,_,_,_⟩::⟨_,_,_,_⟩::⟨_,_,_,_⟩::⟨_,_,_,_⟩::⟨_,_,_,_⟩::⟨_,_,_,_⟩::⟨_,_,_,_⟩::⟨_,_,_,_⟩::⟨_,_,_,_⟩::⟨_,_,_,_⟩::⟨_,_,_,_⟩::[]) (M':=[⟨_,_,_⟩,⟨_,_,_⟩,⟨_,_,_⟩,⟨_,_,_⟩,⟨_,_,_⟩,⟨_,_,_⟩,⟨_,_,_⟩,⟨_,_,_⟩,⟨_,_,_⟩,⟨_,_,_⟩,⟨_,_,_⟩]) rfl rfl ?_
          refine d5.k #[true,true,true,true,true,true,true,true,true,true,true] rfl (fun _ _ _ _=>trivial) ?_; refine d5.done (by kernel_rfl) ?_; refine l5 ?_
          exact g6.lp (i+1) zi zo (d8.mk (.i rfl zi<|zk) (.e (by rw[<- O5 (by rw[hmz.len]; omega)]) rfl<|.e (by rw[<- O5 (by rw[hmz.len]; omega)]) rfl<|.e (by rw[<- O5 (by rw[hmz.len]; omega)]) rfl<|.e (by rw[<- O5 (by rw[hmz.len]; omega)]) rfl<|.e (by rw[<- O5 (by rw[hmz.len]; omega)]) rfl<|.e (by rw[<- O5 (by rw[hmz.len]; omega)]) rfl<|.e (by rw[<- O5 (by rw[hmz.len]; omega)]) rfl<|.e (by rw[<- O5 (by rw[hmz.len]; omega)]) rfl<|zk) rfl)
        ·intro h1
         replace h1:=Int.not_lt.1 h1
         refine i1 ?_
         exact g6.cut (i) zo (d8.mk (.i rfl zi<|zk) (zk) rfl)
       ·intro i hin
        refine je ?_; exact g6.inlX (n:=25) (bks:=bks15) (()) trivial rfl (d8.mk (zk) (.k rfl<|.e (by rw[hin,<- hmz.len,DE]) rfl<|.e (by rw[hin,<- hmz.len,DE]) rfl<|.e (by rw[hin,<- hmz.len,DE]) rfl<|.e (by rw[hin,<- hmz.len,DE]) rfl<|.e (by rw[hin,<- hmz.len,DE]) rfl<|.e (by rw[hin,<- hmz.len,DE]) rfl<|.e (by rw[hin,<- hmz.len,DE]) rfl<|.e (by rw[hin,<- hmz.len,DE]) rfl<|zk) rfl) (.cons rfl<|.cons rfl<|.cons rfl<|.cons rfl<|.cons rfl<|.cons rfl<|.cons rfl<|.cons rfl<|.cons rfl<|.cons rfl<|.cons rfl<|.nil) rfl
      intro _ hX15
      refine b8.norm (S':=⟨_,_,_,_⟩::⟨_,_,_,_⟩::⟨_,_,_,_⟩::⟨_,_,_,_⟩::⟨_,_,_,_⟩::⟨_,_,_,_⟩::⟨_,_,_,_⟩::⟨_,_,_,_⟩::⟨_,_,_,_⟩::⟨_,_,_,_⟩::⟨_,_,_,_⟩::⟨_,_,_,_⟩::⟨_,_,_,_⟩::⟨_,_,_,_⟩::⟨_,_,_,_⟩::⟨_,_,_,_⟩::⟨_,_,_,_⟩::⟨_,_,_,_⟩::⟨_,_,_,_⟩::⟨_,_,_,_⟩::⟨_,_,_,_⟩::⟨_,_,_,_⟩::⟨_,_,_,_⟩::⟨_,_,_,_⟩::⟨_,_,_,_⟩::[]) (M':=[⟨_,_,_⟩,⟨_,_,_⟩,⟨_,_,_⟩,⟨_,_,_⟩,⟨_,_,_⟩,⟨_,_,_⟩,⟨_,_,_⟩,⟨_,_,_⟩,⟨_,_,_⟩,⟨_,_,_⟩,⟨_,_,_⟩]) rfl rfl ?_; refine j8 ?_
      exact g6.lp (k+1) zi zo (d8.mk (.i rfl zi<|zk) (.e (by rfl) rfl<|.e (by rfl) rfl<|.e (by rfl) rfl<|.e (by rfl) rfl<|.e (by rfl) rfl<|.e (by rfl) rfl<|.e (by rfl) rfl<|.e (by rfl) rfl<|.e (by rfl) rfl<|zk) rfl)
     ·intro h11
      replace h11:=Int.not_lt.1 h11
      refine i1 ?_
      exact g6.cut (k) zo (d8.mk (.i rfl zi<|zk) (zk) rfl)
    ·rintro _ rfl
     refine je ?_
     have hmz:=ZV (ks:=ks) v hi (i:=ks.length) zo
     refine g8 ?_; refine Tr.frzM 8 103 1000 rfl inferInstance zo (by rw[hmz.len,hhl]) (fun i=>by by_cases hi:i<r.1.length; (rw[hmz.row i hi]; simp only[q7]; omega); (rw[w4 (by rw[hmz.len]; omega)]; exact Nat.zero_le _)) rfl ?_; refine jn ?_; refine l7 ?_
     exact f0.resC (fn:=Tryz.f54) (ts:=[5,6]) rfl rfl rfl (s6 rfl (by rfl)) (.r rfl zi<|.i rfl zi<|.nil)

end Go.Fl

/- Contracts: kinds and steps of exchanges (the program). -/
namespace Go.Fl
open Go Go.Proofs
open b8 renaming op->tO
open i7 renaming op->rO
set_option maxRecDepth 100000

theorem uL {p:List Int} {I:Iv} {v:m8}:H2 p I v=1\/H2 p I v=-1\/H2 p I v=0:=by
 unfold H2
 split
 ·rcases jH (a:=b6 v.1 0) with h | h | h
  ·exact .inl h.2
  ·exact .inr (.inl h.2)
  ·exact .inr (.inr h.2)
 ·exact uQ
structure AR (p:List Int) (D:Int) (M n e:Nat) (r:l8) (ls:List m8):Prop where
 rows:A3 r
 nn:r.1.length=n
 len:ls.length=n
 red:∀a,a<n->A7 p (b6 ls a)
 hb:∀a,a<n->HB D (2 ^ e*M) (b6 ls a)
def Q9 (sg:m8->Int) (r:l8) (ls:List m8):Int:=sg (J6 (b6 ls (o6 r.1).toNat) (b6 ls (o6 r.2).toNat))
def Z7 (sg:m8->Int) (r:l8) (ls:List m8):Int:=if Q9 sg r ls=1 then 0 else 1
def CS (r:l8) (ls:List m8) (kind:Int):List m8:=ls.set (y0 r kind).toNat (J6 (b6 ls (y0 r kind).toNat) (b6 ls (y2 r kind).toNat))
theorem AR.nbd {p:List Int} {D:Int} {M n e a:Nat} {r:l8} {ls l0:List m8} (h:AR p D M n e r ls) (h0:F3 p D M n l0) (he:e<=16) (ha:a<n):E7 200 (b6 ls a) :=
 h0.nbd (h.hb a ha) (Nat.le_trans (Nat.pow_le_pow_right zo he) (by decide))
theorem cH {l:List m8} {k j:Nat} {x:m8} (h:k<l.length):b6 (l.set k x) j=if j=k then x else b6 l j:=by
 by_cases e:j=k
 ·subst e; rw[if_pos rfl]; simp[b6,h]
 ·rw[if_neg e]; simp[b6,List.getElem?_set_ne (Ne.symm e)]
theorem AR.step {p:List Int} {D:Int} {M n e:Nat} {r:l8} {ls l0:List m8} (h:AR p D M n e r ls) (h0:F3 p D M n l0) (hi:x9 r=true) (kind:Int):AR p D M n (e+1) (G9 r kind) (CS r ls kind):=by
 obtain ⟨h1,h2⟩:=P1 h.rows kind
 have hn:=h.nn
 have e1:(y0 r kind).toNat<n:=by omega
 have e2:(y2 r kind).toNat<n:=by omega
 refine ⟨(TN h.rows hi kind).1,(bO h.rows.len h.rows.two).1.trans hn,by unfold CS; rw[List.length_set]; exact h.len,fun a ha=>?_,fun a ha=>?_⟩
 ·unfold CS
  rw[cH (by rw[h.len]; exact e1)]
  split
  ·exact eV (h.red _ e1) (h.red _ e2)
  ·exact h.red a ha
 ·unfold CS
  rw[cH (by rw[h.len]; exact e1)]
  have:2 ^ (e+1)*M=2 ^ e*M+2 ^ e*M:=by rw[Nat.pow_succ',Nat.mul_assoc,Nat.two_mul]
  split
  ·rw[this]; exact (h.hb _ e1).sub h0.pos (h.hb _ e2)
  ·exact (h.hb a ha).mono zo
theorem mI (f:y4) (p q:B7) (h0:C8 f=0) (hp:C1 250 p) (hq:C1 250 q):Ct Tryz.prog 116 [r5 v9 (K3 f),b7 m9 p,b7 m9 q] (b7 m9 (o4 (J6 (o0 f.1 p) (o0 f.1 q)))):=XK (K3 f) p q 250 (X4 h0) hp hq zo
theorem map_set {l:List m8} {k:Nat} {x:m8}:(l.map o4).set k (o4 x)=(l.set k x).map o4:=by
 rw[List.map_set]
theorem kG (p:List B7) (hn:p.length<=100000) (h0:0<p.length):Q0 Tryz.prog 148 [b7 (eL m9) p] (fun t=>o7 t p.length) (l3 false 30 m9 p p.length):=by
 refine Q0.mk Tryz.func148 rfl Tryz.ntmps148 rfl (fun w J=>?_); refine l7 ?_; refine tO (JX rfl uu) rfl rfl ?_; refine g8 ?_; refine Tr.exB (s:=4) rfl (fun b1 q1=>?_); refine Tr.cnd rfl ?_ ?_
 ·intro h1
  exact absurd (congrArg List.length (q1 h1)) (by simp only[List.length_nil]; omega)
 ·intro h1
  refine i1 ?_; refine b8.new (DR m9 5) rfl rfl rfl rfl ?_; refine g8 ?_; refine jl ?_; refine i1 ?_
  exact f0.resN (fn:=Tryz.f148) (u:=5) rfl rfl (ES zi zi) (FI zi) inferInstance

set_option maxHeartbeats 1000000 in
theorem XS (x:t8) (D:Int) (M e:Nat) (r:l8) (ls:List m8) (hx:Q6 x) (hlo:F3 x.1.1 D M x.2.1.length (G8 x)) (hst:AR x.1.1 D M x.2.1.length e r ls) (he:e<=16):Ct Tryz.prog 94 [r5 N3 (NN x),b7 eO r,b7 (eL m9) (ls.map o4)] (v6 [kI (if Q9 (B5 x) r ls=0 then 0 else Z7 (B5 x) r ls),kI (if Q9 (B5 x) r ls=0 then 14 else 0)]):=by
 have h0:=hx.fld
 have hpo:=X4 h0
 have hle:x.2.1.length<=8:=hx.rows.le
 have htwo:2<=x.2.1.length:=hx.rows.two
 have hnn:=hst.nn
 have hr2:=hst.rows.len
 have hln:=hst.len
 have hml:(ls.map o4).length=x.2.1.length:=by rw[List.length_map,hln]
 have hg:∀a,a<x.2.1.length->b6 (ls.map o4) a=o4 (b6 ls a):=fun a ha=>JS (by rw[hln]; exact ha)
 have hnb:=fun a (ha:a<x.2.1.length)=>hst.nbd hlo he ha
 have hl1:=CF hst.rows.p1 zo
 have hl2:=CF hst.rows.p2 zo
 have hga:=hg (o6 r.1).toNat zo
 have hgb:=hg (o6 r.2).toNat zo
 have htr:Q9 (B5 x) r ls=1\/Q9 (B5 x) r ls=-1\/Q9 (B5 x) r ls=0:=uL
 have hks:Q9 (B5 x) r ls=B5 x (J6 (b6 ls (o6 r.1).toNat) (b6 ls (o6 r.2).toNat)):=rfl
 refine Ct.mk Tryz.func94 rfl Tryz.ntmps94 rfl (fun w J=>?_); refine g8 ?_; refine jb 4 rfl ?_; refine l5 ?_; refine Tr.draw 16 p7 (by kernel_rfl) ?_; refine i6 ?_; refine rO (CM rfl uu) rfl rfl ?_; refine n7 ?_; refine jd (LX r.1 zo) ?_; refine n7 ?_; refine jd (LX r.2 zo) ?_; refine j5 ?_; refine tO (i9 (fun hp=>kK x.1 (b6 (ls.map o4) (o6 r.1).toNat) (b6 (ls.map o4) (o6 r.2).toNat) h0 (by rw[hga]; exact (CC (hnb _ zo)).mono zo) (by rw[hgb]; exact (CC (hnb _ zo)).mono zo)) (.a rfl uu<|.a rfl uu<|.a rfl uu<|.nil)) rfl rfl ?_
 rw[hga,hgb,CU (hst.red _ zo),CU (hst.red _ zo)]
 refine l7 ?_; refine Tr.cnd rfl ?_ ?_
 ·intro h2
  try simp only[decide_eq_true_eq] at h2
  have q1:Q9 (B5 x) r ls=1:=by rw[hks]; assumption
  have q2:Z7 (B5 x) r ls=0:=if_pos q1
  refine l7 ?_; exact f0.res (fn:=Tryz.f94) (ts:=[6,7]) rfl rfl (.i rfl (by rw[q1,q2]; rfl)<|.i rfl (by rw[q1]; rfl)<|.nil)
 ·intro h2
  try simp only[decide_eq_false_iff_not] at h2
  have q1:¬Q9 (B5 x) r ls=1:=by rw[hks]; assumption
  have q2:Z7 (B5 x) r ls=1:=if_neg q1
  refine l5 ?_; refine Tr.cnd rfl ?_ ?_
  ·intro h4
   try simp only[decide_eq_true_eq] at h4
   have q3:Q9 (B5 x) r ls=-1:=by rw[hks]; assumption
   refine l7 ?_; exact f0.res (fn:=Tryz.f94) (ts:=[6,7]) rfl rfl (.i rfl (by rw[q3,q2]; rfl)<|.i rfl (by rw[q3]; rfl)<|.nil)
  ·intro h4
   try simp only[decide_eq_false_iff_not] at h4
   have q4:¬Q9 (B5 x) r ls=-1:=by rw[hks]; assumption
   have q3:Q9 (B5 x) r ls=0:=by omega
   refine t6 ?_; exact f0.res (fn:=Tryz.f94) (ts:=[6,7]) rfl rfl (.i rfl (by rw[q3]; rfl)<|.i rfl (by rw[q3]; rfl)<|.nil)

set_option maxHeartbeats 1000000 in
theorem XV (x:t8) (D:Int) (M e:Nat) (r:l8) (ls:List m8) (k:Int) (hx:Q6 x) (hlo:F3 x.1.1 D M x.2.1.length (G8 x)) (hst:AR x.1.1 D M x.2.1.length e r ls) (he:e<=16):Ct Tryz.prog 95 [r5 N3 (NN x),b7 eO r,b7 (eL m9) (ls.map o4),kI k] (v6 [b7 eO (G9 r k),b7 (eL m9) ((CS r ls k).map o4)]):=by
 have h0:=hx.fld
 have hpo:=X4 h0
 have hle:x.2.1.length<=8:=hx.rows.le
 have htwo:2<=x.2.1.length:=hx.rows.two
 have hnn:=hst.nn
 have hr2:=hst.rows.len
 have hln:=hst.len
 have hml:(ls.map o4).length=x.2.1.length:=by rw[List.length_map,hln]
 have hg:∀a,a<x.2.1.length->b6 (ls.map o4) a=o4 (b6 ls a):=fun a ha=>JS (by rw[hln]; exact ha)
 have hnb:=fun a (ha:a<x.2.1.length)=>hst.nbd hlo he ha
 obtain ⟨hl1,hl2⟩:=P1 hst.rows k
 have hga:=hg (y0 r k).toNat zo
 have hgb:=hg (y2 r k).toNat zo
 refine Ct.mk Tryz.func95 rfl Tryz.ntmps95 rfl (fun w J=>?_); refine g8 ?_; refine jb 5 rfl ?_; refine ja 8 ?_; refine j8 ?_; refine jc (XT r k ⟨zo,zo⟩ ⟨zo,zo⟩) ?_; refine w3 ?_; refine b8.new (CK 20 (fun hp=>kG (ls.map o4) zo zo) (.a rfl uu<|.nil)) rfl rfl rfl rfl ?_; refine i1 ?_; refine Tr.draw 15 p7 (by kernel_rfl) ?_; refine j5 ?_; refine rO (CM rfl uu) rfl rfl ?_; refine n7 ?_; refine rO (BH rfl uu rfl rfl rfl rfl) rfl rfl ?_; refine j5 ?_; refine rO (BH rfl uu rfl rfl rfl rfl) rfl rfl ?_
 refine rO (i9 (fun hp=>mI x.1 (b6 (ls.map o4) (y0 r k).toNat) (b6 (ls.map o4) (y2 r k).toNat) h0 (by rw[hga]; exact (CC (hnb _ zo)).mono zo) (by rw[hgb]; exact (CC (hnb _ zo)).mono zo)) (.a rfl uu<|.a rfl uu<|.a rfl uu<|.nil)) rfl rfl ?_
 rw[hga,hgb,CU (hst.red _ zo),CU (hst.red _ zo)]
 refine B1 ?_; refine Tr.frz 20 [9] ⟨rfl,trivial⟩ (by simp only[q7]; omega) rfl ?_; refine i6 ?_; exact f0.resC (fn:=Tryz.f95) (ts:=[9]) rfl rfl rfl (s6 rfl (by rfl)) (.r rfl (by unfold CS; rw[map_set])<|.nil)

end Go.Fl

/- Contracts: Path and Step (the program). -/
namespace Go.Fl
open Go Go.Proofs
open b8 renaming op->tO
open i7 renaming op->rO
set_option maxRecDepth 100000

def R4 (sg:m8->Int) (r:l8) (ls:List m8):Nat->l8×List m8
 | 0=>(r,ls)
 | i+1=>(G9 (R4 sg r ls i).1 (Z7 sg (R4 sg r ls i).1 (R4 sg r ls i).2),CS (R4 sg r ls i).1 (R4 sg r ls i).2 (Z7 sg (R4 sg r ls i).1 (R4 sg r ls i).2))
def OJ (sg:m8->Int) (r:l8) (ls:List m8) (i:Nat):Int:=Z7 sg (R4 sg r ls i).1 (R4 sg r ls i).2
def sK (sg:m8->Int) (r:l8) (ls:List m8) (i:Nat):Int:=Q9 sg (R4 sg r ls i).1 (R4 sg r ls i).2
theorem sJ {sg:m8->Int} {r:l8} {ls:List m8} {i:Nat}:OJ sg r ls i=0\/OJ sg r ls i=1:=by unfold OJ Z7; split<;>simp
theorem OK {p:List Int} {sg:m8->Int} {D:Int} {M n:Nat} {r:l8} {ls l0:List m8} (h:AR p D M n 0 r ls) (h0:F3 p D M n l0) (hi:x9 r=true):∀i,AR p D M n i (R4 sg r ls i).1 (R4 sg r ls i).2/\x9 (R4 sg r ls i).1=true
 | 0=>⟨h,hi⟩
 | i+1=>by
  obtain ⟨h1,h2⟩:=OK h h0 hi (sg:=sg) i
  exact ⟨h1.step h0 h2 _,(TN h1.rows h2 _).2⟩
theorem Q6.st {x:t8} {D:Int} {M:Nat} (hx:Q6 x) (hlo:F3 x.1.1 D M x.2.1.length (G8 x)):AR x.1.1 D M x.2.1.length 0 (oX x) (G8 x) :=
 ⟨hx.rows,rfl,hlo.len,hlo.red,fun a ha=>by rw[Nat.pow_zero,Nat.one_mul]; exact hlo.hb a ha⟩
abbrev zX:t8:=(([],0,0,0),[],[],[])
noncomputable abbrev C3 (x:t8) (i:Nat):l8×List m8:=R4 (B5 x) (oX x) (G8 x) i
noncomputable abbrev P2 (x:t8) (i:Nat):Int:=OJ (B5 x) (oX x) (G8 x) i
noncomputable abbrev X5 (x:t8) (i:Nat):Int:=sK (B5 x) (oX x) (G8 x) i
noncomputable def OL (x:t8) (n:Nat):t8:=(x.1,(C3 x n).1.1,(C3 x n).1.2,(C3 x n).2.map o4)
theorem ND {r:l8} (v:A3 r) (hi:x9 r=true):A9 r=0:=by unfold A9; rw[if_neg (fun a=>a (IW v)),if_pos hi]
theorem MB (x:t8) (D:Int) (M:Nat) (hx:Q6 x) (hlo:F3 x.1.1 D M x.2.1.length (G8 x)):Ct Tryz.prog 93 [b7 eX x] (v6 [r5 N3 (NN x),kI (A9 (oX x))]):=by
 refine Ct.mk Tryz.func93 rfl Tryz.ntmps93 rfl (fun w J=>?_); refine g8 ?_; refine jb 1 rfl ?_; refine j8 ?_; refine jc (mW x D M hx hlo) ?_; refine C6 ?_; refine Tr.cnd rfl ?_ ?_
 ·intro h2
  exact absurd h2 (by decide)
 ·intro h2
  refine l5 ?_; refine tO (CM rfl uu) rfl rfl ?_; refine g8 ?_; refine jc (IY (oX x)) ?_; refine n7 ?_
  exact f0.res (fn:=Tryz.f93) (ts:=[2,3]) rfl rfl (.p rfl zi<|.i rfl zi<|.nil)

theorem mE (x:t8) (hsm:AQ x) (hne:H5 x≠0):Ct Tryz.prog 93 [b7 eX x] (v6 [j4 (.pointer none),kI (H5 x)]):=by
 refine Ct.mk Tryz.func93 rfl Tryz.ntmps93 rfl (fun w J=>?_); refine g8 ?_; refine jb 1 rfl ?_; refine j8 ?_; refine jc (mY x hsm hne) ?_; refine C6 ?_; refine Tr.cnd rfl ?_ ?_
 ·intro h2
  refine l7 ?_
  exact f0.res (fn:=Tryz.f93) (ts:=[2,3]) rfl rfl (.k rfl<|.i rfl zi<|.nil)
 ·intro h2
  exact absurd (of_decide_eq_false h2) (fun e=>e hne)

set_option maxHeartbeats 2000000 in
theorem lS (x:t8) (D:Int) (M:Nat) (n:Nat) (hx:Q6 x) (hlo:F3 x.1.1 D M x.2.1.length (G8 x)) (hir:x9 (oX x)=true) (hn:n<=16) (hnt:∀i,i<n->X5 x i≠0):Ct Tryz.prog 47 [b7 eX x,kI (n:Int)] (v6 [b7 eX (OL x n),b7 (eL eI) (l6 n (P2 x)),b7 (eL (eL eI)) (u6 (oX x) (l6 n (P2 x)) n),kI 0]):=by
 have h0:=hx.fld
 have hpo:=X4 h0
 have hs:=(DI h0).1.2.1
 have v:=hx.rows
 have hp1:y3 x.2.1 x.2.1.length:=v.p1
 have hp2:y3 x.2.2.1 x.2.1.length:=v.p2
 have hle:x.2.1.length<=8:=v.le
 have htwo:2<=x.2.1.length:=v.two
 have hbl:x.2.2.1.length=x.2.1.length:=v.len
 have hxl:=hx.len
 have hll:=hlo.len
 have hic:=ND hx.rows hir
 have htl:(l6 n (P2 x)).length=n:=q9
 have hfg:=RA (oX x) (l6 n (P2 x)) hx.rows hir (by rw[htl]; omega) (fun k hk=>by obtain ⟨i,_,rfl⟩:=List.mem_map.1 hk; exact sJ)
 rw[htl] at hfg
 refine Ct.mk Tryz.func47 rfl Tryz.ntmps47 rfl (fun w J=>?_); refine g8 ?_; refine jb 2 rfl ?_; refine ja 4 ?_; refine j3 ?_; refine jc (MB x D M hx hlo) ?_
 rw[hic]
 refine C6 ?_; refine Tr.cnd rfl ?_ ?_
 ·intro h2
  exact absurd h2 (by decide)
 ·intro h2
  refine B1 ?_; refine Tr.cnd rfl ?_ ?_
  ·intro h4
   simp at h4; omega
  ·intro h4
   refine g8 ?_; refine Tr.meet2 (σ:=Unit) [⟨1,true,_,_⟩,⟨4,true,_,_⟩,⟨8,true,_,_⟩] [⟨4,_,_⟩] (zk) (zk) (fun _=>[⟨10,true,[10],u4 10 0⟩,⟨11,true,[],b7 (eL m9) ((G8 x).map o4)⟩]) (fun _=>[⟨10,[],j1 [b7 (eL eI) (oX x).1,b7 (eL eI) (oX x).2]⟩]) (fun _=>True) ?_ ?_
   ·skip
    refine Tr.drawA p7 #[false,false,false,false,false,false,false,false,false,false,false] rfl ?_; refine d5.take 0 #[true,false,false,false,false,false,false,false,false,false,false] (by kernel_rfl) (by kernel_rfl) (by kernel_rfl) rfl rfl (E6 rfl) rfl rfl ?_; refine d5.take 1 #[true,true,false,false,false,false,false,false,false,false,false] (by kernel_rfl) (by kernel_rfl) (by kernel_rfl) rfl rfl (PS rfl) rfl rfl ?_; refine d5.take 2 #[true,true,true,false,false,false,false,false,false,false,false] (by kernel_rfl) (by kernel_rfl) (by kernel_rfl) rfl rfl (PQ rfl rfl) rfl rfl ?_
    refine d5.take 4 #[true,true,true,false,true,false,false,false,false,false,false] (by kernel_rfl) (by kernel_rfl) (by kernel_rfl) rfl rfl (E6 rfl) rfl rfl ?_; refine d5.take 5 #[true,true,true,false,true,true,false,false,false,false,false] (by kernel_rfl) (by kernel_rfl) (by kernel_rfl) rfl rfl (PS rfl) rfl rfl ?_; refine d5.take 6 #[true,true,true,false,true,true,true,false,false,false,false] (by kernel_rfl) (by kernel_rfl) (by kernel_rfl) rfl rfl (PQ rfl rfl) rfl rfl ?_; refine d5.all [3,7,8] (by kernel_rfl) (by simp) (fun i hi=>?_)
    simp only[List.mem_cons,List.not_mem_nil,or_false] at hi
    rcases hi with rfl | rfl | rfl
    ·refine ⟨_,rfl,?_⟩
     refine tO (T4 rfl uu rfl rfl) rfl rfl ?_; refine d5.k #[true,true,true,true,true,true,true,false,false,false,false] rfl (fun _ _ _ _=>trivial) ?_; refine d5.all [7,8] (by kernel_rfl) (by simp) (fun i hi=>?_)
     simp only[List.mem_cons,List.not_mem_nil,or_false] at hi
     rcases hi with rfl | rfl
     ·refine ⟨_,rfl,?_⟩
      refine tO (D0 rfl uu rfl) rfl rfl ?_; refine d5.k #[true,true,true,true,true,true,true,true,false,false,false] rfl (fun _ _ _ _=>trivial) ?_; refine d5.one 8 (by kernel_rfl) rfl ?_; refine ja 10 ?_; refine d5.k #[true,true,true,true,true,true,true,true,true,false,false] rfl (fun _ _ _ _=>trivial) ?_; refine d5.one 9 (by kernel_rfl) rfl ?_; refine b8.stB rfl rfl rfl rfl ?_; refine d5.k #[true,true,true,true,true,true,true,true,true,true,false] rfl (fun _ _ _ _=>trivial) ?_; refine d5.one 10 (by kernel_rfl) rfl ?_; refine mw rfl rfl rfl ?_
      refine d5.k #[true,true,true,true,true,true,true,true,true,true,true] rfl (fun _ _ _ _=>trivial) ?_; refine d5.done (by kernel_rfl) ?_
      exact g6.cut (()) zi (d8.mk (.k rfl rfl<|.r rfl (by rfl)<|zk) (zk) rfl)
     ·refine ⟨_,rfl,?_⟩
      refine ja 10 ?_; refine d5.k #[true,true,true,true,true,true,true,false,true,false,false] rfl (fun _ _ _ _=>trivial) ?_; refine d5.all [7,9] (by kernel_rfl) (by simp) (fun i hi=>?_)
      simp only[List.mem_cons,List.not_mem_nil,or_false] at hi
      rcases hi with rfl | rfl
      ·refine ⟨_,rfl,?_⟩
       refine tO (D0 rfl uu rfl) rfl rfl ?_; refine d5.k #[true,true,true,true,true,true,true,true,true,false,false] rfl (fun _ _ _ _=>trivial) ?_; refine d5.one 9 (by kernel_rfl) rfl ?_; refine b8.stB rfl rfl rfl rfl ?_; refine d5.k #[true,true,true,true,true,true,true,true,true,true,false] rfl (fun _ _ _ _=>trivial) ?_; refine d5.one 10 (by kernel_rfl) rfl ?_; refine mw rfl rfl rfl ?_; refine d5.k #[true,true,true,true,true,true,true,true,true,true,true] rfl (fun _ _ _ _=>trivial) ?_; refine d5.done (by kernel_rfl) ?_
       exact g6.cut (()) zi (d8.mk (.k rfl rfl<|.r rfl (by rfl)<|zk) (zk) rfl)
      ·refine ⟨_,rfl,?_⟩
       refine b8.stB rfl rfl rfl rfl ?_; refine d5.k #[true,true,true,true,true,true,true,false,true,true,false] rfl (fun _ _ _ _=>trivial) ?_; refine d5.one 7 (by kernel_rfl) rfl ?_; refine tO (D0 rfl uu rfl) rfl rfl ?_; refine d5.k #[true,true,true,true,true,true,true,true,true,true,false] rfl (fun _ _ _ _=>trivial) ?_; refine d5.one 10 (by kernel_rfl) rfl ?_; refine mw rfl rfl rfl ?_; refine d5.k #[true,true,true,true,true,true,true,true,true,true,true] rfl (fun _ _ _ _=>trivial) ?_; refine d5.done (by kernel_rfl) ?_
       exact g6.cut (()) zi (d8.mk (.k rfl rfl<|.r rfl (by rfl)<|zk) (zk) rfl)
    ·refine ⟨_,rfl,?_⟩
     refine tO (D0 rfl uu rfl) rfl rfl ?_; refine d5.k #[true,true,true,false,true,true,true,true,false,false,false] rfl (fun _ _ _ _=>trivial) ?_; refine d5.all [3,8] (by kernel_rfl) (by simp) (fun i hi=>?_)
     simp only[List.mem_cons,List.not_mem_nil,or_false] at hi
     rcases hi with rfl | rfl
     ·refine ⟨_,rfl,?_⟩
      refine tO (T4 rfl uu rfl rfl) rfl rfl ?_; refine d5.k #[true,true,true,true,true,true,true,true,false,false,false] rfl (fun _ _ _ _=>trivial) ?_; refine d5.one 8 (by kernel_rfl) rfl ?_; refine ja 10 ?_; refine d5.k #[true,true,true,true,true,true,true,true,true,false,false] rfl (fun _ _ _ _=>trivial) ?_; refine d5.one 9 (by kernel_rfl) rfl ?_; refine b8.stB rfl rfl rfl rfl ?_; refine d5.k #[true,true,true,true,true,true,true,true,true,true,false] rfl (fun _ _ _ _=>trivial) ?_; refine d5.one 10 (by kernel_rfl) rfl ?_; refine mw rfl rfl rfl ?_
      refine d5.k #[true,true,true,true,true,true,true,true,true,true,true] rfl (fun _ _ _ _=>trivial) ?_; refine d5.done (by kernel_rfl) ?_
      exact g6.cut (()) zi (d8.mk (.k rfl rfl<|.r rfl (by rfl)<|zk) (zk) rfl)
     ·refine ⟨_,rfl,?_⟩
      refine ja 10 ?_; refine d5.k #[true,true,true,false,true,true,true,true,true,false,false] rfl (fun _ _ _ _=>trivial) ?_; refine d5.one 3 (by kernel_rfl) rfl ?_; refine tO (T4 rfl uu rfl rfl) rfl rfl ?_; refine d5.k #[true,true,true,true,true,true,true,true,true,false,false] rfl (fun _ _ _ _=>trivial) ?_; refine d5.one 9 (by kernel_rfl) rfl ?_; refine b8.stB rfl rfl rfl rfl ?_; refine d5.k #[true,true,true,true,true,true,true,true,true,true,false] rfl (fun _ _ _ _=>trivial) ?_; refine d5.one 10 (by kernel_rfl) rfl ?_; refine mw rfl rfl rfl ?_
      refine d5.k #[true,true,true,true,true,true,true,true,true,true,true] rfl (fun _ _ _ _=>trivial) ?_; refine d5.done (by kernel_rfl) ?_
      exact g6.cut (()) zi (d8.mk (.k rfl rfl<|.r rfl (by rfl)<|zk) (zk) rfl)
    ·refine ⟨_,rfl,?_⟩
     refine ja 10 ?_; refine d5.k #[true,true,true,false,true,true,true,false,true,false,false] rfl (fun _ _ _ _=>trivial) ?_; refine d5.all [3,7] (by kernel_rfl) (by simp) (fun i hi=>?_)
     simp only[List.mem_cons,List.not_mem_nil,or_false] at hi
     rcases hi with rfl | rfl
     ·refine ⟨_,rfl,?_⟩
      refine tO (T4 rfl uu rfl rfl) rfl rfl ?_; refine d5.k #[true,true,true,true,true,true,true,false,true,false,false] rfl (fun _ _ _ _=>trivial) ?_; refine d5.all [7,9] (by kernel_rfl) (by simp) (fun i hi=>?_)
      simp only[List.mem_cons,List.not_mem_nil,or_false] at hi
      rcases hi with rfl | rfl
      ·refine ⟨_,rfl,?_⟩
       refine tO (D0 rfl uu rfl) rfl rfl ?_; refine d5.k #[true,true,true,true,true,true,true,true,true,false,false] rfl (fun _ _ _ _=>trivial) ?_; refine d5.one 9 (by kernel_rfl) rfl ?_; refine b8.stB rfl rfl rfl rfl ?_; refine d5.k #[true,true,true,true,true,true,true,true,true,true,false] rfl (fun _ _ _ _=>trivial) ?_; refine d5.one 10 (by kernel_rfl) rfl ?_; refine mw rfl rfl rfl ?_; refine d5.k #[true,true,true,true,true,true,true,true,true,true,true] rfl (fun _ _ _ _=>trivial) ?_; refine d5.done (by kernel_rfl) ?_
       exact g6.cut (()) zi (d8.mk (.k rfl rfl<|.r rfl (by rfl)<|zk) (zk) rfl)
      ·refine ⟨_,rfl,?_⟩
       refine b8.stB rfl rfl rfl rfl ?_; refine d5.k #[true,true,true,true,true,true,true,false,true,true,false] rfl (fun _ _ _ _=>trivial) ?_; refine d5.one 7 (by kernel_rfl) rfl ?_; refine tO (D0 rfl uu rfl) rfl rfl ?_; refine d5.k #[true,true,true,true,true,true,true,true,true,true,false] rfl (fun _ _ _ _=>trivial) ?_; refine d5.one 10 (by kernel_rfl) rfl ?_; refine mw rfl rfl rfl ?_; refine d5.k #[true,true,true,true,true,true,true,true,true,true,true] rfl (fun _ _ _ _=>trivial) ?_; refine d5.done (by kernel_rfl) ?_
       exact g6.cut (()) zi (d8.mk (.k rfl rfl<|.r rfl (by rfl)<|zk) (zk) rfl)
     ·refine ⟨_,rfl,?_⟩
      refine tO (D0 rfl uu rfl) rfl rfl ?_; refine d5.k #[true,true,true,false,true,true,true,true,true,false,false] rfl (fun _ _ _ _=>trivial) ?_; refine d5.one 3 (by kernel_rfl) rfl ?_; refine tO (T4 rfl uu rfl rfl) rfl rfl ?_; refine d5.k #[true,true,true,true,true,true,true,true,true,false,false] rfl (fun _ _ _ _=>trivial) ?_; refine d5.one 9 (by kernel_rfl) rfl ?_; refine b8.stB rfl rfl rfl rfl ?_; refine d5.k #[true,true,true,true,true,true,true,true,true,true,false] rfl (fun _ _ _ _=>trivial) ?_; refine d5.one 10 (by kernel_rfl) rfl ?_
      refine mw rfl rfl rfl ?_; refine d5.k #[true,true,true,true,true,true,true,true,true,true,true] rfl (fun _ _ _ _=>trivial) ?_; refine d5.done (by kernel_rfl) ?_
      exact g6.cut (()) zi (d8.mk (.k rfl rfl<|.r rfl (by rfl)<|zk) (zk) rfl)
   ·intro _ hM
    refine jn ?_; refine w3 ?_; refine Tr.grow (s:=12) rfl rfl 112 rfl 3 eI rfl ?_
    refine Tr.for1 (σ:=Nat) [⟨4,true,_,_⟩,⟨8,true,_,_⟩,⟨10,true,_,_⟩,⟨42,true,_,_⟩] [] (fun k=>[⟨11,true,[],b7 (eL m9) ((C3 x k).2.map o4)⟩,⟨12,true,[112],o7 112 k⟩,⟨43,true,[],kI (k:Int)⟩]) (fun k=>[⟨10,[],j1 [b7 (eL eI) (C3 x k).1.1,b7 (eL eI) (C3 x k).1.2]⟩,⟨4,[],j1 [j4 (.slice none 0 0),kI 0,kI 0,kI 0,j4 (.slice none 0 0),j4 (.slice none 0 0),j4 (.slice none 0 0)]⟩,⟨112,[],l3 true 3 eI (l6 k (P2 x)) k⟩]) (fun k=>k<=n) (fun k=>n=k) (fun k=>n-k) (0) zi (d8.mk (.r rfl (by rfl)<|.o rfl zi rfl<|.i rfl zi<|zk) (.e (by rfl) rfl<|.k rfl<|.a (by rfl) zi<|.nil) rfl) ?_ ?_
    ·intro k hR0
     refine jn ?_
     obtain ⟨hst,hik⟩:=OK (sg:=B5 x) (hx.st hlo) hlo hir k
     refine l5 ?_; refine jq ?_ ?_
     ·intro h9
      refine l7 ?_; refine jc (XS x D M k (C3 x k).1 (C3 x k).2 hx hlo hst zo) ?_
      rw[show Q9 (B5 x) (C3 x k).1 (C3 x k).2=X5 x k from rfl,if_neg (hnt k zo),if_neg (hnt k zo),show Z7 (B5 x) (C3 x k).1 (C3 x k).2=P2 x k from rfl]
      refine C6 ?_; refine Tr.cnd rfl ?_ ?_
      ·intro h11
       exact absurd h11 (by decide)
      ·intro h11
       refine l5 ?_; refine b8.new (A1 eI 58 (fun hp=>.cons rfl<|.nil) rfl rfl rfl rfl) rfl rfl rfl rfl ?_; refine i6 ?_; refine jl ?_; refine j3 ?_; refine jc (XV x D M k (C3 x k).1 (C3 x k).2 (P2 x k) hx hlo hst zo) ?_; refine w3 ?_
       exact g6.lp (k+1) zi zo (d8.mk (.r rfl (by rfl)<|.o rfl zi rfl<|.i rfl zi<|zk) (.e (by rfl) rfl<|.k rfl<|.a F9.symm zi<|.nil) rfl)
     ·intro h9
      replace h9:=Int.not_lt.1 h9
      refine i1 ?_
      exact g6.cut (k) zo (d8.mk (.r rfl zi<|.o rfl zi rfl<|.i rfl zi<|zk) (zk) rfl)
    ·rintro _ rfl
     refine je ?_
     obtain ⟨hsn,hin⟩:=OK (sg:=B5 x) (hx.st hlo) hlo hir n
     have hsn1:(C3 x n).1.1.length=x.2.1.length:=hsn.nn
     have hsn2:(C3 x n).1.2.length=(C3 x n).1.1.length:=hsn.rows.len
     refine i1 ?_; refine tO (CM rfl uu) rfl rfl ?_; refine j5 ?_; refine b8.frz 112 [12,74] ⟨rfl,rfl,trivial⟩ (by simp only[q7]; omega) rfl ?_; refine jl ?_; refine jc hfg ?_; refine i1 ?_; refine ja 15 ?_; refine t6 ?_; refine jc (mU (K3 x.1) (oX x) (C3 x n).1 (G8 x) ((C3 x n).2.map o4) (by show x.1.1.length<=1000; have:=hpo.1; omega) zo zo) ?_; refine l7 ?_
     exact f0.resC (fn:=Tryz.f47) (ts:=[5,6,7]) rfl rfl rfl (s6 rfl (by rfl)) (.r rfl zi<|.r rfl zi<|.i rfl zi<|.nil)

end Go.Fl

/- Contracts: errors of Path; Step (the program). -/
namespace Go.Fl
open Go Go.Proofs
open b8 renaming op->tO
open i7 renaming op->rO
set_option maxRecDepth 100000

noncomputable def EA (x:t8):Nat->Bool
 | 0=>false
 | i+1=>EA x i||decide (X5 x i=0)
theorem fI {x:t8}:∀{n:Nat},EA x n=true->∃i,i<n/\X5 x i=0
 | n+1,h=>by
  rw[EA,Bool.or_eq_true,decide_eq_true_eq] at h
  rcases h with h | h
  ·obtain ⟨i,hi,e⟩:=fI h; exact ⟨i,by omega,e⟩
  ·exact ⟨n,by omega,h⟩
theorem fJ {x:t8}:∀{n:Nat},EA x n=false->∀i,i<n->X5 x i≠0
 | n+1,h,i,hi=>by
  rw[EA,Bool.or_eq_false_iff,decide_eq_false_iff_not] at h
  by_cases e:i=n
  ·rw[e]; exact h.2
  ·exact fJ h.1 i zo
theorem lR (x:t8) (n:Int) (hsm:AQ x) (hne:H5 x≠0):Ct Tryz.prog 47 [b7 eX x,kI n] (v6 [b7 eX zX,b7 (eL eI) [],b7 (eL (eL eI)) [],kI (H5 x)]):=by
 refine Ct.mk Tryz.func47 rfl Tryz.ntmps47 rfl (fun w J=>?_); refine g8 ?_; refine jb 2 rfl ?_; refine ja 4 ?_; refine j3 ?_; refine jc (mE x hsm hne) ?_; refine C6 ?_; refine Tr.cnd rfl ?_ ?_
 ·intro h2
  refine g8 ?_; refine tO (w5 (fun hp=>.nil)) rfl rfl ?_; refine l7 ?_
  exact f0.resC (fn:=Tryz.f47) (ts:=[5,6,7]) rfl rfl rfl (s6 rfl (by rfl)) (.n rfl zi<|.n rfl zi<|.i rfl zi<|.nil)
 ·intro h2
  exact absurd (of_decide_eq_false h2) (fun e=>e hne)

theorem lT (x:t8) (D:Int) (M:Nat) (n:Int) (hx:Q6 x) (hlo:F3 x.1.1 D M x.2.1.length (G8 x)) (hne:A9 (oX x)≠0):Ct Tryz.prog 47 [b7 eX x,kI n] (v6 [b7 eX zX,b7 (eL eI) [],b7 (eL (eL eI)) [],kI (A9 (oX x))]):=by
 have h0:=hx.fld
 have hpo:=X4 h0
 have hs:=(DI h0).1.2.1
 have v:=hx.rows
 have hp1:y3 x.2.1 x.2.1.length:=v.p1
 have hp2:y3 x.2.2.1 x.2.1.length:=v.p2
 have hle:x.2.1.length<=8:=v.le
 have htwo:2<=x.2.1.length:=v.two
 have hbl:x.2.2.1.length=x.2.1.length:=v.len
 have hxl:=hx.len
 have hll:=hlo.len
 refine Ct.mk Tryz.func47 rfl Tryz.ntmps47 rfl (fun w J=>?_); refine g8 ?_; refine jb 2 rfl ?_; refine ja 4 ?_; refine j3 ?_; refine jc (MB x D M hx hlo) ?_; refine C6 ?_; refine Tr.cnd rfl ?_ ?_
 ·intro h2
  refine g8 ?_; refine tO (w5 (fun hp=>.nil)) rfl rfl ?_; refine l7 ?_
  exact f0.resC (fn:=Tryz.f47) (ts:=[5,6,7]) rfl rfl rfl (s6 rfl (by rfl)) (.n rfl zi<|.n rfl zi<|.i rfl zi<|.nil)
 ·intro h2
  exact absurd (of_decide_eq_false h2) (fun e=>e hne)

theorem lU (x:t8) (D:Int) (M:Nat) (n:Int) (hx:Q6 x) (hlo:F3 x.1.1 D M x.2.1.length (G8 x)) (hir:x9 (oX x)=true) (hnr:-9223372036854775808<=n/\n<=9223372036854775807) (hrg:n<0\/60<n):Ct Tryz.prog 47 [b7 eX x,kI n] (v6 [b7 eX zX,b7 (eL eI) [],b7 (eL (eL eI)) [],kI 2]):=by
 have h0:=hx.fld
 have hpo:=X4 h0
 have hs:=(DI h0).1.2.1
 have v:=hx.rows
 have hp1:y3 x.2.1 x.2.1.length:=v.p1
 have hp2:y3 x.2.2.1 x.2.1.length:=v.p2
 have hle:x.2.1.length<=8:=v.le
 have htwo:2<=x.2.1.length:=v.two
 have hbl:x.2.2.1.length=x.2.1.length:=v.len
 have hxl:=hx.len
 have hll:=hlo.len
 have hic:=ND hx.rows hir
 refine Ct.mk Tryz.func47 rfl Tryz.ntmps47 rfl (fun w J=>?_); refine g8 ?_; refine jb 2 rfl ?_; refine ja 4 ?_; refine j3 ?_; refine jc (MB x D M hx hlo) ?_
 rw[hic]
 refine C6 ?_; refine Tr.cnd rfl ?_ ?_
 ·intro h2
  exact absurd h2 (by decide)
 ·intro h2
  refine B1 ?_; refine Tr.cnd rfl ?_ ?_
  ·intro h4
   refine g8 ?_; refine tO (w5 (fun hp=>.nil)) rfl rfl ?_; refine j3 ?_
   exact f0.resC (fn:=Tryz.f47) (ts:=[5,6,7]) rfl rfl rfl (s6 rfl (by rfl)) (.n rfl zi<|.n rfl zi<|.i rfl zi<|.nil)
  ·intro h4
   simp at h4; omega

set_option maxHeartbeats 2000000 in
theorem lV (x:t8) (D:Int) (M:Nat) (n i0:Nat) (hx:Q6 x) (hlo:F3 x.1.1 D M x.2.1.length (G8 x)) (hir:x9 (oX x)=true) (hn:n<=16) (hi0:i0<n) (hz0:X5 x i0=0):Ct Tryz.prog 47 [b7 eX x,kI (n:Int)] (v6 [b7 eX zX,b7 (eL eI) [],b7 (eL (eL eI)) [],kI 14]):=by
 have h0:=hx.fld
 have hpo:=X4 h0
 have hs:=(DI h0).1.2.1
 have v:=hx.rows
 have hp1:y3 x.2.1 x.2.1.length:=v.p1
 have hp2:y3 x.2.2.1 x.2.1.length:=v.p2
 have hle:x.2.1.length<=8:=v.le
 have htwo:2<=x.2.1.length:=v.two
 have hbl:x.2.2.1.length=x.2.1.length:=v.len
 have hxl:=hx.len
 have hll:=hlo.len
 have hic:=ND hx.rows hir
 refine Ct.mk Tryz.func47 rfl Tryz.ntmps47 rfl (fun w J=>?_); refine g8 ?_; refine jb 2 rfl ?_; refine ja 4 ?_; refine j3 ?_; refine jc (MB x D M hx hlo) ?_
 rw[hic]
 refine C6 ?_; refine Tr.cnd rfl ?_ ?_
 ·intro h2
  exact absurd h2 (by decide)
 ·intro h2
  refine B1 ?_; refine Tr.cnd rfl ?_ ?_
  ·intro h4
   simp at h4; omega
  ·intro h4
   refine g8 ?_; refine Tr.meet2 (σ:=Unit) [⟨1,true,_,_⟩,⟨4,true,_,_⟩,⟨8,true,_,_⟩] [⟨4,_,_⟩] (zk) (zk) (fun _=>[⟨10,true,[10],u4 10 0⟩,⟨11,true,[],b7 (eL m9) ((G8 x).map o4)⟩]) (fun _=>[⟨10,[],j1 [b7 (eL eI) (oX x).1,b7 (eL eI) (oX x).2]⟩]) (fun _=>True) ?_ ?_
   ·skip
    refine Tr.drawA p7 #[false,false,false,false,false,false,false,false,false,false,false] rfl ?_; refine d5.take 0 #[true,false,false,false,false,false,false,false,false,false,false] (by kernel_rfl) (by kernel_rfl) (by kernel_rfl) rfl rfl (E6 rfl) rfl rfl ?_; refine d5.take 1 #[true,true,false,false,false,false,false,false,false,false,false] (by kernel_rfl) (by kernel_rfl) (by kernel_rfl) rfl rfl (PS rfl) rfl rfl ?_; refine d5.take 2 #[true,true,true,false,false,false,false,false,false,false,false] (by kernel_rfl) (by kernel_rfl) (by kernel_rfl) rfl rfl (PQ rfl rfl) rfl rfl ?_
    refine d5.take 4 #[true,true,true,false,true,false,false,false,false,false,false] (by kernel_rfl) (by kernel_rfl) (by kernel_rfl) rfl rfl (E6 rfl) rfl rfl ?_; refine d5.take 5 #[true,true,true,false,true,true,false,false,false,false,false] (by kernel_rfl) (by kernel_rfl) (by kernel_rfl) rfl rfl (PS rfl) rfl rfl ?_; refine d5.take 6 #[true,true,true,false,true,true,true,false,false,false,false] (by kernel_rfl) (by kernel_rfl) (by kernel_rfl) rfl rfl (PQ rfl rfl) rfl rfl ?_; refine d5.all [3,7,8] (by kernel_rfl) (by simp) (fun i hi=>?_)
    simp only[List.mem_cons,List.not_mem_nil,or_false] at hi
    rcases hi with rfl | rfl | rfl
    ·refine ⟨_,rfl,?_⟩
     refine tO (T4 rfl uu rfl rfl) rfl rfl ?_; refine d5.k #[true,true,true,true,true,true,true,false,false,false,false] rfl (fun _ _ _ _=>trivial) ?_; refine d5.all [7,8] (by kernel_rfl) (by simp) (fun i hi=>?_)
     simp only[List.mem_cons,List.not_mem_nil,or_false] at hi
     rcases hi with rfl | rfl
     ·refine ⟨_,rfl,?_⟩
      refine tO (D0 rfl uu rfl) rfl rfl ?_; refine d5.k #[true,true,true,true,true,true,true,true,false,false,false] rfl (fun _ _ _ _=>trivial) ?_; refine d5.one 8 (by kernel_rfl) rfl ?_; refine ja 10 ?_; refine d5.k #[true,true,true,true,true,true,true,true,true,false,false] rfl (fun _ _ _ _=>trivial) ?_; refine d5.one 9 (by kernel_rfl) rfl ?_; refine b8.stB rfl rfl rfl rfl ?_; refine d5.k #[true,true,true,true,true,true,true,true,true,true,false] rfl (fun _ _ _ _=>trivial) ?_; refine d5.one 10 (by kernel_rfl) rfl ?_; refine mw rfl rfl rfl ?_
      refine d5.k #[true,true,true,true,true,true,true,true,true,true,true] rfl (fun _ _ _ _=>trivial) ?_; refine d5.done (by kernel_rfl) ?_
      exact g6.cut (()) zi (d8.mk (.k rfl rfl<|.r rfl (by rfl)<|zk) (zk) rfl)
     ·refine ⟨_,rfl,?_⟩
      refine ja 10 ?_; refine d5.k #[true,true,true,true,true,true,true,false,true,false,false] rfl (fun _ _ _ _=>trivial) ?_; refine d5.all [7,9] (by kernel_rfl) (by simp) (fun i hi=>?_)
      simp only[List.mem_cons,List.not_mem_nil,or_false] at hi
      rcases hi with rfl | rfl
      ·refine ⟨_,rfl,?_⟩
       refine tO (D0 rfl uu rfl) rfl rfl ?_; refine d5.k #[true,true,true,true,true,true,true,true,true,false,false] rfl (fun _ _ _ _=>trivial) ?_; refine d5.one 9 (by kernel_rfl) rfl ?_; refine b8.stB rfl rfl rfl rfl ?_; refine d5.k #[true,true,true,true,true,true,true,true,true,true,false] rfl (fun _ _ _ _=>trivial) ?_; refine d5.one 10 (by kernel_rfl) rfl ?_; refine mw rfl rfl rfl ?_; refine d5.k #[true,true,true,true,true,true,true,true,true,true,true] rfl (fun _ _ _ _=>trivial) ?_; refine d5.done (by kernel_rfl) ?_
       exact g6.cut (()) zi (d8.mk (.k rfl rfl<|.r rfl (by rfl)<|zk) (zk) rfl)
      ·refine ⟨_,rfl,?_⟩
       refine b8.stB rfl rfl rfl rfl ?_; refine d5.k #[true,true,true,true,true,true,true,false,true,true,false] rfl (fun _ _ _ _=>trivial) ?_; refine d5.one 7 (by kernel_rfl) rfl ?_; refine tO (D0 rfl uu rfl) rfl rfl ?_; refine d5.k #[true,true,true,true,true,true,true,true,true,true,false] rfl (fun _ _ _ _=>trivial) ?_; refine d5.one 10 (by kernel_rfl) rfl ?_; refine mw rfl rfl rfl ?_; refine d5.k #[true,true,true,true,true,true,true,true,true,true,true] rfl (fun _ _ _ _=>trivial) ?_; refine d5.done (by kernel_rfl) ?_
       exact g6.cut (()) zi (d8.mk (.k rfl rfl<|.r rfl (by rfl)<|zk) (zk) rfl)
    ·refine ⟨_,rfl,?_⟩
     refine tO (D0 rfl uu rfl) rfl rfl ?_; refine d5.k #[true,true,true,false,true,true,true,true,false,false,false] rfl (fun _ _ _ _=>trivial) ?_; refine d5.all [3,8] (by kernel_rfl) (by simp) (fun i hi=>?_)
     simp only[List.mem_cons,List.not_mem_nil,or_false] at hi
     rcases hi with rfl | rfl
     ·refine ⟨_,rfl,?_⟩
      refine tO (T4 rfl uu rfl rfl) rfl rfl ?_; refine d5.k #[true,true,true,true,true,true,true,true,false,false,false] rfl (fun _ _ _ _=>trivial) ?_; refine d5.one 8 (by kernel_rfl) rfl ?_; refine ja 10 ?_; refine d5.k #[true,true,true,true,true,true,true,true,true,false,false] rfl (fun _ _ _ _=>trivial) ?_; refine d5.one 9 (by kernel_rfl) rfl ?_; refine b8.stB rfl rfl rfl rfl ?_; refine d5.k #[true,true,true,true,true,true,true,true,true,true,false] rfl (fun _ _ _ _=>trivial) ?_; refine d5.one 10 (by kernel_rfl) rfl ?_; refine mw rfl rfl rfl ?_
      refine d5.k #[true,true,true,true,true,true,true,true,true,true,true] rfl (fun _ _ _ _=>trivial) ?_; refine d5.done (by kernel_rfl) ?_
      exact g6.cut (()) zi (d8.mk (.k rfl rfl<|.r rfl (by rfl)<|zk) (zk) rfl)
     ·refine ⟨_,rfl,?_⟩
      refine ja 10 ?_; refine d5.k #[true,true,true,false,true,true,true,true,true,false,false] rfl (fun _ _ _ _=>trivial) ?_; refine d5.one 3 (by kernel_rfl) rfl ?_; refine tO (T4 rfl uu rfl rfl) rfl rfl ?_; refine d5.k #[true,true,true,true,true,true,true,true,true,false,false] rfl (fun _ _ _ _=>trivial) ?_; refine d5.one 9 (by kernel_rfl) rfl ?_; refine b8.stB rfl rfl rfl rfl ?_; refine d5.k #[true,true,true,true,true,true,true,true,true,true,false] rfl (fun _ _ _ _=>trivial) ?_; refine d5.one 10 (by kernel_rfl) rfl ?_; refine mw rfl rfl rfl ?_
      refine d5.k #[true,true,true,true,true,true,true,true,true,true,true] rfl (fun _ _ _ _=>trivial) ?_; refine d5.done (by kernel_rfl) ?_
      exact g6.cut (()) zi (d8.mk (.k rfl rfl<|.r rfl (by rfl)<|zk) (zk) rfl)
    ·refine ⟨_,rfl,?_⟩
     refine ja 10 ?_; refine d5.k #[true,true,true,false,true,true,true,false,true,false,false] rfl (fun _ _ _ _=>trivial) ?_; refine d5.all [3,7] (by kernel_rfl) (by simp) (fun i hi=>?_)
     simp only[List.mem_cons,List.not_mem_nil,or_false] at hi
     rcases hi with rfl | rfl
     ·refine ⟨_,rfl,?_⟩
      refine tO (T4 rfl uu rfl rfl) rfl rfl ?_; refine d5.k #[true,true,true,true,true,true,true,false,true,false,false] rfl (fun _ _ _ _=>trivial) ?_; refine d5.all [7,9] (by kernel_rfl) (by simp) (fun i hi=>?_)
      simp only[List.mem_cons,List.not_mem_nil,or_false] at hi
      rcases hi with rfl | rfl
      ·refine ⟨_,rfl,?_⟩
       refine tO (D0 rfl uu rfl) rfl rfl ?_; refine d5.k #[true,true,true,true,true,true,true,true,true,false,false] rfl (fun _ _ _ _=>trivial) ?_; refine d5.one 9 (by kernel_rfl) rfl ?_; refine b8.stB rfl rfl rfl rfl ?_; refine d5.k #[true,true,true,true,true,true,true,true,true,true,false] rfl (fun _ _ _ _=>trivial) ?_; refine d5.one 10 (by kernel_rfl) rfl ?_; refine mw rfl rfl rfl ?_; refine d5.k #[true,true,true,true,true,true,true,true,true,true,true] rfl (fun _ _ _ _=>trivial) ?_; refine d5.done (by kernel_rfl) ?_
       exact g6.cut (()) zi (d8.mk (.k rfl rfl<|.r rfl (by rfl)<|zk) (zk) rfl)
      ·refine ⟨_,rfl,?_⟩
       refine b8.stB rfl rfl rfl rfl ?_; refine d5.k #[true,true,true,true,true,true,true,false,true,true,false] rfl (fun _ _ _ _=>trivial) ?_; refine d5.one 7 (by kernel_rfl) rfl ?_; refine tO (D0 rfl uu rfl) rfl rfl ?_; refine d5.k #[true,true,true,true,true,true,true,true,true,true,false] rfl (fun _ _ _ _=>trivial) ?_; refine d5.one 10 (by kernel_rfl) rfl ?_; refine mw rfl rfl rfl ?_; refine d5.k #[true,true,true,true,true,true,true,true,true,true,true] rfl (fun _ _ _ _=>trivial) ?_; refine d5.done (by kernel_rfl) ?_
       exact g6.cut (()) zi (d8.mk (.k rfl rfl<|.r rfl (by rfl)<|zk) (zk) rfl)
     ·refine ⟨_,rfl,?_⟩
      refine tO (D0 rfl uu rfl) rfl rfl ?_; refine d5.k #[true,true,true,false,true,true,true,true,true,false,false] rfl (fun _ _ _ _=>trivial) ?_; refine d5.one 3 (by kernel_rfl) rfl ?_; refine tO (T4 rfl uu rfl rfl) rfl rfl ?_; refine d5.k #[true,true,true,true,true,true,true,true,true,false,false] rfl (fun _ _ _ _=>trivial) ?_; refine d5.one 9 (by kernel_rfl) rfl ?_; refine b8.stB rfl rfl rfl rfl ?_; refine d5.k #[true,true,true,true,true,true,true,true,true,true,false] rfl (fun _ _ _ _=>trivial) ?_; refine d5.one 10 (by kernel_rfl) rfl ?_
      refine mw rfl rfl rfl ?_; refine d5.k #[true,true,true,true,true,true,true,true,true,true,true] rfl (fun _ _ _ _=>trivial) ?_; refine d5.done (by kernel_rfl) ?_
      exact g6.cut (()) zi (d8.mk (.k rfl rfl<|.r rfl (by rfl)<|zk) (zk) rfl)
   ·intro _ hM
    refine jn ?_; refine w3 ?_; refine Tr.grow (s:=12) rfl rfl 112 rfl 3 eI rfl ?_
    refine Tr.for1 (σ:=Nat) [⟨4,true,_,_⟩,⟨8,true,_,_⟩,⟨10,true,_,_⟩,⟨42,true,_,_⟩] [] (fun k=>[⟨11,true,[],b7 (eL m9) ((C3 x k).2.map o4)⟩,⟨12,true,[112],o7 112 k⟩,⟨43,true,[],kI (k:Int)⟩]) (fun k=>[⟨10,[],j1 [b7 (eL eI) (C3 x k).1.1,b7 (eL eI) (C3 x k).1.2]⟩,⟨4,[],j1 [j4 (.slice none 0 0),kI 0,kI 0,kI 0,j4 (.slice none 0 0),j4 (.slice none 0 0),j4 (.slice none 0 0)]⟩,⟨112,[],l3 true 3 eI (l6 k (P2 x)) k⟩]) (fun k=>k<=i0) (fun k=>False) (fun k=>i0+1-k) (0) zi (d8.mk (.r rfl (by rfl)<|.o rfl zi rfl<|.i rfl zi<|zk) (.e (by rfl) rfl<|.k rfl<|.a (by rfl) zi<|.nil) rfl) ?_ ?_
    ·intro k hR0
     refine jn ?_
     obtain ⟨hst,hik⟩:=OK (sg:=B5 x) (hx.st hlo) hlo hir k
     refine l5 ?_; refine jq ?_ ?_
     ·intro h9
      refine l7 ?_; refine jc (XS x D M k (C3 x k).1 (C3 x k).2 hx hlo hst zo) ?_
      rw[show Q9 (B5 x) (C3 x k).1 (C3 x k).2=X5 x k from rfl,show Z7 (B5 x) (C3 x k).1 (C3 x k).2=P2 x k from rfl]
      refine C6 ?_; refine Tr.cnd rfl ?_ ?_
      ·intro h11
       have hz:X5 x k=0:=Classical.byContradiction fun a=>by rw[if_neg a] at h11; exact absurd h11 (by decide)
       refine g8 ?_; refine tO (w5 (fun hp=>.nil)) rfl rfl ?_; refine L3 ?_
       exact f0.resC (fn:=Tryz.f47) (ts:=[5,6,7]) rfl rfl rfl (s6 rfl (by rfl)) (.n rfl zi<|.n rfl zi<|.i rfl (by rw[if_pos hz])<|.nil)
      ·intro h11
       have hz:¬X5 x k=0:=fun a=>by rw[if_pos a] at h11; exact absurd h11 (by decide)
       have hki:k≠i0:=fun a=>hz (by rw[a]; exact hz0)
       refine Tr.rwI (s:=13) rfl (if_neg hz) ?_; refine l5 ?_; refine b8.new (A1 eI 58 (fun hp=>.cons rfl<|.nil) rfl rfl rfl rfl) rfl rfl rfl rfl ?_; refine i6 ?_; refine jl ?_; refine j3 ?_; refine jc (XV x D M k (C3 x k).1 (C3 x k).2 (P2 x k) hx hlo hst zo) ?_; refine w3 ?_
       exact g6.lp (k+1) zo zo (d8.mk (.r rfl (by rfl)<|.o rfl zi rfl<|.i rfl zi<|zk) (.e (by rfl) rfl<|.k rfl<|.a F9.symm zi<|.nil) rfl)
     ·intro h9
      replace h9:=Int.not_lt.1 h9
      refine i1 ?_
      exact g6.cut (k) zo (d8.mk (.r rfl zi<|.o rfl zi rfl<|.i rfl zi<|zk) (zk) rfl)
    ·intro k hE0
     exact hE0.elim

theorem mM (x y:t8) (kk:List Int) (m:ZM) (e:Int) (hpa:Ct Tryz.prog 47 [b7 eX x,kI 1] (v6 [b7 eX y,b7 (eL eI) kk,b7 (eL (eL eI)) m,kI e])) (hk:e=0->0<kk.length):Ct Tryz.prog 46 [b7 eX x] (v6 [b7 eX (if e=0 then y else zX),kI (if e=0 then b6 kk 0 else 0),kI e]):=by
 refine Ct.mk Tryz.func46 rfl Tryz.ntmps46 rfl (fun w J=>?_); refine g8 ?_; refine jb 1 rfl ?_; refine ja 2 ?_; refine j8 ?_; refine jc hpa ?_; refine n7 ?_; refine ja 5 ?_; refine B1 ?_; refine jq ?_ ?_
 ·intro h2
  have he:¬e=0:=h2
  refine g8 ?_; refine tO (w5 (fun hp=>.nil)) rfl rfl ?_; refine j3 ?_
  exact f0.resC (fn:=Tryz.f46) (ts:=[3,4]) rfl rfl rfl (s6 rfl (by rw[if_neg he])) (.i rfl (by rw[if_neg he])<|.i rfl zi<|.nil)
 ·intro h2
  replace h2:=Classical.not_not.1 h2
  have he:e=0:=by omega
  have hkl:=hk he
  refine j5 ?_; refine Tr.drawS 4 2 p7 (by kernel_rfl) ?_; refine n6.opA (F8 rfl uu) (by kernel_rfl) rfl rfl ?_; refine n6.op (F2 rfl uu) rfl rfl ?_; refine n6.op (D8 (i:=0) rfl uu rfl uu rfl (fun _=>zo)) rfl rfl ?_; refine n6.op (D0 rfl uu rfl) rfl rfl ?_; refine n6.z (CT rfl rfl rfl) rfl rfl rfl ?_; refine n7 ?_
  exact f0.resC (fn:=Tryz.f46) (ts:=[3,4]) rfl rfl rfl (s6 rfl (by rw[if_pos he])) (.i rfl (by rw[if_pos he])<|.i rfl zi<|.nil)

end Go.Fl

/- Contracts: Path and Step put together; the step of the example. -/
namespace Go.Fl
open Go Go.Proofs
open b8 renaming op->tO
open i7 renaming op->rO
set_option maxRecDepth 100000

noncomputable def BJ (x:t8):Int:=if H5 x≠0 then H5 x else A9 (oX x)
noncomputable def H1 (x:t8) (n:Int):Int:=if BJ x≠0 then BJ x else if 0<=n/\n<=60 then (if EA x n.toNat=true then 14 else 0) else 2
noncomputable def CO (x:t8) (n:Int):t8:=if H1 x n≠0 then zX else OL x n.toNat
noncomputable def BI (x:t8) (n:Int):List Int:=if H1 x n≠0 then [] else l6 n.toNat (P2 x)
noncomputable def FK (x:t8) (n:Int):ZM:=if H1 x n≠0 then [] else u6 (oX x) (l6 n.toNat (P2 x)) n.toNat
theorem pD {r:l8} (h:E1 r=0):A9 r=0/\x9 r=true\/A9 r=3/\x9 r=false:=by
 unfold A9
 rw[if_neg (fun a=>a h)]
 cases hi:x9 r with
 | true=>exact .inl ⟨rfl,rfl⟩
 | false=>exact .inr ⟨rfl,rfl⟩
theorem Q6.d0 {x:t8} (hx:Q6 x) (hsm:AQ x):∃(D:Int) (M:Nat),F3 x.1.1 D M x.2.1.length (G8 x):=by
 obtain ⟨D,M,h,_⟩:=hx.dm hsm (ps:=[]) (fun p h=>by cases h) (Nat.zero_le _)
 exact ⟨D,M,h⟩
theorem lQ (x:t8) (n:Int) (hsm:AQ x) (hnr:-9223372036854775808<=n/\n<=9223372036854775807) (hn:n<=16\/60<n):Ct Tryz.prog 47 [b7 eX x,kI n] (v6 [b7 eX (CO x n),b7 (eL eI) (BI x n),b7 (eL (eL eI)) (FK x n),kI (H1 x n)]):=by
 by_cases h:H5 x=0
 ·have hx:=iZ h hsm
  obtain ⟨D,M,hlo⟩:=hx.d0 hsm
  rcases pD (r:=oX x) (IW hx.rows) with ⟨hi,hir⟩ | ⟨hi,hir⟩
  ·have hrd:BJ x=0:=by unfold BJ; rw[if_neg (fun a=>a h)]; exact hi
   by_cases c:0<=n/\n<=60
   ·cases ht:EA x n.toNat with
    | true =>
     have e:H1 x n=14:=by unfold H1; rw[if_neg (fun a=>a hrd),if_pos c,ht]; rfl
     obtain ⟨i,hi1,hi2⟩:=fI ht
     have:=lV x D M n.toNat i hx hlo hir zo hi1 hi2
     rw[show ((n.toNat:Nat):Int)=n by omega] at this
     unfold CO BI FK
     rw[e,if_pos (by decide),if_pos (by decide),if_pos (by decide)]
     exact this
    | false =>
     have e:H1 x n=0:=by unfold H1; rw[if_neg (fun a=>a hrd),if_pos c,ht]; rfl
     have:=lS x D M n.toNat hx hlo hir zo (fJ ht)
     rw[show ((n.toNat:Nat):Int)=n by omega] at this
     unfold CO BI FK
     rw[e,if_neg (fun a=>a rfl),if_neg (fun a=>a rfl),if_neg (fun a=>a rfl)]
     exact this
   ·have e:H1 x n=2:=by unfold H1; rw[if_neg (fun a=>a hrd),if_neg c]
    unfold CO BI FK
    rw[e,if_pos (by decide),if_pos (by decide),if_pos (by decide)]
    exact lU x D M n hx hlo hir hnr zo
  ·have hrd:BJ x=3:=by unfold BJ; rw[if_neg (fun a=>a h)]; exact hi
   have e:H1 x n=A9 (oX x):=by unfold H1; rw[if_pos (by rw[hrd]; decide),hrd,hi]
   have hne:A9 (oX x)≠0:=by rw[hi]; decide
   unfold CO BI FK
   rw[e,if_pos hne,if_pos hne,if_pos hne]
   exact lT x D M n hx hlo hne
 ·have hrd:BJ x=H5 x:=by unfold BJ; rw[if_pos h]
  have e:H1 x n=H5 x:=by unfold H1; rw[if_pos (by rw[hrd]; exact h),hrd]
  unfold CO BI FK
  rw[e,if_pos h,if_pos h,if_pos h]
  exact lR x n hsm h
noncomputable def KG (x:t8):t8:=if H1 x 1≠0 then zX else OL x 1
noncomputable def KF (x:t8):Int:=if H1 x 1≠0 then 0 else P2 x 0
theorem mN (x:t8) (hsm:AQ x):Ct Tryz.prog 46 [b7 eX x] (v6 [b7 eX (KG x),kI (KF x),kI (H1 x 1)]):=by
 have h:=mM x (CO x 1) (BI x 1) (FK x 1) (H1 x 1) (lQ x 1 hsm zo zo) (fun e=>by
  unfold BI; rw[if_neg (fun a=>a e)]; show 0<(l6 1 _).length; rw[q9]; omega)
 have e1:(if H1 x 1=0 then CO x 1 else zX)=KG x:=by
  unfold KG CO
  by_cases c:H1 x 1=0
  ·rw[if_pos c,if_neg (fun a=>a c),if_neg (fun a=>a c)]; rfl
  ·rw[if_neg c,if_pos c]
 have e2:(if H1 x 1=0 then b6 (BI x 1) 0 else 0)=KF x:=by
  unfold KF BI
  by_cases c:H1 x 1=0
  ·rw[if_pos c,if_neg (fun a=>a c),if_neg (fun a=>a c)]; exact s9 (by decide)
  ·rw[if_neg c,if_pos c]
 rw[e1,e2] at h
 exact h
theorem jA:C8 HU=0:=by
 unfold C8
 rw[if_neg (by decide),if_neg (by decide),if_neg (by decide),if_neg,if_neg (by decide),if_neg (by decide)]
 rintro (h | h)
 ·exact h rfl
 ·rw[OS (fun a=>by have:=a.1; revert this; decide)] at h; cases h
theorem fX:G8 B3=UZ:=vR
theorem VE {n:Int}:B5 B3 (v5 n)=s7 n 0:=by
 show H2 [0,1] _ (v5 n)=_
 unfold H2
 rw[if_pos (by rfl)]; rfl
theorem fY {n:Int} (h:-1000<=n/\n<=1000):C1 2 (o4 (v5 n)):=by
 refine (CC (⟨fun i=>?_,by show dl 1<=1; exact I4 zo zo,by show (0:Int)<1; omega,rfl⟩:E7 1 (v5 n))).mono zo
 match i with
 | 0=>show dl n<=1; exact S8 (by simp[BP]; omega)
 | 1=>show dl 0<=1; rw[E2.2 rfl]; omega
 | 2=>show dl 0<=1; rw[E2.2 rfl]; omega
 | 3=>show dl 0<=1; rw[E2.2 rfl]; omega
 | i+4=>rw[w4 (by show 4<=i+4; omega)]; show dl 0<=1; rw[E2.2 rfl]; omega
theorem vS:AQ B3:=⟨by decide,by decide,by show 2<=12; omega,fun a=>by
 match a with
 | 0=>exact fY zo
 | 1=>exact fY zo
 | a+2=>exact rK⟩
theorem vP:H5 B3=0:=by
 unfold H5
 rw[if_neg (fun a=>a jA),if_neg (by decide),if_neg (fun a=>a rfl),if_pos]
 intro a ha
 have ha:a<2:=ha
 match a,ha with
 | 0,_=>show 0<B5 B3 (o0 [0,1] (o4 (v5 3))); rw[UX,VE]; decide
 | 1,_=>show 0<B5 B3 (o0 [0,1] (o4 (v5 2))); rw[UX,VE]; decide
theorem vQ:x9 (oX B3)=true:=by decide
theorem gA:X5 B3 0=-1:=by
 show B5 B3 (J6 (b6 (G8 B3) (o6 (oX B3).1).toNat) (b6 (G8 B3) (o6 (oX B3).2).toNat))=-1
 rw[fX]
 show B5 B3 (J6 (v5 2) (v5 3))=-1
 rw[fB,VE]; decide
theorem fW:P2 B3 0=1:=by
 show Z7 (B5 B3) (C3 B3 0).1 (C3 B3 0).2=1
 unfold Z7
 rw[if_neg]
 intro h
 have:X5 B3 0=1:=h
 rw[gA] at this; exact absurd this (by decide)
theorem VD:H1 B3 1=0:=by
 have hrd:BJ B3=0:=by unfold BJ; rw[if_neg (fun a=>a vP)]; exact ND (HV (by decide)) vQ
 unfold H1
 rw[if_neg (fun a=>a hrd),if_pos (by decide)]
 have:EA B3 (Int.toNat 1)=false:=by
  show (false||decide (X5 B3 0=0))=false
  rw[gA]; decide
 rw[this]; rfl
theorem fZ:KG B3=(HU,[0,1],[1,0],[o4 (v5 1),o4 (v5 2)])/\KF B3=1:=by
 unfold KG KF
 rw[if_neg (fun a=>a VD),if_neg (fun a=>a VD)]
 refine ⟨?_,fW⟩
 have h1:C3 B3 1=(G9 (oX B3) (P2 B3 0),CS (oX B3) (G8 B3) (P2 B3 0)):=rfl
 unfold OL
 rw[h1,fW,fX]
 have h2:G9 (oX B3) 1=([0,1],[1,0]):=by decide
 have h3:CS (oX B3) UZ 1=[v5 1,v5 2]:=by
  show [J6 (v5 3) (v5 2),v5 2]=_
  rw[fB]; rfl
 rw[h2,h3]; rfl
end Go.Fl

/- Contracts: steps of rows and matrices of the reference. -/
namespace Go.Fl
open Go Go.Proofs
open b8 renaming op->tO
open i7 renaming op->rO
set_option maxRecDepth 100000

def DG (x:Int):Bool:=!decide (0<=x/\x<=1)
def H6 (ks:List Int):Int:=if 60<ks.length then 8 else if ks.any DG=true then 2 else 0
theorem WQ {ks:List Int} (h:H6 ks=0):ks.length<=60/\∀k∈ks,k=0\/k=1:=by
 unfold H6 at h
 by_cases c:60<ks.length
 ·rw[if_pos c] at h; omega
 ·rw[if_neg c] at h
  by_cases d:ks.any DG=true
  ·rw[if_pos d] at h; omega
  ·refine ⟨by omega,fun k hk=>Classical.byContradiction fun e=>d (List.any_eq_true.2 ⟨k,hk,?_⟩)⟩
   unfold DG
   rw[Bool.not_eq_true',decide_eq_false_iff_not]; omega
structure VQ (n:Nat) (s:ZM):Prop where
 len:s.length=n
 row:∀i,i<n->(b6 s i).length=n
 rg:∀k j,0<=b6 (b6 s k) j/\b6 (b6 s k) j<=1
theorem EX {n p q:Nat} (hp:p<n) (hq:q<n) (hpq:p≠q):VQ n (D2 n p q):=⟨by unfold D2; rw[List.length_set,EC],fun i hi=>RU hp hi,oC hp hq hpq⟩
theorem X2 {r:l8} (v:A3 r) (hi:x9 r=true) (k:Int):(y0 r k).toNat≠(y2 r k).toNat:=by
 have h1:=SZ v hi
 have h2:=CF v.p1 (by have:=v.two; omega)
 have h3:=CF v.p2 (by have:=v.two; omega)
 unfold y0 y2
 split<;>omega
theorem oJ {r:l8} {ks:List Int} (v:A3 r) (hi:x9 r=true) {i:Nat}:KM (u6 r ks i) (D2 r.1.length (y0 (p8 r ks i) (b6 ks i)).toNat (y2 (p8 r ks i) (b6 ks i)).toNat)=u6 r ks (i+1):=by
 obtain ⟨⟨h1,h2⟩,h3⟩:=O8 v hi (ks:=ks) i
 have hr:=P1 h1 (b6 ks i)
 exact vK (U3 v hi i) zo zo (X2 h1 h2 _)
theorem lY (ks:List Int):Ct Tryz.prog 56 [b7 (eL eI) ks] (kI (H6 ks)):=by
 refine Ct.mk Tryz.func56 rfl Tryz.ntmps56 rfl (fun w J=>?_); refine Tr.fact (s:=0) rfl (fun _ _ h=>P0 h) (fun hb=>?_); refine B1 ?_; refine jq ?_ ?_
 ·intro h1
  have hr:H6 ks=8:=if_pos zo
  refine j8 ?_; exact f0.res1 (fn:=Tryz.f56) rfl (.i rfl hr.symm<|.nil)
 ·intro h1
  replace h1:=Int.not_lt.1 h1
  have hl60:¬60<ks.length:=by omega
  refine j3 ?_
  refine Tr.for1 (σ:=Nat) [⟨0,true,_,_⟩] [] (fun k=>[⟨3,true,[],kI (k:Int)⟩]) (fun k=>[]) (fun k=>k<=ks.length/\∀i,i<k->DG (b6 ks i)=false) (fun k=>∀i,i<ks.length->DG (b6 ks i)=false) (fun k=>ks.length-k) (0) ⟨by omega,fun i h=>absurd h (Nat.not_lt_zero _)⟩ (d8.mk (.i rfl zi<|zk) (.nil) rfl) ?_ ?_
  ·rintro k ⟨hk,hR⟩
   refine jn ?_; refine l7 ?_; refine jq ?_ ?_
   ·intro h4
    refine t6 ?_; refine jc (XB (b6 ks k) 0 1) ?_; refine j5 ?_; refine Tr.cnd rfl ?_ ?_
    ·intro h6
     have hr:H6 ks=2:=by unfold H6; rw[if_neg hl60,if_pos (List.any_eq_true.2 ⟨b6 ks k,G5 zo,h6⟩)]
     refine w3 ?_; exact f0.res1 (fn:=Tryz.f56) rfl (.i rfl hr.symm<|.nil)
    ·intro h6
     have hok:DG (b6 ks k)=false:=h6
     refine j3 ?_
     exact g6.lp (k+1) ⟨by omega,fun i hi=>by by_cases e:i=k; (rw[e]; exact hok); exact hR i zo⟩ zo (d8.mk (.i rfl zi<|zk) (.nil) rfl)
   ·intro h4
    replace h4:=Int.not_lt.1 h4
    refine i1 ?_
    exact g6.cut (k) (fun i hi=>hR i zo) (d8.mk (.i rfl zi<|zk) (.nil) rfl)
  ·intro k hE
   refine je ?_
   have hr:H6 ks=0:=by unfold H6; rw[if_neg hl60,if_neg]; intro a; obtain ⟨x,hx,e⟩:=List.any_eq_true.1 a; obtain ⟨i,hi,ei⟩:=List.mem_iff_getElem.1 hx; have:=hE i hi; rw[show b6 ks i=ks[i] by simp[b6,hi],ei,e] at this; cases this
   refine j8 ?_; exact f0.res1 (fn:=Tryz.f56) rfl (.i rfl hr.symm<|.nil)

set_option maxHeartbeats 1000000 in
theorem mB (m s:ZM) (n B:Nat) (hm:I9 n B m) (hs:VQ n s) (h0:0<n) (hn:n<=8) (hB:B<=1152921504606846975):Ct Tryz.prog 97 [b7 (eL (eL eI)) m,b7 (eL (eL eI)) s] (b7 (eL (eL eI)) (KM m s)):=by
 have hml:=hm.len
 have hsl:=hs.len
 have hs0:=hs.row 0 h0
 refine Ct.mk Tryz.func97 rfl Tryz.ntmps97 rfl (fun w J=>?_); refine Z5 ?_; refine Tr.grow (s:=5) rfl rfl 105 rfl 22 (eL eI) rfl ?_
 refine Tr.for1 (σ:=Nat) [⟨0,true,_,_⟩,⟨1,true,_,_⟩] [] (fun i=>[⟨5,true,[105],o7 105 i⟩,⟨6,true,[],kI (i:Int)⟩]) (fun i=>[⟨105,[],l3 true 22 (eL eI) (l6 i fun i=>l6 n fun j=>V4 m s i j n) i⟩]) (fun i=>i<=n) (fun i=>i=n) (fun i=>n-i) (0) zi (d8.mk (.o rfl zi rfl<|.i rfl zi<|zk) (.a (by rfl) zi<|.nil) rfl) ?_ ?_
 ·intro i hR0
  refine jn ?_; refine l7 ?_; refine jq ?_ ?_
  ·intro h3
   refine j8 ?_; refine tO (D8 (i:=0) rfl uu rfl uu rfl (fun _=>zo)) rfl rfl ?_; refine g8 ?_
   rw[show ((b6 s 0).length:Int)=(n:Int) by omega]
   refine b8.new (AB eI 20 rfl uu rfl uu rfl rfl rfl (fun _=>zo)) rfl rfl rfl rfl ?_; refine l7 ?_
   refine Tr.for1 (σ:=Nat) [⟨0,true,_,_⟩,⟨1,true,_,_⟩,⟨5,true,_,_⟩,⟨6,true,_,_⟩,⟨7,true,_,_⟩] [⟨105,_,_⟩] (fun j=>[⟨8,true,[],kI (j:Int)⟩]) (fun j=>[⟨20,[],l3 false 3 eI (R6 m s n i j 0) n⟩]) (fun j=>j<=n) (fun j=>j=n) (fun j=>n-j) (0) zi (d8.mk (.i rfl zi<|zk) (.a (by rw[<- tT]) zi<|zk) rfl) ?_ ?_
   ·intro j hR1
    refine jn ?_; refine n7 ?_; refine tO (U8 rfl uu) rfl rfl ?_; refine j5 ?_; refine jq ?_ ?_
    ·intro h7
     refine l7 ?_
     refine Tr.for1 (σ:=Nat) [⟨0,true,_,_⟩,⟨1,true,_,_⟩,⟨5,true,_,_⟩,⟨6,true,_,_⟩,⟨7,true,_,_⟩,⟨8,true,_,_⟩] [⟨105,_,_⟩] (fun k=>[⟨9,true,[],kI (k:Int)⟩]) (fun k=>[⟨20,[],l3 false 3 eI (R6 m s n i j k) n⟩]) (fun k=>k<=n) (fun k=>k=n) (fun k=>n-k) (0) zi (d8.mk (.i rfl zi<|zk) (zk) rfl) ?_ ?_
     ·intro k hR2
      refine jn ?_; refine l7 ?_; refine jq ?_ ?_
      ·intro h10
       refine i1 ?_; refine Tr.draw 22 p7 (by kernel_rfl) ?_
       have hrr:=hm.row i zo
       have hsr:=hs.row k zo
       have hat:=tQ (m:=m) (s:=s) (n:=n) (i:=i) (j:=j) (k:=k) zo
       have hb1:=fK hm hs.rg (i:=i) (j:=j) (k:=k)
       have hb2:=hm.rg i k
       have hb3:=hs.rg k j
       have hkB:(k:Int)*B<=7*B:=Int.mul_le_mul_of_nonneg_right zo zo
       have hpb:0<=b6 (b6 m i) k*b6 (b6 s k) j/\b6 (b6 m i) k*b6 (b6 s k) j<=B:=by rcases (show b6 (b6 s k) j=0\/b6 (b6 s k) j=1 by omega) with e | e; (rw[e,Int.mul_zero]; omega); (rw[e,Int.mul_one]; omega)
       refine pK ?_
       exact g6.lp (k+1) zi zo (d8.mk (.i rfl zi<|zk) (.a (by rw[hat]; exact tS zo) zi<|zk) rfl)
      ·intro h10
       replace h10:=Int.not_lt.1 h10
       refine i1 ?_
       exact g6.cut (k) zo (d8.mk (.i rfl zi<|zk) (zk) rfl)
     ·rintro k hkn
      refine je ?_; refine j8 ?_
      exact g6.lp (j+1) zi zo (d8.mk (.i rfl zi<|zk) (.a (by rw[hkn,tR]) zi<|zk) rfl)
    ·intro h7
     replace h7:=Int.not_lt.1 h7
     refine i1 ?_
     exact g6.cut (j) zo (d8.mk (.i rfl zi<|zk) (zk) rfl)
   ·rintro j hjn
    refine je ?_
    rw[hjn,tP]
    refine i6 ?_; refine Tr.frz 20 [7] ⟨rfl,trivial⟩ (by simp only[q7]; omega) rfl ?_; refine jn ?_; refine j5 ?_; refine b8.new (A1 (eL eI) 58 (fun hp=>.cons rfl<|.nil) rfl rfl rfl rfl) rfl rfl rfl rfl ?_; refine i6 ?_; refine jl ?_; refine l7 ?_
    exact g6.lp (i+1) zi zo (d8.mk (.o rfl zi rfl<|.i rfl zi<|zk) (.a (by rw[show (l6 (i+1) fun i=>l6 n fun j=>V4 m s i j n)=_ from F9]) zi<|.nil) rfl)
  ·intro h3
   replace h3:=Int.not_lt.1 h3
   refine i1 ?_
   exact g6.cut (i) zo (d8.mk (.o rfl zi rfl<|.i rfl zi<|zk) (zk) rfl)
 ·rintro i hin
  refine je ?_
  rw[hin]
  refine j8 ?_; refine Tr.frz 105 [4] ⟨rfl,trivial⟩ (by simp only[q7]; omega) rfl ?_; refine i6 ?_; exact f0.res1 (fn:=Tryz.f97) rfl (.r rfl (by unfold KM; rw[hml,hsl,hs0])<|.nil)

end Go.Fl

/- Contracts: Move and Follow, with errors; the step of the example. -/
namespace Go.Fl
open Go Go.Proofs
open b8 renaming op->tO
open i7 renaming op->rO
set_option maxRecDepth 100000

theorem LS (l:List Int) (hn:l.length<=1000000):Ct Tryz.prog 106 [b7 (eL eI) l] (b7 (eL eI) l):=by
 refine Ct.mk Tryz.func106 rfl Tryz.ntmps106 rfl (fun w J=>?_); refine j8 ?_; refine b8.new (DR eI 3) rfl rfl rfl rfl ?_; refine g8 ?_; refine jl ?_; refine j5 ?_; refine Tr.frz 3 [2] ⟨rfl,trivial⟩ (by simp only[q7]; omega) rfl ?_; refine i6 ?_
 exact f0.res1 (fn:=Tryz.f106) rfl (.r rfl zi<|.nil)

set_option maxHeartbeats 2000000 in
theorem O7 (r:l8) (kind:Int) (v:A3 r) (hir:x9 r=true):Ct Tryz.prog 58 [b7 eO r,kI kind] (v6 [b7 eO (G9 r kind),b7 (eL (eL eI)) (D2 r.1.length (y0 r kind).toNat (y2 r kind).toNat)]):=by
 have hle:=v.le
 have htw:=v.two
 have hbl:=v.len
 have hr1:=CF v.p1 zo
 have hr2:=CF v.p2 zo
 have hne:=SZ v hir
 have hla:b6 r.1 ((r.1.length:Int)-1).toNat=o6 r.1:=by unfold o6; rw[show ((r.1.length:Int)-1).toNat=r.1.length-1 by omega]
 have hlb:b6 r.2 ((r.1.length:Int)-1).toNat=o6 r.2:=by unfold o6; rw[show ((r.1.length:Int)-1).toNat=r.2.length-1 by omega]
 refine Ct.mk Tryz.func58 rfl Tryz.ntmps58 rfl (fun w J=>?_); refine g8 ?_; refine jb 2 rfl ?_; refine ja 4 ?_; refine w3 ?_; refine Tr.draw 13 p7 (by kernel_rfl) ?_; refine l5 ?_
 rw[hla]
 refine l5 ?_
 rw[hlb]
 refine j3 ?_; refine b8.inlX (σ:=List Value) [2,4] Tryz.func96 rfl Tryz.ntmps96 rfl (.cons rfl (fun _=>rfl)<|.nil) rfl rfl (fun hs=>[⟨6,[],l3 false 22 K0 hs r.1.length⟩,⟨1000,[],p9 3 hs (w7 r.1.length) 0⟩,⟨1001,[],p9 3 hs (w7 r.1.length) 1⟩,⟨1002,[],p9 3 hs (w7 r.1.length) 2⟩,⟨1003,[],p9 3 hs (w7 r.1.length) 3⟩,⟨1004,[],p9 3 hs (w7 r.1.length) 4⟩,⟨1005,[],p9 3 hs (w7 r.1.length) 5⟩,⟨1006,[],p9 3 hs (w7 r.1.length) 6⟩,⟨1007,[],p9 3 hs (w7 r.1.length) 7⟩,⟨2,[],j1 [b7 (eL eI) r.1,b7 (eL eI) r.2]⟩,⟨4,[],j1 [j4 (.slice none 0 0),j4 (.slice none 0 0)]⟩]) (fun hs=>o7 6 r.1.length) (fun hs=>hs.length=r.1.length) (fun _=>rfl) (fun _=>inferInstance) (fun _=>rfl) rfl (fun J3 bks3 om3=>?_) ?_
 ·skip
  refine jn ?_; refine j3 ?_; refine b8.new (AB K0 6 rfl uu rfl uu rfl rfl rfl (fun _=>zo)) rfl rfl rfl rfl ?_; refine l7 ?_; refine Tr.fam 1000 3 (hs:=(List.replicate r.1.length (Value.slice none 0 0))) (rows:=(List.replicate r.1.length [])) dW rfl ?_; refine jn ?_
  refine Tr.for1 (σ:=Nat×List Value) [⟨0,true,_,_⟩,⟨3,true,_,_⟩,⟨26,true,_,_⟩,⟨28,true,_,_⟩] [⟨2,_,_⟩,⟨4,_,_⟩] (fun (k,hs)=>[⟨4,true,[],kI (k:Int)⟩]) (fun (k,hs)=>[⟨6,[],l3 false 22 K0 hs r.1.length⟩,⟨1000,[],p9 3 hs (A6 r.1.length k) 0⟩,⟨1001,[],p9 3 hs (A6 r.1.length k) 1⟩,⟨1002,[],p9 3 hs (A6 r.1.length k) 2⟩,⟨1003,[],p9 3 hs (A6 r.1.length k) 3⟩,⟨1004,[],p9 3 hs (A6 r.1.length k) 4⟩,⟨1005,[],p9 3 hs (A6 r.1.length k) 5⟩,⟨1006,[],p9 3 hs (A6 r.1.length k) 6⟩,⟨1007,[],p9 3 hs (A6 r.1.length k) 7⟩]) (fun (k,hs)=>k<=r.1.length/\hs.length=r.1.length) (fun (k,hs)=>k=r.1.length/\hs.length=r.1.length) (fun (k,hs)=>r.1.length-k) ((0,List.replicate r.1.length (Value.slice none 0 0))) ⟨by omega,by rw[List.length_replicate]⟩ (d8.mk (.i rfl zi<|zk) (.k rfl<|.e (by rw[P6]) rfl<|.e (by rw[P6]) rfl<|.e (by rw[P6]) rfl<|.e (by rw[P6]) rfl<|.e (by rw[P6]) rfl<|.e (by rw[P6]) rfl<|.e (by rw[P6]) rfl<|.e (by rw[P6]) rfl<|zk) rfl) ?_ ?_
  ·rintro ⟨k,hs⟩ ⟨hk,hhl⟩
   refine jn ?_; refine j3 ?_; refine jq ?_ ?_
   ·intro h3
    refine l5 ?_
    have hul:(A6 r.1.length k).length=r.1.length:=q9
    have hrl:(b6 ((A6 r.1.length k).set k (List.replicate r.1.length 0)) k).length=r.1.length:=by rw[BE zo,List.length_replicate]
    refine j5 ?_; refine b8.new (AB eI 15 rfl uu rfl uu rfl rfl rfl (fun _=>zo)) rfl rfl rfl rfl ?_; refine b8.raw 15 15 rfl (fun v=>?_); refine b8.norm (S':=⟨_,_,_,_⟩::⟨_,_,_,_⟩::⟨_,_,_,_⟩::⟨_,_,_,_⟩::⟨_,_,_,_⟩::⟨_,_,_,_⟩::⟨_,_,_,_⟩::⟨_,_,_,_⟩::⟨_,_,_,_⟩::⟨_,_,_,_⟩::⟨_,_,_,_⟩::⟨_,_,_,_⟩::⟨_,_,_,_⟩::[]) (M':=[⟨_,_,_⟩,⟨_,_,_⟩,⟨_,_,_⟩,⟨_,_,_⟩,⟨_,_,_⟩,⟨_,_,_⟩,⟨_,_,_⟩,⟨_,_,_⟩,⟨_,_,_⟩,⟨_,_,_⟩,⟨_,_,_⟩,⟨_,_,_⟩]) rfl rfl ?_; refine g8 ?_
    obtain ⟨q1,q2,q3,q4⟩:=dV (hs:=hs) (rows:=A6 r.1.length k) (k:=k) (v:=v) (xs:=List.replicate r.1.length 0) zo zo
    refine b8.ren 15 1000 k (hs.set k v) ((A6 r.1.length k).set k (List.replicate r.1.length 0)) inferInstance zo zo (.inr (gB (Nat.le_refl _))) q1 q2 q3 q4 rfl rfl ?_; refine b8.norm (S':=⟨_,_,_,_⟩::⟨_,_,_,_⟩::⟨_,_,_,_⟩::⟨_,_,_,_⟩::⟨_,_,_,_⟩::⟨_,_,_,_⟩::⟨_,_,_,_⟩::⟨_,_,_,_⟩::⟨_,_,_,_⟩::⟨_,_,_,_⟩::⟨_,_,_,_⟩::⟨_,_,_,_⟩::⟨_,_,_,_⟩::⟨_,_,_,_⟩::[]) (M':=[⟨_,_,_⟩,⟨_,_,_⟩,⟨_,_,_⟩,⟨_,_,_⟩,⟨_,_,_⟩,⟨_,_,_⟩,⟨_,_,_⟩,⟨_,_,_⟩,⟨_,_,_⟩,⟨_,_,_⟩,⟨_,_,_⟩]) rfl rfl ?_; refine j8 ?_
    refine b8.asRow 20 1000 rfl inferInstance (by rw[List.length_set]; omega) zo ?_; refine b8.norm (S':=⟨_,_,_,_⟩::⟨_,_,_,_⟩::⟨_,_,_,_⟩::⟨_,_,_,_⟩::⟨_,_,_,_⟩::⟨_,_,_,_⟩::⟨_,_,_,_⟩::⟨_,_,_,_⟩::⟨_,_,_,_⟩::⟨_,_,_,_⟩::⟨_,_,_,_⟩::⟨_,_,_,_⟩::⟨_,_,_,_⟩::⟨_,_,_,_⟩::⟨_,_,_,_⟩::⟨_,_,_,_⟩::⟨_,_,_,_⟩::⟨_,_,_,_⟩::⟨_,_,_,_⟩::[]) (M':=[⟨_,_,_⟩,⟨_,_,_⟩,⟨_,_,_⟩,⟨_,_,_⟩,⟨_,_,_⟩,⟨_,_,_⟩,⟨_,_,_⟩,⟨_,_,_⟩,⟨_,_,_⟩,⟨_,_,_⟩,⟨_,_,_⟩]) rfl rfl ?_; refine i6 ?_
    first | refine tO (NY rfl uu rfl uu (fun _=>zo)) rfl rfl ?_ | refine tO (JY rfl uu rfl uu (fun _=>zo)) rfl rfl ?_
    refine b8.stR (t0:=1000) inferInstance rfl rfl zo ?_; refine b8.norm (S':=⟨_,_,_,_⟩::⟨_,_,_,_⟩::⟨_,_,_,_⟩::⟨_,_,_,_⟩::⟨_,_,_,_⟩::⟨_,_,_,_⟩::⟨_,_,_,_⟩::⟨_,_,_,_⟩::⟨_,_,_,_⟩::⟨_,_,_,_⟩::⟨_,_,_,_⟩::⟨_,_,_,_⟩::⟨_,_,_,_⟩::⟨_,_,_,_⟩::⟨_,_,_,_⟩::⟨_,_,_,_⟩::⟨_,_,_,_⟩::⟨_,_,_,_⟩::⟨_,_,_,_⟩::⟨_,_,_,_⟩::⟨_,_,_,_⟩::[]) (M':=[⟨_,_,_⟩,⟨_,_,_⟩,⟨_,_,_⟩,⟨_,_,_⟩,⟨_,_,_⟩,⟨_,_,_⟩,⟨_,_,_⟩,⟨_,_,_⟩,⟨_,_,_⟩,⟨_,_,_⟩,⟨_,_,_⟩]) rfl rfl ?_; refine j3 ?_
    exact g6.lp ((k+1,hs.set k v)) ⟨by omega,by rw[List.length_set]; exact hhl⟩ (by show r.1.length-(k+1)<r.1.length-k; omega) (d8.mk (.i rfl zi<|zk) (.k rfl<|.e (by rw[<- P5 zo]) rfl<|.e (by rw[<- P5 zo]) rfl<|.e (by rw[<- P5 zo]) rfl<|.e (by rw[<- P5 zo]) rfl<|.e (by rw[<- P5 zo]) rfl<|.e (by rw[<- P5 zo]) rfl<|.e (by rw[<- P5 zo]) rfl<|.e (by rw[<- P5 zo]) rfl<|zk) rfl)
   ·intro h3
    replace h3:=Int.not_lt.1 h3
    refine i1 ?_
    exact g6.cut ((k,hs)) ⟨by omega,hhl⟩ (d8.mk (.i rfl zi<|zk) (zk) rfl)
  ·rintro ⟨k,hs⟩ ⟨hkn,hhl⟩
   refine je ?_; refine j3 ?_; exact f0.inlX (n:=24) (bks:=bks3) (hs) hhl (t:=2) rfl (d8.mk (zk) (.k rfl<|.e (by rw[hkn,CV]) rfl<|.e (by rw[hkn,CV]) rfl<|.e (by rw[hkn,CV]) rfl<|.e (by rw[hkn,CV]) rfl<|.e (by rw[hkn,CV]) rfl<|.e (by rw[hkn,CV]) rfl<|.e (by rw[hkn,CV]) rfl<|.e (by rw[hkn,CV]) rfl<|zk) rfl) (.cons rfl<|.cons rfl<|.nil) (fun _ _ h=>h)
 intro hs hhl
 refine b8.norm (S':=⟨_,_,_,_⟩::⟨_,_,_,_⟩::⟨_,_,_,_⟩::⟨_,_,_,_⟩::⟨_,_,_,_⟩::⟨_,_,_,_⟩::⟨_,_,_,_⟩::⟨_,_,_,_⟩::⟨_,_,_,_⟩::⟨_,_,_,_⟩::⟨_,_,_,_⟩::⟨_,_,_,_⟩::⟨_,_,_,_⟩::⟨_,_,_,_⟩::⟨_,_,_,_⟩::⟨_,_,_,_⟩::⟨_,_,_,_⟩::⟨_,_,_,_⟩::⟨_,_,_,_⟩::⟨_,_,_,_⟩::⟨_,_,_,_⟩::⟨_,_,_,_⟩::⟨_,_,_,_⟩::⟨_,_,_,_⟩::⟨_,_,_,_⟩::[]) (M':=[⟨_,_,_⟩,⟨_,_,_⟩,⟨_,_,_⟩,⟨_,_,_⟩,⟨_,_,_⟩,⟨_,_,_⟩,⟨_,_,_⟩,⟨_,_,_⟩,⟨_,_,_⟩,⟨_,_,_⟩,⟨_,_,_⟩]) rfl rfl ?_; refine t6 ?_; refine jq ?_ ?_
 ·intro h4
  have hk0:kind=0:=by assumption
  have hw:(o6 r.1).toNat<r.1.length/\(o6 r.2).toNat<r.1.length/\(o6 r.1).toNat≠(o6 r.2).toNat:=⟨by omega,by omega,by omega⟩
  refine l5 ?_; refine b8.asRow 32 1000 rfl inferInstance zo zo ?_; refine b8.norm (S':=⟨_,_,_,_⟩::⟨_,_,_,_⟩::⟨_,_,_,_⟩::⟨_,_,_,_⟩::⟨_,_,_,_⟩::⟨_,_,_,_⟩::⟨_,_,_,_⟩::⟨_,_,_,_⟩::⟨_,_,_,_⟩::⟨_,_,_,_⟩::⟨_,_,_,_⟩::⟨_,_,_,_⟩::⟨_,_,_,_⟩::⟨_,_,_,_⟩::⟨_,_,_,_⟩::⟨_,_,_,_⟩::⟨_,_,_,_⟩::⟨_,_,_,_⟩::⟨_,_,_,_⟩::⟨_,_,_,_⟩::⟨_,_,_,_⟩::⟨_,_,_,_⟩::⟨_,_,_,_⟩::⟨_,_,_,_⟩::⟨_,_,_,_⟩::⟨_,_,_,_⟩::⟨_,_,_,_⟩::⟨_,_,_,_⟩::⟨_,_,_,_⟩::⟨_,_,_,_⟩::⟨_,_,_,_⟩::⟨_,_,_,_⟩::⟨_,_,_,_⟩::[]) (M':=[⟨_,_,_⟩,⟨_,_,_⟩,⟨_,_,_⟩,⟨_,_,_⟩,⟨_,_,_⟩,⟨_,_,_⟩,⟨_,_,_⟩,⟨_,_,_⟩,⟨_,_,_⟩,⟨_,_,_⟩,⟨_,_,_⟩]) rfl rfl ?_
  have hur:=KN (n:=r.1.length) (i:=(o6 r.1).toNat) zo
  refine i6 ?_
  first | refine tO (NY rfl uu rfl uu (fun _=>zo)) rfl rfl ?_ | refine tO (JY rfl uu rfl uu (fun _=>zo)) rfl rfl ?_
  refine b8.stR (t0:=1000) inferInstance rfl rfl zo ?_; refine b8.norm (S':=⟨_,_,_,_⟩::⟨_,_,_,_⟩::⟨_,_,_,_⟩::⟨_,_,_,_⟩::⟨_,_,_,_⟩::⟨_,_,_,_⟩::⟨_,_,_,_⟩::⟨_,_,_,_⟩::⟨_,_,_,_⟩::⟨_,_,_,_⟩::⟨_,_,_,_⟩::⟨_,_,_,_⟩::⟨_,_,_,_⟩::⟨_,_,_,_⟩::⟨_,_,_,_⟩::⟨_,_,_,_⟩::⟨_,_,_,_⟩::⟨_,_,_,_⟩::⟨_,_,_,_⟩::⟨_,_,_,_⟩::⟨_,_,_,_⟩::⟨_,_,_,_⟩::⟨_,_,_,_⟩::⟨_,_,_,_⟩::⟨_,_,_,_⟩::⟨_,_,_,_⟩::⟨_,_,_,_⟩::⟨_,_,_,_⟩::⟨_,_,_,_⟩::⟨_,_,_,_⟩::⟨_,_,_,_⟩::⟨_,_,_,_⟩::⟨_,_,_,_⟩::⟨_,_,_,_⟩::⟨_,_,_,_⟩::[]) (M':=[⟨_,_,_⟩,⟨_,_,_⟩,⟨_,_,_⟩,⟨_,_,_⟩,⟨_,_,_⟩,⟨_,_,_⟩,⟨_,_,_⟩,⟨_,_,_⟩,⟨_,_,_⟩,⟨_,_,_⟩,⟨_,_,_⟩]) rfl rfl ?_
  refine j5 ?_; refine Tr.frzM 9 6 1000 rfl inferInstance zo (by show (D2 r.1.length (o6 r.1).toNat (o6 r.2).toNat).length=_; rw[(EX hw.1 hw.2.1 hw.2.2).len]; exact hhl.symm) (fun i=>by show (b6 (D2 r.1.length (o6 r.1).toNat (o6 r.2).toNat) i).length<=_; by_cases hi:i<r.1.length; (rw[(EX hw.1 hw.2.1 hw.2.2).row i hi]; simp only[q7]; omega); (rw[w4 (by rw[(EX hw.1 hw.2.1 hw.2.2).len]; omega)]; exact Nat.zero_le _)) rfl ?_; refine jn ?_; refine Tr.drawS 10 4 p7 (by kernel_rfl) ?_; refine n6.opA (N9 rfl uu) (by kernel_rfl) rfl rfl ?_
  refine n6.opA (R3 rfl uu rfl) (by kernel_rfl) rfl rfl ?_; refine n6.opA (i9 (fun hp=>LS r.1 zo) (.a rfl uu<|.nil)) (by kernel_rfl) rfl rfl ?_; refine n6.opA (N9 rfl uu) (by kernel_rfl) rfl rfl ?_; refine n6.opA (R3 rfl uu rfl) (by kernel_rfl) rfl rfl ?_; refine n6.opA (F2 rfl uu) (by kernel_rfl) rfl rfl ?_; refine n6.opA (F2 rfl uu) (by kernel_rfl) rfl rfl ?_; refine n6.opA (i9 (fun hp=>YJ r.2 (o6 r.2) (o6 r.1) zo) (.a rfl uu<|.a rfl uu<|.a rfl uu<|.nil)) (by kernel_rfl) rfl rfl ?_; refine n6.opA (w5 (fun hp=>.cons rfl rfl rfl<|.cons rfl rfl rfl<|.nil)) (by kernel_rfl) rfl rfl ?_
  refine n6.op (F2 rfl uu) rfl rfl ?_; refine n6.z (CT rfl rfl rfl) rfl rfl rfl ?_; refine n7 ?_; exact f0.resC (fn:=Tryz.f58) (ts:=[5]) rfl rfl rfl (s6 rfl (by unfold G9; rw[if_pos hk0,bP v.p2 zo zo hne])) (.r rfl (by unfold y0 y2; rw[if_pos hk0,if_pos hk0]; rfl)<|.nil)
 ·intro h4
  have hk0:¬kind=0:=by assumption
  have hw:(o6 r.2).toNat<r.1.length/\(o6 r.1).toNat<r.1.length/\(o6 r.2).toNat≠(o6 r.1).toNat:=⟨by omega,by omega,by omega⟩
  refine j3 ?_; refine b8.asRow 48 1000 rfl inferInstance zo zo ?_; refine b8.norm (S':=⟨_,_,_,_⟩::⟨_,_,_,_⟩::⟨_,_,_,_⟩::⟨_,_,_,_⟩::⟨_,_,_,_⟩::⟨_,_,_,_⟩::⟨_,_,_,_⟩::⟨_,_,_,_⟩::⟨_,_,_,_⟩::⟨_,_,_,_⟩::⟨_,_,_,_⟩::⟨_,_,_,_⟩::⟨_,_,_,_⟩::⟨_,_,_,_⟩::⟨_,_,_,_⟩::⟨_,_,_,_⟩::⟨_,_,_,_⟩::⟨_,_,_,_⟩::⟨_,_,_,_⟩::⟨_,_,_,_⟩::⟨_,_,_,_⟩::⟨_,_,_,_⟩::⟨_,_,_,_⟩::⟨_,_,_,_⟩::⟨_,_,_,_⟩::⟨_,_,_,_⟩::⟨_,_,_,_⟩::⟨_,_,_,_⟩::⟨_,_,_,_⟩::⟨_,_,_,_⟩::⟨_,_,_,_⟩::⟨_,_,_,_⟩::⟨_,_,_,_⟩::[]) (M':=[⟨_,_,_⟩,⟨_,_,_⟩,⟨_,_,_⟩,⟨_,_,_⟩,⟨_,_,_⟩,⟨_,_,_⟩,⟨_,_,_⟩,⟨_,_,_⟩,⟨_,_,_⟩,⟨_,_,_⟩,⟨_,_,_⟩]) rfl rfl ?_
  have hur:=KN (n:=r.1.length) (i:=(o6 r.2).toNat) zo
  refine i6 ?_
  first | refine tO (NY rfl uu rfl uu (fun _=>zo)) rfl rfl ?_ | refine tO (JY rfl uu rfl uu (fun _=>zo)) rfl rfl ?_
  refine b8.stR (t0:=1000) inferInstance rfl rfl zo ?_; refine b8.norm (S':=⟨_,_,_,_⟩::⟨_,_,_,_⟩::⟨_,_,_,_⟩::⟨_,_,_,_⟩::⟨_,_,_,_⟩::⟨_,_,_,_⟩::⟨_,_,_,_⟩::⟨_,_,_,_⟩::⟨_,_,_,_⟩::⟨_,_,_,_⟩::⟨_,_,_,_⟩::⟨_,_,_,_⟩::⟨_,_,_,_⟩::⟨_,_,_,_⟩::⟨_,_,_,_⟩::⟨_,_,_,_⟩::⟨_,_,_,_⟩::⟨_,_,_,_⟩::⟨_,_,_,_⟩::⟨_,_,_,_⟩::⟨_,_,_,_⟩::⟨_,_,_,_⟩::⟨_,_,_,_⟩::⟨_,_,_,_⟩::⟨_,_,_,_⟩::⟨_,_,_,_⟩::⟨_,_,_,_⟩::⟨_,_,_,_⟩::⟨_,_,_,_⟩::⟨_,_,_,_⟩::⟨_,_,_,_⟩::⟨_,_,_,_⟩::⟨_,_,_,_⟩::⟨_,_,_,_⟩::⟨_,_,_,_⟩::[]) (M':=[⟨_,_,_⟩,⟨_,_,_⟩,⟨_,_,_⟩,⟨_,_,_⟩,⟨_,_,_⟩,⟨_,_,_⟩,⟨_,_,_⟩,⟨_,_,_⟩,⟨_,_,_⟩,⟨_,_,_⟩,⟨_,_,_⟩]) rfl rfl ?_
  refine j5 ?_; refine Tr.frzM 9 6 1000 rfl inferInstance zo (by show (D2 r.1.length (o6 r.2).toNat (o6 r.1).toNat).length=_; rw[(EX hw.1 hw.2.1 hw.2.2).len]; exact hhl.symm) (fun i=>by show (b6 (D2 r.1.length (o6 r.2).toNat (o6 r.1).toNat) i).length<=_; by_cases hi:i<r.1.length; (rw[(EX hw.1 hw.2.1 hw.2.2).row i hi]; simp only[q7]; omega); (rw[w4 (by rw[(EX hw.1 hw.2.1 hw.2.2).len]; omega)]; exact Nat.zero_le _)) rfl ?_; refine jn ?_; refine Tr.drawS 10 4 p7 (by kernel_rfl) ?_; refine n6.opA (N9 rfl uu) (by kernel_rfl) rfl rfl ?_
  refine n6.opA (R3 rfl uu rfl) (by kernel_rfl) rfl rfl ?_; refine n6.opA (F2 rfl uu) (by kernel_rfl) rfl rfl ?_; refine n6.opA (F2 rfl uu) (by kernel_rfl) rfl rfl ?_; refine n6.opA (i9 (fun hp=>YJ r.1 (o6 r.1) (o6 r.2) zo) (.a rfl uu<|.a rfl uu<|.a rfl uu<|.nil)) (by kernel_rfl) rfl rfl ?_; refine n6.opA (N9 rfl uu) (by kernel_rfl) rfl rfl ?_; refine n6.opA (R3 rfl uu rfl) (by kernel_rfl) rfl rfl ?_; refine n6.opA (i9 (fun hp=>LS r.2 zo) (.a rfl uu<|.nil)) (by kernel_rfl) rfl rfl ?_; refine n6.opA (w5 (fun hp=>.cons rfl rfl rfl<|.cons rfl rfl rfl<|.nil)) (by kernel_rfl) rfl rfl ?_
  refine n6.op (F2 rfl uu) rfl rfl ?_; refine n6.z (CT rfl rfl rfl) rfl rfl rfl ?_; refine i1 ?_; exact f0.resC (fn:=Tryz.f58) (ts:=[5]) rfl rfl rfl (s6 rfl (by unfold G9; rw[if_neg hk0,bP v.p1 zo zo hne.symm])) (.r rfl (by unfold y0 y2; rw[if_neg hk0,if_neg hk0]; rfl)<|.nil)

set_option maxHeartbeats 2000000 in
theorem YA (r:l8) (ks:List Int) (v:A3 r) (hir:x9 r=true) (hl:ks.length<=50):Ct Tryz.prog 60 [b7 eO r,b7 (eL eI) ks] (v6 [b7 eO (p8 r ks ks.length),b7 (eL (eL eI)) (u6 r ks ks.length)]):=by
 have hle:=v.le
 have htw:=v.two
 have hbl:=v.len
 refine Ct.mk Tryz.func60 rfl Tryz.ntmps60 rfl (fun w J=>?_); refine g8 ?_; refine jb 2 rfl ?_; refine ja 4 ?_; refine j3 ?_; refine jc (mC r.1.length zo) ?_; refine i1 ?_; refine Tr.draw 8 p7 (by kernel_rfl) ?_; refine g8 ?_; refine jd (LS r.1 zo) ?_; refine g8 ?_; refine jd (LS r.2 zo) ?_; refine rO (w5 (fun hp=>.cons rfl rfl rfl<|.cons rfl rfl rfl<|.nil)) rfl rfl ?_; refine i7.new (FE 7) rfl rfl rfl rfl ?_; refine t6 ?_
 refine Tr.for1 (σ:=Nat) [⟨1,true,_,_⟩,⟨4,true,_,_⟩,⟨7,true,_,_⟩] [⟨4,_,_⟩] (fun k=>[⟨6,true,[],b7 (eL (eL eI)) (u6 r ks k)⟩,⟨8,true,[],kI (k:Int)⟩]) (fun k=>[⟨7,[],j1 [b7 (eL eI) (p8 r ks k).1,b7 (eL eI) (p8 r ks k).2]⟩]) (fun k=>k<=ks.length) (fun k=>k=ks.length) (fun k=>ks.length-k) (0) zi (d8.mk (.r rfl (by rfl)<|.i rfl zi<|zk) (.e (by rfl) rfl<|zk) rfl) ?_ ?_
 ·intro k hR0
  refine jn ?_; refine l7 ?_; refine jq ?_ ?_
  ·intro h4
   refine i1 ?_; refine Tr.meet2 (σ:=Unit) [⟨1,true,_,_⟩,⟨4,true,_,_⟩,⟨6,true,_,_⟩,⟨7,true,_,_⟩,⟨8,true,_,_⟩] [⟨4,_,_⟩,⟨7,_,_⟩] (zk) (zk) (fun _=>[⟨9,true,[9],u4 9 0⟩,⟨10,true,[],b7 (eL (eL eI)) (D2 r.1.length (y0 (p8 r ks k) (b6 ks k)).toNat (y2 (p8 r ks k) (b6 ks k)).toNat)⟩]) (fun _=>[⟨9,[],j1 [b7 (eL eI) (G9 (p8 r ks k) (b6 ks k)).1,b7 (eL eI) (G9 (p8 r ks k) (b6 ks k)).2]⟩]) (fun _=>True) ?_ ?_
   ·skip
    refine Tr.drawA p7 #[false,false,false,false,false,false,false,false,false,false,false,false] rfl ?_; refine d5.take 1 #[false,true,false,false,false,false,false,false,false,false,false,false] (by kernel_rfl) (by kernel_rfl) (by kernel_rfl) rfl rfl (E6 rfl) rfl rfl ?_; refine d5.take 2 #[false,true,true,false,false,false,false,false,false,false,false,false] (by kernel_rfl) (by kernel_rfl) (by kernel_rfl) rfl rfl (E6 rfl) rfl rfl ?_; refine d5.all [0,3,9] (by kernel_rfl) (by simp) (fun i hi=>?_)
    simp only[List.mem_cons,List.not_mem_nil,or_false] at hi
    rcases hi with rfl | rfl | rfl
    ·refine ⟨_,rfl,?_⟩
     obtain ⟨⟨v2,i2⟩,hfl⟩:=O8 v hir (ks:=ks) k
     have hlw:=P1 v2 (b6 ks k)
     have hwl:=X2 v2 i2 (b6 ks k)
     have hmz:I9 r.1.length 1125899906842624 (u6 r ks k):=(U3 v hir k).mono (Nat.le_trans (Nat.pow_le_pow_right zo (show k<=50 by omega)) (by decide))
     refine tO (F8 rfl uu) rfl rfl ?_; refine d5.k #[true,true,true,false,false,false,false,false,false,false,false,false] rfl (fun _ _ _ _=>trivial) ?_; refine d5.all [3,9] (by kernel_rfl) (by simp) (fun i hi=>?_)
     simp only[List.mem_cons,List.not_mem_nil,or_false] at hi
     rcases hi with rfl | rfl
     ·refine ⟨_,rfl,?_⟩
      first | refine tO (D8 rfl uu rfl uu rfl (fun _=>zo)) rfl rfl ?_ | refine tO (R2 rfl uu rfl uu rfl (fun _=>zo)) rfl rfl ?_
      refine d5.k #[true,true,true,true,false,false,false,false,false,false,false,false] rfl (fun _ _ _ _=>trivial) ?_; refine d5.all [4,9] (by kernel_rfl) (by simp) (fun i hi=>?_)
      simp only[List.mem_cons,List.not_mem_nil,or_false] at hi
      rcases hi with rfl | rfl
      ·refine ⟨_,rfl,?_⟩
       refine tO (D0 rfl uu rfl) rfl rfl ?_; refine d5.k #[true,true,true,true,true,false,false,false,false,false,false,false] rfl (fun _ _ _ _=>trivial) ?_; refine d5.all [5,9] (by kernel_rfl) (by simp) (fun i hi=>?_)
       simp only[List.mem_cons,List.not_mem_nil,or_false] at hi
       rcases hi with rfl | rfl
       ·refine ⟨_,rfl,?_⟩
        refine jc (O7 (p8 r ks k) (b6 ks k) v2 i2) ?_
        rw[hfl]
        refine d5.k #[true,true,true,true,true,true,false,false,false,false,false,false] rfl (fun _ _ _ _=>trivial) ?_; refine d5.take 6 #[true,true,true,true,true,true,true,false,false,false,false,false] (by kernel_rfl) (by kernel_rfl) (by kernel_rfl) rfl rfl (E6 rfl) rfl rfl ?_; refine d5.take 7 #[true,true,true,true,true,true,true,true,false,false,false,false] (by kernel_rfl) (by kernel_rfl) (by kernel_rfl) rfl rfl (D4 rfl rfl) rfl rfl ?_; refine d5.take 8 #[true,true,true,true,true,true,true,true,true,false,false,false] (by kernel_rfl) (by kernel_rfl) (by kernel_rfl) rfl rfl (D4 rfl rfl) rfl rfl ?_
        refine d5.one 9 (by kernel_rfl) rfl ?_; refine ja 9 ?_; refine d5.k #[true,true,true,true,true,true,true,true,true,true,false,false] rfl (fun _ _ _ _=>trivial) ?_; refine d5.one 10 (by kernel_rfl) rfl ?_; refine b8.stB rfl rfl rfl rfl ?_; refine d5.k #[true,true,true,true,true,true,true,true,true,true,true,false] rfl (fun _ _ _ _=>trivial) ?_; refine d5.one 11 (by kernel_rfl) rfl ?_; refine mw rfl rfl rfl ?_; refine d5.k #[true,true,true,true,true,true,true,true,true,true,true,true] rfl (fun _ _ _ _=>trivial) ?_; refine d5.done (by kernel_rfl) ?_
        exact g6.cut (()) zi (d8.mk (.k rfl rfl<|.r rfl (by rfl)<|zk) (zk) rfl)
       ·refine ⟨_,rfl,?_⟩
        refine ja 9 ?_; refine d5.k #[true,true,true,true,true,false,false,false,false,true,false,false] rfl (fun _ _ _ _=>trivial) ?_; refine d5.one 5 (by kernel_rfl) rfl ?_; refine jc (O7 (p8 r ks k) (b6 ks k) v2 i2) ?_
        rw[hfl]
        refine d5.k #[true,true,true,true,true,true,false,false,false,true,false,false] rfl (fun _ _ _ _=>trivial) ?_; refine d5.take 6 #[true,true,true,true,true,true,true,false,false,true,false,false] (by kernel_rfl) (by kernel_rfl) (by kernel_rfl) rfl rfl (E6 rfl) rfl rfl ?_; refine d5.take 7 #[true,true,true,true,true,true,true,true,false,true,false,false] (by kernel_rfl) (by kernel_rfl) (by kernel_rfl) rfl rfl (D4 rfl rfl) rfl rfl ?_; refine d5.take 8 #[true,true,true,true,true,true,true,true,true,true,false,false] (by kernel_rfl) (by kernel_rfl) (by kernel_rfl) rfl rfl (D4 rfl rfl) rfl rfl ?_
        refine d5.one 10 (by kernel_rfl) rfl ?_; refine b8.stB rfl rfl rfl rfl ?_; refine d5.k #[true,true,true,true,true,true,true,true,true,true,true,false] rfl (fun _ _ _ _=>trivial) ?_; refine d5.one 11 (by kernel_rfl) rfl ?_; refine mw rfl rfl rfl ?_; refine d5.k #[true,true,true,true,true,true,true,true,true,true,true,true] rfl (fun _ _ _ _=>trivial) ?_; refine d5.done (by kernel_rfl) ?_
        exact g6.cut (()) zi (d8.mk (.k rfl rfl<|.r rfl (by rfl)<|zk) (zk) rfl)
      ·refine ⟨_,rfl,?_⟩
       refine ja 9 ?_; refine d5.k #[true,true,true,true,false,false,false,false,false,true,false,false] rfl (fun _ _ _ _=>trivial) ?_; refine d5.one 4 (by kernel_rfl) rfl ?_; refine tO (D0 rfl uu rfl) rfl rfl ?_; refine d5.k #[true,true,true,true,true,false,false,false,false,true,false,false] rfl (fun _ _ _ _=>trivial) ?_; refine d5.one 5 (by kernel_rfl) rfl ?_; refine jc (O7 (p8 r ks k) (b6 ks k) v2 i2) ?_
       rw[hfl]
       refine d5.k #[true,true,true,true,true,true,false,false,false,true,false,false] rfl (fun _ _ _ _=>trivial) ?_; refine d5.take 6 #[true,true,true,true,true,true,true,false,false,true,false,false] (by kernel_rfl) (by kernel_rfl) (by kernel_rfl) rfl rfl (E6 rfl) rfl rfl ?_; refine d5.take 7 #[true,true,true,true,true,true,true,true,false,true,false,false] (by kernel_rfl) (by kernel_rfl) (by kernel_rfl) rfl rfl (D4 rfl rfl) rfl rfl ?_; refine d5.take 8 #[true,true,true,true,true,true,true,true,true,true,false,false] (by kernel_rfl) (by kernel_rfl) (by kernel_rfl) rfl rfl (D4 rfl rfl) rfl rfl ?_
       refine d5.one 10 (by kernel_rfl) rfl ?_; refine b8.stB rfl rfl rfl rfl ?_; refine d5.k #[true,true,true,true,true,true,true,true,true,true,true,false] rfl (fun _ _ _ _=>trivial) ?_; refine d5.one 11 (by kernel_rfl) rfl ?_; refine mw rfl rfl rfl ?_; refine d5.k #[true,true,true,true,true,true,true,true,true,true,true,true] rfl (fun _ _ _ _=>trivial) ?_; refine d5.done (by kernel_rfl) ?_
       exact g6.cut (()) zi (d8.mk (.k rfl rfl<|.r rfl (by rfl)<|zk) (zk) rfl)
     ·refine ⟨_,rfl,?_⟩
      refine ja 9 ?_; refine d5.k #[true,true,true,false,false,false,false,false,false,true,false,false] rfl (fun _ _ _ _=>trivial) ?_; refine d5.one 3 (by kernel_rfl) rfl ?_
      first | refine tO (D8 rfl uu rfl uu rfl (fun _=>zo)) rfl rfl ?_ | refine tO (R2 rfl uu rfl uu rfl (fun _=>zo)) rfl rfl ?_
      refine d5.k #[true,true,true,true,false,false,false,false,false,true,false,false] rfl (fun _ _ _ _=>trivial) ?_; refine d5.one 4 (by kernel_rfl) rfl ?_; refine tO (D0 rfl uu rfl) rfl rfl ?_; refine d5.k #[true,true,true,true,true,false,false,false,false,true,false,false] rfl (fun _ _ _ _=>trivial) ?_; refine d5.one 5 (by kernel_rfl) rfl ?_; refine jc (O7 (p8 r ks k) (b6 ks k) v2 i2) ?_
      rw[hfl]
      refine d5.k #[true,true,true,true,true,true,false,false,false,true,false,false] rfl (fun _ _ _ _=>trivial) ?_; refine d5.take 6 #[true,true,true,true,true,true,true,false,false,true,false,false] (by kernel_rfl) (by kernel_rfl) (by kernel_rfl) rfl rfl (E6 rfl) rfl rfl ?_; refine d5.take 7 #[true,true,true,true,true,true,true,true,false,true,false,false] (by kernel_rfl) (by kernel_rfl) (by kernel_rfl) rfl rfl (D4 rfl rfl) rfl rfl ?_; refine d5.take 8 #[true,true,true,true,true,true,true,true,true,true,false,false] (by kernel_rfl) (by kernel_rfl) (by kernel_rfl) rfl rfl (D4 rfl rfl) rfl rfl ?_
      refine d5.one 10 (by kernel_rfl) rfl ?_; refine b8.stB rfl rfl rfl rfl ?_; refine d5.k #[true,true,true,true,true,true,true,true,true,true,true,false] rfl (fun _ _ _ _=>trivial) ?_; refine d5.one 11 (by kernel_rfl) rfl ?_; refine mw rfl rfl rfl ?_; refine d5.k #[true,true,true,true,true,true,true,true,true,true,true,true] rfl (fun _ _ _ _=>trivial) ?_; refine d5.done (by kernel_rfl) ?_
      exact g6.cut (()) zi (d8.mk (.k rfl rfl<|.r rfl (by rfl)<|zk) (zk) rfl)
    ·refine ⟨_,rfl,?_⟩
     first | refine tO (D8 rfl uu rfl uu rfl (fun _=>zo)) rfl rfl ?_ | refine tO (R2 rfl uu rfl uu rfl (fun _=>zo)) rfl rfl ?_
     refine d5.k #[false,true,true,true,false,false,false,false,false,false,false,false] rfl (fun _ _ _ _=>trivial) ?_; refine d5.all [0,4,9] (by kernel_rfl) (by simp) (fun i hi=>?_)
     simp only[List.mem_cons,List.not_mem_nil,or_false] at hi
     rcases hi with rfl | rfl | rfl
     ·refine ⟨_,rfl,?_⟩
      obtain ⟨⟨v2,i2⟩,hfl⟩:=O8 v hir (ks:=ks) k
      have hlw:=P1 v2 (b6 ks k)
      have hwl:=X2 v2 i2 (b6 ks k)
      have hmz:I9 r.1.length 1125899906842624 (u6 r ks k):=(U3 v hir k).mono (Nat.le_trans (Nat.pow_le_pow_right zo (show k<=50 by omega)) (by decide))
      refine tO (F8 rfl uu) rfl rfl ?_; refine d5.k #[true,true,true,true,false,false,false,false,false,false,false,false] rfl (fun _ _ _ _=>trivial) ?_; refine d5.all [4,9] (by kernel_rfl) (by simp) (fun i hi=>?_)
      simp only[List.mem_cons,List.not_mem_nil,or_false] at hi
      rcases hi with rfl | rfl
      ·refine ⟨_,rfl,?_⟩
       refine tO (D0 rfl uu rfl) rfl rfl ?_; refine d5.k #[true,true,true,true,true,false,false,false,false,false,false,false] rfl (fun _ _ _ _=>trivial) ?_; refine d5.all [5,9] (by kernel_rfl) (by simp) (fun i hi=>?_)
       simp only[List.mem_cons,List.not_mem_nil,or_false] at hi
       rcases hi with rfl | rfl
       ·refine ⟨_,rfl,?_⟩
        refine jc (O7 (p8 r ks k) (b6 ks k) v2 i2) ?_
        rw[hfl]
        refine d5.k #[true,true,true,true,true,true,false,false,false,false,false,false] rfl (fun _ _ _ _=>trivial) ?_; refine d5.take 6 #[true,true,true,true,true,true,true,false,false,false,false,false] (by kernel_rfl) (by kernel_rfl) (by kernel_rfl) rfl rfl (E6 rfl) rfl rfl ?_; refine d5.take 7 #[true,true,true,true,true,true,true,true,false,false,false,false] (by kernel_rfl) (by kernel_rfl) (by kernel_rfl) rfl rfl (D4 rfl rfl) rfl rfl ?_; refine d5.take 8 #[true,true,true,true,true,true,true,true,true,false,false,false] (by kernel_rfl) (by kernel_rfl) (by kernel_rfl) rfl rfl (D4 rfl rfl) rfl rfl ?_
        refine d5.one 9 (by kernel_rfl) rfl ?_; refine ja 9 ?_; refine d5.k #[true,true,true,true,true,true,true,true,true,true,false,false] rfl (fun _ _ _ _=>trivial) ?_; refine d5.one 10 (by kernel_rfl) rfl ?_; refine b8.stB rfl rfl rfl rfl ?_; refine d5.k #[true,true,true,true,true,true,true,true,true,true,true,false] rfl (fun _ _ _ _=>trivial) ?_; refine d5.one 11 (by kernel_rfl) rfl ?_; refine mw rfl rfl rfl ?_; refine d5.k #[true,true,true,true,true,true,true,true,true,true,true,true] rfl (fun _ _ _ _=>trivial) ?_; refine d5.done (by kernel_rfl) ?_
        exact g6.cut (()) zi (d8.mk (.k rfl rfl<|.r rfl (by rfl)<|zk) (zk) rfl)
       ·refine ⟨_,rfl,?_⟩
        refine ja 9 ?_; refine d5.k #[true,true,true,true,true,false,false,false,false,true,false,false] rfl (fun _ _ _ _=>trivial) ?_; refine d5.one 5 (by kernel_rfl) rfl ?_; refine jc (O7 (p8 r ks k) (b6 ks k) v2 i2) ?_
        rw[hfl]
        refine d5.k #[true,true,true,true,true,true,false,false,false,true,false,false] rfl (fun _ _ _ _=>trivial) ?_; refine d5.take 6 #[true,true,true,true,true,true,true,false,false,true,false,false] (by kernel_rfl) (by kernel_rfl) (by kernel_rfl) rfl rfl (E6 rfl) rfl rfl ?_; refine d5.take 7 #[true,true,true,true,true,true,true,true,false,true,false,false] (by kernel_rfl) (by kernel_rfl) (by kernel_rfl) rfl rfl (D4 rfl rfl) rfl rfl ?_; refine d5.take 8 #[true,true,true,true,true,true,true,true,true,true,false,false] (by kernel_rfl) (by kernel_rfl) (by kernel_rfl) rfl rfl (D4 rfl rfl) rfl rfl ?_
        refine d5.one 10 (by kernel_rfl) rfl ?_; refine b8.stB rfl rfl rfl rfl ?_; refine d5.k #[true,true,true,true,true,true,true,true,true,true,true,false] rfl (fun _ _ _ _=>trivial) ?_; refine d5.one 11 (by kernel_rfl) rfl ?_; refine mw rfl rfl rfl ?_; refine d5.k #[true,true,true,true,true,true,true,true,true,true,true,true] rfl (fun _ _ _ _=>trivial) ?_; refine d5.done (by kernel_rfl) ?_
        exact g6.cut (()) zi (d8.mk (.k rfl rfl<|.r rfl (by rfl)<|zk) (zk) rfl)
      ·refine ⟨_,rfl,?_⟩
       refine ja 9 ?_; refine d5.k #[true,true,true,true,false,false,false,false,false,true,false,false] rfl (fun _ _ _ _=>trivial) ?_; refine d5.one 4 (by kernel_rfl) rfl ?_; refine tO (D0 rfl uu rfl) rfl rfl ?_; refine d5.k #[true,true,true,true,true,false,false,false,false,true,false,false] rfl (fun _ _ _ _=>trivial) ?_; refine d5.one 5 (by kernel_rfl) rfl ?_; refine jc (O7 (p8 r ks k) (b6 ks k) v2 i2) ?_
       rw[hfl]
       refine d5.k #[true,true,true,true,true,true,false,false,false,true,false,false] rfl (fun _ _ _ _=>trivial) ?_; refine d5.take 6 #[true,true,true,true,true,true,true,false,false,true,false,false] (by kernel_rfl) (by kernel_rfl) (by kernel_rfl) rfl rfl (E6 rfl) rfl rfl ?_; refine d5.take 7 #[true,true,true,true,true,true,true,true,false,true,false,false] (by kernel_rfl) (by kernel_rfl) (by kernel_rfl) rfl rfl (D4 rfl rfl) rfl rfl ?_; refine d5.take 8 #[true,true,true,true,true,true,true,true,true,true,false,false] (by kernel_rfl) (by kernel_rfl) (by kernel_rfl) rfl rfl (D4 rfl rfl) rfl rfl ?_
       refine d5.one 10 (by kernel_rfl) rfl ?_; refine b8.stB rfl rfl rfl rfl ?_; refine d5.k #[true,true,true,true,true,true,true,true,true,true,true,false] rfl (fun _ _ _ _=>trivial) ?_; refine d5.one 11 (by kernel_rfl) rfl ?_; refine mw rfl rfl rfl ?_; refine d5.k #[true,true,true,true,true,true,true,true,true,true,true,true] rfl (fun _ _ _ _=>trivial) ?_; refine d5.done (by kernel_rfl) ?_
       exact g6.cut (()) zi (d8.mk (.k rfl rfl<|.r rfl (by rfl)<|zk) (zk) rfl)
     ·refine ⟨_,rfl,?_⟩
      refine tO (D0 rfl uu rfl) rfl rfl ?_; refine d5.k #[false,true,true,true,true,false,false,false,false,false,false,false] rfl (fun _ _ _ _=>trivial) ?_; refine d5.all [0,9] (by kernel_rfl) (by simp) (fun i hi=>?_)
      simp only[List.mem_cons,List.not_mem_nil,or_false] at hi
      rcases hi with rfl | rfl
      ·refine ⟨_,rfl,?_⟩
       obtain ⟨⟨v2,i2⟩,hfl⟩:=O8 v hir (ks:=ks) k
       have hlw:=P1 v2 (b6 ks k)
       have hwl:=X2 v2 i2 (b6 ks k)
       have hmz:I9 r.1.length 1125899906842624 (u6 r ks k):=(U3 v hir k).mono (Nat.le_trans (Nat.pow_le_pow_right zo (show k<=50 by omega)) (by decide))
       refine tO (F8 rfl uu) rfl rfl ?_; refine d5.k #[true,true,true,true,true,false,false,false,false,false,false,false] rfl (fun _ _ _ _=>trivial) ?_; refine d5.all [5,9] (by kernel_rfl) (by simp) (fun i hi=>?_)
       simp only[List.mem_cons,List.not_mem_nil,or_false] at hi
       rcases hi with rfl | rfl
       ·refine ⟨_,rfl,?_⟩
        refine jc (O7 (p8 r ks k) (b6 ks k) v2 i2) ?_
        rw[hfl]
        refine d5.k #[true,true,true,true,true,true,false,false,false,false,false,false] rfl (fun _ _ _ _=>trivial) ?_; refine d5.take 6 #[true,true,true,true,true,true,true,false,false,false,false,false] (by kernel_rfl) (by kernel_rfl) (by kernel_rfl) rfl rfl (E6 rfl) rfl rfl ?_; refine d5.take 7 #[true,true,true,true,true,true,true,true,false,false,false,false] (by kernel_rfl) (by kernel_rfl) (by kernel_rfl) rfl rfl (D4 rfl rfl) rfl rfl ?_; refine d5.take 8 #[true,true,true,true,true,true,true,true,true,false,false,false] (by kernel_rfl) (by kernel_rfl) (by kernel_rfl) rfl rfl (D4 rfl rfl) rfl rfl ?_
        refine d5.one 9 (by kernel_rfl) rfl ?_; refine ja 9 ?_; refine d5.k #[true,true,true,true,true,true,true,true,true,true,false,false] rfl (fun _ _ _ _=>trivial) ?_; refine d5.one 10 (by kernel_rfl) rfl ?_; refine b8.stB rfl rfl rfl rfl ?_; refine d5.k #[true,true,true,true,true,true,true,true,true,true,true,false] rfl (fun _ _ _ _=>trivial) ?_; refine d5.one 11 (by kernel_rfl) rfl ?_; refine mw rfl rfl rfl ?_; refine d5.k #[true,true,true,true,true,true,true,true,true,true,true,true] rfl (fun _ _ _ _=>trivial) ?_; refine d5.done (by kernel_rfl) ?_
        exact g6.cut (()) zi (d8.mk (.k rfl rfl<|.r rfl (by rfl)<|zk) (zk) rfl)
       ·refine ⟨_,rfl,?_⟩
        refine ja 9 ?_; refine d5.k #[true,true,true,true,true,false,false,false,false,true,false,false] rfl (fun _ _ _ _=>trivial) ?_; refine d5.one 5 (by kernel_rfl) rfl ?_; refine jc (O7 (p8 r ks k) (b6 ks k) v2 i2) ?_
        rw[hfl]
        refine d5.k #[true,true,true,true,true,true,false,false,false,true,false,false] rfl (fun _ _ _ _=>trivial) ?_; refine d5.take 6 #[true,true,true,true,true,true,true,false,false,true,false,false] (by kernel_rfl) (by kernel_rfl) (by kernel_rfl) rfl rfl (E6 rfl) rfl rfl ?_; refine d5.take 7 #[true,true,true,true,true,true,true,true,false,true,false,false] (by kernel_rfl) (by kernel_rfl) (by kernel_rfl) rfl rfl (D4 rfl rfl) rfl rfl ?_; refine d5.take 8 #[true,true,true,true,true,true,true,true,true,true,false,false] (by kernel_rfl) (by kernel_rfl) (by kernel_rfl) rfl rfl (D4 rfl rfl) rfl rfl ?_
        refine d5.one 10 (by kernel_rfl) rfl ?_; refine b8.stB rfl rfl rfl rfl ?_; refine d5.k #[true,true,true,true,true,true,true,true,true,true,true,false] rfl (fun _ _ _ _=>trivial) ?_; refine d5.one 11 (by kernel_rfl) rfl ?_; refine mw rfl rfl rfl ?_; refine d5.k #[true,true,true,true,true,true,true,true,true,true,true,true] rfl (fun _ _ _ _=>trivial) ?_; refine d5.done (by kernel_rfl) ?_
        exact g6.cut (()) zi (d8.mk (.k rfl rfl<|.r rfl (by rfl)<|zk) (zk) rfl)
      ·refine ⟨_,rfl,?_⟩
       refine ja 9 ?_; refine d5.k #[false,true,true,true,true,false,false,false,false,true,false,false] rfl (fun _ _ _ _=>trivial) ?_; refine d5.one 0 (by kernel_rfl) rfl ?_
       obtain ⟨⟨v2,i2⟩,hfl⟩:=O8 v hir (ks:=ks) k
       have hlw:=P1 v2 (b6 ks k)
       have hwl:=X2 v2 i2 (b6 ks k)
       have hmz:I9 r.1.length 1125899906842624 (u6 r ks k):=(U3 v hir k).mono (Nat.le_trans (Nat.pow_le_pow_right zo (show k<=50 by omega)) (by decide))
       refine tO (F8 rfl uu) rfl rfl ?_; refine d5.k #[true,true,true,true,true,false,false,false,false,true,false,false] rfl (fun _ _ _ _=>trivial) ?_; refine d5.one 5 (by kernel_rfl) rfl ?_; refine jc (O7 (p8 r ks k) (b6 ks k) v2 i2) ?_
       rw[hfl]
       refine d5.k #[true,true,true,true,true,true,false,false,false,true,false,false] rfl (fun _ _ _ _=>trivial) ?_; refine d5.take 6 #[true,true,true,true,true,true,true,false,false,true,false,false] (by kernel_rfl) (by kernel_rfl) (by kernel_rfl) rfl rfl (E6 rfl) rfl rfl ?_; refine d5.take 7 #[true,true,true,true,true,true,true,true,false,true,false,false] (by kernel_rfl) (by kernel_rfl) (by kernel_rfl) rfl rfl (D4 rfl rfl) rfl rfl ?_; refine d5.take 8 #[true,true,true,true,true,true,true,true,true,true,false,false] (by kernel_rfl) (by kernel_rfl) (by kernel_rfl) rfl rfl (D4 rfl rfl) rfl rfl ?_
       refine d5.one 10 (by kernel_rfl) rfl ?_; refine b8.stB rfl rfl rfl rfl ?_; refine d5.k #[true,true,true,true,true,true,true,true,true,true,true,false] rfl (fun _ _ _ _=>trivial) ?_; refine d5.one 11 (by kernel_rfl) rfl ?_; refine mw rfl rfl rfl ?_; refine d5.k #[true,true,true,true,true,true,true,true,true,true,true,true] rfl (fun _ _ _ _=>trivial) ?_; refine d5.done (by kernel_rfl) ?_
       exact g6.cut (()) zi (d8.mk (.k rfl rfl<|.r rfl (by rfl)<|zk) (zk) rfl)
     ·refine ⟨_,rfl,?_⟩
      refine ja 9 ?_; refine d5.k #[false,true,true,true,false,false,false,false,false,true,false,false] rfl (fun _ _ _ _=>trivial) ?_; refine d5.all [0,4] (by kernel_rfl) (by simp) (fun i hi=>?_)
      simp only[List.mem_cons,List.not_mem_nil,or_false] at hi
      rcases hi with rfl | rfl
      ·refine ⟨_,rfl,?_⟩
       obtain ⟨⟨v2,i2⟩,hfl⟩:=O8 v hir (ks:=ks) k
       have hlw:=P1 v2 (b6 ks k)
       have hwl:=X2 v2 i2 (b6 ks k)
       have hmz:I9 r.1.length 1125899906842624 (u6 r ks k):=(U3 v hir k).mono (Nat.le_trans (Nat.pow_le_pow_right zo (show k<=50 by omega)) (by decide))
       refine tO (F8 rfl uu) rfl rfl ?_; refine d5.k #[true,true,true,true,false,false,false,false,false,true,false,false] rfl (fun _ _ _ _=>trivial) ?_; refine d5.one 4 (by kernel_rfl) rfl ?_; refine tO (D0 rfl uu rfl) rfl rfl ?_; refine d5.k #[true,true,true,true,true,false,false,false,false,true,false,false] rfl (fun _ _ _ _=>trivial) ?_; refine d5.one 5 (by kernel_rfl) rfl ?_; refine jc (O7 (p8 r ks k) (b6 ks k) v2 i2) ?_
       rw[hfl]
       refine d5.k #[true,true,true,true,true,true,false,false,false,true,false,false] rfl (fun _ _ _ _=>trivial) ?_; refine d5.take 6 #[true,true,true,true,true,true,true,false,false,true,false,false] (by kernel_rfl) (by kernel_rfl) (by kernel_rfl) rfl rfl (E6 rfl) rfl rfl ?_; refine d5.take 7 #[true,true,true,true,true,true,true,true,false,true,false,false] (by kernel_rfl) (by kernel_rfl) (by kernel_rfl) rfl rfl (D4 rfl rfl) rfl rfl ?_; refine d5.take 8 #[true,true,true,true,true,true,true,true,true,true,false,false] (by kernel_rfl) (by kernel_rfl) (by kernel_rfl) rfl rfl (D4 rfl rfl) rfl rfl ?_
       refine d5.one 10 (by kernel_rfl) rfl ?_; refine b8.stB rfl rfl rfl rfl ?_; refine d5.k #[true,true,true,true,true,true,true,true,true,true,true,false] rfl (fun _ _ _ _=>trivial) ?_; refine d5.one 11 (by kernel_rfl) rfl ?_; refine mw rfl rfl rfl ?_; refine d5.k #[true,true,true,true,true,true,true,true,true,true,true,true] rfl (fun _ _ _ _=>trivial) ?_; refine d5.done (by kernel_rfl) ?_
       exact g6.cut (()) zi (d8.mk (.k rfl rfl<|.r rfl (by rfl)<|zk) (zk) rfl)
      ·refine ⟨_,rfl,?_⟩
       refine tO (D0 rfl uu rfl) rfl rfl ?_; refine d5.k #[false,true,true,true,true,false,false,false,false,true,false,false] rfl (fun _ _ _ _=>trivial) ?_; refine d5.one 0 (by kernel_rfl) rfl ?_
       obtain ⟨⟨v2,i2⟩,hfl⟩:=O8 v hir (ks:=ks) k
       have hlw:=P1 v2 (b6 ks k)
       have hwl:=X2 v2 i2 (b6 ks k)
       have hmz:I9 r.1.length 1125899906842624 (u6 r ks k):=(U3 v hir k).mono (Nat.le_trans (Nat.pow_le_pow_right zo (show k<=50 by omega)) (by decide))
       refine tO (F8 rfl uu) rfl rfl ?_; refine d5.k #[true,true,true,true,true,false,false,false,false,true,false,false] rfl (fun _ _ _ _=>trivial) ?_; refine d5.one 5 (by kernel_rfl) rfl ?_; refine jc (O7 (p8 r ks k) (b6 ks k) v2 i2) ?_
       rw[hfl]
       refine d5.k #[true,true,true,true,true,true,false,false,false,true,false,false] rfl (fun _ _ _ _=>trivial) ?_; refine d5.take 6 #[true,true,true,true,true,true,true,false,false,true,false,false] (by kernel_rfl) (by kernel_rfl) (by kernel_rfl) rfl rfl (E6 rfl) rfl rfl ?_; refine d5.take 7 #[true,true,true,true,true,true,true,true,false,true,false,false] (by kernel_rfl) (by kernel_rfl) (by kernel_rfl) rfl rfl (D4 rfl rfl) rfl rfl ?_; refine d5.take 8 #[true,true,true,true,true,true,true,true,true,true,false,false] (by kernel_rfl) (by kernel_rfl) (by kernel_rfl) rfl rfl (D4 rfl rfl) rfl rfl ?_
       refine d5.one 10 (by kernel_rfl) rfl ?_; refine b8.stB rfl rfl rfl rfl ?_; refine d5.k #[true,true,true,true,true,true,true,true,true,true,true,false] rfl (fun _ _ _ _=>trivial) ?_; refine d5.one 11 (by kernel_rfl) rfl ?_; refine mw rfl rfl rfl ?_; refine d5.k #[true,true,true,true,true,true,true,true,true,true,true,true] rfl (fun _ _ _ _=>trivial) ?_; refine d5.done (by kernel_rfl) ?_
       exact g6.cut (()) zi (d8.mk (.k rfl rfl<|.r rfl (by rfl)<|zk) (zk) rfl)
    ·refine ⟨_,rfl,?_⟩
     refine ja 9 ?_; refine d5.k #[false,true,true,false,false,false,false,false,false,true,false,false] rfl (fun _ _ _ _=>trivial) ?_; refine d5.all [0,3] (by kernel_rfl) (by simp) (fun i hi=>?_)
     simp only[List.mem_cons,List.not_mem_nil,or_false] at hi
     rcases hi with rfl | rfl
     ·refine ⟨_,rfl,?_⟩
      obtain ⟨⟨v2,i2⟩,hfl⟩:=O8 v hir (ks:=ks) k
      have hlw:=P1 v2 (b6 ks k)
      have hwl:=X2 v2 i2 (b6 ks k)
      have hmz:I9 r.1.length 1125899906842624 (u6 r ks k):=(U3 v hir k).mono (Nat.le_trans (Nat.pow_le_pow_right zo (show k<=50 by omega)) (by decide))
      refine tO (F8 rfl uu) rfl rfl ?_; refine d5.k #[true,true,true,false,false,false,false,false,false,true,false,false] rfl (fun _ _ _ _=>trivial) ?_; refine d5.one 3 (by kernel_rfl) rfl ?_
      first | refine tO (D8 rfl uu rfl uu rfl (fun _=>zo)) rfl rfl ?_ | refine tO (R2 rfl uu rfl uu rfl (fun _=>zo)) rfl rfl ?_
      refine d5.k #[true,true,true,true,false,false,false,false,false,true,false,false] rfl (fun _ _ _ _=>trivial) ?_; refine d5.one 4 (by kernel_rfl) rfl ?_; refine tO (D0 rfl uu rfl) rfl rfl ?_; refine d5.k #[true,true,true,true,true,false,false,false,false,true,false,false] rfl (fun _ _ _ _=>trivial) ?_; refine d5.one 5 (by kernel_rfl) rfl ?_; refine jc (O7 (p8 r ks k) (b6 ks k) v2 i2) ?_
      rw[hfl]
      refine d5.k #[true,true,true,true,true,true,false,false,false,true,false,false] rfl (fun _ _ _ _=>trivial) ?_; refine d5.take 6 #[true,true,true,true,true,true,true,false,false,true,false,false] (by kernel_rfl) (by kernel_rfl) (by kernel_rfl) rfl rfl (E6 rfl) rfl rfl ?_; refine d5.take 7 #[true,true,true,true,true,true,true,true,false,true,false,false] (by kernel_rfl) (by kernel_rfl) (by kernel_rfl) rfl rfl (D4 rfl rfl) rfl rfl ?_; refine d5.take 8 #[true,true,true,true,true,true,true,true,true,true,false,false] (by kernel_rfl) (by kernel_rfl) (by kernel_rfl) rfl rfl (D4 rfl rfl) rfl rfl ?_
      refine d5.one 10 (by kernel_rfl) rfl ?_; refine b8.stB rfl rfl rfl rfl ?_; refine d5.k #[true,true,true,true,true,true,true,true,true,true,true,false] rfl (fun _ _ _ _=>trivial) ?_; refine d5.one 11 (by kernel_rfl) rfl ?_; refine mw rfl rfl rfl ?_; refine d5.k #[true,true,true,true,true,true,true,true,true,true,true,true] rfl (fun _ _ _ _=>trivial) ?_; refine d5.done (by kernel_rfl) ?_
      exact g6.cut (()) zi (d8.mk (.k rfl rfl<|.r rfl (by rfl)<|zk) (zk) rfl)
     ·refine ⟨_,rfl,?_⟩
      first | refine tO (D8 rfl uu rfl uu rfl (fun _=>zo)) rfl rfl ?_ | refine tO (R2 rfl uu rfl uu rfl (fun _=>zo)) rfl rfl ?_
      refine d5.k #[false,true,true,true,false,false,false,false,false,true,false,false] rfl (fun _ _ _ _=>trivial) ?_; refine d5.all [0,4] (by kernel_rfl) (by simp) (fun i hi=>?_)
      simp only[List.mem_cons,List.not_mem_nil,or_false] at hi
      rcases hi with rfl | rfl
      ·refine ⟨_,rfl,?_⟩
       obtain ⟨⟨v2,i2⟩,hfl⟩:=O8 v hir (ks:=ks) k
       have hlw:=P1 v2 (b6 ks k)
       have hwl:=X2 v2 i2 (b6 ks k)
       have hmz:I9 r.1.length 1125899906842624 (u6 r ks k):=(U3 v hir k).mono (Nat.le_trans (Nat.pow_le_pow_right zo (show k<=50 by omega)) (by decide))
       refine tO (F8 rfl uu) rfl rfl ?_; refine d5.k #[true,true,true,true,false,false,false,false,false,true,false,false] rfl (fun _ _ _ _=>trivial) ?_; refine d5.one 4 (by kernel_rfl) rfl ?_; refine tO (D0 rfl uu rfl) rfl rfl ?_; refine d5.k #[true,true,true,true,true,false,false,false,false,true,false,false] rfl (fun _ _ _ _=>trivial) ?_; refine d5.one 5 (by kernel_rfl) rfl ?_; refine jc (O7 (p8 r ks k) (b6 ks k) v2 i2) ?_
       rw[hfl]
       refine d5.k #[true,true,true,true,true,true,false,false,false,true,false,false] rfl (fun _ _ _ _=>trivial) ?_; refine d5.take 6 #[true,true,true,true,true,true,true,false,false,true,false,false] (by kernel_rfl) (by kernel_rfl) (by kernel_rfl) rfl rfl (E6 rfl) rfl rfl ?_; refine d5.take 7 #[true,true,true,true,true,true,true,true,false,true,false,false] (by kernel_rfl) (by kernel_rfl) (by kernel_rfl) rfl rfl (D4 rfl rfl) rfl rfl ?_; refine d5.take 8 #[true,true,true,true,true,true,true,true,true,true,false,false] (by kernel_rfl) (by kernel_rfl) (by kernel_rfl) rfl rfl (D4 rfl rfl) rfl rfl ?_
       refine d5.one 10 (by kernel_rfl) rfl ?_; refine b8.stB rfl rfl rfl rfl ?_; refine d5.k #[true,true,true,true,true,true,true,true,true,true,true,false] rfl (fun _ _ _ _=>trivial) ?_; refine d5.one 11 (by kernel_rfl) rfl ?_; refine mw rfl rfl rfl ?_; refine d5.k #[true,true,true,true,true,true,true,true,true,true,true,true] rfl (fun _ _ _ _=>trivial) ?_; refine d5.done (by kernel_rfl) ?_
       exact g6.cut (()) zi (d8.mk (.k rfl rfl<|.r rfl (by rfl)<|zk) (zk) rfl)
      ·refine ⟨_,rfl,?_⟩
       refine tO (D0 rfl uu rfl) rfl rfl ?_; refine d5.k #[false,true,true,true,true,false,false,false,false,true,false,false] rfl (fun _ _ _ _=>trivial) ?_; refine d5.one 0 (by kernel_rfl) rfl ?_
       obtain ⟨⟨v2,i2⟩,hfl⟩:=O8 v hir (ks:=ks) k
       have hlw:=P1 v2 (b6 ks k)
       have hwl:=X2 v2 i2 (b6 ks k)
       have hmz:I9 r.1.length 1125899906842624 (u6 r ks k):=(U3 v hir k).mono (Nat.le_trans (Nat.pow_le_pow_right zo (show k<=50 by omega)) (by decide))
       refine tO (F8 rfl uu) rfl rfl ?_; refine d5.k #[true,true,true,true,true,false,false,false,false,true,false,false] rfl (fun _ _ _ _=>trivial) ?_; refine d5.one 5 (by kernel_rfl) rfl ?_; refine jc (O7 (p8 r ks k) (b6 ks k) v2 i2) ?_
       rw[hfl]
       refine d5.k #[true,true,true,true,true,true,false,false,false,true,false,false] rfl (fun _ _ _ _=>trivial) ?_; refine d5.take 6 #[true,true,true,true,true,true,true,false,false,true,false,false] (by kernel_rfl) (by kernel_rfl) (by kernel_rfl) rfl rfl (E6 rfl) rfl rfl ?_; refine d5.take 7 #[true,true,true,true,true,true,true,true,false,true,false,false] (by kernel_rfl) (by kernel_rfl) (by kernel_rfl) rfl rfl (D4 rfl rfl) rfl rfl ?_; refine d5.take 8 #[true,true,true,true,true,true,true,true,true,true,false,false] (by kernel_rfl) (by kernel_rfl) (by kernel_rfl) rfl rfl (D4 rfl rfl) rfl rfl ?_
       refine d5.one 10 (by kernel_rfl) rfl ?_; refine b8.stB rfl rfl rfl rfl ?_; refine d5.k #[true,true,true,true,true,true,true,true,true,true,true,false] rfl (fun _ _ _ _=>trivial) ?_; refine d5.one 11 (by kernel_rfl) rfl ?_; refine mw rfl rfl rfl ?_; refine d5.k #[true,true,true,true,true,true,true,true,true,true,true,true] rfl (fun _ _ _ _=>trivial) ?_; refine d5.done (by kernel_rfl) ?_
       exact g6.cut (()) zi (d8.mk (.k rfl rfl<|.r rfl (by rfl)<|zk) (zk) rfl)
   ·intro _ hM
    refine jn ?_; refine Tr.draw 4 p7 (by kernel_rfl) ?_
    obtain ⟨⟨v2,i2⟩,hfl⟩:=O8 v hir (ks:=ks) k
    have hlw:=P1 v2 (b6 ks k)
    have hwl:=X2 v2 i2 (b6 ks k)
    have hmz:I9 r.1.length 1125899906842624 (u6 r ks k):=(U3 v hir k).mono (Nat.le_trans (Nat.pow_le_pow_right zo (show k<=50 by omega)) (by decide))
    refine j5 ?_; refine jd (mB (u6 r ks k) (D2 r.1.length (y0 (p8 r ks k) (b6 ks k)).toNat (y2 (p8 r ks k) (b6 ks k)).toNat) r.1.length 1125899906842624 hmz (EX zo zo hwl) zo zo zo) ?_
    rw[oJ v hir]
    refine B0 ?_
    exact g6.lp (k+1) zi zo (d8.mk (.r rfl (by rfl)<|.i rfl zi<|zk) (.e (by rfl) rfl<|zk) rfl)
  ·intro h4
   replace h4:=Int.not_lt.1 h4
   refine i1 ?_
   exact g6.cut (k) zo (d8.mk (.r rfl zi<|.i rfl zi<|zk) (zk) rfl)
 ·rintro _ rfl
  refine je ?_; refine t6 ?_
  exact f0.resC (fn:=Tryz.f60) (ts:=[5]) rfl rfl rfl (s6 rfl (by rfl)) (.r rfl zi<|.nil)

end Go.Fl

/- Contracts: Follow and Move with errors, the law of paths. -/
namespace Go.Fl
open Go Go.Proofs
open b8 renaming op->tO
open i7 renaming op->rO
set_option maxRecDepth 100000

def y7 (r:l8) (ks:List Int):Int:=if A9 r≠0 then A9 r else H6 ks
def S9 (r:l8) (ks:List Int):l8:=if y7 r ks≠0 then ([],[]) else p8 r ks ks.length
def BA (r:l8) (ks:List Int):ZM:=if y7 r ks≠0 then [] else u6 r ks ks.length
theorem GI {ks:List Int}:ks.any (fun x=>decide (x≠0)&&decide (x≠1))=ks.any DG:=by
 congr 1; funext x
 unfold DG
 rw[Bool.eq_iff_iff,Bool.and_eq_true,Bool.not_eq_true',decide_eq_true_iff,decide_eq_true_iff,decide_eq_false_iff_not]; omega
theorem uD {l:List Int} {q:Nat}:l.set q (b6 l q)=l:=by
 refine F5 (List.length_set ..) fun i hi=>?_
 rw[List.length_set] at hi
 by_cases e:i=q
 ·subst e; rw[BE hi]
 ·rw[CJ e]
theorem gZ {n p q:Nat} (hp:p<n) (hq:q<n) (hpq:p≠q):G2 (w7 n) q p=D2 n p q:=by
 refine F5 (by unfold G2 D2; rw[List.length_map,List.length_set]) fun i hi=>?_
 have hi2:i<n:=by unfold G2 at hi; rw[List.length_map,EC] at hi; exact hi
 clear hi
 have hu:b6 (w7 n) i=(List.replicate n 0).set i 1:=s9 hi2
 have hz:b6 (List.replicate n (0:Int)) q=0:=by simp[b6,hq]
 unfold G2
 rw[JR (by rw[EC]; exact hi2)]
 unfold GD D2
 by_cases e:i=p
 ·subst e
  rw[BE (by rw[EC]; exact hi2),hu,CJ zo,hz,BE (by rw[List.length_replicate]; exact hi2)]; rfl
 ·rw[CJ e,hu]
  have h0:b6 ((List.replicate n (0:Int)).set i 1) p=0:=by rw[CJ zo]; simp[b6,hp]
  rw[h0,Int.add_zero,uD]
theorem MV {r:l8} {ks:List Int} (h:y7 r ks≠0):S9 r ks=([],[])/\BA r ks=[]:=by unfold S9 BA; rw[if_pos h,if_pos h]; exact ⟨rfl,rfl⟩
theorem GT {r:l8} {ks:List Int} (h:y7 r ks=0):(A3 r/\x9 r=true)/\(ks.length<=60/\∀k∈ks,k=0\/k=1)/\S9 r ks=p8 r ks ks.length/\BA r ks=u6 r ks ks.length:=by
 have hi0:A9 r=0:=Classical.byContradiction fun e=>by unfold y7 at h; rw[if_pos e] at h; exact e h
 have hc0:H6 ks=0:=by unfold y7 at h; rw[if_neg (fun a=>a hi0)] at h; exact h
 refine ⟨aL hi0,WQ hc0,?_,?_⟩
 ·unfold S9; rw[if_neg (fun a=>a h)]
 ·unfold BA; rw[if_neg (fun a=>a h)]
theorem oI {r:l8} {k:Int} (h:y7 r [k]=0):S9 r [k]=G9 r k/\BA r [k]=D2 r.1.length (y0 r k).toNat (y2 r k).toNat:=by
 obtain ⟨⟨v,hi⟩,_,e1,e2⟩:=GT h
 rw[e1,e2]
 have hr:=P1 v k
 exact ⟨rfl,gZ (p:=(y0 r k).toNat) (q:=(y2 r k).toNat) zo zo (X2 v hi k)⟩
def MQ (r:l8):Bool:=decide (r.1.length=0)&&decide (r.2.length=0)
theorem lE (r:l8) (ks:List Int) (hne:y7 r ks≠0):Ct Tryz.prog 54 [b7 eO r,b7 (eL eI) ks] (v6 [b7 eO (([],[]):l8),b7 (eL (eL eI)) ([]:ZM),kI (y7 r ks)]):=by
 refine Ct.mk Tryz.func54 rfl Tryz.ntmps54 rfl (fun w J=>?_); refine g8 ?_; refine jb 2 rfl ?_; refine ja 4 ?_; refine j3 ?_; refine jc (IY r) ?_; refine l7 ?_; refine jq ?_ ?_
 ·intro h2
  have hfe:y7 r ks=A9 r:=by unfold y7; rw[if_pos h2]
  refine g8 ?_; refine tO (w5 (fun hp=>.nil)) rfl rfl ?_; refine j3 ?_
  exact f0.resC (fn:=Tryz.f54) (ts:=[5,6]) rfl rfl rfl (s6 rfl (by rfl)) (.n rfl zi<|.i rfl hfe.symm<|.nil)
 ·intro h2
  replace h2:=Classical.not_not.1 h2
  have hfe:y7 r ks=H6 ks:=by unfold y7; rw[if_neg (fun a=>a h2)]
  refine t6 ?_; refine jq ?_ ?_
  ·intro h4
   have hcc:H6 ks=8:=if_pos zo
   refine g8 ?_; refine tO (w5 (fun hp=>.nil)) rfl rfl ?_; refine j8 ?_
   exact f0.resC (fn:=Tryz.f54) (ts:=[5,6]) rfl rfl rfl (s6 rfl (by rfl)) (.n rfl zi<|.i rfl (by rw[hfe,hcc])<|.nil)
  ·intro h4
   replace h4:=Int.not_lt.1 h4
   have hl60:¬60<ks.length:=by omega
   refine l5 ?_; refine tO (i9 (fun hp=>QX ks (fun _=>True) (fun x=>decide (x≠0)&&decide (x≠1)) (fun _ _=>trivial)) (.a rfl uu<|.cons rfl uu (fun g u h=>JL (cks:=[]) (fun a _=>XN a) g u ⟨[],h,trivial⟩)<|.nil)) rfl rfl ?_; refine g8 ?_; refine Tr.cnd rfl ?_ ?_
   ·intro h6
    have hcc:H6 ks=2:=by unfold H6; rw[if_neg hl60,if_pos (by rw[<- GI]; exact h6)]
    refine g8 ?_; refine tO (w5 (fun hp=>.nil)) rfl rfl ?_; refine j8 ?_
    exact f0.resC (fn:=Tryz.f54) (ts:=[5,6]) rfl rfl rfl (s6 rfl (by rfl)) (.n rfl zi<|.i rfl (by rw[hfe,hcc])<|.nil)
   ·intro h6
    exact absurd (show y7 r ks=0 by rw[hfe]; unfold H6; rw[if_neg hl60,if_neg (by rw[<- GI,h6]; exact fun a=>by cases a)]) hne

theorem lM (r:l8) (kind:Int) (hne:y7 r [kind]≠0):Ct Tryz.prog 53 [b7 eO r,kI kind] (v6 [b7 eO (([],[]):l8),b7 (eL (eL eI)) ([]:ZM),kI (y7 r [kind])]):=by
 refine Ct.mk Tryz.func53 rfl Tryz.ntmps53 rfl (fun w J=>?_); refine g8 ?_; refine jb 2 rfl ?_; refine ja 4 ?_; refine j3 ?_; refine jc (IY r) ?_; refine l7 ?_; refine jq ?_ ?_
 ·intro h2
  have hfe:y7 r [kind]=A9 r:=by unfold y7; rw[if_pos h2]
  refine g8 ?_; refine tO (w5 (fun hp=>.nil)) rfl rfl ?_; refine j3 ?_
  exact f0.resC (fn:=Tryz.f53) (ts:=[5,6]) rfl rfl rfl (s6 rfl (by rfl)) (.n rfl zi<|.i rfl hfe.symm<|.nil)
 ·intro h2
  replace h2:=Classical.not_not.1 h2
  have hfe:y7 r [kind]=H6 [kind]:=by unfold y7; rw[if_neg (fun a=>a h2)]
  refine B1 ?_; refine Tr.cnd rfl ?_ ?_
  ·intro h4
   have hcc:H6 [kind]=2:=by unfold H6; rw[if_neg (by show ¬60<1; omega),if_pos (by rw[<- GI]; simpa using h4)]
   refine g8 ?_; refine tO (w5 (fun hp=>.nil)) rfl rfl ?_; refine j8 ?_
   exact f0.resC (fn:=Tryz.f53) (ts:=[5,6]) rfl rfl rfl (s6 rfl (by rfl)) (.n rfl zi<|.i rfl (by rw[hfe,hcc])<|.nil)
  ·intro h4
   exact absurd (show y7 r [kind]=0 by rw[hfe]; unfold H6; rw[if_neg (by show ¬60<1; omega),if_neg (by rw[<- GI]; simpa using h4)]) hne

theorem lN (r:l8) (kind:Int) (hne:y7 r [kind]=0):Ct Tryz.prog 53 [b7 eO r,kI kind] (v6 [b7 eO (p8 r [kind] 1),b7 (eL (eL eI)) (u6 r [kind] 1),kI 0]):=by
 have hi0:A9 r=0:=Classical.byContradiction fun e=>by unfold y7 at hne; rw[if_pos e] at hne; exact e hne
 have hc0:H6 [kind]=0:=by unfold y7 at hne; rw[if_neg (fun a=>a hi0)] at hne; exact hne
 have hk:=(WQ hc0).2
 have hk1:=hk kind (List.mem_cons_self ..)
 have hv:=aL hi0
 refine Ct.mk Tryz.func53 rfl Tryz.ntmps53 rfl (fun w J=>?_); refine g8 ?_; refine jb 2 rfl ?_; refine ja 4 ?_; refine j3 ?_; refine jc (IY r) ?_; refine l7 ?_; refine jq ?_ ?_
 ·intro h2
  exact absurd hi0 h2
 ·intro h2
  replace h2:=Classical.not_not.1 h2
  refine B1 ?_; refine Tr.cnd rfl ?_ ?_
  ·intro h4
   exfalso; simp at h4; omega
  ·intro h4
   refine l5 ?_; refine tO (AA eI (fun hp=>.cons rfl<|.nil) rfl rfl rfl rfl) rfl rfl ?_; refine jc (RA r [kind] hv.1 hv.2 (by show 1<=60; omega) hk) ?_; refine l7 ?_
   exact f0.resC (fn:=Tryz.f53) (ts:=[5,6]) rfl rfl rfl (s6 rfl (by rfl)) (.r rfl zi<|.i rfl zi<|.nil)

theorem lJ  : Ct Tryz.prog 45 [] (kB true):=by
 have hw:∀n:Int,-1000<=n/\n<=1000->Ct Tryz.prog 28 [kI n] (b7 m9 (o4 (v5 n))):=fun n hn=>by have h:=IZ n zo; rw[SJ] at h; exact h
 have hst:Ct Tryz.prog 46 [b7 eX B3] (v6 [b7 eX ((HU,[0,1],[1,0],[o4 (v5 1),o4 (v5 2)]):t8),kI 1,kI 0]):=by have h:=mN B3 vS; rw[fZ.1,fZ.2,VD] at h; exact h
 refine Ct.mk Tryz.func45 rfl Tryz.ntmps45 rfl (fun w J=>?_); refine j8 ?_; refine jc mO ?_; refine jc hst ?_; refine i1 ?_; refine ja 1 ?_; refine l5 ?_; refine Tr.draw 24 p7 (by kernel_rfl) ?_; refine l7 ?_; refine i7.gd rfl rfl rfl (AA eI (fun hp=>.cons rfl<|.cons rfl<|.nil) rfl rfl rfl rfl) rfl rfl ?_; refine i7.gd rfl rfl rfl (i9 (fun hp=>GL [0,1] [0,1]) (.a rfl id<|.a rfl id<|.nil)) rfl rfl ?_; refine i1 ?_; refine i7.gd rfl rfl rfl (AA eI (fun hp=>.cons rfl<|.cons rfl<|.nil) rfl rfl rfl rfl) rfl rfl ?_; refine i7.gd rfl rfl rfl (i9 (fun hp=>GL [1,0] [1,0]) (.a rfl id<|.a rfl id<|.nil)) rfl rfl ?_
 refine i1 ?_; refine i7.gd rfl rfl rfl (i9 (fun hp=>IZ _ zo) (.a rfl uu<|.nil)) rfl rfl ?_; refine i7.gd rfl rfl rfl (i9 (fun hp=>IZ _ zo) (.a rfl uu<|.nil)) rfl rfl ?_; refine i7.gd rfl rfl rfl (AA m9 (fun hp=>.consG rfl (id hp)<|.consG rfl (id hp)<|.nil) rfl rfl rfl rfl) rfl rfl ?_; refine i6 ?_; refine b8.gd rfl rfl rfl (i9 (fun hp=>kA ((HU,[0,1],[1,0],[o4 (v5 1),o4 (v5 2)]):t8).2.2.2 [o4 (v5 1),o4 (v5 2)]) (.a rfl id<|.a rfl id<|.nil)) rfl rfl ?_; refine n7 ?_; exact f0.res1 (fn:=Tryz.f45) rfl (.b rfl (by simp)<|.nil)

theorem YQ (r:l8):Ct Tryz.prog 57 [b7 eO r] (kB (MQ r)):=by
 refine Ct.mk Tryz.func57 rfl Tryz.ntmps57 rfl (fun w J=>?_); refine g8 ?_; refine jb 1 rfl ?_; refine JJ ?_; exact f0.res1 (fn:=Tryz.f57) rfl (.b rfl (by unfold MQ; congr 1<;>exact decide_eq_decide.2 zo)<|.nil)

theorem RF (a b:l8):Ct Tryz.prog 59 [b7 eO a,b7 eO b] (kB (decide (a=b))):=by
 refine Ct.mk Tryz.func59 rfl Tryz.ntmps59 rfl (fun w J=>?_); refine g8 ?_; refine jb 2 rfl ?_; refine jb 3 rfl ?_; refine l7 ?_; refine tO (i9 (fun hp=>GL _ _) (.a rfl uu<|.a rfl uu<|.nil)) rfl rfl ?_; refine n7 ?_; refine b8.gd rfl rfl rfl (i9 (fun hp=>GL _ _) (.a rfl id<|.a rfl id<|.nil)) rfl rfl ?_; refine n7 ?_; exact f0.res1 (fn:=Tryz.f59) rfl (.b rfl (by obtain ⟨a1,a2⟩:=a; obtain ⟨b1,b2⟩:=b; simp only[Prod.mk.injEq]; symm; exact Bool.decide_and _ _)<|.nil)

theorem lD (r:l8) (ks:List Int):Ct Tryz.prog 54 [b7 eO r,b7 (eL eI) ks] (v6 [b7 eO (S9 r ks),b7 (eL (eL eI)) (BA r ks),kI (y7 r ks)]):=by
 by_cases h:y7 r ks=0
 ·obtain ⟨hv,hk,e1,e2⟩:=GT h
  rw[e1,e2,h]
  exact RA r ks hv.1 hv.2 hk.1 hk.2
 ·obtain ⟨e1,e2⟩:=MV h
  rw[e1,e2]
  exact lE r ks h
theorem lL (r:l8) (k:Int):Ct Tryz.prog 53 [b7 eO r,kI k] (v6 [b7 eO (S9 r [k]),b7 (eL (eL eI)) (BA r [k]),kI (y7 r [k])]):=by
 by_cases h:y7 r [k]=0
 ·obtain ⟨hv,hk,e1,e2⟩:=GT h
  rw[e1,e2,h]
  exact lN r k h
 ·obtain ⟨e1,e2⟩:=MV h
  rw[e1,e2]
  exact lM r k h
set_option maxHeartbeats 2000000 in
theorem jU (r:l8) (kind:Int) (ks:List Int):Ct Tryz.prog 9 [b7 eO r,kI kind,b7 (eL eI) ks] (kB true):=by
 refine Ct.mk Tryz.func9 rfl Tryz.ntmps9 rfl (fun w J=>?_); refine g8 ?_; refine jb 3 rfl ?_; refine l5 ?_; refine jc lJ ?_; refine j5 ?_; refine Tr.cnd rfl ?_ ?_
 ·intro h1
  exact absurd h1 (by decide)
 ·intro h1
  refine l5 ?_; refine tO (i9 (fun hp=>mV _) (.s rfl uu rfl<|.nil)) rfl rfl ?_; refine l7 ?_; refine b8.gd rfl rfl rfl (HJ rfl id rfl (fun hp h=>GU (id hp) h)) rfl rfl ?_; refine j3 ?_; refine Tr.cnd rfl ?_ ?_
  ·intro h3
   refine j8 ?_
   exact f0.res1 (fn:=Tryz.f9) rfl (.b rfl zi<|.nil)
  ·intro h3
   have hkl:ks.length<=20\/60<ks.length:=by simp at h3; omega
   refine l5 ?_; refine jc (lL r kind) ?_; refine i1 ?_; refine ja 7 ?_; refine l7 ?_; refine jc (lD r ks) ?_; refine i1 ?_; refine ja 10 ?_; refine j3 ?_; refine jc (lX r) ?_; refine l7 ?_; refine Tr.meet2 (σ:=Unit) [⟨1,true,_,_⟩,⟨2,true,_,_⟩,⟨3,true,_,_⟩,⟨7,true,_,_⟩,⟨8,true,_,_⟩,⟨9,true,_,_⟩,⟨10,true,_,_⟩,⟨11,true,_,_⟩,⟨12,true,_,_⟩,⟨14,true,_,_⟩] [⟨3,_,_⟩,⟨7,_,_⟩,⟨10,_,_⟩] (zk) (zk) (fun _=>[⟨13,true,[],kI (y7 r [kind])⟩]) (fun _=>[]) (fun _=>True) ?_ ?_
   ·skip
    refine l5 ?_; refine b8.gd rfl rfl rfl (i9 (fun hp=>XB kind 0 1) (.a rfl id<|.a rfl uu<|.a rfl uu<|.nil)) rfl rfl ?_; refine i1 ?_; refine Tr.cnd rfl ?_ ?_
    ·intro h9
     have hf9:2=y7 r [kind]:=by simp at h9; unfold y7 H6; rw[if_neg (fun a=>a h9.1),if_neg (by show ¬60<1; omega),if_pos (by rw[<- GI]; simp; omega)]
     refine j5 ?_
     exact g6.cut (()) zi (d8.mk (.i rfl hf9<|zk) (zk) rfl)
    ·intro h9
     have hf9:A9 r=y7 r [kind]:=by simp at h9; unfold y7 H6; by_cases c:A9 r=0; (have:=h9 c; rw[if_neg (fun a=>a c),if_neg (by show ¬60<1; omega),if_neg (by rw[<- GI]; simp; omega),c]); (rw[if_pos c])
     refine i6 ?_
     exact g6.cut (()) zi (d8.mk (.i rfl hf9<|zk) (zk) rfl)
   ·intro _ hM
    refine jn ?_; refine Tr.meet2 (σ:=Unit) [⟨1,true,_,_⟩,⟨2,true,_,_⟩,⟨3,true,_,_⟩,⟨7,true,_,_⟩,⟨8,true,_,_⟩,⟨9,true,_,_⟩,⟨10,true,_,_⟩,⟨11,true,_,_⟩,⟨12,true,_,_⟩,⟨13,true,_,_⟩] [⟨3,_,_⟩,⟨7,_,_⟩,⟨10,_,_⟩] (zk) (zk) (fun _=>[⟨14,true,[],kI (y7 r ks)⟩]) (fun _=>[]) (fun _=>True) ?_ ?_
    ·skip
     refine l5 ?_; refine jq ?_ ?_
     ·intro h11
      have hf11:H6 ks=y7 r ks:=by unfold y7; rw[if_neg (fun a=>a h11)]
      refine g8 ?_; refine jc (lY ks) ?_; refine g8 ?_
      exact g6.cut (()) zi (d8.mk (.i rfl hf11<|zk) (zk) rfl)
     ·intro h11
      have hf11:A9 r=y7 r ks:=by unfold y7; rw[if_pos h11]
      refine i6 ?_
      exact g6.cut (()) zi (d8.mk (.i rfl hf11<|zk) (zk) rfl)
    ·intro _ hM
     refine jn ?_; refine Z5 ?_; refine b8.gd rfl rfl rfl (i9 (fun hp=>YQ (S9 r [kind])) (.s rfl id rfl<|.nil)) rfl rfl ?_; refine n7 ?_; refine b8.gd rfl rfl rfl (JZ rfl id rfl (fun hp h=>JD (id hp) h)) rfl rfl ?_; refine b8.gd rfl rfl rfl (HJ rfl id rfl (fun hp h=>GU (id hp) h)) rfl rfl ?_; refine l5 ?_; refine b8.gd rfl rfl rfl (i9 (fun hp=>YQ (S9 r ks)) (.s rfl id rfl<|.nil)) rfl rfl ?_; refine n7 ?_; refine b8.gd rfl rfl rfl (JZ rfl id rfl (fun hp h=>JD (id hp) h)) rfl rfl ?_; refine b8.gd rfl rfl rfl (HJ rfl id rfl (fun hp h=>GU (id hp) h)) rfl rfl ?_
     refine j5 ?_; refine Tr.cnd rfl ?_ ?_
     ·intro h13
      try simp only[decide_eq_true_eq,Bool.and_eq_true,Bool.or_eq_true,Bool.not_eq_true',ne_eq] at h13
      exfalso; rcases h13 with (h | h) | h
      ·simp at h
      ·obtain ⟨e1,e2⟩:=MV h.1; rw[e1,e2] at h; simp[MQ] at h
      ·obtain ⟨e1,e2⟩:=MV h.1; rw[e1,e2] at h; simp[MQ] at h
     ·intro h13
      try simp only[decide_eq_true_eq,decide_eq_false_iff_not,Bool.not_eq_false',Bool.and_eq_false_imp,Bool.or_eq_false_iff,Int.not_lt,ne_eq,Classical.not_not] at h13
      refine l7 ?_; refine jq ?_ ?_
      ·intro h15
       obtain ⟨hv1,_,_⟩:=GT h15
       obtain ⟨ho1,ho2⟩:=oI h15
       refine i1 ?_; refine jc (O7 r kind hv1.1 hv1.2) ?_; refine j5 ?_; refine ja 15 ?_; refine j3 ?_; refine jc (RF (S9 r [kind]) (G9 r kind)) ?_; refine i1 ?_; refine b8.gd rfl rfl rfl (i9 (fun hp=>LT (BA r [kind]) (D2 r.1.length (y0 r kind).toNat (y2 r kind).toNat)) (.a rfl id<|.a rfl id<|.nil)) rfl rfl ?_; refine i1 ?_; refine Tr.cnd rfl ?_ ?_
       ·intro h17
        try simp only[decide_eq_false_iff_not,Bool.or_eq_true,Bool.not_eq_true'] at h17
        exfalso; rw[ho1,ho2] at h17; simp at h17
       ·intro h17
        try simp only[decide_eq_true_eq,Bool.not_eq_false',Bool.or_eq_false_iff] at h17
        refine l7 ?_; refine jq ?_ ?_
        ·intro h19
         refine j8 ?_
         exact f0.res1 (fn:=Tryz.f9) rfl (.b rfl zi<|.nil)
        ·intro h19
         replace h19:=Classical.not_not.1 h19
         have h19z:y7 r ks=0:=by omega
         obtain ⟨hv2,hk2,hp1,hp2⟩:=GT h19z
         have hfr:=(O8 hv2.1 hv2.2 (ks:=ks) ks.length).1
         refine l5 ?_; refine jc (YA r ks hv2.1 hv2.2 zo) ?_; refine j5 ?_; refine ja 17 ?_; refine j8 ?_; refine jc (XF (S9 r ks)) ?_; refine B0 ?_; refine jc (RF (S9 r ks) (p8 r ks ks.length)) ?_; refine j5 ?_; refine b8.gd rfl rfl rfl (i9 (fun hp=>LT (BA r ks) (u6 r ks ks.length)) (.a rfl id<|.a rfl id<|.nil)) rfl rfl ?_; refine w3 ?_; exact f0.res1 (fn:=Tryz.f9) rfl (.b rfl (by rw[hp1,hp2,IW hfr.1,hfr.2]; simp)<|.nil)
      ·intro h15
       refine l7 ?_; refine jq ?_ ?_
       ·intro h19
        refine j8 ?_
        exact f0.res1 (fn:=Tryz.f9) rfl (.b rfl zi<|.nil)
       ·intro h19
        replace h19:=Classical.not_not.1 h19
        have h19z:y7 r ks=0:=by omega
        obtain ⟨hv2,hk2,hp1,hp2⟩:=GT h19z
        have hfr:=(O8 hv2.1 hv2.2 (ks:=ks) ks.length).1
        refine l5 ?_; refine jc (YA r ks hv2.1 hv2.2 zo) ?_; refine j5 ?_; refine ja 17 ?_; refine j8 ?_; refine jc (XF (S9 r ks)) ?_; refine B0 ?_; refine jc (RF (S9 r ks) (p8 r ks ks.length)) ?_; refine j5 ?_; refine b8.gd rfl rfl rfl (i9 (fun hp=>LT (BA r ks) (u6 r ks ks.length)) (.a rfl id<|.a rfl id<|.nil)) rfl rfl ?_; refine w3 ?_; exact f0.res1 (fn:=Tryz.f9) rfl (.b rfl (by rw[hp1,hp2,IW hfr.1,hfr.2]; simp)<|.nil)

end Go.Fl
