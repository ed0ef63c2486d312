/- Laws on walking typed knowledge through code, and contracts. -/
import Derived.Test.YthfaleobmefibaaGreatM5

/- Contracts: Path and Step (the program). -/
namespace Go.Fl
open Go Go.Proofs
open b8 renaming op->tO
open j1 renaming op->rO
set_option maxRecDepth 100000

def S9 (sg:n7->Int) (r:q7) (ls:List n7):Nat->q7×List n7
 | 0=>(r,ls)
 | i+1=>(G8 (S9 sg r ls i).1 (A4 sg (S9 sg r ls i).1 (S9 sg r ls i).2),K9 (S9 sg r ls i).1 (S9 sg r ls i).2 (A4 sg (S9 sg r ls i).1 (S9 sg r ls i).2))
def MN (sg:n7->Int) (r:q7) (ls:List n7) (i:Nat):Int:=A4 sg (S9 sg r ls i).1 (S9 sg r ls i).2
def yE (sg:n7->Int) (r:q7) (ls:List n7) (i:Nat):Int:=H9 sg (S9 sg r ls i).1 (S9 sg r ls i).2
theorem XD {sg:n7->Int} {r:q7} {ls:List n7} {i:Nat}:MN sg r ls i=0\/MN sg r ls i=1:=by unfold MN A4; split<;>simp
theorem MO {p:List Int} {sg:n7->Int} {D:Int} {M n:Nat} {r:q7} {ls l0:List n7} (h:CR p D M n 0 r ls) (h0:H2 p D M n l0) (hi:B3 r=true):∀i,CR p D M n i (S9 sg r ls i).1 (S9 sg r ls i).2/\B3 (S9 sg r ls i).1=true
 | 0=>⟨h,hi⟩
 | i+1=>by
  obtain ⟨h1,h2⟩:=MO h h0 hi (sg:=sg) i
  exact ⟨h1.step h0 h2 _,(WK h1.rows h2 _).2⟩
theorem Q7.st {x:o0} {D:Int} {M:Nat} (hx:Q7 x) (hlo:H2 x.1.1 D M x.2.1.length (p7 x)):CR x.1.1 D M x.2.1.length 0 (oX x) (p7 x) :=
 ⟨hx.rows,rfl,hlo.len,hlo.red,fun a ha=>by rw[Nat.pow_zero,Nat.one_mul]; exact hlo.hb a ha⟩
theorem dZ {sg:n7->Int} {r:q7} {ls:List n7} {n:Nat}:∀{i:Nat},i<=n->w6 r (j4 n (MN sg r ls)) i=(S9 sg r ls i).1
 | 0,_=>rfl
 | i+1,hi=>by
  rw[w6,dZ zo,q9 zo]; rfl
abbrev zX:o0:=(([],0,0,0),[],[],[])
noncomputable abbrev r5 (x:o0) (i:Nat):q7×List n7:=S9 (r8 x) (oX x) (p7 x) i
noncomputable abbrev w5 (x:o0) (i:Nat):Int:=MN (r8 x) (oX x) (p7 x) i
noncomputable abbrev G4 (x:o0) (i:Nat):Int:=yE (r8 x) (oX x) (p7 x) i
noncomputable def DG (x:o0) (n:Nat):o0:=(x.1,(r5 x n).1.1,(r5 x n).1.2,(r5 x n).2.map l5)
theorem PW {r:q7} (v:E2 r) (hi:B3 r=true):G7 r=0:=by unfold G7; rw[if_neg (fun a=>a (TR v)),if_pos hi]
theorem OS (x:o0) (D:Int) (M:Nat) (hx:Q7 x) (hlo:H2 x.1.1 D M x.2.1.length (p7 x)):Ct Tryz.prog 93 [b7 eX x] (z9 [s6 R0 (QK x),kI (G7 (oX x))]):=by
 refine Ct.mk Tryz.func93 rfl Tryz.ntmps93 rfl (fun w J=>?_); refine g9 ?_; refine jb 1 rfl ?_; refine j6 ?_; refine jc (sN x D M hx hlo) ?_; refine C7 ?_; refine Tr.cnd rfl ?_ ?_
 ·intro h2
  exact absurd h2 (by decide)
 ·intro h2
  refine l6 ?_; refine tO (EG rfl uu) rfl rfl ?_; refine g9 ?_; refine jc (bL (oX x)) ?_; refine l8 ?_
  exact d9.res (fn:=Tryz.f93) (ts:=[2,3]) rfl rfl (.p rfl zi<|.i rfl zi<|.nil)

theorem rL (x:o0) (hsm:U3 x) (hne:E9 x≠0):Ct Tryz.prog 93 [b7 eX x] (z9 [i9 (.pointer none),kI (E9 x)]):=by
 refine Ct.mk Tryz.func93 rfl Tryz.ntmps93 rfl (fun w J=>?_); refine g9 ?_; refine jb 1 rfl ?_; refine j6 ?_; refine jc (sP x hsm hne) ?_; refine C7 ?_; refine Tr.cnd rfl ?_ ?_
 ·intro h2
  refine m8 ?_
  exact d9.res (fn:=Tryz.f93) (ts:=[2,3]) rfl rfl (.k rfl<|.i rfl zi<|.nil)
 ·intro h2
  exact absurd (of_decide_eq_false h2) (fun e=>e hne)

set_option maxHeartbeats 2000000 in
theorem qT (x:o0) (D:Int) (M:Nat) (n:Nat) (hx:Q7 x) (hlo:H2 x.1.1 D M x.2.1.length (p7 x)) (hir:B3 (oX x)=true) (hn:n<=16) (hnt:∀i,i<n->G4 x i≠0):Ct Tryz.prog 47 [b7 eX x,kI (n:Int)] (z9 [b7 eX (DG x n),b7 (eL eI) (j4 n (w5 x)),b7 (eL (eL eI)) (B9 (oX x) (j4 n (w5 x)) n),kI 0]):=by
 have h0:=hx.fld
 have hpo:=Q0 h0
 have hs:=(X5 h0).1.2.1
 have v:=hx.rows
 have hp1:B1 x.2.1 x.2.1.length:=v.p1
 have hp2:B1 x.2.2.1 x.2.1.length:=v.p2
 have hle:x.2.1.length<=8:=v.le
 have htwo:2<=x.2.1.length:=v.two
 have hbl:x.2.2.1.length=x.2.1.length:=v.len
 have hxl:=hx.len
 have hll:=hlo.len
 have hic:=PW hx.rows hir
 have htl:(j4 n (w5 x)).length=n:=p8
 have hfg:=qJ (oX x) (j4 n (w5 x)) hx.rows hir (by rw[htl]; omega) (fun k hk=>by obtain ⟨i,_,rfl⟩:=List.mem_map.1 hk; exact XD)
 rw[htl] at hfg
 refine Ct.mk Tryz.func47 rfl Tryz.ntmps47 rfl (fun w J=>?_); refine g9 ?_; refine jb 2 rfl ?_; refine ja 4 ?_; refine j3 ?_; refine jc (OS x D M hx hlo) ?_
 rw[hic]
 refine C7 ?_; refine Tr.cnd rfl ?_ ?_
 ·intro h2
  exact absurd h2 (by decide)
 ·intro h2
  refine D2 ?_; refine Tr.cnd rfl ?_ ?_
  ·intro h4
   simp at h4; omega
  ·intro h4
   refine g9 ?_; refine Tr.meet2 (σ:=Unit) [⟨1,true,_,_⟩,⟨4,true,_,_⟩,⟨8,true,_,_⟩] [⟨4,_,_⟩] (zk) (zk) (fun _=>[⟨10,true,[10],y5 10 0⟩,⟨11,true,[],b7 (eL j8) ((p7 x).map l5)⟩]) (fun _=>[⟨10,[],j5 [b7 (eL eI) (oX x).1,b7 (eL eI) (oX x).2]⟩]) (fun _=>True) ?_ ?_
   ·skip
    refine Tr.drawA n8 #[false,false,false,false,false,false,false,false,false,false,false] rfl ?_; refine f0.take 0 #[true,false,false,false,false,false,false,false,false,false,false] (by kernel_rfl) (by kernel_rfl) (by kernel_rfl) rfl rfl (Q5 rfl) rfl rfl ?_; refine f0.take 1 #[true,true,false,false,false,false,false,false,false,false,false] (by kernel_rfl) (by kernel_rfl) (by kernel_rfl) rfl rfl (ST rfl) rfl rfl ?_; refine f0.take 2 #[true,true,true,false,false,false,false,false,false,false,false] (by kernel_rfl) (by kernel_rfl) (by kernel_rfl) rfl rfl (SR rfl rfl) rfl rfl ?_
    refine f0.take 4 #[true,true,true,false,true,false,false,false,false,false,false] (by kernel_rfl) (by kernel_rfl) (by kernel_rfl) rfl rfl (Q5 rfl) rfl rfl ?_; refine f0.take 5 #[true,true,true,false,true,true,false,false,false,false,false] (by kernel_rfl) (by kernel_rfl) (by kernel_rfl) rfl rfl (ST rfl) rfl rfl ?_; refine f0.take 6 #[true,true,true,false,true,true,true,false,false,false,false] (by kernel_rfl) (by kernel_rfl) (by kernel_rfl) rfl rfl (SR rfl rfl) rfl rfl ?_; refine f0.all [3,7,8] (by kernel_rfl) (by simp) (fun i hi=>?_)
    simp only[List.mem_cons,List.not_mem_nil,or_false] at hi
    rcases hi with rfl | rfl | rfl
    ·refine ⟨_,rfl,?_⟩
     refine tO (R5 rfl uu rfl rfl) rfl rfl ?_; refine f0.k #[true,true,true,true,true,true,true,false,false,false,false] rfl (fun _ _ _ _=>trivial) ?_; refine f0.all [7,8] (by kernel_rfl) (by simp) (fun i hi=>?_)
     simp only[List.mem_cons,List.not_mem_nil,or_false] at hi
     rcases hi with rfl | rfl
     ·refine ⟨_,rfl,?_⟩
      refine tO (N3 rfl uu rfl) rfl rfl ?_; refine f0.k #[true,true,true,true,true,true,true,true,false,false,false] rfl (fun _ _ _ _=>trivial) ?_; refine f0.one 8 (by kernel_rfl) rfl ?_; refine ja 10 ?_; refine f0.k #[true,true,true,true,true,true,true,true,true,false,false] rfl (fun _ _ _ _=>trivial) ?_; refine f0.one 9 (by kernel_rfl) rfl ?_; refine b8.stB rfl rfl rfl rfl ?_; refine f0.k #[true,true,true,true,true,true,true,true,true,true,false] rfl (fun _ _ _ _=>trivial) ?_; refine f0.one 10 (by kernel_rfl) rfl ?_; refine mw rfl rfl rfl ?_
      refine f0.k #[true,true,true,true,true,true,true,true,true,true,true] rfl (fun _ _ _ _=>trivial) ?_; refine f0.done (by kernel_rfl) ?_
      exact g6.cut (()) zi (d6.mk (.k rfl rfl<|.r rfl (by rfl)<|zk) (zk) rfl)
     ·refine ⟨_,rfl,?_⟩
      refine ja 10 ?_; refine f0.k #[true,true,true,true,true,true,true,false,true,false,false] rfl (fun _ _ _ _=>trivial) ?_; refine f0.all [7,9] (by kernel_rfl) (by simp) (fun i hi=>?_)
      simp only[List.mem_cons,List.not_mem_nil,or_false] at hi
      rcases hi with rfl | rfl
      ·refine ⟨_,rfl,?_⟩
       refine tO (N3 rfl uu rfl) rfl rfl ?_; refine f0.k #[true,true,true,true,true,true,true,true,true,false,false] rfl (fun _ _ _ _=>trivial) ?_; refine f0.one 9 (by kernel_rfl) rfl ?_; refine b8.stB rfl rfl rfl rfl ?_; refine f0.k #[true,true,true,true,true,true,true,true,true,true,false] rfl (fun _ _ _ _=>trivial) ?_; refine f0.one 10 (by kernel_rfl) rfl ?_; refine mw rfl rfl rfl ?_; refine f0.k #[true,true,true,true,true,true,true,true,true,true,true] rfl (fun _ _ _ _=>trivial) ?_; refine f0.done (by kernel_rfl) ?_
       exact g6.cut (()) zi (d6.mk (.k rfl rfl<|.r rfl (by rfl)<|zk) (zk) rfl)
      ·refine ⟨_,rfl,?_⟩
       refine b8.stB rfl rfl rfl rfl ?_; refine f0.k #[true,true,true,true,true,true,true,false,true,true,false] rfl (fun _ _ _ _=>trivial) ?_; refine f0.one 7 (by kernel_rfl) rfl ?_; refine tO (N3 rfl uu rfl) rfl rfl ?_; refine f0.k #[true,true,true,true,true,true,true,true,true,true,false] rfl (fun _ _ _ _=>trivial) ?_; refine f0.one 10 (by kernel_rfl) rfl ?_; refine mw rfl rfl rfl ?_; refine f0.k #[true,true,true,true,true,true,true,true,true,true,true] rfl (fun _ _ _ _=>trivial) ?_; refine f0.done (by kernel_rfl) ?_
       exact g6.cut (()) zi (d6.mk (.k rfl rfl<|.r rfl (by rfl)<|zk) (zk) rfl)
    ·refine ⟨_,rfl,?_⟩
     refine tO (N3 rfl uu rfl) rfl rfl ?_; refine f0.k #[true,true,true,false,true,true,true,true,false,false,false] rfl (fun _ _ _ _=>trivial) ?_; refine f0.all [3,8] (by kernel_rfl) (by simp) (fun i hi=>?_)
     simp only[List.mem_cons,List.not_mem_nil,or_false] at hi
     rcases hi with rfl | rfl
     ·refine ⟨_,rfl,?_⟩
      refine tO (R5 rfl uu rfl rfl) rfl rfl ?_; refine f0.k #[true,true,true,true,true,true,true,true,false,false,false] rfl (fun _ _ _ _=>trivial) ?_; refine f0.one 8 (by kernel_rfl) rfl ?_; refine ja 10 ?_; refine f0.k #[true,true,true,true,true,true,true,true,true,false,false] rfl (fun _ _ _ _=>trivial) ?_; refine f0.one 9 (by kernel_rfl) rfl ?_; refine b8.stB rfl rfl rfl rfl ?_; refine f0.k #[true,true,true,true,true,true,true,true,true,true,false] rfl (fun _ _ _ _=>trivial) ?_; refine f0.one 10 (by kernel_rfl) rfl ?_; refine mw rfl rfl rfl ?_
      refine f0.k #[true,true,true,true,true,true,true,true,true,true,true] rfl (fun _ _ _ _=>trivial) ?_; refine f0.done (by kernel_rfl) ?_
      exact g6.cut (()) zi (d6.mk (.k rfl rfl<|.r rfl (by rfl)<|zk) (zk) rfl)
     ·refine ⟨_,rfl,?_⟩
      refine ja 10 ?_; refine f0.k #[true,true,true,false,true,true,true,true,true,false,false] rfl (fun _ _ _ _=>trivial) ?_; refine f0.one 3 (by kernel_rfl) rfl ?_; refine tO (R5 rfl uu rfl rfl) rfl rfl ?_; refine f0.k #[true,true,true,true,true,true,true,true,true,false,false] rfl (fun _ _ _ _=>trivial) ?_; refine f0.one 9 (by kernel_rfl) rfl ?_; refine b8.stB rfl rfl rfl rfl ?_; refine f0.k #[true,true,true,true,true,true,true,true,true,true,false] rfl (fun _ _ _ _=>trivial) ?_; refine f0.one 10 (by kernel_rfl) rfl ?_; refine mw rfl rfl rfl ?_
      refine f0.k #[true,true,true,true,true,true,true,true,true,true,true] rfl (fun _ _ _ _=>trivial) ?_; refine f0.done (by kernel_rfl) ?_
      exact g6.cut (()) zi (d6.mk (.k rfl rfl<|.r rfl (by rfl)<|zk) (zk) rfl)
    ·refine ⟨_,rfl,?_⟩
     refine ja 10 ?_; refine f0.k #[true,true,true,false,true,true,true,false,true,false,false] rfl (fun _ _ _ _=>trivial) ?_; refine f0.all [3,7] (by kernel_rfl) (by simp) (fun i hi=>?_)
     simp only[List.mem_cons,List.not_mem_nil,or_false] at hi
     rcases hi with rfl | rfl
     ·refine ⟨_,rfl,?_⟩
      refine tO (R5 rfl uu rfl rfl) rfl rfl ?_; refine f0.k #[true,true,true,true,true,true,true,false,true,false,false] rfl (fun _ _ _ _=>trivial) ?_; refine f0.all [7,9] (by kernel_rfl) (by simp) (fun i hi=>?_)
      simp only[List.mem_cons,List.not_mem_nil,or_false] at hi
      rcases hi with rfl | rfl
      ·refine ⟨_,rfl,?_⟩
       refine tO (N3 rfl uu rfl) rfl rfl ?_; refine f0.k #[true,true,true,true,true,true,true,true,true,false,false] rfl (fun _ _ _ _=>trivial) ?_; refine f0.one 9 (by kernel_rfl) rfl ?_; refine b8.stB rfl rfl rfl rfl ?_; refine f0.k #[true,true,true,true,true,true,true,true,true,true,false] rfl (fun _ _ _ _=>trivial) ?_; refine f0.one 10 (by kernel_rfl) rfl ?_; refine mw rfl rfl rfl ?_; refine f0.k #[true,true,true,true,true,true,true,true,true,true,true] rfl (fun _ _ _ _=>trivial) ?_; refine f0.done (by kernel_rfl) ?_
       exact g6.cut (()) zi (d6.mk (.k rfl rfl<|.r rfl (by rfl)<|zk) (zk) rfl)
      ·refine ⟨_,rfl,?_⟩
       refine b8.stB rfl rfl rfl rfl ?_; refine f0.k #[true,true,true,true,true,true,true,false,true,true,false] rfl (fun _ _ _ _=>trivial) ?_; refine f0.one 7 (by kernel_rfl) rfl ?_; refine tO (N3 rfl uu rfl) rfl rfl ?_; refine f0.k #[true,true,true,true,true,true,true,true,true,true,false] rfl (fun _ _ _ _=>trivial) ?_; refine f0.one 10 (by kernel_rfl) rfl ?_; refine mw rfl rfl rfl ?_; refine f0.k #[true,true,true,true,true,true,true,true,true,true,true] rfl (fun _ _ _ _=>trivial) ?_; refine f0.done (by kernel_rfl) ?_
       exact g6.cut (()) zi (d6.mk (.k rfl rfl<|.r rfl (by rfl)<|zk) (zk) rfl)
     ·refine ⟨_,rfl,?_⟩
      refine tO (N3 rfl uu rfl) rfl rfl ?_; refine f0.k #[true,true,true,false,true,true,true,true,true,false,false] rfl (fun _ _ _ _=>trivial) ?_; refine f0.one 3 (by kernel_rfl) rfl ?_; refine tO (R5 rfl uu rfl rfl) rfl rfl ?_; refine f0.k #[true,true,true,true,true,true,true,true,true,false,false] rfl (fun _ _ _ _=>trivial) ?_; refine f0.one 9 (by kernel_rfl) rfl ?_; refine b8.stB rfl rfl rfl rfl ?_; refine f0.k #[true,true,true,true,true,true,true,true,true,true,false] rfl (fun _ _ _ _=>trivial) ?_; refine f0.one 10 (by kernel_rfl) rfl ?_
      refine mw rfl rfl rfl ?_; refine f0.k #[true,true,true,true,true,true,true,true,true,true,true] rfl (fun _ _ _ _=>trivial) ?_; refine f0.done (by kernel_rfl) ?_
      exact g6.cut (()) zi (d6.mk (.k rfl rfl<|.r rfl (by rfl)<|zk) (zk) rfl)
   ·intro _ hM
    refine jn ?_; refine u9 ?_; refine Tr.grow (s:=12) rfl rfl 112 rfl 3 eI rfl ?_
    refine Tr.for1 (σ:=Nat) [⟨4,true,_,_⟩,⟨8,true,_,_⟩,⟨10,true,_,_⟩,⟨42,true,_,_⟩] [] (fun k=>[⟨11,true,[],b7 (eL j8) ((r5 x k).2.map l5)⟩,⟨12,true,[112],o5 112 k⟩,⟨43,true,[],kI (k:Int)⟩]) (fun k=>[⟨10,[],j5 [b7 (eL eI) (r5 x k).1.1,b7 (eL eI) (r5 x k).1.2]⟩,⟨4,[],j5 [i9 (.slice none 0 0),kI 0,kI 0,kI 0,i9 (.slice none 0 0),i9 (.slice none 0 0),i9 (.slice none 0 0)]⟩,⟨112,[],l3 true 3 eI (j4 k (w5 x)) k⟩]) (fun k=>k<=n) (fun k=>n=k) (fun k=>n-k) (0) zi (d6.mk (.r rfl (by rfl)<|.o rfl zi rfl<|.i rfl zi<|zk) (.e (by rfl) rfl<|.k rfl<|.a (by rfl) zi<|.nil) rfl) ?_ ?_
    ·intro k hR0
     refine jn ?_
     obtain ⟨hst,hik⟩:=MO (sg:=r8 x) (hx.st hlo) hlo hir k
     refine l6 ?_; refine jq ?_ ?_
     ·intro h9
      refine m8 ?_; refine jc (bH x D M k (r5 x k).1 (r5 x k).2 hx hlo hst zo) ?_
      rw[show H9 (r8 x) (r5 x k).1 (r5 x k).2=G4 x k from rfl,if_neg (hnt k zo),if_neg (hnt k zo),show A4 (r8 x) (r5 x k).1 (r5 x k).2=w5 x k from rfl]
      refine C7 ?_; refine Tr.cnd rfl ?_ ?_
      ·intro h11
       exact absurd h11 (by decide)
      ·intro h11
       refine l6 ?_; refine b8.new (w4 eI 58 (fun hp=>.cons rfl<|.nil) rfl rfl rfl rfl) rfl rfl rfl rfl ?_; refine i4 ?_; refine jl ?_; refine j3 ?_; refine jc (bK x D M k (r5 x k).1 (r5 x k).2 (w5 x k) hx hlo hst zo) ?_; refine u9 ?_
       exact g6.lp (k+1) zi zo (d6.mk (.r rfl (by rfl)<|.o rfl zi rfl<|.i rfl zi<|zk) (.e (by rfl) rfl<|.k rfl<|.a F0.symm zi<|.nil) rfl)
     ·intro h9
      replace h9:=Int.not_lt.1 h9
      refine g8 ?_
      exact g6.cut (k) zo (d6.mk (.r rfl zi<|.o rfl zi rfl<|.i rfl zi<|zk) (zk) rfl)
    ·rintro _ rfl
     refine je ?_
     obtain ⟨hsn,hin⟩:=MO (sg:=r8 x) (hx.st hlo) hlo hir n
     have hsn1:(r5 x n).1.1.length=x.2.1.length:=hsn.nn
     have hsn2:(r5 x n).1.2.length=(r5 x n).1.1.length:=hsn.rows.len
     refine g8 ?_; refine tO (EG rfl uu) rfl rfl ?_; refine i7 ?_; refine b8.frz 112 [12,74] ⟨rfl,rfl,trivial⟩ (by simp only[p6]; omega) rfl ?_; refine jl ?_; refine jc hfg ?_; refine g8 ?_; refine ja 15 ?_; refine u5 ?_; refine jc (sL (N5 x.1) (oX x) (r5 x n).1 (p7 x) ((r5 x n).2.map l5) (by show x.1.1.length<=1000; have:=hpo.1; omega) zo zo) ?_; refine m8 ?_
     exact d9.resC (fn:=Tryz.f47) (ts:=[5,6,7]) rfl rfl rfl (t7 rfl (by rfl)) (.r rfl zi<|.r rfl zi<|.i rfl zi<|.nil)

end Go.Fl

/- Contracts: errors of Path; Step (the program). -/
namespace Go.Fl
open Go Go.Proofs
open b8 renaming op->tO
open j1 renaming op->rO
set_option maxRecDepth 100000

noncomputable def M4 (x:o0):Nat->Bool
 | 0=>false
 | i+1=>M4 x i||decide (G4 x i=0)
theorem YJ {x:o0}:∀{n:Nat},M4 x n=true->∃i,i<n/\G4 x i=0
 | n+1,h=>by
  rw[M4,Bool.or_eq_true,decide_eq_true_eq] at h
  rcases h with h | h
  ·obtain ⟨i,hi,e⟩:=YJ h; exact ⟨i,by omega,e⟩
  ·exact ⟨n,by omega,h⟩
theorem lE {x:o0}:∀{n:Nat},M4 x n=false->∀i,i<n->G4 x i≠0
 | n+1,h,i,hi=>by
  rw[M4,Bool.or_eq_false_iff,decide_eq_false_iff_not] at h
  by_cases e:i=n
  ·rw[e]; exact h.2
  ·exact lE h.1 i zo
theorem qS (x:o0) (n:Int) (hsm:U3 x) (hne:E9 x≠0):Ct Tryz.prog 47 [b7 eX x,kI n] (z9 [b7 eX zX,b7 (eL eI) [],b7 (eL (eL eI)) [],kI (E9 x)]):=by
 refine Ct.mk Tryz.func47 rfl Tryz.ntmps47 rfl (fun w J=>?_); refine g9 ?_; refine jb 2 rfl ?_; refine ja 4 ?_; refine j3 ?_; refine jc (rL x hsm hne) ?_; refine C7 ?_; refine Tr.cnd rfl ?_ ?_
 ·intro h2
  refine g9 ?_; refine tO (A1 (fun hp=>.nil)) rfl rfl ?_; refine m8 ?_
  exact d9.resC (fn:=Tryz.f47) (ts:=[5,6,7]) rfl rfl rfl (t7 rfl (by rfl)) (.n rfl zi<|.n rfl zi<|.i rfl zi<|.nil)
 ·intro h2
  exact absurd (of_decide_eq_false h2) (fun e=>e hne)

theorem qU (x:o0) (D:Int) (M:Nat) (n:Int) (hx:Q7 x) (hlo:H2 x.1.1 D M x.2.1.length (p7 x)) (hne:G7 (oX x)≠0):Ct Tryz.prog 47 [b7 eX x,kI n] (z9 [b7 eX zX,b7 (eL eI) [],b7 (eL (eL eI)) [],kI (G7 (oX x))]):=by
 have h0:=hx.fld
 have hpo:=Q0 h0
 have hs:=(X5 h0).1.2.1
 have v:=hx.rows
 have hp1:B1 x.2.1 x.2.1.length:=v.p1
 have hp2:B1 x.2.2.1 x.2.1.length:=v.p2
 have hle:x.2.1.length<=8:=v.le
 have htwo:2<=x.2.1.length:=v.two
 have hbl:x.2.2.1.length=x.2.1.length:=v.len
 have hxl:=hx.len
 have hll:=hlo.len
 refine Ct.mk Tryz.func47 rfl Tryz.ntmps47 rfl (fun w J=>?_); refine g9 ?_; refine jb 2 rfl ?_; refine ja 4 ?_; refine j3 ?_; refine jc (OS x D M hx hlo) ?_; refine C7 ?_; refine Tr.cnd rfl ?_ ?_
 ·intro h2
  refine g9 ?_; refine tO (A1 (fun hp=>.nil)) rfl rfl ?_; refine m8 ?_
  exact d9.resC (fn:=Tryz.f47) (ts:=[5,6,7]) rfl rfl rfl (t7 rfl (by rfl)) (.n rfl zi<|.n rfl zi<|.i rfl zi<|.nil)
 ·intro h2
  exact absurd (of_decide_eq_false h2) (fun e=>e hne)

theorem qV (x:o0) (D:Int) (M:Nat) (n:Int) (hx:Q7 x) (hlo:H2 x.1.1 D M x.2.1.length (p7 x)) (hir:B3 (oX x)=true) (hnr:-9223372036854775808<=n/\n<=9223372036854775807) (hrg:n<0\/60<n):Ct Tryz.prog 47 [b7 eX x,kI n] (z9 [b7 eX zX,b7 (eL eI) [],b7 (eL (eL eI)) [],kI 2]):=by
 have h0:=hx.fld
 have hpo:=Q0 h0
 have hs:=(X5 h0).1.2.1
 have v:=hx.rows
 have hp1:B1 x.2.1 x.2.1.length:=v.p1
 have hp2:B1 x.2.2.1 x.2.1.length:=v.p2
 have hle:x.2.1.length<=8:=v.le
 have htwo:2<=x.2.1.length:=v.two
 have hbl:x.2.2.1.length=x.2.1.length:=v.len
 have hxl:=hx.len
 have hll:=hlo.len
 have hic:=PW hx.rows hir
 refine Ct.mk Tryz.func47 rfl Tryz.ntmps47 rfl (fun w J=>?_); refine g9 ?_; refine jb 2 rfl ?_; refine ja 4 ?_; refine j3 ?_; refine jc (OS x D M hx hlo) ?_
 rw[hic]
 refine C7 ?_; refine Tr.cnd rfl ?_ ?_
 ·intro h2
  exact absurd h2 (by decide)
 ·intro h2
  refine D2 ?_; refine Tr.cnd rfl ?_ ?_
  ·intro h4
   refine g9 ?_; refine tO (A1 (fun hp=>.nil)) rfl rfl ?_; refine j3 ?_
   exact d9.resC (fn:=Tryz.f47) (ts:=[5,6,7]) rfl rfl rfl (t7 rfl (by rfl)) (.n rfl zi<|.n rfl zi<|.i rfl zi<|.nil)
  ·intro h4
   simp at h4; omega

set_option maxHeartbeats 2000000 in
theorem qW (x:o0) (D:Int) (M:Nat) (n i0:Nat) (hx:Q7 x) (hlo:H2 x.1.1 D M x.2.1.length (p7 x)) (hir:B3 (oX x)=true) (hn:n<=16) (hi0:i0<n) (hz0:G4 x i0=0):Ct Tryz.prog 47 [b7 eX x,kI (n:Int)] (z9 [b7 eX zX,b7 (eL eI) [],b7 (eL (eL eI)) [],kI 14]):=by
 have h0:=hx.fld
 have hpo:=Q0 h0
 have hs:=(X5 h0).1.2.1
 have v:=hx.rows
 have hp1:B1 x.2.1 x.2.1.length:=v.p1
 have hp2:B1 x.2.2.1 x.2.1.length:=v.p2
 have hle:x.2.1.length<=8:=v.le
 have htwo:2<=x.2.1.length:=v.two
 have hbl:x.2.2.1.length=x.2.1.length:=v.len
 have hxl:=hx.len
 have hll:=hlo.len
 have hic:=PW hx.rows hir
 refine Ct.mk Tryz.func47 rfl Tryz.ntmps47 rfl (fun w J=>?_); refine g9 ?_; refine jb 2 rfl ?_; refine ja 4 ?_; refine j3 ?_; refine jc (OS x D M hx hlo) ?_
 rw[hic]
 refine C7 ?_; refine Tr.cnd rfl ?_ ?_
 ·intro h2
  exact absurd h2 (by decide)
 ·intro h2
  refine D2 ?_; refine Tr.cnd rfl ?_ ?_
  ·intro h4
   simp at h4; omega
  ·intro h4
   refine g9 ?_; refine Tr.meet2 (σ:=Unit) [⟨1,true,_,_⟩,⟨4,true,_,_⟩,⟨8,true,_,_⟩] [⟨4,_,_⟩] (zk) (zk) (fun _=>[⟨10,true,[10],y5 10 0⟩,⟨11,true,[],b7 (eL j8) ((p7 x).map l5)⟩]) (fun _=>[⟨10,[],j5 [b7 (eL eI) (oX x).1,b7 (eL eI) (oX x).2]⟩]) (fun _=>True) ?_ ?_
   ·skip
    refine Tr.drawA n8 #[false,false,false,false,false,false,false,false,false,false,false] rfl ?_; refine f0.take 0 #[true,false,false,false,false,false,false,false,false,false,false] (by kernel_rfl) (by kernel_rfl) (by kernel_rfl) rfl rfl (Q5 rfl) rfl rfl ?_; refine f0.take 1 #[true,true,false,false,false,false,false,false,false,false,false] (by kernel_rfl) (by kernel_rfl) (by kernel_rfl) rfl rfl (ST rfl) rfl rfl ?_; refine f0.take 2 #[true,true,true,false,false,false,false,false,false,false,false] (by kernel_rfl) (by kernel_rfl) (by kernel_rfl) rfl rfl (SR rfl rfl) rfl rfl ?_
    refine f0.take 4 #[true,true,true,false,true,false,false,false,false,false,false] (by kernel_rfl) (by kernel_rfl) (by kernel_rfl) rfl rfl (Q5 rfl) rfl rfl ?_; refine f0.take 5 #[true,true,true,false,true,true,false,false,false,false,false] (by kernel_rfl) (by kernel_rfl) (by kernel_rfl) rfl rfl (ST rfl) rfl rfl ?_; refine f0.take 6 #[true,true,true,false,true,true,true,false,false,false,false] (by kernel_rfl) (by kernel_rfl) (by kernel_rfl) rfl rfl (SR rfl rfl) rfl rfl ?_; refine f0.all [3,7,8] (by kernel_rfl) (by simp) (fun i hi=>?_)
    simp only[List.mem_cons,List.not_mem_nil,or_false] at hi
    rcases hi with rfl | rfl | rfl
    ·refine ⟨_,rfl,?_⟩
     refine tO (R5 rfl uu rfl rfl) rfl rfl ?_; refine f0.k #[true,true,true,true,true,true,true,false,false,false,false] rfl (fun _ _ _ _=>trivial) ?_; refine f0.all [7,8] (by kernel_rfl) (by simp) (fun i hi=>?_)
     simp only[List.mem_cons,List.not_mem_nil,or_false] at hi
     rcases hi with rfl | rfl
     ·refine ⟨_,rfl,?_⟩
      refine tO (N3 rfl uu rfl) rfl rfl ?_; refine f0.k #[true,true,true,true,true,true,true,true,false,false,false] rfl (fun _ _ _ _=>trivial) ?_; refine f0.one 8 (by kernel_rfl) rfl ?_; refine ja 10 ?_; refine f0.k #[true,true,true,true,true,true,true,true,true,false,false] rfl (fun _ _ _ _=>trivial) ?_; refine f0.one 9 (by kernel_rfl) rfl ?_; refine b8.stB rfl rfl rfl rfl ?_; refine f0.k #[true,true,true,true,true,true,true,true,true,true,false] rfl (fun _ _ _ _=>trivial) ?_; refine f0.one 10 (by kernel_rfl) rfl ?_; refine mw rfl rfl rfl ?_
      refine f0.k #[true,true,true,true,true,true,true,true,true,true,true] rfl (fun _ _ _ _=>trivial) ?_; refine f0.done (by kernel_rfl) ?_
      exact g6.cut (()) zi (d6.mk (.k rfl rfl<|.r rfl (by rfl)<|zk) (zk) rfl)
     ·refine ⟨_,rfl,?_⟩
      refine ja 10 ?_; refine f0.k #[true,true,true,true,true,true,true,false,true,false,false] rfl (fun _ _ _ _=>trivial) ?_; refine f0.all [7,9] (by kernel_rfl) (by simp) (fun i hi=>?_)
      simp only[List.mem_cons,List.not_mem_nil,or_false] at hi
      rcases hi with rfl | rfl
      ·refine ⟨_,rfl,?_⟩
       refine tO (N3 rfl uu rfl) rfl rfl ?_; refine f0.k #[true,true,true,true,true,true,true,true,true,false,false] rfl (fun _ _ _ _=>trivial) ?_; refine f0.one 9 (by kernel_rfl) rfl ?_; refine b8.stB rfl rfl rfl rfl ?_; refine f0.k #[true,true,true,true,true,true,true,true,true,true,false] rfl (fun _ _ _ _=>trivial) ?_; refine f0.one 10 (by kernel_rfl) rfl ?_; refine mw rfl rfl rfl ?_; refine f0.k #[true,true,true,true,true,true,true,true,true,true,true] rfl (fun _ _ _ _=>trivial) ?_; refine f0.done (by kernel_rfl) ?_
       exact g6.cut (()) zi (d6.mk (.k rfl rfl<|.r rfl (by rfl)<|zk) (zk) rfl)
      ·refine ⟨_,rfl,?_⟩
       refine b8.stB rfl rfl rfl rfl ?_; refine f0.k #[true,true,true,true,true,true,true,false,true,true,false] rfl (fun _ _ _ _=>trivial) ?_; refine f0.one 7 (by kernel_rfl) rfl ?_; refine tO (N3 rfl uu rfl) rfl rfl ?_; refine f0.k #[true,true,true,true,true,true,true,true,true,true,false] rfl (fun _ _ _ _=>trivial) ?_; refine f0.one 10 (by kernel_rfl) rfl ?_; refine mw rfl rfl rfl ?_; refine f0.k #[true,true,true,true,true,true,true,true,true,true,true] rfl (fun _ _ _ _=>trivial) ?_; refine f0.done (by kernel_rfl) ?_
       exact g6.cut (()) zi (d6.mk (.k rfl rfl<|.r rfl (by rfl)<|zk) (zk) rfl)
    ·refine ⟨_,rfl,?_⟩
     refine tO (N3 rfl uu rfl) rfl rfl ?_; refine f0.k #[true,true,true,false,true,true,true,true,false,false,false] rfl (fun _ _ _ _=>trivial) ?_; refine f0.all [3,8] (by kernel_rfl) (by simp) (fun i hi=>?_)
     simp only[List.mem_cons,List.not_mem_nil,or_false] at hi
     rcases hi with rfl | rfl
     ·refine ⟨_,rfl,?_⟩
      refine tO (R5 rfl uu rfl rfl) rfl rfl ?_; refine f0.k #[true,true,true,true,true,true,true,true,false,false,false] rfl (fun _ _ _ _=>trivial) ?_; refine f0.one 8 (by kernel_rfl) rfl ?_; refine ja 10 ?_; refine f0.k #[true,true,true,true,true,true,true,true,true,false,false] rfl (fun _ _ _ _=>trivial) ?_; refine f0.one 9 (by kernel_rfl) rfl ?_; refine b8.stB rfl rfl rfl rfl ?_; refine f0.k #[true,true,true,true,true,true,true,true,true,true,false] rfl (fun _ _ _ _=>trivial) ?_; refine f0.one 10 (by kernel_rfl) rfl ?_; refine mw rfl rfl rfl ?_
      refine f0.k #[true,true,true,true,true,true,true,true,true,true,true] rfl (fun _ _ _ _=>trivial) ?_; refine f0.done (by kernel_rfl) ?_
      exact g6.cut (()) zi (d6.mk (.k rfl rfl<|.r rfl (by rfl)<|zk) (zk) rfl)
     ·refine ⟨_,rfl,?_⟩
      refine ja 10 ?_; refine f0.k #[true,true,true,false,true,true,true,true,true,false,false] rfl (fun _ _ _ _=>trivial) ?_; refine f0.one 3 (by kernel_rfl) rfl ?_; refine tO (R5 rfl uu rfl rfl) rfl rfl ?_; refine f0.k #[true,true,true,true,true,true,true,true,true,false,false] rfl (fun _ _ _ _=>trivial) ?_; refine f0.one 9 (by kernel_rfl) rfl ?_; refine b8.stB rfl rfl rfl rfl ?_; refine f0.k #[true,true,true,true,true,true,true,true,true,true,false] rfl (fun _ _ _ _=>trivial) ?_; refine f0.one 10 (by kernel_rfl) rfl ?_; refine mw rfl rfl rfl ?_
      refine f0.k #[true,true,true,true,true,true,true,true,true,true,true] rfl (fun _ _ _ _=>trivial) ?_; refine f0.done (by kernel_rfl) ?_
      exact g6.cut (()) zi (d6.mk (.k rfl rfl<|.r rfl (by rfl)<|zk) (zk) rfl)
    ·refine ⟨_,rfl,?_⟩
     refine ja 10 ?_; refine f0.k #[true,true,true,false,true,true,true,false,true,false,false] rfl (fun _ _ _ _=>trivial) ?_; refine f0.all [3,7] (by kernel_rfl) (by simp) (fun i hi=>?_)
     simp only[List.mem_cons,List.not_mem_nil,or_false] at hi
     rcases hi with rfl | rfl
     ·refine ⟨_,rfl,?_⟩
      refine tO (R5 rfl uu rfl rfl) rfl rfl ?_; refine f0.k #[true,true,true,true,true,true,true,false,true,false,false] rfl (fun _ _ _ _=>trivial) ?_; refine f0.all [7,9] (by kernel_rfl) (by simp) (fun i hi=>?_)
      simp only[List.mem_cons,List.not_mem_nil,or_false] at hi
      rcases hi with rfl | rfl
      ·refine ⟨_,rfl,?_⟩
       refine tO (N3 rfl uu rfl) rfl rfl ?_; refine f0.k #[true,true,true,true,true,true,true,true,true,false,false] rfl (fun _ _ _ _=>trivial) ?_; refine f0.one 9 (by kernel_rfl) rfl ?_; refine b8.stB rfl rfl rfl rfl ?_; refine f0.k #[true,true,true,true,true,true,true,true,true,true,false] rfl (fun _ _ _ _=>trivial) ?_; refine f0.one 10 (by kernel_rfl) rfl ?_; refine mw rfl rfl rfl ?_; refine f0.k #[true,true,true,true,true,true,true,true,true,true,true] rfl (fun _ _ _ _=>trivial) ?_; refine f0.done (by kernel_rfl) ?_
       exact g6.cut (()) zi (d6.mk (.k rfl rfl<|.r rfl (by rfl)<|zk) (zk) rfl)
      ·refine ⟨_,rfl,?_⟩
       refine b8.stB rfl rfl rfl rfl ?_; refine f0.k #[true,true,true,true,true,true,true,false,true,true,false] rfl (fun _ _ _ _=>trivial) ?_; refine f0.one 7 (by kernel_rfl) rfl ?_; refine tO (N3 rfl uu rfl) rfl rfl ?_; refine f0.k #[true,true,true,true,true,true,true,true,true,true,false] rfl (fun _ _ _ _=>trivial) ?_; refine f0.one 10 (by kernel_rfl) rfl ?_; refine mw rfl rfl rfl ?_; refine f0.k #[true,true,true,true,true,true,true,true,true,true,true] rfl (fun _ _ _ _=>trivial) ?_; refine f0.done (by kernel_rfl) ?_
       exact g6.cut (()) zi (d6.mk (.k rfl rfl<|.r rfl (by rfl)<|zk) (zk) rfl)
     ·refine ⟨_,rfl,?_⟩
      refine tO (N3 rfl uu rfl) rfl rfl ?_; refine f0.k #[true,true,true,false,true,true,true,true,true,false,false] rfl (fun _ _ _ _=>trivial) ?_; refine f0.one 3 (by kernel_rfl) rfl ?_; refine tO (R5 rfl uu rfl rfl) rfl rfl ?_; refine f0.k #[true,true,true,true,true,true,true,true,true,false,false] rfl (fun _ _ _ _=>trivial) ?_; refine f0.one 9 (by kernel_rfl) rfl ?_; refine b8.stB rfl rfl rfl rfl ?_; refine f0.k #[true,true,true,true,true,true,true,true,true,true,false] rfl (fun _ _ _ _=>trivial) ?_; refine f0.one 10 (by kernel_rfl) rfl ?_
      refine mw rfl rfl rfl ?_; refine f0.k #[true,true,true,true,true,true,true,true,true,true,true] rfl (fun _ _ _ _=>trivial) ?_; refine f0.done (by kernel_rfl) ?_
      exact g6.cut (()) zi (d6.mk (.k rfl rfl<|.r rfl (by rfl)<|zk) (zk) rfl)
   ·intro _ hM
    refine jn ?_; refine u9 ?_; refine Tr.grow (s:=12) rfl rfl 112 rfl 3 eI rfl ?_
    refine Tr.for1 (σ:=Nat) [⟨4,true,_,_⟩,⟨8,true,_,_⟩,⟨10,true,_,_⟩,⟨42,true,_,_⟩] [] (fun k=>[⟨11,true,[],b7 (eL j8) ((r5 x k).2.map l5)⟩,⟨12,true,[112],o5 112 k⟩,⟨43,true,[],kI (k:Int)⟩]) (fun k=>[⟨10,[],j5 [b7 (eL eI) (r5 x k).1.1,b7 (eL eI) (r5 x k).1.2]⟩,⟨4,[],j5 [i9 (.slice none 0 0),kI 0,kI 0,kI 0,i9 (.slice none 0 0),i9 (.slice none 0 0),i9 (.slice none 0 0)]⟩,⟨112,[],l3 true 3 eI (j4 k (w5 x)) k⟩]) (fun k=>k<=i0) (fun k=>False) (fun k=>i0+1-k) (0) zi (d6.mk (.r rfl (by rfl)<|.o rfl zi rfl<|.i rfl zi<|zk) (.e (by rfl) rfl<|.k rfl<|.a (by rfl) zi<|.nil) rfl) ?_ ?_
    ·intro k hR0
     refine jn ?_
     obtain ⟨hst,hik⟩:=MO (sg:=r8 x) (hx.st hlo) hlo hir k
     refine l6 ?_; refine jq ?_ ?_
     ·intro h9
      refine m8 ?_; refine jc (bH x D M k (r5 x k).1 (r5 x k).2 hx hlo hst zo) ?_
      rw[show H9 (r8 x) (r5 x k).1 (r5 x k).2=G4 x k from rfl,show A4 (r8 x) (r5 x k).1 (r5 x k).2=w5 x k from rfl]
      refine C7 ?_; refine Tr.cnd rfl ?_ ?_
      ·intro h11
       have hz:G4 x k=0:=Classical.byContradiction fun a=>by rw[if_neg a] at h11; exact absurd h11 (by decide)
       refine g9 ?_; refine tO (A1 (fun hp=>.nil)) rfl rfl ?_; refine L4 ?_
       exact d9.resC (fn:=Tryz.f47) (ts:=[5,6,7]) rfl rfl rfl (t7 rfl (by rfl)) (.n rfl zi<|.n rfl zi<|.i rfl (by rw[if_pos hz])<|.nil)
      ·intro h11
       have hz:¬G4 x k=0:=fun a=>by rw[if_pos a] at h11; exact absurd h11 (by decide)
       have hki:k≠i0:=fun a=>hz (by rw[a]; exact hz0)
       refine Tr.rwI (s:=13) rfl (if_neg hz) ?_; refine l6 ?_; refine b8.new (w4 eI 58 (fun hp=>.cons rfl<|.nil) rfl rfl rfl rfl) rfl rfl rfl rfl ?_; refine i4 ?_; refine jl ?_; refine j3 ?_; refine jc (bK x D M k (r5 x k).1 (r5 x k).2 (w5 x k) hx hlo hst zo) ?_; refine u9 ?_
       exact g6.lp (k+1) zo zo (d6.mk (.r rfl (by rfl)<|.o rfl zi rfl<|.i rfl zi<|zk) (.e (by rfl) rfl<|.k rfl<|.a F0.symm zi<|.nil) rfl)
     ·intro h9
      replace h9:=Int.not_lt.1 h9
      refine g8 ?_
      exact g6.cut (k) zo (d6.mk (.r rfl zi<|.o rfl zi rfl<|.i rfl zi<|zk) (zk) rfl)
    ·intro k hE0
     exact hE0.elim

theorem sD (x y:o0) (kk:List Int) (m:ZM) (e:Int) (hpa:Ct Tryz.prog 47 [b7 eX x,kI 1] (z9 [b7 eX y,b7 (eL eI) kk,b7 (eL (eL eI)) m,kI e])) (hk:e=0->0<kk.length):Ct Tryz.prog 46 [b7 eX x] (z9 [b7 eX (if e=0 then y else zX),kI (if e=0 then b6 kk 0 else 0),kI e]):=by
 refine Ct.mk Tryz.func46 rfl Tryz.ntmps46 rfl (fun w J=>?_); refine g9 ?_; refine jb 1 rfl ?_; refine ja 2 ?_; refine j6 ?_; refine jc hpa ?_; refine l8 ?_; refine ja 5 ?_; refine D2 ?_; refine jq ?_ ?_
 ·intro h2
  have he:¬e=0:=h2
  refine g9 ?_; refine tO (A1 (fun hp=>.nil)) rfl rfl ?_; refine j3 ?_
  exact d9.resC (fn:=Tryz.f46) (ts:=[3,4]) rfl rfl rfl (t7 rfl (by rw[if_neg he])) (.i rfl (by rw[if_neg he])<|.i rfl zi<|.nil)
 ·intro h2
  replace h2:=Classical.not_not.1 h2
  have he:e=0:=by omega
  have hkl:=hk he
  refine i7 ?_; refine Tr.drawS 4 2 n8 (by kernel_rfl) ?_; refine o6.opA (R4 rfl uu) (by kernel_rfl) rfl rfl ?_; refine o6.op (H7 rfl uu) rfl rfl ?_; refine o6.op (F2 (i:=0) rfl uu rfl uu rfl (fun _=>zo)) rfl rfl ?_; refine o6.op (N3 rfl uu rfl) rfl rfl ?_; refine o6.z (EK rfl rfl rfl) rfl rfl rfl ?_; refine l8 ?_
  exact d9.resC (fn:=Tryz.f46) (ts:=[3,4]) rfl rfl rfl (t7 rfl (by rw[if_pos he])) (.i rfl (by rw[if_pos he])<|.i rfl zi<|.nil)

end Go.Fl

/- Contracts: Path and Step put together; the step of the example. -/
namespace Go.Fl
open Go Go.Proofs
open b8 renaming op->tO
open j1 renaming op->rO
set_option maxRecDepth 100000

noncomputable def K1 (x:o0):Int:=if E9 x≠0 then E9 x else G7 (oX x)
noncomputable def C0 (x:o0) (n:Int):Int:=if K1 x≠0 then K1 x else if 0<=n/\n<=60 then (if M4 x n.toNat=true then 14 else 0) else 2
noncomputable def Y8 (x:o0) (n:Int):o0:=if C0 x n≠0 then zX else DG x n.toNat
noncomputable def W8 (x:o0) (n:Int):List Int:=if C0 x n≠0 then [] else j4 n.toNat (w5 x)
noncomputable def CB (x:o0) (n:Int):ZM:=if C0 x n≠0 then [] else B9 (oX x) (j4 n.toNat (w5 x)) n.toNat
theorem uU {r:q7} (h:H3 r=0):G7 r=0/\B3 r=true\/G7 r=3/\B3 r=false:=by
 unfold G7
 rw[if_neg (fun a=>a h)]
 cases hi:B3 r with
 | true=>exact .inl ⟨rfl,rfl⟩
 | false=>exact .inr ⟨rfl,rfl⟩
theorem Q7.d0 {x:o0} (hx:Q7 x) (hsm:U3 x):∃(D:Int) (M:Nat),H2 x.1.1 D M x.2.1.length (p7 x):=by
 obtain ⟨D,M,h,_⟩:=hx.dm hsm (ps:=[]) (fun p h=>by cases h) (Nat.zero_le _)
 exact ⟨D,M,h⟩
theorem bN (x:o0) (n:Int) (hsm:U3 x) (hnr:-9223372036854775808<=n/\n<=9223372036854775807) (hn:n<=16\/60<n):Ct Tryz.prog 47 [b7 eX x,kI n] (z9 [b7 eX (Y8 x n),b7 (eL eI) (W8 x n),b7 (eL (eL eI)) (CB x n),kI (C0 x n)]):=by
 by_cases h:E9 x=0
 ·have hx:=aE h hsm
  obtain ⟨D,M,hlo⟩:=hx.d0 hsm
  rcases uU (r:=oX x) (TR hx.rows) with ⟨hi,hir⟩ | ⟨hi,hir⟩
  ·have hrd:K1 x=0:=by unfold K1; rw[if_neg (fun a=>a h)]; exact hi
   by_cases c:0<=n/\n<=60
   ·cases ht:M4 x n.toNat with
    | true =>
     have e:C0 x n=14:=by unfold C0; rw[if_neg (fun a=>a hrd),if_pos c,ht]; rfl
     obtain ⟨i,hi1,hi2⟩:=YJ ht
     have:=qW x D M n.toNat i hx hlo hir zo hi1 hi2
     rw[show ((n.toNat:Nat):Int)=n by omega] at this
     unfold Y8 W8 CB
     rw[e,if_pos (by decide),if_pos (by decide),if_pos (by decide)]
     exact this
    | false =>
     have e:C0 x n=0:=by unfold C0; rw[if_neg (fun a=>a hrd),if_pos c,ht]; rfl
     have:=qT x D M n.toNat hx hlo hir zo (lE ht)
     rw[show ((n.toNat:Nat):Int)=n by omega] at this
     unfold Y8 W8 CB
     rw[e,if_neg (fun a=>a rfl),if_neg (fun a=>a rfl),if_neg (fun a=>a rfl)]
     exact this
   ·have e:C0 x n=2:=by unfold C0; rw[if_neg (fun a=>a hrd),if_neg c]
    unfold Y8 W8 CB
    rw[e,if_pos (by decide),if_pos (by decide),if_pos (by decide)]
    exact qV x D M n hx hlo hir hnr zo
  ·have hrd:K1 x=3:=by unfold K1; rw[if_neg (fun a=>a h)]; exact hi
   have e:C0 x n=G7 (oX x):=by unfold C0; rw[if_pos (by rw[hrd]; decide),hrd,hi]
   have hne:G7 (oX x)≠0:=by rw[hi]; decide
   unfold Y8 W8 CB
   rw[e,if_pos hne,if_pos hne,if_pos hne]
   exact qU x D M n hx hlo hne
 ·have hrd:K1 x=E9 x:=by unfold K1; rw[if_pos h]
  have e:C0 x n=E9 x:=by unfold C0; rw[if_pos (by rw[hrd]; exact h),hrd]
  unfold Y8 W8 CB
  rw[e,if_pos h,if_pos h,if_pos h]
  exact qS x n hsm h
noncomputable def Z3 (x:o0):o0:=if C0 x 1≠0 then zX else DG x 1
noncomputable def Z2 (x:o0):Int:=if C0 x 1≠0 then 0 else w5 x 0
theorem cO (x:o0) (hsm:U3 x):Ct Tryz.prog 46 [b7 eX x] (z9 [b7 eX (Z3 x),kI (Z2 x),kI (C0 x 1)]):=by
 have h:=sD x (Y8 x 1) (W8 x 1) (CB x 1) (C0 x 1) (bN x 1 hsm zo zo) (fun e=>by
  unfold W8; rw[if_neg (fun a=>a e)]; show 0<(j4 1 _).length; rw[p8]; omega)
 have e1:(if C0 x 1=0 then Y8 x 1 else zX)=Z3 x:=by
  unfold Z3 Y8
  by_cases c:C0 x 1=0
  ·rw[if_pos c,if_neg (fun a=>a c),if_neg (fun a=>a c)]; rfl
  ·rw[if_neg c,if_pos c]
 have e2:(if C0 x 1=0 then b6 (W8 x 1) 0 else 0)=Z2 x:=by
  unfold Z2 W8
  by_cases c:C0 x 1=0
  ·rw[if_pos c,if_neg (fun a=>a c),if_neg (fun a=>a c)]; exact q9 (by decide)
  ·rw[if_neg c,if_pos c]
 rw[e1,e2] at h
 exact h
theorem oC:z6 JX=0:=by
 unfold z6
 rw[if_neg (by decide),if_neg (by decide),if_neg (by decide),if_neg,if_neg (by decide),if_neg (by decide)]
 rintro (h | h)
 ·exact h rfl
 ·rw[JY (fun a=>by have:=a.1; revert this; decide)] at h; cases h
theorem lV:p7 E1=YK:=ag9
theorem YQ {n:Int}:r8 E1 (z8 n)=r7 n 0:=by
 show E0 [0,1] _ (z8 n)=_
 unfold E0
 rw[if_pos (by rfl)]; rfl
theorem lW {n:Int} (h:-1000<=n/\n<=1000):y0 2 (l5 (z8 n)):=by
 refine (X8 (⟨fun i=>?_,by show dl 1<=1; exact J6 zo zo,by show (0:Int)<1; omega,rfl⟩:E7 1 (z8 n))).mono zo
 match i with
 | 0=>show dl n<=1; exact O3 (by simp[BP]; omega)
 | 1=>show dl 0<=1; rw[C5.2 rfl]; omega
 | 2=>show dl 0<=1; rw[C5.2 rfl]; omega
 | 3=>show dl 0<=1; rw[C5.2 rfl]; omega
 | i+4=>rw[v6 (by show 4<=i+4; omega)]; show dl 0<=1; rw[C5.2 rfl]; omega
theorem ah0:U3 E1:=⟨by decide,by decide,by show 2<=12; omega,fun a=>by
 match a with
 | 0=>exact lW zo
 | 1=>exact lW zo
 | a+2=>exact WU⟩
theorem ag7:E9 E1=0:=by
 unfold E9
 rw[if_neg (fun a=>a oC),if_neg (by decide),if_neg (fun a=>a rfl),if_pos]
 intro a ha
 have ha:a<2:=ha
 match a,ha with
 | 0,_=>show 0<r8 E1 (j9 [0,1] (l5 (z8 3))); rw[YG,YQ]; decide
 | 1,_=>show 0<r8 E1 (j9 [0,1] (l5 (z8 2))); rw[YG,YQ]; decide
theorem ag8:B3 (oX E1)=true:=by decide
theorem lY:G4 E1 0=-1:=by
 show r8 E1 (H0 (b6 (p7 E1) (n9 (oX E1).1).toNat) (b6 (p7 E1) (n9 (oX E1).2).toNat))=-1
 rw[lV]
 show r8 E1 (H0 (z8 2) (z8 3))=-1
 rw[kU,YQ]; decide
theorem lU:w5 E1 0=1:=by
 show A4 (r8 E1) (r5 E1 0).1 (r5 E1 0).2=1
 unfold A4
 rw[if_neg]
 intro h
 have:G4 E1 0=1:=h
 rw[lY] at this; exact absurd this (by decide)
theorem YP:C0 E1 1=0:=by
 have hrd:K1 E1=0:=by unfold K1; rw[if_neg (fun a=>a ag7)]; exact PW (MV (by decide)) ag8
 unfold C0
 rw[if_neg (fun a=>a hrd),if_pos (by decide)]
 have:M4 E1 (Int.toNat 1)=false:=by
  show (false||decide (G4 E1 0=0))=false
  rw[lY]; decide
 rw[this]; rfl
theorem lX:Z3 E1=(JX,[0,1],[1,0],[l5 (z8 1),l5 (z8 2)])/\Z2 E1=1:=by
 unfold Z3 Z2
 rw[if_neg (fun a=>a YP),if_neg (fun a=>a YP)]
 refine ⟨?_,lU⟩
 have h1:r5 E1 1=(G8 (oX E1) (w5 E1 0),K9 (oX E1) (p7 E1) (w5 E1 0)):=rfl
 unfold DG
 rw[h1,lU,lV]
 have h2:G8 (oX E1) 1=([0,1],[1,0]):=by decide
 have h3:K9 (oX E1) YK 1=[z8 1,z8 2]:=by
  show [H0 (z8 3) (z8 2),z8 2]=_
  rw[kU]; rfl
 rw[h2,h3]; rfl
end Go.Fl

/- Contracts: steps of rows and matrices of the reference. -/
namespace Go.Fl
open Go Go.Proofs
open b8 renaming op->tO
open j1 renaming op->rO
set_option maxRecDepth 100000

structure ZC (n:Nat) (s:ZM):Prop where
 len:s.length=n
 row:∀i,i<n->(b6 s i).length=n
 rg:∀k j,0<=b6 (b6 s k) j/\b6 (b6 s k) j<=1
theorem FF {n p q:Nat} (hp:p<n) (hq:q<n) (hpq:p≠q):ZC n (I9 n p q):=⟨by unfold I9; rw[List.length_set,NE],fun i hi=>UT hp hi,tS hp hq hpq⟩
theorem fR {r:q7} (v:E2 r) (hi:B3 r=true) (k:Int):(y6 r k).toNat≠(y9 r k).toNat:=by
 have h1:=VS v hi
 have h2:=BS v.p1 (by have:=v.two; omega)
 have h3:=BS v.p2 (by have:=v.two; omega)
 unfold y6 y9
 split<;>omega
theorem dY {r:q7} {ks:List Int} (v:E2 r) (hi:B3 r=true) {i:Nat}:NC (B9 r ks i) (I9 r.1.length (y6 (w6 r ks i) (b6 ks i)).toNat (y9 (w6 r ks i) (b6 ks i)).toNat)=B9 r ks (i+1):=by
 obtain ⟨⟨h1,h2⟩,h3⟩:=PO v hi (ks:=ks) i
 have hr:=GW h1 (b6 ks i)
 exact ag2 (PN v hi i) zo zo (fR h1 h2 _)
set_option maxHeartbeats 1000000 in
theorem cB (m s:ZM) (n B:Nat) (hm:AI n B m) (hs:ZC n s) (h0:0<n) (hn:n<=8) (hB:B<=1152921504606846975):Ct Tryz.prog 97 [b7 (eL (eL eI)) m,b7 (eL (eL eI)) s] (b7 (eL (eL eI)) (NC m s)):=by
 have hml:=hm.len
 have hsl:=hs.len
 have hs0:=hs.row 0 h0
 refine Ct.mk Tryz.func97 rfl Tryz.ntmps97 rfl (fun w J=>?_); refine S6 ?_; refine Tr.grow (s:=5) rfl rfl 105 rfl 22 (eL eI) rfl ?_
 refine Tr.for1 (σ:=Nat) [⟨0,true,_,_⟩,⟨1,true,_,_⟩] [] (fun i=>[⟨5,true,[105],o5 105 i⟩,⟨6,true,[],kI (i:Int)⟩]) (fun i=>[⟨105,[],l3 true 22 (eL eI) (j4 i fun i=>j4 n fun j=>Z8 m s i j n) i⟩]) (fun i=>i<=n) (fun i=>i=n) (fun i=>n-i) (0) zi (d6.mk (.o rfl zi rfl<|.i rfl zi<|zk) (.a (by rfl) zi<|.nil) rfl) ?_ ?_
 ·intro i hR0
  refine jn ?_; refine m8 ?_; refine jq ?_ ?_
  ·intro h3
   refine j6 ?_; refine tO (F2 (i:=0) rfl uu rfl uu rfl (fun _=>zo)) rfl rfl ?_; refine g9 ?_
   rw[show ((b6 s 0).length:Int)=(n:Int) by omega]
   refine b8.new (BX eI 20 rfl uu rfl uu rfl rfl rfl (fun _=>zo)) rfl rfl rfl rfl ?_; refine m8 ?_
   refine Tr.for1 (σ:=Nat) [⟨0,true,_,_⟩,⟨1,true,_,_⟩,⟨5,true,_,_⟩,⟨6,true,_,_⟩,⟨7,true,_,_⟩] [⟨105,_,_⟩] (fun j=>[⟨8,true,[],kI (j:Int)⟩]) (fun j=>[⟨20,[],l3 false 3 eI (V2 m s n i j 0) n⟩]) (fun j=>j<=n) (fun j=>j=n) (fun j=>n-j) (0) zi (d6.mk (.i rfl zi<|zk) (.a (by rw[<- aa3]) zi<|zk) rfl) ?_ ?_
   ·intro j hR1
    refine jn ?_; refine l8 ?_; refine tO (S8 rfl uu) rfl rfl ?_; refine i7 ?_; refine jq ?_ ?_
    ·intro h7
     refine m8 ?_
     refine Tr.for1 (σ:=Nat) [⟨0,true,_,_⟩,⟨1,true,_,_⟩,⟨5,true,_,_⟩,⟨6,true,_,_⟩,⟨7,true,_,_⟩,⟨8,true,_,_⟩] [⟨105,_,_⟩] (fun k=>[⟨9,true,[],kI (k:Int)⟩]) (fun k=>[⟨20,[],l3 false 3 eI (V2 m s n i j k) n⟩]) (fun k=>k<=n) (fun k=>k=n) (fun k=>n-k) (0) zi (d6.mk (.i rfl zi<|zk) (zk) rfl) ?_ ?_
     ·intro k hR2
      refine jn ?_; refine m8 ?_; refine jq ?_ ?_
      ·intro h10
       refine g8 ?_; refine Tr.draw 22 n8 (by kernel_rfl) ?_
       have hrr:=hm.row i zo
       have hsr:=hs.row k zo
       have hat:=aa0 (m:=m) (s:=s) (n:=n) (i:=i) (j:=j) (k:=k) zo
       have hb1:=lG hm hs.rg (i:=i) (j:=j) (k:=k)
       have hb2:=hm.rg i k
       have hb3:=hs.rg k j
       have hkB:(k:Int)*B<=7*B:=Int.mul_le_mul_of_nonneg_right zo zo
       have hpb:0<=b6 (b6 m i) k*b6 (b6 s k) j/\b6 (b6 m i) k*b6 (b6 s k) j<=B:=by rcases (show b6 (b6 s k) j=0\/b6 (b6 s k) j=1 by omega) with e | e; (rw[e,Int.mul_zero]; omega); (rw[e,Int.mul_one]; omega)
       refine vA ?_
       exact g6.lp (k+1) zi zo (d6.mk (.i rfl zi<|zk) (.a (by rw[hat]; exact aa2 zo) zi<|zk) rfl)
      ·intro h10
       replace h10:=Int.not_lt.1 h10
       refine g8 ?_
       exact g6.cut (k) zo (d6.mk (.i rfl zi<|zk) (zk) rfl)
     ·rintro k hkn
      refine je ?_; refine j6 ?_
      exact g6.lp (j+1) zi zo (d6.mk (.i rfl zi<|zk) (.a (by rw[hkn,aa1]) zi<|zk) rfl)
    ·intro h7
     replace h7:=Int.not_lt.1 h7
     refine g8 ?_
     exact g6.cut (j) zo (d6.mk (.i rfl zi<|zk) (zk) rfl)
   ·rintro j hjn
    refine je ?_
    rw[hjn,zZ]
    refine i4 ?_; refine Tr.frz 20 [7] ⟨rfl,trivial⟩ (by simp only[p6]; omega) rfl ?_; refine jn ?_; refine i7 ?_; refine b8.new (w4 (eL eI) 58 (fun hp=>.cons rfl<|.nil) rfl rfl rfl rfl) rfl rfl rfl rfl ?_; refine i4 ?_; refine jl ?_; refine m8 ?_
    exact g6.lp (i+1) zi zo (d6.mk (.o rfl zi rfl<|.i rfl zi<|zk) (.a (by rw[show (j4 (i+1) fun i=>j4 n fun j=>Z8 m s i j n)=_ from F0]) zi<|.nil) rfl)
  ·intro h3
   replace h3:=Int.not_lt.1 h3
   refine g8 ?_
   exact g6.cut (i) zo (d6.mk (.o rfl zi rfl<|.i rfl zi<|zk) (zk) rfl)
 ·rintro i hin
  refine je ?_
  rw[hin]
  refine j6 ?_; refine Tr.frz 105 [4] ⟨rfl,trivial⟩ (by simp only[p6]; omega) rfl ?_; refine i4 ?_; exact d9.res1 (fn:=Tryz.f97) rfl (.r rfl (by unfold NC; rw[hml,hsl,hs0])<|.nil)

end Go.Fl

/- Contracts: Move and Follow, with errors; the step of the example. -/
namespace Go.Fl
open Go Go.Proofs
open b8 renaming op->tO
open j1 renaming op->rO
set_option maxRecDepth 100000

theorem aQ (l:List Int) (hn:l.length<=1000000):Ct Tryz.prog 106 [b7 (eL eI) l] (b7 (eL eI) l):=by
 refine Ct.mk Tryz.func106 rfl Tryz.ntmps106 rfl (fun w J=>?_); refine j6 ?_; refine b8.new (Y5 eI 3) rfl rfl rfl rfl ?_; refine g9 ?_; refine jl ?_; refine i7 ?_; refine Tr.frz 3 [2] ⟨rfl,trivial⟩ (by simp only[p6]; omega) rfl ?_; refine i4 ?_
 exact d9.res1 (fn:=Tryz.f106) rfl (.r rfl zi<|.nil)

set_option maxHeartbeats 2000000 in
theorem bV (r:q7) (kind:Int) (v:E2 r) (hir:B3 r=true):Ct Tryz.prog 58 [b7 eO r,kI kind] (z9 [b7 eO (G8 r kind),b7 (eL (eL eI)) (I9 r.1.length (y6 r kind).toNat (y9 r kind).toNat)]):=by
 have hle:=v.le
 have htw:=v.two
 have hbl:=v.len
 have hr1:=BS v.p1 zo
 have hr2:=BS v.p2 zo
 have hne:=VS v hir
 have hla:b6 r.1 ((r.1.length:Int)-1).toNat=n9 r.1:=by unfold n9; rw[show ((r.1.length:Int)-1).toNat=r.1.length-1 by omega]
 have hlb:b6 r.2 ((r.1.length:Int)-1).toNat=n9 r.2:=by unfold n9; rw[show ((r.1.length:Int)-1).toNat=r.2.length-1 by omega]
 refine Ct.mk Tryz.func58 rfl Tryz.ntmps58 rfl (fun w J=>?_); refine g9 ?_; refine jb 2 rfl ?_; refine ja 4 ?_; refine u9 ?_; refine Tr.draw 13 n8 (by kernel_rfl) ?_; refine l6 ?_
 rw[hla]
 refine l6 ?_
 rw[hlb]
 refine j3 ?_; refine b8.inlX (σ:=List Value) [2,4] Tryz.func96 rfl Tryz.ntmps96 rfl (.cons rfl (fun _=>rfl)<|.nil) rfl rfl (fun hs=>[⟨6,[],l3 false 22 M8 hs r.1.length⟩,⟨1000,[],s5 3 hs (B5 r.1.length) 0⟩,⟨1001,[],s5 3 hs (B5 r.1.length) 1⟩,⟨1002,[],s5 3 hs (B5 r.1.length) 2⟩,⟨1003,[],s5 3 hs (B5 r.1.length) 3⟩,⟨1004,[],s5 3 hs (B5 r.1.length) 4⟩,⟨1005,[],s5 3 hs (B5 r.1.length) 5⟩,⟨1006,[],s5 3 hs (B5 r.1.length) 6⟩,⟨1007,[],s5 3 hs (B5 r.1.length) 7⟩,⟨2,[],j5 [b7 (eL eI) r.1,b7 (eL eI) r.2]⟩,⟨4,[],j5 [i9 (.slice none 0 0),i9 (.slice none 0 0)]⟩]) (fun hs=>o5 6 r.1.length) (fun hs=>hs.length=r.1.length) (fun _=>rfl) (fun _=>inferInstance) (fun _=>rfl) rfl (fun J3 bks3 om3=>?_) ?_
 ·skip
  refine jn ?_; refine j3 ?_; refine b8.new (BX M8 6 rfl uu rfl uu rfl rfl rfl (fun _=>zo)) rfl rfl rfl rfl ?_; refine m8 ?_; refine Tr.fam 1000 3 (hs:=(List.replicate r.1.length (Value.slice none 0 0))) (rows:=(List.replicate r.1.length [])) jP rfl ?_; refine jn ?_
  refine Tr.for1 (σ:=Nat×List Value) [⟨0,true,_,_⟩,⟨3,true,_,_⟩,⟨26,true,_,_⟩,⟨28,true,_,_⟩] [⟨2,_,_⟩,⟨4,_,_⟩] (fun (k,hs)=>[⟨4,true,[],kI (k:Int)⟩]) (fun (k,hs)=>[⟨6,[],l3 false 22 M8 hs r.1.length⟩,⟨1000,[],s5 3 hs (D6 r.1.length k) 0⟩,⟨1001,[],s5 3 hs (D6 r.1.length k) 1⟩,⟨1002,[],s5 3 hs (D6 r.1.length k) 2⟩,⟨1003,[],s5 3 hs (D6 r.1.length k) 3⟩,⟨1004,[],s5 3 hs (D6 r.1.length k) 4⟩,⟨1005,[],s5 3 hs (D6 r.1.length k) 5⟩,⟨1006,[],s5 3 hs (D6 r.1.length k) 6⟩,⟨1007,[],s5 3 hs (D6 r.1.length k) 7⟩]) (fun (k,hs)=>k<=r.1.length/\hs.length=r.1.length) (fun (k,hs)=>k=r.1.length/\hs.length=r.1.length) (fun (k,hs)=>r.1.length-k) ((0,List.replicate r.1.length (Value.slice none 0 0))) ⟨by omega,by rw[List.length_replicate]⟩ (d6.mk (.i rfl zi<|zk) (.k rfl<|.e (by rw[T5]) rfl<|.e (by rw[T5]) rfl<|.e (by rw[T5]) rfl<|.e (by rw[T5]) rfl<|.e (by rw[T5]) rfl<|.e (by rw[T5]) rfl<|.e (by rw[T5]) rfl<|.e (by rw[T5]) rfl<|zk) rfl) ?_ ?_
  ·rintro ⟨k,hs⟩ ⟨hk,hhl⟩
   refine jn ?_; refine j3 ?_; refine jq ?_ ?_
   ·intro h3
    refine l6 ?_
    have hul:(D6 r.1.length k).length=r.1.length:=p8
    have hrl:(b6 ((D6 r.1.length k).set k (List.replicate r.1.length 0)) k).length=r.1.length:=by rw[HC zo,List.length_replicate]
    refine i7 ?_; refine b8.new (BX eI 15 rfl uu rfl uu rfl rfl rfl (fun _=>zo)) rfl rfl rfl rfl ?_; refine b8.raw 15 15 rfl (fun v=>?_); refine b8.norm (S':=⟨_,_,_,_⟩::⟨_,_,_,_⟩::⟨_,_,_,_⟩::⟨_,_,_,_⟩::⟨_,_,_,_⟩::⟨_,_,_,_⟩::⟨_,_,_,_⟩::⟨_,_,_,_⟩::⟨_,_,_,_⟩::⟨_,_,_,_⟩::⟨_,_,_,_⟩::⟨_,_,_,_⟩::⟨_,_,_,_⟩::[]) (M':=[⟨_,_,_⟩,⟨_,_,_⟩,⟨_,_,_⟩,⟨_,_,_⟩,⟨_,_,_⟩,⟨_,_,_⟩,⟨_,_,_⟩,⟨_,_,_⟩,⟨_,_,_⟩,⟨_,_,_⟩,⟨_,_,_⟩,⟨_,_,_⟩]) rfl rfl ?_; refine g9 ?_
    obtain ⟨q1,q2,q3,q4⟩:=jO (hs:=hs) (rows:=D6 r.1.length k) (k:=k) (v:=v) (xs:=List.replicate r.1.length 0) zo zo
    refine b8.ren 15 1000 k (hs.set k v) ((D6 r.1.length k).set k (List.replicate r.1.length 0)) inferInstance zo zo (.inr (lZ (Nat.le_refl _))) q1 q2 q3 q4 rfl rfl ?_; refine b8.norm (S':=⟨_,_,_,_⟩::⟨_,_,_,_⟩::⟨_,_,_,_⟩::⟨_,_,_,_⟩::⟨_,_,_,_⟩::⟨_,_,_,_⟩::⟨_,_,_,_⟩::⟨_,_,_,_⟩::⟨_,_,_,_⟩::⟨_,_,_,_⟩::⟨_,_,_,_⟩::⟨_,_,_,_⟩::⟨_,_,_,_⟩::⟨_,_,_,_⟩::[]) (M':=[⟨_,_,_⟩,⟨_,_,_⟩,⟨_,_,_⟩,⟨_,_,_⟩,⟨_,_,_⟩,⟨_,_,_⟩,⟨_,_,_⟩,⟨_,_,_⟩,⟨_,_,_⟩,⟨_,_,_⟩,⟨_,_,_⟩]) rfl rfl ?_; refine j6 ?_
    refine b8.asRow 20 1000 rfl inferInstance (by rw[List.length_set]; omega) zo ?_; refine b8.norm (S':=⟨_,_,_,_⟩::⟨_,_,_,_⟩::⟨_,_,_,_⟩::⟨_,_,_,_⟩::⟨_,_,_,_⟩::⟨_,_,_,_⟩::⟨_,_,_,_⟩::⟨_,_,_,_⟩::⟨_,_,_,_⟩::⟨_,_,_,_⟩::⟨_,_,_,_⟩::⟨_,_,_,_⟩::⟨_,_,_,_⟩::⟨_,_,_,_⟩::⟨_,_,_,_⟩::⟨_,_,_,_⟩::⟨_,_,_,_⟩::⟨_,_,_,_⟩::⟨_,_,_,_⟩::[]) (M':=[⟨_,_,_⟩,⟨_,_,_⟩,⟨_,_,_⟩,⟨_,_,_⟩,⟨_,_,_⟩,⟨_,_,_⟩,⟨_,_,_⟩,⟨_,_,_⟩,⟨_,_,_⟩,⟨_,_,_⟩,⟨_,_,_⟩]) rfl rfl ?_; refine i4 ?_
    first | refine tO (QZ rfl uu rfl uu (fun _=>zo)) rfl rfl ?_ | refine tO (MM rfl uu rfl uu (fun _=>zo)) rfl rfl ?_
    refine b8.stR (t0:=1000) inferInstance rfl rfl zo ?_; refine b8.norm (S':=⟨_,_,_,_⟩::⟨_,_,_,_⟩::⟨_,_,_,_⟩::⟨_,_,_,_⟩::⟨_,_,_,_⟩::⟨_,_,_,_⟩::⟨_,_,_,_⟩::⟨_,_,_,_⟩::⟨_,_,_,_⟩::⟨_,_,_,_⟩::⟨_,_,_,_⟩::⟨_,_,_,_⟩::⟨_,_,_,_⟩::⟨_,_,_,_⟩::⟨_,_,_,_⟩::⟨_,_,_,_⟩::⟨_,_,_,_⟩::⟨_,_,_,_⟩::⟨_,_,_,_⟩::⟨_,_,_,_⟩::⟨_,_,_,_⟩::[]) (M':=[⟨_,_,_⟩,⟨_,_,_⟩,⟨_,_,_⟩,⟨_,_,_⟩,⟨_,_,_⟩,⟨_,_,_⟩,⟨_,_,_⟩,⟨_,_,_⟩,⟨_,_,_⟩,⟨_,_,_⟩,⟨_,_,_⟩]) rfl rfl ?_; refine j3 ?_
    exact g6.lp ((k+1,hs.set k v)) ⟨by omega,by rw[List.length_set]; exact hhl⟩ (by show r.1.length-(k+1)<r.1.length-k; omega) (d6.mk (.i rfl zi<|zk) (.k rfl<|.e (by rw[<- T4 zo]) rfl<|.e (by rw[<- T4 zo]) rfl<|.e (by rw[<- T4 zo]) rfl<|.e (by rw[<- T4 zo]) rfl<|.e (by rw[<- T4 zo]) rfl<|.e (by rw[<- T4 zo]) rfl<|.e (by rw[<- T4 zo]) rfl<|.e (by rw[<- T4 zo]) rfl<|zk) rfl)
   ·intro h3
    replace h3:=Int.not_lt.1 h3
    refine g8 ?_
    exact g6.cut ((k,hs)) ⟨by omega,hhl⟩ (d6.mk (.i rfl zi<|zk) (zk) rfl)
  ·rintro ⟨k,hs⟩ ⟨hkn,hhl⟩
   refine je ?_; refine j3 ?_; exact d9.inlX (n:=24) (bks:=bks3) (hs) hhl (t:=2) rfl (d6.mk (zk) (.k rfl<|.e (by rw[hkn,EM]) rfl<|.e (by rw[hkn,EM]) rfl<|.e (by rw[hkn,EM]) rfl<|.e (by rw[hkn,EM]) rfl<|.e (by rw[hkn,EM]) rfl<|.e (by rw[hkn,EM]) rfl<|.e (by rw[hkn,EM]) rfl<|.e (by rw[hkn,EM]) rfl<|zk) rfl) (.cons rfl<|.cons rfl<|.nil) (fun _ _ h=>h)
 intro hs hhl
 refine b8.norm (S':=⟨_,_,_,_⟩::⟨_,_,_,_⟩::⟨_,_,_,_⟩::⟨_,_,_,_⟩::⟨_,_,_,_⟩::⟨_,_,_,_⟩::⟨_,_,_,_⟩::⟨_,_,_,_⟩::⟨_,_,_,_⟩::⟨_,_,_,_⟩::⟨_,_,_,_⟩::⟨_,_,_,_⟩::⟨_,_,_,_⟩::⟨_,_,_,_⟩::⟨_,_,_,_⟩::⟨_,_,_,_⟩::⟨_,_,_,_⟩::⟨_,_,_,_⟩::⟨_,_,_,_⟩::⟨_,_,_,_⟩::⟨_,_,_,_⟩::⟨_,_,_,_⟩::⟨_,_,_,_⟩::⟨_,_,_,_⟩::⟨_,_,_,_⟩::[]) (M':=[⟨_,_,_⟩,⟨_,_,_⟩,⟨_,_,_⟩,⟨_,_,_⟩,⟨_,_,_⟩,⟨_,_,_⟩,⟨_,_,_⟩,⟨_,_,_⟩,⟨_,_,_⟩,⟨_,_,_⟩,⟨_,_,_⟩]) rfl rfl ?_; refine u5 ?_; refine jq ?_ ?_
 ·intro h4
  have hk0:kind=0:=by assumption
  have hw:(n9 r.1).toNat<r.1.length/\(n9 r.2).toNat<r.1.length/\(n9 r.1).toNat≠(n9 r.2).toNat:=⟨by omega,by omega,by omega⟩
  refine l6 ?_; refine b8.asRow 32 1000 rfl inferInstance zo zo ?_; refine b8.norm (S':=⟨_,_,_,_⟩::⟨_,_,_,_⟩::⟨_,_,_,_⟩::⟨_,_,_,_⟩::⟨_,_,_,_⟩::⟨_,_,_,_⟩::⟨_,_,_,_⟩::⟨_,_,_,_⟩::⟨_,_,_,_⟩::⟨_,_,_,_⟩::⟨_,_,_,_⟩::⟨_,_,_,_⟩::⟨_,_,_,_⟩::⟨_,_,_,_⟩::⟨_,_,_,_⟩::⟨_,_,_,_⟩::⟨_,_,_,_⟩::⟨_,_,_,_⟩::⟨_,_,_,_⟩::⟨_,_,_,_⟩::⟨_,_,_,_⟩::⟨_,_,_,_⟩::⟨_,_,_,_⟩::⟨_,_,_,_⟩::⟨_,_,_,_⟩::⟨_,_,_,_⟩::⟨_,_,_,_⟩::⟨_,_,_,_⟩::⟨_,_,_,_⟩::⟨_,_,_,_⟩::⟨_,_,_,_⟩::⟨_,_,_,_⟩::⟨_,_,_,_⟩::[]) (M':=[⟨_,_,_⟩,⟨_,_,_⟩,⟨_,_,_⟩,⟨_,_,_⟩,⟨_,_,_⟩,⟨_,_,_⟩,⟨_,_,_⟩,⟨_,_,_⟩,⟨_,_,_⟩,⟨_,_,_⟩,⟨_,_,_⟩]) rfl rfl ?_
  have hur:=NF (n:=r.1.length) (i:=(n9 r.1).toNat) zo
  refine i4 ?_
  first | refine tO (QZ rfl uu rfl uu (fun _=>zo)) rfl rfl ?_ | refine tO (MM rfl uu rfl uu (fun _=>zo)) rfl rfl ?_
  refine b8.stR (t0:=1000) inferInstance rfl rfl zo ?_; refine b8.norm (S':=⟨_,_,_,_⟩::⟨_,_,_,_⟩::⟨_,_,_,_⟩::⟨_,_,_,_⟩::⟨_,_,_,_⟩::⟨_,_,_,_⟩::⟨_,_,_,_⟩::⟨_,_,_,_⟩::⟨_,_,_,_⟩::⟨_,_,_,_⟩::⟨_,_,_,_⟩::⟨_,_,_,_⟩::⟨_,_,_,_⟩::⟨_,_,_,_⟩::⟨_,_,_,_⟩::⟨_,_,_,_⟩::⟨_,_,_,_⟩::⟨_,_,_,_⟩::⟨_,_,_,_⟩::⟨_,_,_,_⟩::⟨_,_,_,_⟩::⟨_,_,_,_⟩::⟨_,_,_,_⟩::⟨_,_,_,_⟩::⟨_,_,_,_⟩::⟨_,_,_,_⟩::⟨_,_,_,_⟩::⟨_,_,_,_⟩::⟨_,_,_,_⟩::⟨_,_,_,_⟩::⟨_,_,_,_⟩::⟨_,_,_,_⟩::⟨_,_,_,_⟩::⟨_,_,_,_⟩::⟨_,_,_,_⟩::[]) (M':=[⟨_,_,_⟩,⟨_,_,_⟩,⟨_,_,_⟩,⟨_,_,_⟩,⟨_,_,_⟩,⟨_,_,_⟩,⟨_,_,_⟩,⟨_,_,_⟩,⟨_,_,_⟩,⟨_,_,_⟩,⟨_,_,_⟩]) rfl rfl ?_
  refine i7 ?_; refine Tr.frzM 9 6 1000 rfl inferInstance zo (by show (I9 r.1.length (n9 r.1).toNat (n9 r.2).toNat).length=_; rw[(FF hw.1 hw.2.1 hw.2.2).len]; exact hhl.symm) (fun i=>by show (b6 (I9 r.1.length (n9 r.1).toNat (n9 r.2).toNat) i).length<=_; by_cases hi:i<r.1.length; (rw[(FF hw.1 hw.2.1 hw.2.2).row i hi]; simp only[p6]; omega); (rw[v6 (by rw[(FF hw.1 hw.2.1 hw.2.2).len]; omega)]; exact Nat.zero_le _)) rfl ?_; refine jn ?_; refine Tr.drawS 10 4 n8 (by kernel_rfl) ?_; refine o6.opA (N2 rfl uu) (by kernel_rfl) rfl rfl ?_
  refine o6.opA (V0 rfl uu rfl) (by kernel_rfl) rfl rfl ?_; refine o6.opA (i6 (fun hp=>aQ r.1 zo) (.a rfl uu<|.nil)) (by kernel_rfl) rfl rfl ?_; refine o6.opA (N2 rfl uu) (by kernel_rfl) rfl rfl ?_; refine o6.opA (V0 rfl uu rfl) (by kernel_rfl) rfl rfl ?_; refine o6.opA (H7 rfl uu) (by kernel_rfl) rfl rfl ?_; refine o6.opA (H7 rfl uu) (by kernel_rfl) rfl rfl ?_; refine o6.opA (i6 (fun hp=>cG r.2 (n9 r.2) (n9 r.1) zo) (.a rfl uu<|.a rfl uu<|.a rfl uu<|.nil)) (by kernel_rfl) rfl rfl ?_; refine o6.opA (A1 (fun hp=>.cons rfl rfl rfl<|.cons rfl rfl rfl<|.nil)) (by kernel_rfl) rfl rfl ?_
  refine o6.op (H7 rfl uu) rfl rfl ?_; refine o6.z (EK rfl rfl rfl) rfl rfl rfl ?_; refine l8 ?_; exact d9.resC (fn:=Tryz.f58) (ts:=[5]) rfl rfl rfl (t7 rfl (by unfold G8; rw[if_pos hk0,gD v.p2 zo zo hne])) (.r rfl (by unfold y6 y9; rw[if_pos hk0,if_pos hk0]; rfl)<|.nil)
 ·intro h4
  have hk0:¬kind=0:=by assumption
  have hw:(n9 r.2).toNat<r.1.length/\(n9 r.1).toNat<r.1.length/\(n9 r.2).toNat≠(n9 r.1).toNat:=⟨by omega,by omega,by omega⟩
  refine j3 ?_; refine b8.asRow 48 1000 rfl inferInstance zo zo ?_; refine b8.norm (S':=⟨_,_,_,_⟩::⟨_,_,_,_⟩::⟨_,_,_,_⟩::⟨_,_,_,_⟩::⟨_,_,_,_⟩::⟨_,_,_,_⟩::⟨_,_,_,_⟩::⟨_,_,_,_⟩::⟨_,_,_,_⟩::⟨_,_,_,_⟩::⟨_,_,_,_⟩::⟨_,_,_,_⟩::⟨_,_,_,_⟩::⟨_,_,_,_⟩::⟨_,_,_,_⟩::⟨_,_,_,_⟩::⟨_,_,_,_⟩::⟨_,_,_,_⟩::⟨_,_,_,_⟩::⟨_,_,_,_⟩::⟨_,_,_,_⟩::⟨_,_,_,_⟩::⟨_,_,_,_⟩::⟨_,_,_,_⟩::⟨_,_,_,_⟩::⟨_,_,_,_⟩::⟨_,_,_,_⟩::⟨_,_,_,_⟩::⟨_,_,_,_⟩::⟨_,_,_,_⟩::⟨_,_,_,_⟩::⟨_,_,_,_⟩::⟨_,_,_,_⟩::[]) (M':=[⟨_,_,_⟩,⟨_,_,_⟩,⟨_,_,_⟩,⟨_,_,_⟩,⟨_,_,_⟩,⟨_,_,_⟩,⟨_,_,_⟩,⟨_,_,_⟩,⟨_,_,_⟩,⟨_,_,_⟩,⟨_,_,_⟩]) rfl rfl ?_
  have hur:=NF (n:=r.1.length) (i:=(n9 r.2).toNat) zo
  refine i4 ?_
  first | refine tO (QZ rfl uu rfl uu (fun _=>zo)) rfl rfl ?_ | refine tO (MM rfl uu rfl uu (fun _=>zo)) rfl rfl ?_
  refine b8.stR (t0:=1000) inferInstance rfl rfl zo ?_; refine b8.norm (S':=⟨_,_,_,_⟩::⟨_,_,_,_⟩::⟨_,_,_,_⟩::⟨_,_,_,_⟩::⟨_,_,_,_⟩::⟨_,_,_,_⟩::⟨_,_,_,_⟩::⟨_,_,_,_⟩::⟨_,_,_,_⟩::⟨_,_,_,_⟩::⟨_,_,_,_⟩::⟨_,_,_,_⟩::⟨_,_,_,_⟩::⟨_,_,_,_⟩::⟨_,_,_,_⟩::⟨_,_,_,_⟩::⟨_,_,_,_⟩::⟨_,_,_,_⟩::⟨_,_,_,_⟩::⟨_,_,_,_⟩::⟨_,_,_,_⟩::⟨_,_,_,_⟩::⟨_,_,_,_⟩::⟨_,_,_,_⟩::⟨_,_,_,_⟩::⟨_,_,_,_⟩::⟨_,_,_,_⟩::⟨_,_,_,_⟩::⟨_,_,_,_⟩::⟨_,_,_,_⟩::⟨_,_,_,_⟩::⟨_,_,_,_⟩::⟨_,_,_,_⟩::⟨_,_,_,_⟩::⟨_,_,_,_⟩::[]) (M':=[⟨_,_,_⟩,⟨_,_,_⟩,⟨_,_,_⟩,⟨_,_,_⟩,⟨_,_,_⟩,⟨_,_,_⟩,⟨_,_,_⟩,⟨_,_,_⟩,⟨_,_,_⟩,⟨_,_,_⟩,⟨_,_,_⟩]) rfl rfl ?_
  refine i7 ?_; refine Tr.frzM 9 6 1000 rfl inferInstance zo (by show (I9 r.1.length (n9 r.2).toNat (n9 r.1).toNat).length=_; rw[(FF hw.1 hw.2.1 hw.2.2).len]; exact hhl.symm) (fun i=>by show (b6 (I9 r.1.length (n9 r.2).toNat (n9 r.1).toNat) i).length<=_; by_cases hi:i<r.1.length; (rw[(FF hw.1 hw.2.1 hw.2.2).row i hi]; simp only[p6]; omega); (rw[v6 (by rw[(FF hw.1 hw.2.1 hw.2.2).len]; omega)]; exact Nat.zero_le _)) rfl ?_; refine jn ?_; refine Tr.drawS 10 4 n8 (by kernel_rfl) ?_; refine o6.opA (N2 rfl uu) (by kernel_rfl) rfl rfl ?_
  refine o6.opA (V0 rfl uu rfl) (by kernel_rfl) rfl rfl ?_; refine o6.opA (H7 rfl uu) (by kernel_rfl) rfl rfl ?_; refine o6.opA (H7 rfl uu) (by kernel_rfl) rfl rfl ?_; refine o6.opA (i6 (fun hp=>cG r.1 (n9 r.1) (n9 r.2) zo) (.a rfl uu<|.a rfl uu<|.a rfl uu<|.nil)) (by kernel_rfl) rfl rfl ?_; refine o6.opA (N2 rfl uu) (by kernel_rfl) rfl rfl ?_; refine o6.opA (V0 rfl uu rfl) (by kernel_rfl) rfl rfl ?_; refine o6.opA (i6 (fun hp=>aQ r.2 zo) (.a rfl uu<|.nil)) (by kernel_rfl) rfl rfl ?_; refine o6.opA (A1 (fun hp=>.cons rfl rfl rfl<|.cons rfl rfl rfl<|.nil)) (by kernel_rfl) rfl rfl ?_
  refine o6.op (H7 rfl uu) rfl rfl ?_; refine o6.z (EK rfl rfl rfl) rfl rfl rfl ?_; refine g8 ?_; exact d9.resC (fn:=Tryz.f58) (ts:=[5]) rfl rfl rfl (t7 rfl (by unfold G8; rw[if_neg hk0,gD v.p1 zo zo hne.symm])) (.r rfl (by unfold y6 y9; rw[if_neg hk0,if_neg hk0]; rfl)<|.nil)

end Go.Fl

/- Contracts: Follow and Move with errors, the law of paths. -/
namespace Go.Fl
open Go Go.Proofs
open b8 renaming op->tO
open j1 renaming op->rO
set_option maxRecDepth 100000

theorem qO  : Ct Tryz.prog 45 [] (kB true):=by
 have hw:∀n:Int,-1000<=n/\n<=1000->Ct Tryz.prog 28 [kI n] (b7 j8 (l5 (z8 n))):=fun n hn=>by have h:=IP n zo; rw[PS] at h; exact h
 have hst:Ct Tryz.prog 46 [b7 eX E1] (z9 [b7 eX ((JX,[0,1],[1,0],[l5 (z8 1),l5 (z8 2)]):o0),kI 1,kI 0]):=by have h:=cO E1 ah0; rw[lX.1,lX.2,YP] at h; exact h
 refine Ct.mk Tryz.func45 rfl Tryz.ntmps45 rfl (fun w J=>?_); refine j6 ?_; refine jc sE ?_; refine jc hst ?_; refine g8 ?_; refine ja 1 ?_; refine l6 ?_; refine Tr.draw 24 n8 (by kernel_rfl) ?_; refine m8 ?_; refine j1.gd rfl rfl rfl (M3 eI (fun hp=>.cons rfl<|.cons rfl<|.nil) rfl rfl rfl rfl) rfl rfl ?_; refine j1.gd rfl rfl rfl (i6 (fun hp=>FD [0,1] [0,1]) (.a rfl id<|.a rfl id<|.nil)) rfl rfl ?_; refine g8 ?_; refine j1.gd rfl rfl rfl (M3 eI (fun hp=>.cons rfl<|.cons rfl<|.nil) rfl rfl rfl rfl) rfl rfl ?_; refine j1.gd rfl rfl rfl (i6 (fun hp=>FD [1,0] [1,0]) (.a rfl id<|.a rfl id<|.nil)) rfl rfl ?_
 refine g8 ?_; refine j1.gd rfl rfl rfl (i6 (fun hp=>IP _ zo) (.a rfl uu<|.nil)) rfl rfl ?_; refine j1.gd rfl rfl rfl (i6 (fun hp=>IP _ zo) (.a rfl uu<|.nil)) rfl rfl ?_; refine j1.gd rfl rfl rfl (M3 j8 (fun hp=>.consG rfl (id hp)<|.consG rfl (id hp)<|.nil) rfl rfl rfl rfl) rfl rfl ?_; refine i4 ?_; refine b8.gd rfl rfl rfl (i6 (fun hp=>aT ((JX,[0,1],[1,0],[l5 (z8 1),l5 (z8 2)]):o0).2.2.2 [l5 (z8 1),l5 (z8 2)]) (.a rfl id<|.a rfl id<|.nil)) rfl rfl ?_; refine l8 ?_; exact d9.res1 (fn:=Tryz.f45) rfl (.b rfl (by simp)<|.nil)

end Go.Fl

/- Contracts: steps of exchanges of the reference. -/
namespace Go.Fl
open Go Go.Proofs
open b8 renaming op->tO
open j1 renaming op->rO
set_option maxRecDepth 100000

theorem ae3 {r:q7} {ls:List n7} {k:Int} {n:Nat} (h:ls.length=n):(K9 r ls k).map l5=j4 n fun i=>l5 (b6 (K9 r ls k) i):=by
 have e:(K9 r ls k).length=n:=by unfold K9; rw[List.length_set,h]
 exact D1 (by rw[List.length_map,p8,e]) fun i hi=>by rw[List.length_map] at hi; rw[EC hi,q9 zo]
set_option maxHeartbeats 2000000 in
theorem bZ (x:o0) (h0:z6 x.1=0) (hv:E2 (oX x)) (hi:B3 (oX x)=true) (hLl:x.2.2.2.length=x.2.1.length) (hLn:∀a,y0 250 (b6 x.2.2.2 a)):Ct Tryz.prog 49 [b7 eX x] (z9 [b7 eX (if H9 (r8 x) (oX x) (p7 x)=0 then zX else (x.1,(G8 (oX x) (A4 (r8 x) (oX x) (p7 x))).1,(G8 (oX x) (A4 (r8 x) (oX x) (p7 x))).2,(K9 (oX x) (p7 x) (A4 (r8 x) (oX x) (p7 x))).map l5)),kI (if H9 (r8 x) (oX x) (p7 x)=0 then -1 else (A4 (r8 x) (oX x) (p7 x)))]):=by
 have hpo:=Q0 h0
 have hs:=(X5 h0).1.2.1
 have hle:x.2.1.length<=8:=hv.le
 have htwo:2<=x.2.1.length:=hv.two
 have hr2:x.2.2.1.length=x.2.1.length:=hv.len
 have hln:(p7 x).length=x.2.1.length:=by rw[List.length_map,hLl]
 have hg:∀a,a<x.2.1.length->j9 x.1.1 (b6 x.2.2.2 a)=b6 (p7 x) a:=fun a ha=>(MF zo).symm
 have hr1:0<=n9 x.2.1/\n9 x.2.1<x.2.1.length:=BS hv.p1 zo
 have hr3:0<=n9 x.2.2.1/\n9 x.2.2.1<x.2.1.length:=BS hv.p2 zo
 have hla:b6 x.2.1 ((x.2.1.length:Int)-1).toNat=n9 x.2.1:=by unfold n9; rw[show ((x.2.1.length:Int)-1).toNat=x.2.1.length-1 by omega]
 have hlb:b6 x.2.2.1 ((x.2.1.length:Int)-1).toNat=n9 x.2.2.1:=by unfold n9; rw[show ((x.2.1.length:Int)-1).toNat=x.2.2.1.length-1 by omega]
 have htr:H9 (r8 x) (oX x) (p7 x)=1\/H9 (r8 x) (oX x) (p7 x)=-1\/H9 (r8 x) (oX x) (p7 x)=0:=kG
 have hks:E0 x.1.1 (u7 x.1) (H0 (b6 (p7 x) (n9 x.2.1).toNat) (b6 (p7 x) (n9 x.2.2.1).toNat))=H9 (r8 x) (oX x) (p7 x):=rfl
 refine Ct.mk Tryz.func49 rfl Tryz.ntmps49 rfl (fun w J=>?_); refine g9 ?_; refine jb 1 rfl ?_; refine ja 2 ?_; refine g8 ?_; refine Tr.frzB 1 [1] eX (x:=x) ⟨rfl,trivial⟩ rfl ?_; refine jn ?_; refine g9 ?_; refine jc (cI x h0) ?_; refine ja 4 ?_; refine u9 ?_; refine Tr.draw 13 n8 (by kernel_rfl) ?_; refine l6 ?_
 rw[hla]
 refine l6 ?_
 rw[hlb]
 refine u5 ?_; refine Tr.meet2 (σ:=Unit) [⟨1,true,_,_⟩,⟨2,true,_,_⟩,⟨4,true,_,_⟩,⟨5,true,_,_⟩] [⟨4,_,_⟩] (zk) (zk) (fun _=>[⟨6,true,[],kI (y6 (oX x) (A4 (r8 x) (oX x) (p7 x)))⟩,⟨7,true,[],kI (y9 (oX x) (A4 (r8 x) (oX x) (p7 x)))⟩,⟨8,true,[],kI (A4 (r8 x) (oX x) (p7 x))⟩]) (fun _=>[⟨2,[],j5 [i9 (.slice none 0 0),kI 0,kI 0,kI 0,i9 (.slice none 0 0),i9 (.slice none 0 0),i9 (.slice none 0 0)]⟩]) (fun _=>¬H9 (r8 x) (oX x) (p7 x)=0) ?_ ?_
 ·skip
  refine i4 ?_; refine Tr.draw 11 n8 (by kernel_rfl) ?_; refine u9 ?_; refine tO (i6 (fun hp=>qZ x.1 (b6 x.2.2.2 (n9 x.2.1).toNat) (b6 x.2.2.2 (n9 x.2.2.1).toNat) h0 (hLn _) (hLn _)) (.se rfl uu rfl rfl<|.a rfl uu<|.a rfl uu<|.nil)) rfl rfl ?_
  rw[hg _ zo,hg _ zo,hks]
  refine m8 ?_; refine Tr.cnd rfl ?_ ?_
  ·intro h6
   try simp only[decide_eq_true_eq] at h6
   have hz:H9 (r8 x) (oX x) (p7 x)=0:=h6
   refine g9 ?_; refine tO (A1 (fun hp=>.nil)) rfl rfl ?_; refine j6 ?_; exact d9.resC (fn:=Tryz.f49) (ts:=[3]) rfl rfl rfl (t7 rfl (by rw[if_pos hz])) (.i rfl (by rw[if_pos hz])<|.nil)
  ·intro h6
   try simp only[decide_eq_false_iff_not] at h6
   have hz:¬H9 (r8 x) (oX x) (p7 x)=0:=h6
   refine l6 ?_; refine Tr.cnd rfl ?_ ?_
   ·intro h8
    try simp only[decide_eq_true_eq] at h8
    have hk1:(A4 (r8 x) (oX x) (p7 x))=1:=if_neg zo
    have hw1:y6 (oX x) (A4 (r8 x) (oX x) (p7 x))=n9 x.2.2.1:=by unfold y6; rw[hk1]; rfl
    have hl1:y9 (oX x) (A4 (r8 x) (oX x) (p7 x))=n9 x.2.1:=by unfold y9; rw[hk1]; rfl
    refine u9 ?_
    exact g6.cut (()) zi (d6.mk (.i rfl hw1.symm<|.i rfl hl1.symm<|.i rfl hk1.symm<|zk) (zk) rfl)
   ·intro h8
    try simp only[decide_eq_false_iff_not] at h8
    have hk1:(A4 (r8 x) (oX x) (p7 x))=0:=if_pos zo
    have hw1:y6 (oX x) (A4 (r8 x) (oX x) (p7 x))=n9 x.2.1:=by unfold y6; rw[hk1]; rfl
    have hl1:y9 (oX x) (A4 (r8 x) (oX x) (p7 x))=n9 x.2.2.1:=by unfold y9; rw[hk1]; rfl
    refine g9 ?_
    exact g6.cut (()) zi (d6.mk (.i rfl hw1.symm<|.i rfl hl1.symm<|.i rfl hk1.symm<|zk) (zk) rfl)
 ·intro _ hz
  refine jn ?_; refine g9 ?_
  obtain ⟨hlr,hwr⟩:(0<=y9 (oX x) (A4 (r8 x) (oX x) (p7 x))/\y9 (oX x) (A4 (r8 x) (oX x) (p7 x))<x.2.1.length)/\(0<=y6 (oX x) (A4 (r8 x) (oX x) (p7 x))/\y6 (oX x) (A4 (r8 x) (oX x) (p7 x))<x.2.1.length):=GW hv (A4 (r8 x) (oX x) (p7 x))
  refine i4 ?_; refine jc (LF x) ?_; refine i4 ?_; refine jc (bV (oX x) (A4 (r8 x) (oX x) (p7 x)) hv hi) ?_; refine i7 ?_; refine ja 9 ?_; refine u9 ?_; refine tO (A1 (fun hp=>.cons rfl rfl rfl<|.cons rfl rfl rfl<|.cons rfl rfl rfl<|.nil)) rfl rfl ?_; refine ja 11 ?_; refine m8 ?_; refine Tr.growC 11 6 155 rfl (ks':=[_,_,_,_,_,_,o5 155 0]) rfl rfl 30 j8 rfl (.cons inferInstance rfl<|.cons inferInstance rfl<|.cons inferInstance rfl<|.cons inferInstance rfl<|.cons inferInstance rfl<|.cons inferInstance rfl<|.cons inferInstance rfl<|inferInstance) ?_
  refine Tr.for1 (σ:=Nat) [⟨1,true,_,_⟩,⟨2,true,_,_⟩,⟨4,true,_,_⟩,⟨5,true,_,_⟩,⟨6,true,_,_⟩,⟨7,true,_,_⟩,⟨8,true,_,_⟩,⟨11,true,_,_⟩] [⟨4,_,_⟩] (fun i=>[⟨12,true,[],kI (i:Int)⟩]) (fun i=>[⟨11,[155],j5 [b7 (eL eI) x.1.1,kI x.1.2.1,kI x.1.2.2.1,kI x.1.2.2.2,b7 (eL eI) (G8 (oX x) (A4 (r8 x) (oX x) (p7 x))).1,b7 (eL eI) (G8 (oX x) (A4 (r8 x) (oX x) (p7 x))).2,o5 155 i]⟩,⟨155,[],l3 true 30 j8 (j4 i fun i=>l5 (b6 (K9 (oX x) (p7 x) (A4 (r8 x) (oX x) (p7 x))) i)) i⟩,⟨2,[],j5 [i9 (.slice none 0 0),kI 0,kI 0,kI 0,i9 (.slice none 0 0),i9 (.slice none 0 0),i9 (.slice none 0 0)]⟩]) (fun i=>i<=x.2.1.length) (fun i=>i=x.2.1.length) (fun i=>x.2.1.length-i) (0) zi (d6.mk (.i rfl zi<|zk) (.e (by rfl) rfl<|.a (by rfl) zi<|zk) rfl) ?_ ?_
  ·intro i hR0
   refine jn ?_; refine j3 ?_; refine jq ?_ ?_
   ·intro h14
    refine l8 ?_; refine Tr.draw 8 n8 (by kernel_rfl) ?_; refine l6 ?_; refine rO (i6 (fun hp=>LE x.1 (b6 x.2.2.2 i) 250 hpo hs (hLn _) zo) (.se rfl uu rfl rfl<|.a rfl uu<|.nil)) rfl rfl ?_
    rw[hg _ zo]
    refine j1.new (HF 13) rfl rfl rfl rfl ?_; refine g8 ?_; refine Tr.meet2 (σ:=Unit) [⟨1,true,_,_⟩,⟨2,true,_,_⟩,⟨4,true,_,_⟩,⟨5,true,_,_⟩,⟨6,true,_,_⟩,⟨7,true,_,_⟩,⟨8,true,_,_⟩,⟨11,true,_,_⟩,⟨12,true,_,_⟩,⟨13,true,_,_⟩] [⟨4,_,_⟩] (zk) (zk) (fun _=>[]) (fun _=>[⟨13,[],j5 [b7 (eL (eL eI)) (l5 (b6 (K9 (oX x) (p7 x) (A4 (r8 x) (oX x) (p7 x))) i)).1,b7 (eL eI) (l5 (b6 (K9 (oX x) (p7 x) (A4 (r8 x) (oX x) (p7 x))) i)).2]⟩,⟨2,[],j5 [i9 (.slice none 0 0),kI 0,kI 0,kI 0,i9 (.slice none 0 0),i9 (.slice none 0 0),i9 (.slice none 0 0)]⟩,⟨11,[155],j5 [b7 (eL eI) x.1.1,kI x.1.2.1,kI x.1.2.2.1,kI x.1.2.2.2,b7 (eL eI) (G8 (oX x) (A4 (r8 x) (oX x) (p7 x))).1,b7 (eL eI) (G8 (oX x) (A4 (r8 x) (oX x) (p7 x))).2,o5 155 i]⟩,⟨155,[],l3 true 30 j8 (j4 i fun i=>l5 (b6 (K9 (oX x) (p7 x) (A4 (r8 x) (oX x) (p7 x))) i)) i⟩]) (fun _=>True) ?_ ?_
    ·skip
     refine j6 ?_; refine jq ?_ ?_
     ·intro h17
      have hiw:i=(y6 (oX x) (A4 (r8 x) (oX x) (p7 x))).toNat:=by omega
      have hst5:(b6 (K9 (oX x) (p7 x) (A4 (r8 x) (oX x) (p7 x))) i)=H0 (b6 (p7 x) (y6 (oX x) (A4 (r8 x) (oX x) (p7 x))).toNat) (b6 (p7 x) (y9 (oX x) (A4 (r8 x) (oX x) (p7 x))).toNat):=by unfold K9; rw[hiw,QS zo,if_pos rfl]
      refine Tr.draw 11 n8 (by kernel_rfl) ?_; refine u9 ?_; refine tO (i6 (fun hp=>cA x.1 (b6 x.2.2.2 (y6 (oX x) (A4 (r8 x) (oX x) (p7 x))).toNat) (b6 x.2.2.2 (y9 (oX x) (A4 (r8 x) (oX x) (p7 x))).toNat) 250 hpo hs (hLn _) (hLn _) zo) (.se rfl uu rfl rfl<|.a rfl uu<|.a rfl uu<|.nil)) rfl rfl ?_
      rw[hg _ zo,hg _ zo]
      refine g9 ?_
      exact g6.cut (()) zi (d6.mk (zk) (.e (by rw[hst5]) rfl<|zk) rfl)
     ·intro h17
      have hst5:(b6 (K9 (oX x) (p7 x) (A4 (r8 x) (oX x) (p7 x))) i)=b6 (p7 x) i:=by unfold K9; rw[QS zo,if_neg zo]
      refine i4 ?_
      exact g6.cut (()) zi (d6.mk (zk) (.e (by rw[hst5]) rfl<|zk) rfl)
    ·intro _ hM
     refine jn ?_; refine g8 ?_; refine b8.new (w4 j8 94 (fun hp=>.cons rfl<|.nil) rfl rfl rfl rfl) rfl rfl rfl rfl ?_; refine b8.wkC 11 (.k<|.k<|.k<|.k<|.k<|.k<|.any<|.nil) rfl ?_; refine i4 ?_; refine jl ?_; refine u5 ?_
     exact g6.lp (i+1) zi zo (d6.mk (.i rfl zi<|zk) (.e (by rfl) rfl<|.a F0.symm zi<|zk) rfl)
   ·intro h14
    replace h14:=Int.not_lt.1 h14
    refine g8 ?_
    exact g6.cut (i) zo (d6.mk (.i rfl zi<|zk) (zk) rfl)
  ·rintro i hkn
   refine je ?_
   rw[hkn]
   refine g9 ?_; refine Tr.frzC 155 11 (by simp only[p6]; omega) rfl rfl ?_; refine jn ?_; refine j3 ?_; exact d9.resC (fn:=Tryz.f49) (ts:=[3]) rfl rfl rfl (t7 rfl (by rw[if_neg hz]; show _=((x.1.1,x.1.2.1,x.1.2.2.1,x.1.2.2.2),(G8 (oX x) (A4 (r8 x) (oX x) (p7 x))).1,(G8 (oX x) (A4 (r8 x) (oX x) (p7 x))).2,(K9 (oX x) (p7 x) (A4 (r8 x) (oX x) (p7 x))).map l5); rw[ae3 hln])) (.i rfl (by rw[if_neg hz])<|.nil)

end Go.Fl

/- Contracts: paths of exchanges of the reference. -/
namespace Go.Fl
open Go Go.Proofs
open b8 renaming op->tO
open j1 renaming op->rO
set_option maxRecDepth 100000

theorem xF {l:List y3} {k i:Nat}:b6 (l.drop k) i=b6 l (k+i):=by simp[b6]
noncomputable def I1 (x:o0) (k:Nat):List y3:=j4 x.2.2.2.length fun j=>if j<k then l5 (b6 (p7 x) j) else b6 x.2.2.2 j
theorem DD {x:o0} {k:Nat}:(I1 x k).length=x.2.2.2.length:=p8
theorem xE {x:o0}:I1 x 0=x.2.2.2:=D1 DD fun i hi=>by rw[DD] at hi; unfold I1; rw[q9 hi,if_neg zo]
theorem xC {x:o0}:I1 x x.2.2.2.length=(p7 x).map l5:=D1 (by rw[DD,List.length_map,List.length_map]) fun i hi=>by
 rw[DD] at hi
 unfold I1; rw[q9 hi,if_pos hi,EC (by rw[List.length_map]; exact hi)]
theorem QM {x:o0} {k:Nat} (h:k<x.2.2.2.length):b6 (I1 x k) k=b6 x.2.2.2 k:=by unfold I1; rw[q9 h,if_neg zo]
theorem xD {x:o0} {k:Nat} (h:k<x.2.2.2.length):(I1 x k).take k++[l5 (b6 (p7 x) k)]++(I1 x k).drop (k+1)=I1 x (k+1):=by
 refine D1 (by rw[List.length_append,List.length_append,List.length_take,List.length_drop,DD,DD,List.length_singleton]; omega) fun i hi=>?_
 have hi:i<x.2.2.2.length:=by rw[List.length_append,List.length_append,List.length_take,List.length_drop,DD,List.length_singleton] at hi; omega
 have htl:((I1 x k).take k).length=k:=by rw[List.length_take,DD]; omega
 have hv:b6 (I1 x (k+1)) i=if i<k+1 then l5 (b6 (p7 x) i) else b6 x.2.2.2 i:=q9 hi
 have hu:b6 (I1 x k) i=if i<k then l5 (b6 (p7 x) i) else b6 x.2.2.2 i:=q9 hi
 rw[hv]
 rcases Nat.lt_trichotomy i k with c | c | c
 ·rw[if_pos zo,WP (by rw[List.length_append,htl]; omega),WP zo,WT c,hu,if_pos c]
 ·subst c
  rw[if_pos zo,WP (by rw[List.length_append,htl,List.length_singleton]; omega)]
  rw[gR zo (by rw[htl,List.length_singleton]; omega),htl,Nat.sub_self]; rfl
 ·rw[if_neg zo,gR (by rw[List.length_append,htl,List.length_singleton]; omega) (by rw[List.length_append,htl,List.length_singleton,List.length_drop,DD]; omega),List.length_append,htl,List.length_singleton,xF,show k+1+(i-(k+1))=i by omega,hu,if_neg zo]
theorem lF {x:o0}:∀{n i:Nat},i<n->G4 x i=0->M4 x n=true
 | n+1,i,hi,h=>by
  rw[M4,Bool.or_eq_true,decide_eq_true_eq]
  by_cases e:i=n
  ·exact .inr (by rw[<- e]; exact h)
  ·exact .inl (lF zo h)
theorem ag0 {x:o0} {n:Nat} (h:∀i,i<n->G4 x i≠0):M4 x n=false:=by
 cases e:M4 x n with
 | false=>rfl
 | true=>obtain ⟨i,h1,h2⟩:=YJ e; exact absurd h2 (h i h1)
theorem af9 {p:List Int} {ls:List n7} (h:∀a,a<ls.length->B4 p (b6 ls a)):(ls.map l5).map (j9 p)=ls :=
 D1 (by rw[List.length_map,List.length_map]) fun i hi=>by
  rw[List.length_map,List.length_map] at hi
  rw[MF (by rw[List.length_map]; exact hi),EC hi,AX (h i hi)]
theorem xG {ls:List n7} {k:Nat} (h:∀a,a<ls.length->y0 k (l5 (b6 ls a))) (a:Nat):y0 k (b6 (ls.map l5) a):=by
 by_cases c:a<ls.length
 ·rw[EC c]; exact h a c
 ·rw[v6 (by rw[List.length_map]; omega)]; exact WU
set_option maxHeartbeats 2000000 in
theorem rF (x:o0) (D:Int) (M:Nat) (n:Nat) (hx:Q7 x) (hlo:H2 x.1.1 D M x.2.1.length (p7 x)) (hir:B3 (oX x)=true) (hn:n<=15):Ct Tryz.prog 50 [b7 eX x,kI (n:Int)] (z9 [b7 eX (if M4 x n=true then zX else DG x n),b7 (eL eI) (if M4 x n=true then [] else (j4 n (w5 x))),b7 (eL (eL eI)) (if M4 x n=true then [] else B9 (oX x) (j4 n (w5 x)) n),kB (!M4 x n)]):=by
 have h0:=hx.fld
 have hpo:=Q0 h0
 have hs:=(X5 h0).1.2.1
 have v:=hx.rows
 have hp1:B1 x.2.1 x.2.1.length:=v.p1
 have hp2:B1 x.2.2.1 x.2.1.length:=v.p2
 have hle:x.2.1.length<=8:=v.le
 have htwo:2<=x.2.1.length:=v.two
 have hbl:x.2.2.1.length=x.2.1.length:=v.len
 have hxl:=hx.len
 have hll:=hlo.len
 refine Ct.mk Tryz.func50 rfl Tryz.ntmps50 rfl (fun w J=>?_); refine g9 ?_; refine jb 2 rfl ?_; refine ja 4 ?_; refine u5 ?_; refine jc (rJ x.2.1.length zo) ?_; refine l6 ?_; refine jc (cI x h0) ?_; refine ja 9 ?_; refine m8 ?_
 refine Tr.for1 (σ:=Nat) [⟨1,true,_,_⟩,⟨2,true,_,_⟩,⟨4,true,_,_⟩,⟨8,true,_,_⟩,⟨9,true,_,_⟩] [⟨9,_,_⟩] (fun k=>[⟨10,true,[],kI (k:Int)⟩]) (fun k=>[⟨2,[],j5 [b7 (eL eI) x.1.1,kI x.1.2.1,kI x.1.2.2.1,kI x.1.2.2.2,b7 (eL eI) (oX x).1,b7 (eL eI) (oX x).2,b7 (eL j8) (I1 x k)]⟩,⟨4,[],j5 [i9 (.slice none 0 0),kI 0,kI 0,kI 0,i9 (.slice none 0 0),i9 (.slice none 0 0),i9 (.slice none 0 0)]⟩]) (fun k=>k<=x.2.2.2.length) (fun k=>k=x.2.2.2.length) (fun k=>x.2.2.2.length-k) (0) zi (d6.mk (.i rfl zi<|zk) (.e (by rw[xE]) rfl<|zk) rfl) ?_ ?_
 ·intro k hR0
  refine jn ?_
  have hnl:=DD (x:=x) (k:=k)
  have htk:(List.take (k:Int).toNat (I1 x k)).length=k:=by rw[List.length_take]; omega
  have hdk:(List.drop ((k:Int)+1).toNat (I1 x k)).length=x.2.2.2.length-(k+1):=by rw[List.length_drop]; omega
  refine u5 ?_; refine jq ?_ ?_
  ·intro h4
   refine g9 ?_; refine Tr.meet2 (σ:=Unit) [⟨1,true,_,_⟩,⟨2,true,_,_⟩,⟨4,true,_,_⟩,⟨8,true,_,_⟩,⟨9,true,_,_⟩,⟨10,true,_,_⟩] [] (zk) (.nil) (fun _=>[]) (fun _=>[⟨2,[30],j5 [b7 (eL eI) x.1.1,kI x.1.2.1,kI x.1.2.2.1,kI x.1.2.2.2,b7 (eL eI) (oX x).1,b7 (eL eI) (oX x).2,o5 30 x.2.2.2.length]⟩,⟨30,[],l3 false 30 j8 (I1 x (k+1)) x.2.2.2.length⟩,⟨4,[],j5 [i9 (.slice none 0 0),kI 0,kI 0,kI 0,i9 (.slice none 0 0),i9 (.slice none 0 0),i9 (.slice none 0 0)]⟩,⟨9,[],j5 [b7 (eL eI) x.1.1,kI x.1.2.1,kI x.1.2.2.1,kI x.1.2.2.2]⟩]) (fun _=>True) ?_ ?_
   ·skip
    refine i4 ?_
    have hnk:j9 x.1.1 (b6 (I1 x k) k)=b6 (p7 x) k:=by rw[QM zo]; exact (MF zo).symm
    have hstp:[]++List.take (k:Int).toNat (I1 x k)++[l5 (b6 (p7 x) k)]++List.drop ((k:Int)+1).toNat (I1 x k)=I1 x (k+1):=by rw[List.nil_append,Int.toNat_natCast,show ((k:Int)+1).toNat=k+1 by omega]; exact xD zo
    have hql:0+(List.take (k:Int).toNat (I1 x k)).length+[l5 (b6 (p7 x) k)].length+(List.drop ((k:Int)+1).toNat (I1 x k)).length=x.2.2.2.length:=by rw[htk,hdk,List.length_singleton]; omega
    refine Tr.ent (S':=[⟨1,true,_,_⟩,⟨2,true,_,_⟩,⟨4,true,_,_⟩,⟨8,true,_,_⟩,⟨9,true,_,_⟩,⟨10,true,_,_⟩,⟨23,true,_,_⟩,⟨24,true,_,_⟩,⟨25,true,_,_⟩,⟨26,true,_,_⟩,⟨27,true,_,_⟩]) (M':=[⟨2,_,_⟩,⟨9,_,_⟩,⟨4,_,_⟩]) (d6.mk (zk) (zk) rfl) ?_; refine Tr.drawR 21 [⟨2,_,_⟩,⟨9,_,_⟩] [⟨4,_,_⟩] rfl n8 (by kernel_rfl) (by kernel_rfl) (by kernel_rfl) _ rfl #[false,false,false,false,false,false,false,false,false,false,false,false,false,false,false,false,false,false,false,false,false] rfl fun f=>?_
    simp only[A2,List.map_cons,List.map_nil,List.cons_append,List.nil_append]
    refine f0.take 1 #[false,true,false,false,false,false,false,false,false,false,false,false,false,false,false,false,false,false,false,false,false] (by kernel_rfl) (by kernel_rfl) (by kernel_rfl) rfl rfl (CL rfl) rfl rfl ?_; refine f0.take 2 #[false,true,true,false,false,false,false,false,false,false,false,false,false,false,false,false,false,false,false,false,false] (by kernel_rfl) (by kernel_rfl) (by kernel_rfl) rfl rfl (EN rfl rfl) rfl rfl ?_; refine f0.take 3 #[false,true,true,true,false,false,false,false,false,false,false,false,false,false,false,false,false,false,false,false,false] (by kernel_rfl) (by kernel_rfl) (by kernel_rfl) rfl rfl (Q5 rfl) rfl rfl ?_
    refine f0.take 4 #[false,true,true,true,true,false,false,false,false,false,false,false,false,false,false,false,false,false,false,false,false] (by kernel_rfl) (by kernel_rfl) (by kernel_rfl) rfl rfl (ai4 rfl rfl zo) rfl rfl ?_; refine f0.take 6 #[false,true,true,true,true,false,true,false,false,false,false,false,false,false,false,false,false,false,false,false,false] (by kernel_rfl) (by kernel_rfl) (by kernel_rfl) rfl rfl (mR rfl) rfl rfl ?_; refine f0.take 7 #[false,true,true,true,true,false,true,true,false,false,false,false,false,false,false,false,false,false,false,false,false] (by kernel_rfl) (by kernel_rfl) (by kernel_rfl) rfl rfl (CL rfl) rfl rfl ?_
    refine f0.take 8 #[false,true,true,true,true,false,true,true,true,false,false,false,false,false,false,false,false,false,false,false,false] (by kernel_rfl) (by kernel_rfl) (by kernel_rfl) rfl rfl (EN rfl rfl) rfl rfl ?_; refine f0.take 9 #[false,true,true,true,true,false,true,true,true,true,false,false,false,false,false,false,false,false,false,false,false] (by kernel_rfl) (by kernel_rfl) (by kernel_rfl) rfl rfl (Q5 rfl) rfl rfl ?_; refine f0.take 10 #[false,true,true,true,true,false,true,true,true,true,true,false,false,false,false,false,false,false,false,false,false] (by kernel_rfl) (by kernel_rfl) (by kernel_rfl) rfl rfl (ai3 rfl rfl rfl zo) rfl rfl ?_
    refine f0.take 15 #[false,true,true,true,true,false,true,true,true,true,true,false,false,false,false,true,false,false,false,false,false] (by kernel_rfl) (by kernel_rfl) (by kernel_rfl) rfl rfl (CL rfl) rfl rfl ?_; refine f0.take 16 #[false,true,true,true,true,false,true,true,true,true,true,false,false,false,false,true,true,false,false,false,false] (by kernel_rfl) (by kernel_rfl) (by kernel_rfl) rfl rfl (EN rfl rfl) rfl rfl ?_; refine f0.take 17 #[false,true,true,true,true,false,true,true,true,true,true,false,false,false,false,true,true,true,false,false,false] (by kernel_rfl) (by kernel_rfl) (by kernel_rfl) rfl rfl (Q5 rfl) rfl rfl ?_
    refine f0.take 18 #[false,true,true,true,true,false,true,true,true,true,true,false,false,false,false,true,true,true,true,false,false] (by kernel_rfl) (by kernel_rfl) (by kernel_rfl) rfl rfl (YW rfl rfl zo) rfl rfl ?_; refine f0.take 19 #[false,true,true,true,true,false,true,true,true,true,true,false,false,false,false,true,true,true,true,true,false] (by kernel_rfl) (by kernel_rfl) (by kernel_rfl) rfl rfl (ai5 rfl rfl rfl zo) rfl rfl ?_; refine f0.all [0,11] (by kernel_rfl) (by simp) (fun i hi=>?_)
    simp only[List.mem_cons,List.not_mem_nil,or_false] at hi
    rcases hi with rfl | rfl
    ·refine ⟨_,rfl,?_⟩
     refine b8.new (Y5 j8 30) rfl rfl rfl rfl ?_; refine f0.k #[true,true,true,true,true,false,true,true,true,true,true,false,false,false,false,true,true,true,true,true,false] rfl (D9 (by intro e he; simp only[A2,List.map_cons,List.map_nil,List.mem_cons,List.not_mem_nil,or_false] at he; rcases he with rfl | rfl<;>simp)) ?_; refine f0.all [5,11] (by kernel_rfl) (by simp) (fun i hi=>?_)
     simp only[List.mem_cons,List.not_mem_nil,or_false] at hi
     rcases hi with rfl | rfl
     ·refine ⟨_,rfl,?_⟩
      refine b8.app rfl rfl rfl rfl rfl rfl rfl rfl zo zo ?_; refine jl ?_; refine f0.k #[true,true,true,true,true,true,true,true,true,true,true,false,false,false,false,true,true,true,true,true,false] rfl (D9 (by intro e he; simp only[A2,List.map_cons,List.map_nil,List.mem_cons,List.not_mem_nil,or_false] at he; rcases he with rfl | rfl<;>simp)) ?_; refine f0.one 11 (by kernel_rfl) rfl ?_; refine tO (R5 rfl uu rfl rfl) rfl rfl ?_; refine f0.k #[true,true,true,true,true,true,true,true,true,true,true,true,false,false,false,true,true,true,true,true,false] rfl (D9 (by intro e he; simp only[A2,List.map_cons,List.map_nil,List.mem_cons,List.not_mem_nil,or_false] at he; rcases he with rfl | rfl<;>simp)) ?_
      refine f0.one 12 (by kernel_rfl) rfl ?_; refine tO (i6 (fun hp=>LE x.1 (b6 (I1 x k) k) 250 hpo hs (by rw[QM zo]; exact (hx.num _ zo).mono zo) zo) (.se rfl uu rfl rfl<|.a rfl uu<|.nil)) rfl rfl ?_
      rw[hnk]
      refine f0.k #[true,true,true,true,true,true,true,true,true,true,true,true,true,false,false,true,true,true,true,true,false] rfl (D9 (by intro e he; simp only[A2,List.map_cons,List.map_nil,List.mem_cons,List.not_mem_nil,or_false] at he; rcases he with rfl | rfl<;>simp)) ?_; refine f0.one 13 (by kernel_rfl) rfl ?_; refine b8.new (w4 j8 43 (fun hp=>.cons rfl<|.nil) rfl rfl rfl rfl) rfl rfl rfl rfl ?_; refine f0.k #[true,true,true,true,true,true,true,true,true,true,true,true,true,true,false,true,true,true,true,true,false] rfl (D9 (by intro e he; simp only[A2,List.map_cons,List.map_nil,List.mem_cons,List.not_mem_nil,or_false] at he; rcases he with rfl | rfl<;>simp)) ?_
      refine f0.one 14 (by kernel_rfl) rfl ?_; refine b8.app rfl rfl rfl rfl rfl rfl rfl rfl (by show _+1<=_; omega) (by show (_+1)*_<=_; omega) ?_; refine jl ?_; refine f0.k #[true,true,true,true,true,true,true,true,true,true,true,true,true,true,true,true,true,true,true,true,false] rfl (D9 (by intro e he; simp only[A2,List.map_cons,List.map_nil,List.mem_cons,List.not_mem_nil,or_false] at he; rcases he with rfl | rfl<;>simp)) ?_; refine f0.one 20 (by kernel_rfl) rfl ?_; refine b8.app rfl rfl rfl rfl rfl rfl rfl rfl (by show _+1+_<=_; omega) (by show (_+1+_)*_<=_; omega) ?_
      refine jl ?_; refine f0.k #[true,true,true,true,true,true,true,true,true,true,true,true,true,true,true,true,true,true,true,true,true] rfl (D9 (by intro e he; simp only[A2,List.map_cons,List.map_nil,List.mem_cons,List.not_mem_nil,or_false] at he; rcases he with rfl | rfl<;>simp)) ?_; refine f0.doneR (by kernel_rfl) (.k<|.k<|.p<|.p<|.k<|.nil) rfl ?_; refine tO (N2 rfl uu) rfl rfl ?_; refine b8.stB rfl rfl rfl rfl ?_; refine b8.fin ?_; refine i4 ?_
      exact g6.cut (()) zi (d6.mk (zk) (.e (by rw[<- hql]) rfl<|.a hstp hql<|zk) rfl)
     ·refine ⟨_,rfl,?_⟩
      refine tO (R5 rfl uu rfl rfl) rfl rfl ?_; refine f0.k #[true,true,true,true,true,false,true,true,true,true,true,true,false,false,false,true,true,true,true,true,false] rfl (D9 (by intro e he; simp only[A2,List.map_cons,List.map_nil,List.mem_cons,List.not_mem_nil,or_false] at he; rcases he with rfl | rfl<;>simp)) ?_; refine f0.one 5 (by kernel_rfl) rfl ?_; refine b8.app rfl rfl rfl rfl rfl rfl rfl rfl zo zo ?_; refine jl ?_; refine f0.k #[true,true,true,true,true,true,true,true,true,true,true,true,false,false,false,true,true,true,true,true,false] rfl (D9 (by intro e he; simp only[A2,List.map_cons,List.map_nil,List.mem_cons,List.not_mem_nil,or_false] at he; rcases he with rfl | rfl<;>simp)) ?_
      refine f0.one 12 (by kernel_rfl) rfl ?_; refine tO (i6 (fun hp=>LE x.1 (b6 (I1 x k) k) 250 hpo hs (by rw[QM zo]; exact (hx.num _ zo).mono zo) zo) (.se rfl uu rfl rfl<|.a rfl uu<|.nil)) rfl rfl ?_
      rw[hnk]
      refine f0.k #[true,true,true,true,true,true,true,true,true,true,true,true,true,false,false,true,true,true,true,true,false] rfl (D9 (by intro e he; simp only[A2,List.map_cons,List.map_nil,List.mem_cons,List.not_mem_nil,or_false] at he; rcases he with rfl | rfl<;>simp)) ?_; refine f0.one 13 (by kernel_rfl) rfl ?_; refine b8.new (w4 j8 43 (fun hp=>.cons rfl<|.nil) rfl rfl rfl rfl) rfl rfl rfl rfl ?_; refine f0.k #[true,true,true,true,true,true,true,true,true,true,true,true,true,true,false,true,true,true,true,true,false] rfl (D9 (by intro e he; simp only[A2,List.map_cons,List.map_nil,List.mem_cons,List.not_mem_nil,or_false] at he; rcases he with rfl | rfl<;>simp)) ?_
      refine f0.one 14 (by kernel_rfl) rfl ?_; refine b8.app rfl rfl rfl rfl rfl rfl rfl rfl (by show _+1<=_; omega) (by show (_+1)*_<=_; omega) ?_; refine jl ?_; refine f0.k #[true,true,true,true,true,true,true,true,true,true,true,true,true,true,true,true,true,true,true,true,false] rfl (D9 (by intro e he; simp only[A2,List.map_cons,List.map_nil,List.mem_cons,List.not_mem_nil,or_false] at he; rcases he with rfl | rfl<;>simp)) ?_; refine f0.one 20 (by kernel_rfl) rfl ?_; refine b8.app rfl rfl rfl rfl rfl rfl rfl rfl (by show _+1+_<=_; omega) (by show (_+1+_)*_<=_; omega) ?_
      refine jl ?_; refine f0.k #[true,true,true,true,true,true,true,true,true,true,true,true,true,true,true,true,true,true,true,true,true] rfl (D9 (by intro e he; simp only[A2,List.map_cons,List.map_nil,List.mem_cons,List.not_mem_nil,or_false] at he; rcases he with rfl | rfl<;>simp)) ?_; refine f0.doneR (by kernel_rfl) (.k<|.k<|.p<|.p<|.k<|.nil) rfl ?_; refine tO (N2 rfl uu) rfl rfl ?_; refine b8.stB rfl rfl rfl rfl ?_; refine b8.fin ?_; refine i4 ?_
      exact g6.cut (()) zi (d6.mk (zk) (.e (by rw[<- hql]) rfl<|.a hstp hql<|zk) rfl)
    ·refine ⟨_,rfl,?_⟩
     refine tO (R5 rfl uu rfl rfl) rfl rfl ?_; refine f0.k #[false,true,true,true,true,false,true,true,true,true,true,true,false,false,false,true,true,true,true,true,false] rfl (D9 (by intro e he; simp only[A2,List.map_cons,List.map_nil,List.mem_cons,List.not_mem_nil,or_false] at he; rcases he with rfl | rfl<;>simp)) ?_; refine f0.one 0 (by kernel_rfl) rfl ?_; refine b8.new (Y5 j8 30) rfl rfl rfl rfl ?_; refine f0.k #[true,true,true,true,true,false,true,true,true,true,true,true,false,false,false,true,true,true,true,true,false] rfl (D9 (by intro e he; simp only[A2,List.map_cons,List.map_nil,List.mem_cons,List.not_mem_nil,or_false] at he; rcases he with rfl | rfl<;>simp)) ?_
     refine f0.one 5 (by kernel_rfl) rfl ?_; refine b8.app rfl rfl rfl rfl rfl rfl rfl rfl zo zo ?_; refine jl ?_; refine f0.k #[true,true,true,true,true,true,true,true,true,true,true,true,false,false,false,true,true,true,true,true,false] rfl (D9 (by intro e he; simp only[A2,List.map_cons,List.map_nil,List.mem_cons,List.not_mem_nil,or_false] at he; rcases he with rfl | rfl<;>simp)) ?_; refine f0.one 12 (by kernel_rfl) rfl ?_; refine tO (i6 (fun hp=>LE x.1 (b6 (I1 x k) k) 250 hpo hs (by rw[QM zo]; exact (hx.num _ zo).mono zo) zo) (.se rfl uu rfl rfl<|.a rfl uu<|.nil)) rfl rfl ?_
     rw[hnk]
     refine f0.k #[true,true,true,true,true,true,true,true,true,true,true,true,true,false,false,true,true,true,true,true,false] rfl (D9 (by intro e he; simp only[A2,List.map_cons,List.map_nil,List.mem_cons,List.not_mem_nil,or_false] at he; rcases he with rfl | rfl<;>simp)) ?_; refine f0.one 13 (by kernel_rfl) rfl ?_; refine b8.new (w4 j8 43 (fun hp=>.cons rfl<|.nil) rfl rfl rfl rfl) rfl rfl rfl rfl ?_; refine f0.k #[true,true,true,true,true,true,true,true,true,true,true,true,true,true,false,true,true,true,true,true,false] rfl (D9 (by intro e he; simp only[A2,List.map_cons,List.map_nil,List.mem_cons,List.not_mem_nil,or_false] at he; rcases he with rfl | rfl<;>simp)) ?_
     refine f0.one 14 (by kernel_rfl) rfl ?_; refine b8.app rfl rfl rfl rfl rfl rfl rfl rfl (by show _+1<=_; omega) (by show (_+1)*_<=_; omega) ?_; refine jl ?_; refine f0.k #[true,true,true,true,true,true,true,true,true,true,true,true,true,true,true,true,true,true,true,true,false] rfl (D9 (by intro e he; simp only[A2,List.map_cons,List.map_nil,List.mem_cons,List.not_mem_nil,or_false] at he; rcases he with rfl | rfl<;>simp)) ?_; refine f0.one 20 (by kernel_rfl) rfl ?_; refine b8.app rfl rfl rfl rfl rfl rfl rfl rfl (by show _+1+_<=_; omega) (by show (_+1+_)*_<=_; omega) ?_
     refine jl ?_; refine f0.k #[true,true,true,true,true,true,true,true,true,true,true,true,true,true,true,true,true,true,true,true,true] rfl (D9 (by intro e he; simp only[A2,List.map_cons,List.map_nil,List.mem_cons,List.not_mem_nil,or_false] at he; rcases he with rfl | rfl<;>simp)) ?_; refine f0.doneR (by kernel_rfl) (.k<|.k<|.p<|.p<|.k<|.nil) rfl ?_; refine tO (N2 rfl uu) rfl rfl ?_; refine b8.stB rfl rfl rfl rfl ?_; refine b8.fin ?_; refine i4 ?_
     exact g6.cut (()) zi (d6.mk (zk) (.e (by rw[<- hql]) rfl<|.a hstp hql<|zk) rfl)
   ·intro _ hM
    refine jn ?_; refine Tr.frzC 30 2 (by simp only[p6]; omega) rfl rfl ?_; refine jn ?_; refine l8 ?_
    exact g6.lp (k+1) zi zo (d6.mk (.i rfl zi<|zk) (zk) rfl)
  ·intro h4
   replace h4:=Int.not_lt.1 h4
   refine g8 ?_
   exact g6.cut (k) zo (d6.mk (.i rfl zi<|zk) (zk) rfl)
 ·rintro k hkn
  refine je ?_
  rw[hkn,xC]
  refine u9 ?_; refine Tr.grow (s:=11) rfl rfl 111 rfl 3 eI rfl ?_
  refine Tr.for1 (σ:=Nat) [⟨1,true,_,_⟩,⟨2,true,_,_⟩,⟨4,true,_,_⟩] [] (fun k=>[⟨8,true,[],b7 (eL (eL eI)) (B9 (oX x) (j4 n (w5 x)) k)⟩,⟨11,true,[111],o5 111 k⟩,⟨12,true,[],kI (k:Int)⟩]) (fun k=>[⟨2,[],j5 [b7 (eL eI) x.1.1,kI x.1.2.1,kI x.1.2.2.1,kI x.1.2.2.2,b7 (eL eI) (r5 x k).1.1,b7 (eL eI) (r5 x k).1.2,b7 (eL j8) ((r5 x k).2.map l5)]⟩,⟨4,[],j5 [i9 (.slice none 0 0),kI 0,kI 0,kI 0,i9 (.slice none 0 0),i9 (.slice none 0 0),i9 (.slice none 0 0)]⟩,⟨111,[],l3 true 3 eI (j4 k (w5 x)) k⟩]) (fun k=>k<=n/\∀i,i<k->G4 x i≠0) (fun k=>k=n/\∀i,i<n->G4 x i≠0) (fun k=>n-k) (0) ⟨by omega,fun i h=>absurd h (Nat.not_lt_zero _)⟩ (d6.mk (.r rfl (by rfl)<|.o rfl zi rfl<|.i rfl zi<|zk) (.e (by rfl) rfl<|.k rfl<|.a (by rfl) zi<|.nil) rfl) ?_ ?_
  ·rintro k ⟨hk,hR⟩
   refine jn ?_
   obtain ⟨hst,hik⟩:=MO (sg:=r8 x) (hx.st hlo) hlo hir k
   have hnn:(r5 x k).1.1.length=x.2.1.length:=hst.nn
   have hln:(r5 x k).2.length=x.2.1.length:=hst.len
   have hnb:∀a,a<x.2.1.length->E7 200 (b6 (r5 x k).2 a):=fun a ha=>hst.nbd hlo (by omega:k<=16) ha
   have hly:p7 ((x.1,(r5 x k).1.1,(r5 x k).1.2,(r5 x k).2.map l5):o0)=(r5 x k).2:=af9 (fun a ha=>hst.red a (by have:a<(r5 x k).2.length:=ha; omega))
   have hsp:=bZ ((x.1,(r5 x k).1.1,(r5 x k).1.2,(r5 x k).2.map l5):o0) h0 hst.rows hik (by show ((r5 x k).2.map l5).length=(r5 x k).1.1.length; rw[List.length_map]; omega) (xG (fun a ha=>(X8 (hnb a (by have:a<(r5 x k).2.length:=ha; omega))).mono zo))
   rw[hly] at hsp
   have hfp:w6 (oX x) (j4 n (w5 x)) k=(r5 x k).1:=dZ zo
   have hlw:(0<=y9 (r5 x k).1 (w5 x k)/\y9 (r5 x k).1 (w5 x k)<(r5 x k).1.1.length)/\(0<=y6 (r5 x k).1 (w5 x k)/\y6 (r5 x k).1 (w5 x k)<(r5 x k).1.1.length):=GW hst.rows (w5 x k)
   have hwl:(y6 (r5 x k).1 (w5 x k)).toNat≠(y9 (r5 x k).1 (w5 x k)).toNat:=fR hst.rows hik (w5 x k)
   have hmz:AI x.2.1.length 1125899906842624 (B9 (oX x) (j4 n (w5 x)) k):=(PN hx.rows hir k).mono (Nat.le_trans (Nat.pow_le_pow_right zo (show k<=50 by omega)) (by decide))
   refine j3 ?_; refine jq ?_ ?_
   ·intro h9
    refine g9 ?_; refine Tr.meet2 (σ:=Unit) [⟨1,true,_,_⟩,⟨2,true,_,_⟩,⟨4,true,_,_⟩,⟨12,true,_,_⟩] [] (zk) (.nil) (fun _=>[⟨8,true,[],b7 (eL (eL eI)) (B9 (oX x) (j4 n (w5 x)) (k+1))⟩,⟨11,true,[111],o5 111 (k+1)⟩]) (fun _=>[⟨2,[],j5 [b7 (eL eI) x.1.1,kI x.1.2.1,kI x.1.2.2.1,kI x.1.2.2.2,b7 (eL eI) (r5 x (k+1)).1.1,b7 (eL eI) (r5 x (k+1)).1.2,b7 (eL j8) ((r5 x (k+1)).2.map l5)]⟩,⟨4,[],j5 [i9 (.slice none 0 0),kI 0,kI 0,kI 0,i9 (.slice none 0 0),i9 (.slice none 0 0),i9 (.slice none 0 0)]⟩,⟨111,[],l3 true 3 eI (j4 (k+1) (w5 x)) (k+1)⟩]) (fun _=>¬G4 x k=0) ?_ ?_
    ·skip
     refine g9 ?_
     by_cases hz:G4 x k=0
     ·rw[show H9 (r8 x) (r5 x k).1 (r5 x k).2=G4 x k from rfl,if_pos hz,if_pos hz] at hsp
      have hsp2:Ct Tryz.prog 49 [b7 eX ((x.1,(r5 x k).1.1,(r5 x k).1.2,(r5 x k).2.map l5):o0)] (z9 [b7 eX zX,kI (-1)]):=hsp
      have ht:=lF (n:=n) zo hz
      refine i4 ?_
      have hnk:b6 (j4 n (w5 x)) k=w5 x k:=q9 zo
      have heq:=dY hx.rows hir (ks:=(j4 n (w5 x))) (i:=k)
      rw[hfp,hnk,show (oX x).1.length=(r5 x k).1.1.length from hnn.symm] at heq
      refine i4 ?_; refine jc hsp2 ?_; refine i7 ?_; refine ja 13 ?_; refine y7 ?_; refine jq ?_ ?_
      ·intro h12
       refine g9 ?_; refine tO (A1 (fun hp=>.nil)) rfl rfl ?_; refine C7 ?_; exact d9.resC (fn:=Tryz.f50) (ts:=[5,6,7]) rfl rfl rfl (t7 rfl (by rw[if_pos ht])) (.n rfl (by rw[if_pos ht])<|.n rfl (by rw[if_pos ht])<|.b rfl (by rw[ht]; rfl)<|.nil)
      ·intro h12
       replace h12:=Int.not_lt.1 h12
       exact absurd h12 (by decide)
     ·rw[show H9 (r8 x) (r5 x k).1 (r5 x k).2=G4 x k from rfl,if_neg hz,if_neg hz] at hsp
      have hsp2:Ct Tryz.prog 49 [b7 eX ((x.1,(r5 x k).1.1,(r5 x k).1.2,(r5 x k).2.map l5):o0)] (z9 [b7 eX ((x.1,(r5 x (k+1)).1.1,(r5 x (k+1)).1.2,(r5 x (k+1)).2.map l5):o0),kI (w5 x k)]):=hsp
      refine i4 ?_
      have hnk:b6 (j4 n (w5 x)) k=w5 x k:=q9 zo
      have heq:=dY hx.rows hir (ks:=(j4 n (w5 x))) (i:=k)
      rw[hfp,hnk,show (oX x).1.length=(r5 x k).1.1.length from hnn.symm] at heq
      refine i4 ?_; refine jc hsp2 ?_; refine i7 ?_; refine ja 13 ?_; refine y7 ?_; refine jq ?_ ?_
      ·intro h12
       have hp01:w5 x k=0\/w5 x k=1:=XD
       exfalso; omega
      ·intro h12
       replace h12:=Int.not_lt.1 h12
       refine l8 ?_; refine jc (LF ((x.1,(r5 x k).1.1,(r5 x k).1.2,(r5 x k).2.map l5):o0)) ?_; refine i4 ?_; refine jc (bV (r5 x k).1 (w5 x k) hst.rows hik) ?_; refine i7 ?_; refine ja 15 ?_; refine g8 ?_; refine Tr.ent (S':=[⟨1,true,_,_⟩,⟨2,true,_,_⟩,⟨4,true,_,_⟩,⟨8,true,_,_⟩,⟨11,true,_,_⟩,⟨12,true,_,_⟩,⟨52,true,_,_⟩,⟨53,true,_,_⟩,⟨54,true,_,_⟩,⟨58,true,_,_⟩,⟨59,true,_,_⟩,⟨57,true,_,_⟩,⟨60,true,_,_⟩,⟨61,true,_,_⟩,⟨13,true,_,_⟩,⟨14,true,_,_⟩,⟨62,true,_,_⟩,⟨63,true,_,_⟩,⟨66,true,_,_⟩,⟨67,true,_,_⟩,⟨68,true,_,_⟩,⟨69,true,_,_⟩,⟨65,true,_,_⟩,⟨70,true,_,_⟩,⟨71,true,_,_⟩,⟨15,true,_,_⟩,⟨16,true,_,_⟩]) (M':=[⟨13,_,_⟩,⟨2,_,_⟩,⟨4,_,_⟩,⟨111,_,_⟩,⟨15,_,_⟩]) (d6.mk (zk) (zk) rfl) ?_
       refine Tr.drawR 8 [⟨13,_,_⟩] [⟨2,_,_⟩,⟨4,_,_⟩,⟨111,_,_⟩,⟨15,_,_⟩] rfl n8 (by kernel_rfl) (by kernel_rfl) (by kernel_rfl) _ rfl #[false,false,false,false,false,false,false,false] rfl fun f=>?_
       simp only[A2,List.map_cons,List.map_nil,List.cons_append,List.nil_append]
       refine f0.take 0 #[true,false,false,false,false,false,false,false] (by kernel_rfl) (by kernel_rfl) (by kernel_rfl) rfl rfl (mR rfl) rfl rfl ?_; refine f0.take 1 #[true,true,false,false,false,false,false,false] (by kernel_rfl) (by kernel_rfl) (by kernel_rfl) rfl rfl (Q5 rfl) rfl rfl ?_; refine f0.take 2 #[true,true,true,false,false,false,false,false] (by kernel_rfl) (by kernel_rfl) (by kernel_rfl) rfl rfl (Q5 rfl) rfl rfl ?_; refine f0.take 4 #[true,true,true,false,true,false,false,false] (by kernel_rfl) (by kernel_rfl) (by kernel_rfl) rfl rfl (Q5 rfl) rfl rfl ?_
       refine f0.take 5 #[true,true,true,false,true,true,false,false] (by kernel_rfl) (by kernel_rfl) (by kernel_rfl) rfl rfl (Q5 rfl) rfl rfl ?_; refine f0.all [3,6] (by kernel_rfl) (by simp) (fun i hi=>?_)
       simp only[List.mem_cons,List.not_mem_nil,or_false] at hi
       rcases hi with rfl | rfl
       ·refine ⟨_,rfl,?_⟩
        refine jc (cB (B9 (oX x) (j4 n (w5 x)) k) (I9 (r5 x k).1.1.length (y6 (r5 x k).1 (w5 x k)).toNat (y9 (r5 x k).1 (w5 x k)).toNat) x.2.1.length 1125899906842624 hmz (by rw[hnn]; exact FF zo zo hwl) zo zo zo) ?_
        rw[heq]
        refine f0.k #[true,true,true,true,true,true,false,false] rfl (D9 (by intro e he; simp only[A2,List.map_cons,List.map_nil,List.mem_cons,List.not_mem_nil,or_false] at he; rcases he with rfl<;>simp)) ?_; refine f0.one 6 (by kernel_rfl) rfl ?_; refine b8.new (w4 eI 78 (fun hp=>.cons rfl<|.nil) rfl rfl rfl rfl) rfl rfl rfl rfl ?_; refine f0.k #[true,true,true,true,true,true,true,false] rfl (D9 (by intro e he; simp only[A2,List.map_cons,List.map_nil,List.mem_cons,List.not_mem_nil,or_false] at he; rcases he with rfl<;>simp)) ?_
        refine f0.one 7 (by kernel_rfl) rfl ?_
        refine b8.app rfl rfl rfl rfl rfl rfl rfl rfl (by first | omega | (simp only[List.length_cons,List.length_nil]; omega)) (by first | omega | (simp only[List.length_cons,List.length_nil]; omega)) ?_
        refine jl ?_; refine f0.k #[true,true,true,true,true,true,true,true] rfl (D9 (by intro e he; simp only[A2,List.map_cons,List.map_nil,List.mem_cons,List.not_mem_nil,or_false] at he; rcases he with rfl<;>simp)) ?_; refine f0.doneR (by kernel_rfl) (.k<|.p<|.k<|.k<|.k<|.k<|.nil) rfl ?_; refine b8.stB rfl rfl rfl rfl ?_; refine mw rfl rfl rfl ?_; refine mw rfl rfl rfl ?_; refine b8.fin ?_; refine i4 ?_
        exact g6.cut (()) zi (d6.mk (zk) (.e (by rfl) rfl<|.k rfl<|.a F0.symm zi<|.nil) rfl)
       ·refine ⟨_,rfl,?_⟩
        refine b8.new (w4 eI 78 (fun hp=>.cons rfl<|.nil) rfl rfl rfl rfl) rfl rfl rfl rfl ?_; refine f0.k #[true,true,true,false,true,true,true,false] rfl (D9 (by intro e he; simp only[A2,List.map_cons,List.map_nil,List.mem_cons,List.not_mem_nil,or_false] at he; rcases he with rfl<;>simp)) ?_; refine f0.one 3 (by kernel_rfl) rfl ?_; refine jc (cB (B9 (oX x) (j4 n (w5 x)) k) (I9 (r5 x k).1.1.length (y6 (r5 x k).1 (w5 x k)).toNat (y9 (r5 x k).1 (w5 x k)).toNat) x.2.1.length 1125899906842624 hmz (by rw[hnn]; exact FF zo zo hwl) zo zo zo) ?_
        rw[heq]
        refine f0.k #[true,true,true,true,true,true,true,false] rfl (D9 (by intro e he; simp only[A2,List.map_cons,List.map_nil,List.mem_cons,List.not_mem_nil,or_false] at he; rcases he with rfl<;>simp)) ?_; refine f0.one 7 (by kernel_rfl) rfl ?_
        refine b8.app rfl rfl rfl rfl rfl rfl rfl rfl (by first | omega | (simp only[List.length_cons,List.length_nil]; omega)) (by first | omega | (simp only[List.length_cons,List.length_nil]; omega)) ?_
        refine jl ?_; refine f0.k #[true,true,true,true,true,true,true,true] rfl (D9 (by intro e he; simp only[A2,List.map_cons,List.map_nil,List.mem_cons,List.not_mem_nil,or_false] at he; rcases he with rfl<;>simp)) ?_; refine f0.doneR (by kernel_rfl) (.k<|.p<|.k<|.k<|.k<|.k<|.nil) rfl ?_; refine b8.stB rfl rfl rfl rfl ?_; refine mw rfl rfl rfl ?_; refine mw rfl rfl rfl ?_; refine b8.fin ?_; refine i4 ?_
        exact g6.cut (()) zi (d6.mk (zk) (.e (by rfl) rfl<|.k rfl<|.a F0.symm zi<|.nil) rfl)
    ·intro _ hz
     refine jn ?_; refine l8 ?_
     exact g6.lp (k+1) ⟨by omega,fun i hi=>by by_cases e:i=k; (rw[e]; exact hz); exact hR i zo⟩ zo (d6.mk (.k rfl rfl<|.k rfl rfl<|.i rfl zi<|zk) (zk) rfl)
   ·intro h9
    replace h9:=Int.not_lt.1 h9
    refine g8 ?_
    exact g6.cut (k) ⟨by omega,fun i hi=>hR i zo⟩ (d6.mk (.r rfl zi<|.o rfl zi rfl<|.i rfl zi<|zk) (zk) rfl)
  ·rintro k ⟨hkn,hE⟩
   refine je ?_
   have ht:=ag0 hE
   rw[hkn]
   refine u9 ?_; refine Tr.frz 111 [5] ⟨rfl,trivial⟩ (by simp only[p6]; omega) rfl ?_; refine i4 ?_; exact d9.resC (fn:=Tryz.f50) (ts:=[5,6,7]) rfl rfl rfl (t7 rfl (by rw[if_neg (by rw[ht]; decide)]; rfl)) (.r rfl (by rw[if_neg (by rw[ht]; decide)])<|.r rfl (by rw[if_neg (by rw[ht]; decide)])<|.b rfl (by rw[ht]; rfl)<|.nil)

end Go.Fl

/- Contracts: the law of steps. -/
namespace Go.Fl
open Go Go.Proofs
open b8 renaming op->tO
open j1 renaming op->rO
set_option maxRecDepth 100000

theorem zD {x:o0} (h:K1 x=0) (hsm:U3 x):Q7 x/\B3 (oX x)=true:=by
 unfold K1 at h
 by_cases c:E9 x=0
 ·rw[if_neg (fun a=>a c)] at h
  exact ⟨aE c hsm,(uT h).2⟩
 ·rw[if_pos c] at h; exact absurd h c
theorem XE {x:o0} {n:Int} (h:C0 x n≠0):Y8 x n=zX/\W8 x n=[]/\CB x n=[]:=by unfold Y8 W8 CB; rw[if_pos h,if_pos h,if_pos h]; exact ⟨rfl,rfl,rfl⟩
theorem yF {x:o0} {n:Int} (h:C0 x n=0):Y8 x n=DG x n.toNat/\W8 x n=j4 n.toNat (w5 x)/\CB x n=B9 (oX x) (j4 n.toNat (w5 x)) n.toNat:=by
 unfold Y8 W8 CB; rw[if_neg (fun a=>a h),if_neg (fun a=>a h),if_neg (fun a=>a h)]; exact ⟨rfl,rfl,rfl⟩
theorem kD {x:o0} (h:C0 x 1≠0):Z3 x=zX/\Z2 x=0:=by unfold Z3 Z2; rw[if_pos h,if_pos h]; exact ⟨rfl,rfl⟩
theorem ab1 {x:o0} (h:C0 x 1=0):Z3 x=DG x 1/\Z2 x=w5 x 0:=by unfold Z3 Z2; rw[if_neg (fun a=>a h),if_neg (fun a=>a h)]; exact ⟨rfl,rfl⟩
theorem yC {x:o0} {n:Int} (h:K1 x≠0):C0 x n=K1 x:=by unfold C0; rw[if_pos h]
theorem yD {x:o0} {n:Int} (h:K1 x=0) (hn:¬(0<=n/\n<=60)):C0 x n=2:=by unfold C0; rw[if_neg (fun a=>a h),if_neg hn]
theorem iJ {x:o0} {n:Int} (h:K1 x=0) (hn:0<=n/\n<=60):C0 x n=if M4 x n.toNat=true then 14 else 0:=by unfold C0; rw[if_neg (fun a=>a h),if_pos hn]
theorem lD {x:o0}:M4 x 1=decide (G4 x 0=0):=by show (false||decide (G4 x 0=0))=_; rw[Bool.false_or]
theorem ae2 {x:o0} (h:K1 x=0):(G4 x 0=0/\C0 x 1=14/\Z3 x=zX/\Z2 x=0)\/(¬G4 x 0=0/\C0 x 1=0/\Z3 x=DG x 1/\Z2 x=w5 x 0/\(w5 x 0=0\/w5 x 0=1)):=by
 have e:C0 x 1=if M4 x 1=true then 14 else 0:=iJ h zo
 by_cases hz:G4 x 0=0
 ·rw[if_pos (by rw[lD,decide_eq_true_eq]; exact hz)] at e
  have:=kD (x:=x) (by rw[e]; decide)
  exact .inl ⟨hz,e,this.1,this.2⟩
 ·rw[if_neg (by rw[lD,decide_eq_true_eq]; exact hz)] at e
  have:=ab1 e
  exact .inr ⟨hz,e,this.1,this.2,XD⟩
theorem rN (x:o0) (hsm:U3 x):Ct Tryz.prog 48 [b7 eX x] (kI (K1 x)):=by
 refine Ct.mk Tryz.func48 rfl Tryz.ntmps48 rfl (fun w J=>?_); refine g9 ?_; refine jb 1 rfl ?_; refine l8 ?_; refine Tr.frzB 1 [1] eX (x:=x) ⟨rfl,trivial⟩ rfl ?_; refine jn ?_; refine g9 ?_; refine jc (rV x hsm) ?_; refine m8 ?_; refine jq ?_ ?_
 ·intro h2
  have hr:K1 x=E9 x:=by unfold K1; rw[if_pos h2]
  refine j3 ?_; exact d9.res1 (fn:=Tryz.f48) rfl (.i rfl hr.symm<|.nil)
 ·intro h2
  replace h2:=Classical.not_not.1 h2
  have hr:K1 x=G7 (oX x):=by unfold K1; rw[if_neg (fun a=>a h2)]
  refine l8 ?_; refine jc (LF x) ?_; refine jc (qY (oX x)) ?_; refine g8 ?_; exact d9.res1 (fn:=Tryz.f48) rfl (.i rfl hr.symm<|.nil)

set_option maxHeartbeats 2000000 in
theorem pA (x:o0) (n:Int) (hxn:∀a,BC (b6 x.2.2.2 a)) (hnr:-9223372036854775808<=n/\n<=9223372036854775807):Ct Tryz.prog 8 [b7 eX x,kI n] (kB true):=by
 refine Ct.mk Tryz.func8 rfl Tryz.ntmps8 rfl (fun w J=>?_); refine g9 ?_; refine jb 2 rfl ?_; refine l8 ?_; refine Tr.frzB 2 [2] eX (x:=x) ⟨rfl,trivial⟩ rfl ?_; refine jn ?_; refine i4 ?_; refine jc qO ?_; refine i7 ?_; refine Tr.cnd rfl ?_ ?_
 ·intro h1
  exact absurd h1 (by decide)
 ·intro h1
  refine l6 ?_; refine jc (sK x) ?_; refine j6 ?_; refine b8.gd rfl rfl rfl (MJ rfl id rfl (fun hp h=>LP (id hp) h)) rfl rfl ?_; refine i7 ?_; refine Tr.cnd rfl ?_ ?_
  ·intro h3
   refine j6 ?_
   exact d9.res1 (fn:=Tryz.f8) rfl (.b rfl zi<|.nil)
  ·intro h3
   have hs3:DI x=true/\¬(15<n/\n<=60):=by simp at h3; exact ⟨h3.1,by omega⟩
   have hsm:=ad6 hs3.1 hxn
   have hnn:n<=16\/60<n:=by omega
   refine l8 ?_; refine jc (cO x hsm) ?_; refine g8 ?_; refine ja 5 ?_; refine m8 ?_; refine jc (bN x n hsm hnr hnn) ?_; refine l8 ?_; refine ja 8 ?_; refine u5 ?_; refine jc (rN x hsm) ?_; refine m8 ?_; refine jq ?_ ?_
   ·intro h8
    have e1:∀m,C0 x m=K1 x:=fun m=>yC h8
    have hb1:=kD (x:=x) (by rw[e1]; exact h8)
    have hb2:=XE (x:=x) (n:=n) (by rw[e1]; exact h8)
    refine u9 ?_; refine b8.gd rfl rfl rfl (i6 (fun hp=>LJ _) (.s rfl id rfl<|.nil)) rfl rfl ?_; refine j6 ?_; refine b8.gd rfl rfl rfl (i6 (fun hp=>LJ _) (.s rfl id rfl<|.nil)) rfl rfl ?_; refine S6 ?_; exact d9.res1 (fn:=Tryz.f8) rfl (.b rfl (by rw[e1,e1,hb1.1,hb1.2,hb2.1,hb2.2.1,hb2.2.2]; simp[exB,FI])<|.nil)
   ·intro h8
    replace h8:=Classical.not_not.1 h8
    have h8z:K1 x=0:=by omega
    obtain ⟨hx,hir⟩:=zD h8z hsm
    obtain ⟨D,M,hlo⟩:=hx.d0 hsm
    have hstp:Ct Tryz.prog 49 [b7 eX x] (z9 [b7 eX (if G4 x 0=0 then zX else DG x 1),kI (if G4 x 0=0 then -1 else w5 x 0)]):=bZ x hx.fld hx.rows hir hx.len (fun a=>(hsm.num a).mono zo)
    have hs1:(G4 x 0=0/\C0 x 1=14/\Z3 x=zX/\Z2 x=0)\/(¬G4 x 0=0/\C0 x 1=0/\Z3 x=DG x 1/\Z2 x=w5 x 0/\(w5 x 0=0\/w5 x 0=1)):=ae2 h8z
    refine l8 ?_; refine jc hstp ?_; refine i7 ?_; refine ja 13 ?_; refine C7 ?_; refine b8.gd rfl rfl rfl (i6 (fun hp=>LJ _) (.s rfl id rfl<|.nil)) rfl rfl ?_; refine i4 ?_; refine b8.gd rfl rfl rfl (HH rfl id rfl (fun hp h=>GS (id hp) h)) rfl rfl ?_; refine i7 ?_; refine b8.gd rfl rfl rfl (HH rfl id rfl (fun hp h=>GS (id hp) h)) rfl rfl ?_; refine y7 ?_; refine b8.gd rfl rfl rfl (HH rfl id rfl (fun hp h=>GS (id hp) h)) rfl rfl ?_; refine i7 ?_; refine b8.gd rfl rfl rfl (i6 (fun hp=>TW _ _) (.s rfl id rfl<|.s rfl id rfl<|.nil)) rfl rfl ?_
    refine i4 ?_; refine b8.gd rfl rfl rfl (HH rfl id rfl (fun hp h=>GS (id hp) h)) rfl rfl ?_; refine b8.gd rfl rfl rfl (MJ rfl id rfl (fun hp h=>LP (id hp) h)) rfl rfl ?_; refine i7 ?_; refine Tr.cnd rfl ?_ ?_
    ·intro h11
     try simp only[decide_eq_true_eq,Bool.and_eq_true,Bool.or_eq_true,Bool.not_eq_true',ne_eq] at h11
     exfalso
     rcases hs1 with ⟨hz,e,y,q⟩ | ⟨hz,e,y,q,p⟩
     ·rw[y,q,e,if_pos hz] at h11; simp[exB,FI] at h11
     ·rw[y,q,e,if_neg hz,if_neg hz] at h11; rcases h11 with ⟨h,_⟩ | ⟨_,h⟩; (omega); (simp[exB,FI] at h)
    ·intro h11
     try simp only[decide_eq_true_eq,decide_eq_false_iff_not,Bool.not_eq_false',Bool.and_eq_false_imp,Bool.or_eq_false_iff,ne_eq,Classical.not_not] at h11
     refine l6 ?_; refine jc (pF n 0 60) ?_; refine i7 ?_; refine Tr.cnd rfl ?_ ?_
     ·intro h13
      have e2:C0 x n=2:=yD h8z (by simp at h13; omega)
      have hb2:=XE (x:=x) (n:=n) (by rw[e2]; decide)
      refine l6 ?_; refine b8.gd rfl rfl rfl (i6 (fun hp=>LJ _) (.s rfl id rfl<|.nil)) rfl rfl ?_; refine S6 ?_; exact d9.res1 (fn:=Tryz.f8) rfl (.b rfl (by rw[e2,hb2.1,hb2.2.1,hb2.2.2]; simp[exB,FI])<|.nil)
     ·intro h13
      have hrn:0<=n/\n<=60:=by simp at h13; omega
      have hpth:=rF x D M n.toNat hx hlo hir zo
      rw[show ((n.toNat:Nat):Int)=n by omega] at hpth
      have e3:=iJ h8z hrn
      refine l6 ?_; refine jc hpth ?_; refine l8 ?_; refine ja 15 ?_; refine D2 ?_; refine Tr.cnd rfl ?_ ?_
      ·intro h16
       have ht:M4 x n.toNat=true:=by simpa using h16
       rw[if_pos ht] at e3
       have hb2:=XE (x:=x) (n:=n) (by rw[e3]; decide)
       refine l6 ?_; refine b8.gd rfl rfl rfl (i6 (fun hp=>LJ _) (.s rfl id rfl<|.nil)) rfl rfl ?_; refine S6 ?_; exact d9.res1 (fn:=Tryz.f8) rfl (.b rfl (by rw[e3,hb2.1,hb2.2.1,hb2.2.2]; simp[exB,FI])<|.nil)
      ·intro h16
       have ht:M4 x n.toNat=false:=by simpa using h16
       rw[if_neg (by rw[ht]; decide)] at e3
       have hb2:=yF e3
       refine m8 ?_; refine b8.gd rfl rfl rfl (i6 (fun hp=>TW _ _) (.s rfl id rfl<|.s rfl id rfl<|.nil)) rfl rfl ?_; refine g8 ?_; refine b8.gd rfl rfl rfl (i6 (fun hp=>FD _ _) (.a rfl id<|.a rfl id<|.nil)) rfl rfl ?_; refine g8 ?_; refine b8.gd rfl rfl rfl (i6 (fun hp=>aS _ _) (.a rfl id<|.a rfl id<|.nil)) rfl rfl ?_; refine l8 ?_; exact d9.res1 (fn:=Tryz.f8) rfl (.b rfl (by rw[e3,hb2.1,hb2.2.1,hb2.2.2,ht]; simp[exB,FI])<|.nil)

end Go.Fl
