/- Laws on walking typed knowledge through code, and contracts. -/
import Derived.Test.YthfaleobmefibaaGreatM4
import Derived.Ground.Names2Prog
import Derived.Shelf.Spec.SlicesInsert
import Derived.Shelf.Spec.SlicesInsertGrow
import Derived.Test.YthfaleobmefibaaGreatProg

/- Contracts: derivatives and remainders of polynomials. -/
namespace Go.Fl
open Go Go.Proofs
open d5 renaming op->tO
open i6 renaming op->rO
set_option maxRecDepth 100000

theorem qF {p:List Int} {k:Nat} (h1:1<=k) (hk:k<p.length):(J8 p).take (k-1)++[b6 p k*(k:Int)]=(J8 p).take k:=by
 obtain ⟨j,rfl⟩:∃j,k=j+1:=⟨k-1,by omega⟩
 rw[Nat.add_sub_cancel,Y1 (xs:=J8 p) (by rw[W6]; omega),TN zo]
 congr 3
def H1 (q ys:List Int) (m k:Nat):List Int:=n6 ys.length fun i=>if i<k then b6 (N8 q (ys.take m)) i else b6 ys i
theorem MG {q ys:List Int} {m k:Nat}:(H1 q ys m k).length=ys.length:=t7
theorem kV {q ys:List Int} {m:Nat}:ys=H1 q ys m 0:=by
 conv=>lhs; rw[V2 (rfl:ys.length=ys.length)]
 exact z8 fun i _=>(if_neg (Nat.not_lt_zero _)).symm
theorem kT {q ys:List Int} {m k:Nat} (hk:k<ys.length):b6 (H1 q ys m k) k=b6 ys k:=by unfold H1; rw[s8 hk,if_neg (Nat.lt_irrefl _)]
theorem YH {q ys:List Int} {m k:Nat} {x:Int} (hx:x=b6 (N8 q (ys.take m)) k):(H1 q ys m k).set k x=H1 q ys m (k+1):=by
 subst hx
 unfold H1
 rw[GJ]
 refine z8 fun i _=>?_
 by_cases e:i=k
 ·subst e; rw[if_pos rfl,if_pos zo]
 ·rw[if_neg e]
  by_cases h:i<k
  ·rw[if_pos h,if_pos zo]
  ·rw[if_neg h,if_neg zo]
theorem kU {q ys:List Int} {m k:Nat} {x y:Int} (hx:x=b6 (N8 q (ys.take m)) k):((H1 q ys m k).set k y).set k x=H1 q ys m (k+1):=by
 rw[List.set_set]; exact YH hx
theorem GZ {q ys:List Int} {m:Nat} (hm:m<=ys.length):(H1 q ys m m).take m=N8 q (ys.take m):=by
 have hl:(ys.take m).length=m:=by rw[List.length_take]; omega
 have h1:((H1 q ys m m).take m).length=m:=by rw[List.length_take,MG]; omega
 refine H2 (by rw[h1,JR,hl]) fun i hi=>?_
 rw[h1] at hi
 rw[K9 hi]
 unfold H1
 rw[s8 zo,if_pos hi]
theorem YJ {q ys:List Int} {m k:Nat} (hm:m<=ys.length) (hk:k<m):b6 (N8 q (ys.take m)) k=b6 ys k*(b6 q (q.length-1)*b6 q (q.length-1))+(if m-q.length<=k then -(b6 ys (m-1)*b6 q (q.length-1)*b6 q (k-(m-q.length))) else 0):=by
 have hl:(ys.take m).length=m:=by rw[List.length_take]; omega
 unfold N8
 rw[hl,s8 hk,K9 hk,K9 (show m-1<m by omega)]
theorem kZ {q ys:List Int} {m:Nat} (hm:m<=ys.length):(H1 q ys m m).take (l7 ((H1 q ys m m).take m)).length=M5 q (ys.take m):=by
 rw[GZ hm]
 have h1:(l7 (N8 q (ys.take m))).length<=m:=by
  have:=T1 (xs:=N8 q (ys.take m))
  rw[JR,List.length_take] at this
  omega
 have h2:=JB (xs:=N8 q (ys.take m))
 rw[<- GZ hm,List.take_take,Nat.min_eq_left (by rw[GZ hm]; exact h1),GZ hm] at h2
 exact h2
theorem pS {ys:List Int} {m j:Nat} (hm:m<=ys.length) (hj:j<=m) (hR:∀i,j<=i->i<m->b6 ys i=0) (hnz:¬(0<j/\b6 ys (j-1)=0)):(l7 (ys.take m)).length=j:=by
 have hlm:(ys.take m).length=m:=by rw[List.length_take]; omega
 have:=EV (xs:=ys.take m) (m:=j) zo (fun i h1 h2=>by rw[K9 zo]; exact hR i h1 zo) (by
  by_cases e:j=0
  ·exact .inl e
  ·exact .inr (by rw[K9 zo]; exact fun e2=>hnz ⟨by omega,e2⟩))
 rw[this,List.length_take,List.length_take]; omega
theorem kY {p q ys:List Int} {m A B:Nat} (hq1:1<=q.length) (hyl:ys.length=p.length) (hm:m<=p.length) (hqm:q.length<=m) (hag:G2 q m (ys.take m)=G2 q p.length p) (hyb:∀i,i<m->dl (b6 ys i)<=A+(p.length-m)*(2*B+1)) (hB:∀i,dl (b6 q i)<=B) :
  (H1 q ys m m).length=p.length/\(M5 q (ys.take m)).length<=p.length/\G2 q (M5 q (ys.take m)).length ((H1 q ys m m).take (M5 q (ys.take m)).length)=G2 q p.length p/\∀i,i<(M5 q (ys.take m)).length->dl (b6 (H1 q ys m m) i)<=A+(p.length-(M5 q (ys.take m)).length)*(2*B+1):=by
 have htl:(ys.take m).length=m:=by rw[List.length_take]; omega
 have h1:=HA hq1 (r:=ys.take m) zo
 have h2:=kZ (q:=q) (ys:=ys) (m:=m) zo
 rw[GZ zo] at h2
 have h2':(H1 q ys m m).take (M5 q (ys.take m)).length=M5 q (ys.take m):=h2
 refine ⟨by rw[MG,hyl],by omega,?_,fun i hi=>?_⟩
 ·rw[h2',<- hag]
  have:=kS hq1 (r:=ys.take m) zo
  rw[htl] at this
  exact this.symm
 ·have e:b6 (H1 q ys m m) i=b6 (N8 q (ys.take m)) i:=by unfold H1; rw[s8 zo,if_pos zo]
  rw[e]
  have q1:=YI (q:=q) (r:=ys.take m) (X:=A+(p.length-m)*(2*B+1)) (fun j=>by
   by_cases hj:j<m
   ·rw[K9 hj]; exact hyb j hj
   ·rw[z6 (by rw[htl]; omega)]; show dl 0<=_; rw[F5.2 rfl]; omega) hB i
  have q2:=Nat.mul_le_mul_right (2*B+1) (show p.length-m+1<=p.length-(M5 q (ys.take m)).length by omega)
  rw[Nat.succ_mul] at q2
  omega
def X3 (ys:List Int) (k:Nat):List Int:=n6 ys.length fun i=>if i<k then -b6 ys i else b6 ys i
theorem uA {ys:List Int}:ys=X3 ys 0:=by
 conv=>lhs; rw[V2 (rfl:ys.length=ys.length)]
 exact z8 fun i _=>(if_neg (Nat.not_lt_zero _)).symm
theorem tX {ys:List Int} {k:Nat} (hk:k<ys.length):b6 (X3 ys k) k=b6 ys k:=by unfold X3; rw[s8 hk,if_neg (Nat.lt_irrefl _)]
theorem tY {ys:List Int} {k:Nat} (hk:k<ys.length):(X3 ys k).set k (-b6 (X3 ys k) k)=X3 ys (k+1):=by
 rw[tX hk]
 unfold X3
 rw[GJ]
 refine z8 fun i _=>?_
 by_cases e:i=k
 ·subst e; rw[if_pos rfl,if_pos zo]
 ·rw[if_neg e]
  by_cases h:i<k
  ·rw[if_pos h,if_pos zo]
  ·rw[if_neg h,if_neg zo]
theorem tZ {ys:List Int} {m:Nat} (hm:m<=ys.length):(X3 ys m).take m=(ys.take m).map fun z=>-z:=by
 have hl:(ys.take m).length=m:=by rw[List.length_take]; omega
 have h1:((X3 ys m).take m).length=m:=by rw[List.length_take]; unfold X3; rw[t7]; omega
 refine H2 (by rw[h1,List.length_map,hl]) fun i hi=>?_
 rw[h1] at hi
 rw[K9 hi,K8,K9 hi]
 unfold X3
 rw[s8 zo,if_pos hi]
theorem nQ (p:List Int) (h2:2<=p.length) (h5:p.length<=5) (hd:∀i,dl (b6 p i)<=1):Ct Tryz.prog 221 [b7 (eL eZ) p] (b7 (eL eZ) (J8 p)):=by
 refine Ct.mk Tryz.func221 rfl Tryz.ntmps221 rfl (fun w J=>?_); refine HQ ?_; refine Tr.grow (s:=3) rfl rfl 33 rfl 160 eZ rfl ?_
 refine Tr.for1 (σ:=Nat) [⟨6,true,_,_⟩,⟨7,true,_,_⟩] [] (fun k=>[⟨3,true,[33],q8 33 (k-1)⟩,⟨8,true,[],kI (k:Int)⟩]) (fun k=>[⟨33,[],m9 true 160 eZ ((J8 p).take (k-1)) (k-1)⟩]) (fun k=>k<=p.length) (fun k=>k=p.length) (fun k=>p.length-k) (0) zi (d7.mk (.o rfl zi rfl<|.i rfl zi<|zk) (.a (by rfl) zi<|.nil) rfl) ?_ ?_
 ·intro k hR0
  refine jn ?_
  have hdk:=hd k
  refine n7 ?_; refine jq ?_ ?_
  ·intro h3
   refine o9 ?_; refine ja 5 ?_; refine v6 ?_; refine jq ?_ ?_
   ·intro h5
    refine Tr.draw 6 q9 (by kernel_rfl) ?_; refine j9 ?_; refine jd (O0 (k:Int) zo) ?_; refine jd (J7 (b6 p k) (k:Int) zo (by have:=I4 (F:=(k:Int)) zo zo; omega)) ?_; refine i6.new (D5 eZ 20 (fun hp=>.cons rfl<|.nil) rfl rfl rfl rfl) rfl rfl rfl rfl ?_; refine i2 ?_; refine jl ?_; refine l6 ?_
    exact g8.lp (k+1) zi zo (d7.mk (.o rfl (by simp only[List.length_cons,List.length_nil]; omega) rfl<|.i rfl zi<|zk) (.a (by rw[qF zo zo,Nat.add_sub_cancel]) (by simp only[List.length_cons,List.length_nil]; omega)<|.nil) rfl)
   ·intro h5
    replace h5:=Int.not_lt.1 h5
    refine l5 ?_
    exact g8.lp (k+1) zi zo (d7.mk (.o rfl zo rfl<|.i rfl zi<|zk) (.a (by rw[show k=0 by omega]) zo<|.nil) rfl)
  ·intro h3
   replace h3:=Int.not_lt.1 h3
   refine i4 ?_
   exact g8.cut (k) zo (d7.mk (.o rfl zi rfl<|.i rfl zi<|zk) (zk) rfl)
 ·rintro k hkn
  refine je ?_
  have htk:(J8 p).take (k-1)=J8 p:=List.take_of_length_le (by rw[W6]; omega)
  refine l5 ?_; refine Tr.frz 33 [2] ⟨rfl,trivial⟩ (by simp only[t6]; omega) rfl ?_; refine i9 ?_; exact d9.res1 (fn:=Tryz.f221) rfl (.r rfl (by rw[htk])<|.nil)

theorem nP (ys:List Int) (m L:Nat) (hl:ys.length=L) (hm:m<=L) (hL:L<=1000000):JF Tryz.prog 228 [B7 0 2 0 m] (m9 false 160 eZ ys L) (m9 false 160 eZ ys L) (B7 0 2 0 (l7 (ys.take m)).length):=by
 refine JF.mk Tryz.func228 rfl Tryz.ntmps228 rfl rfl (fun w J bb cap=>?_); refine jn ?_; refine o0 ?_
 refine Tr.for (σ:=Nat) [⟨522,true,_,_⟩] [⟨0,_,_⟩] (fun j=>[⟨0,true,[0],B7 0 2 0 j⟩]) (fun j=>[]) (fun j=>j<=m/\∀i,j<=i->i<m->b6 ys i=0) (fun j=>(l7 (ys.take m)).length=j) (fun j=>j) (m) ⟨Nat.le_refl _,fun i h1 h2=>by omega⟩ (d7.mk (.q rfl zi zi rfl<|zk) (zk) rfl) ?_ ?_
 ·rintro j ⟨hj,hR⟩
  refine jn ?_; refine i4 ?_; refine tO (DE rfl uu) rfl rfl ?_; refine i4 ?_; refine d5.gd rfl rfl rfl (DE rfl id) rfl rfl ?_; refine d5.gd rfl rfl rfl (BB rfl id rfl uu (fun hp=>by simp at hp; omega)) rfl rfl ?_; refine d5.gd rfl rfl rfl (EM L rfl id rfl id (fun hp=>by simp at hp; omega)) rfl rfl ?_; refine d5.gd rfl rfl rfl (CG rfl id rfl rfl rfl rfl) rfl rfl ?_; refine d5.gd rfl rfl rfl (j7 (fun hp=>AO (b6 ys (0+((j:Int)-1).toNat))) (.a rfl id<|.nil)) rfl rfl ?_; refine i4 ?_; refine Tr.cnd rfl ?_ ?_
  ·intro h1
   try simp only[decide_eq_true_eq,Bool.and_eq_true] at h1
   have hz:0<j/\b6 ys (j-1)=0:=⟨by omega,by have:=W0.1 h1.2; rwa [show 0+((j:Int)-1).toNat=j-1 by omega] at this⟩
   refine n7 ?_; refine tO (DE rfl uu) rfl rfl ?_; refine i9 ?_; refine tO (vC rfl uu rfl uu (fun _=>zo)) rfl rfl ?_; refine j9 ?_; exact g8.lp (j-1) ⟨by omega,fun i h1 h2=>by by_cases e:i=j-1; (rw[e]; exact hz.2); exact hR i zo h2⟩ zo (d7.mk (.q rfl rfl zo rfl<|zk) (zk) rfl)
  ·intro h1
   try simp only[decide_eq_true_eq,decide_eq_false_iff_not,Bool.and_eq_false_imp] at h1
   have hnz:¬(0<j/\b6 ys (j-1)=0):=fun ⟨q1,q2⟩=>h1 zo (W0.2 (by rw[show 0+((j:Int)-1).toNat=j-1 by omega]; exact q2))
   refine i4 ?_
   exact g8.cut (j) (pS zo hj hR hnz) (d7.mk (.q rfl zi zi rfl<|zk) (zk) rfl)
 ·intro j hE
  refine jn ?_; refine l5 ?_; exact d9.loanR (fn:=Tryz.f228) (s:=522) (t:=2) rfl rfl rfl (fun _ _ h=>SF rfl h) (fun _ _ hm h=>fM hm ((by rw[hE]; exact h)))

theorem mX (p:List Int) (hn:p.length<=1000000):R5 Tryz.prog 227 [b7 (eL eZ) p] (fun t=>q8 t p.length) (m9 false 160 eZ p p.length):=by
 refine R5.mk Tryz.func227 rfl Tryz.ntmps227 rfl (fun w J=>?_); refine o9 ?_; refine tO (LB rfl uu) rfl rfl ?_; refine i2 ?_; refine Tr.exB (s:=4) rfl (fun b1 q1=>?_); refine Tr.cnd rfl ?_ ?_
 ·intro h1
  have he1:[]=p:=(q1 h1).symm
  have he2:0=p.length:=by rw[<- he1]; rfl
  refine o0 ?_; refine Tr.grow (s:=2) rfl rfl 9 rfl 160 eZ rfl ?_; refine i2 ?_
  exact d9.resN (fn:=Tryz.f227) (u:=9) rfl rfl (FK zi zi) (FY zi) inferInstance
 ·intro h1
  refine i4 ?_; refine d5.new (FU eZ 5) rfl rfl rfl rfl ?_; refine i2 ?_; refine jl ?_; refine i4 ?_
  exact d9.resN (fn:=Tryz.f227) (u:=5) rfl rfl (FK zi zi) (FY zi) inferInstance

set_option maxHeartbeats 2000000 in
theorem nN (p q:List Int) (A B:Nat) (hp1:1<=p.length) (h5:p.length<=5) (hq1:1<=q.length) (hq5:q.length<=5) (hA:∀i,dl (b6 p i)<=A) (hB:∀i,dl (b6 q i)<=B) (hA2:A<=10000) (hB2:B<=10000):Ct Tryz.prog 222 [b7 (eL eZ) p,b7 (eL eZ) q] (b7 (eL eZ) (against p q)):=by
 have hqt:((q.length:Int)-1).toNat=q.length-1:=by omega
 have hBt:=hB (q.length-1)
 have hBt2:=w8 (b6 q (q.length-1)) (b6 q (q.length-1))
 refine Ct.mk Tryz.func222 rfl Tryz.ntmps222 rfl (fun w J=>?_); refine l6 ?_; refine d5.new (DD 13 (fun hp=>mX _ zo) (.a rfl uu<|.nil)) rfl rfl rfl rfl ?_; refine v6 ?_
 rw[hqt]
 refine i9 ?_; refine ja 6 ?_; refine l5 ?_; refine jc (J7 (b6 q (q.length-1)) (b6 q (q.length-1)) zo zo) ?_; refine ja 7 ?_; refine j9 ?_; refine Tr.osq 5 2 rfl zo ?_
 refine Tr.for (σ:=List Int×Nat) [⟨1,true,_,_⟩,⟨6,true,_,_⟩,⟨7,true,_,_⟩] [⟨6,_,_⟩,⟨7,_,_⟩] (fun (ys,m)=>[⟨5,true,[13],B7 13 2 0 m⟩]) (fun (ys,m)=>[⟨13,[],m9 false 160 eZ ys p.length⟩]) (fun (ys,m)=>ys.length=p.length/\m<=p.length/\G2 q m (ys.take m)=G2 q p.length p/\∀i,i<m->dl (b6 ys i)<=A+(p.length-m)*(2*B+1)) (fun (ys,m)=>ys.length=p.length/\m<=p.length/\ys.take m=G2 q p.length p) (fun (ys,m)=>m) ((p,p.length)) ⟨rfl,Nat.le_refl _,by rw[List.take_length],fun i _=>by have:=hA i; omega⟩ (d7.mk (.q rfl zi zi rfl<|zk) (zk) rfl) ?_ ?_
 ·rintro ⟨ys,m⟩ ⟨hyl,hm,hag,hyb⟩
  refine jn ?_
  have htl:(ys.take m).length=m:=by rw[List.length_take]; omega
  have hmB:(p.length-m)*(2*B+1)<=5*20001:=Nat.mul_le_mul zo zo
  refine i4 ?_; refine tO (DE rfl uu) rfl rfl ?_; refine o0 ?_; refine jq ?_ ?_
  ·intro h4
   refine i4 ?_; refine Tr.draw 9 q9 (by kernel_rfl) ?_; refine i2 ?_; refine rO (DE rfl uu) rfl rfl ?_; refine i9 ?_; refine rO (EM p.length rfl uu rfl uu (fun _=>zo)) rfl rfl ?_; refine rO (CG rfl uu rfl rfl rfl rfl) rfl rfl ?_; refine i9 ?_; refine jd (J7 (b6 ys (0+((m:Int)-1).toNat)) (b6 q (q.length-1)) (by have h:=hyb (m-1) zo; rw[show 0+((m:Int)-1).toNat=m-1 by omega]; omega) zo) ?_; refine i6.new (IA 8) rfl rfl rfl rfl ?_; refine l5 ?_; refine tO (DE rfl uu) rfl rfl ?_; refine v6 ?_
   refine tO (DE rfl uu) rfl rfl ?_; refine j9 ?_
   refine Tr.for1 (σ:=Nat) [⟨1,true,_,_⟩,⟨5,true,_,_⟩,⟨6,true,_,_⟩,⟨7,true,_,_⟩,⟨8,true,_,_⟩,⟨9,true,_,_⟩,⟨42,true,_,_⟩] [⟨6,_,_⟩,⟨7,_,_⟩,⟨8,_,_⟩] (fun k=>[⟨43,true,[],kI (k:Int)⟩]) (fun k=>[⟨13,[],m9 false 160 eZ (H1 q ys m k) p.length⟩]) (fun k=>k<=m) (fun k=>k=m) (fun k=>m-k) (0) zi (d7.mk (.i rfl zi<|zk) (.a kV zi<|zk) rfl) ?_ ?_
   ·intro k hR1
    refine jn ?_
    have hyk:=fun (h:k<m)=>hyb k h
    have hat:=fun (h:k<ys.length)=>kT (q:=q) (ys:=ys) (m:=m) h
    have hst:=fun (h:k<m) (x:Int)=>(show b6 ((H1 q ys m k).set k x) k=x by rw[L3 (by rw[MG]; omega),if_pos rfl])
    refine n7 ?_; refine jq ?_ ?_
    ·intro h8
     refine C6 ?_; refine Tr.draw 8 q9 (by kernel_rfl) ?_; refine i4 ?_; refine rO (EM p.length rfl uu rfl uu (fun _=>zo)) rfl rfl ?_; refine rO (CG rfl uu rfl rfl rfl rfl) rfl rfl ?_; refine i9 ?_; refine jd (J7 (b6 (H1 q ys m k) (0+(k:Int).toNat)) ((b6 q (q.length-1))*(b6 q (q.length-1))) (by rw[show 0+(k:Int).toNat=k by omega,hat zo]; have:=hyk zo; omega) zo) ?_; refine i9 ?_; refine tO (EM p.length rfl uu rfl uu (fun _=>zo)) rfl rfl ?_; refine v6 ?_; refine jq ?_ ?_
     ·intro h11
      refine Tr.draw 16 q9 (by kernel_rfl) ?_; refine i4 ?_; refine rO (EM p.length rfl uu rfl uu (fun _=>zo)) rfl rfl ?_; refine rO (CG rfl uu rfl rfl rfl rfl) rfl rfl ?_; refine l5 ?_; refine rO (j7 (fun hp=>J7 (b6 ys (0+((m:Int)-1).toNat)*(b6 q (q.length-1))) (b6 q ((k:Int)-((m:Int)-(q.length:Int))).toNat) (by have h:=hyb (m-1) zo; rw[show 0+((m:Int)-1).toNat=m-1 by omega]; have h2:=w8 (b6 ys (m-1)) (b6 q (q.length-1)); omega) (Nat.le_trans (hB _) zo)) (.se rfl uu rfl rfl<|.a rfl uu<|.nil)) rfl rfl ?_
      refine jd (CS (b6 ys (0+((m:Int)-1).toNat)*(b6 q (q.length-1))*b6 q ((k:Int)-((m:Int)-(q.length:Int))).toNat)) ?_; refine rO (j7 (fun hp=>T7 _ _ (by rw[show 0+(k:Int).toNat=k by omega,hst zo,hat zo]; have:=hyk zo; have h2:=w8 (b6 ys k) (b6 q (q.length-1)*b6 q (q.length-1)); omega) (by rw[K6,show 0+((m:Int)-1).toNat=m-1 by omega]; have h:=hyb (m-1) zo; have h2:=w8 (b6 ys (m-1)) (b6 q (q.length-1)); have h3:=w8 (b6 ys (m-1)*b6 q (q.length-1)) (b6 q ((k:Int)-((m:Int)-(q.length:Int))).toNat); have h4:=hB ((k:Int)-((m:Int)-(q.length:Int))).toNat; omega)) (.a rfl uu<|.a rfl uu<|.nil)) rfl rfl ?_
      refine i9 ?_; refine tO (EM p.length rfl uu rfl uu (fun _=>zo)) rfl rfl ?_; refine l6 ?_
      exact g8.lp (k+1) zi zo (d7.mk (.i rfl zi<|zk) (.a (by rw[show 0+(k:Int).toNat=k by omega,hst zo,hat zo,show 0+((m:Int)-1).toNat=m-1 by omega,show ((k:Int)-((m:Int)-(q.length:Int))).toNat=k-(m-q.length) by omega]; exact kU (by rw[YJ zo zo,if_pos zo])) zi<|zk) rfl)
     ·intro h11
      replace h11:=Int.not_le.1 h11
      refine l5 ?_
      exact g8.lp (k+1) zi zo (d7.mk (.i rfl zi<|zk) (.a (by rw[show 0+(k:Int).toNat=k by omega,hat zo]; exact YH (by rw[YJ zo zo,if_neg zo,Int.add_zero])) zi<|zk) rfl)
    ·intro h8
     replace h8:=Int.not_lt.1 h8
     refine i4 ?_
     exact g8.cut (k) zo (d7.mk (.i rfl zi<|zk) (zk) rfl)
   ·rintro k hkm
    refine je ?_; refine j9 ?_; refine d5.loanR (u:=13) (nP (H1 q ys m m) m p.length (by rw[MG]; omega) zo zo) (.a rfl<|.nil) zo (by rw[hkm]) rfl ?_; refine j9 ?_; exact g8.lp ((H1 q ys m m,(M5 q (ys.take m)).length)) (kY hq1 hyl hm zo hag hyb hB) (by have:=HA hq1 (r:=ys.take m) zo; show (M5 q (ys.take m)).length<m; omega) (d7.mk (.q rfl rfl (by rw[GZ zo]; rfl) rfl<|zk) (zk) rfl)
  ·intro h4
   replace h4:=Int.not_le.1 h4
   refine i4 ?_
   exact g8.cut ((ys,m)) ⟨hyl,hm,by rw[<- hag]; have:=kR (q:=q) (r:=ys.take m) zo; rw[htl] at this; exact this.symm⟩ (d7.mk (.q rfl zi zi rfl<|zk) (zk) rfl)
 ·rintro ⟨ys,m⟩ ⟨hyl,hm,hag⟩
  refine jn ?_
  have htl:(ys.take m).length=m:=by rw[List.length_take]; omega
  refine i4 ?_; refine tO (DE rfl uu) rfl rfl ?_; refine j9 ?_
  refine Tr.for1 (σ:=Nat) [⟨5,true,_,_⟩,⟨79,true,_,_⟩] [] (fun k=>[⟨80,true,[],kI (k:Int)⟩]) (fun k=>[⟨13,[],m9 false 160 eZ (X3 ys k) p.length⟩]) (fun k=>k<=m) (fun k=>k=m) (fun k=>m-k) (0) zi (d7.mk (.i rfl zi<|zk) (.a uA zi<|.nil) rfl) ?_ ?_
  ·intro k hR2
   refine jn ?_; refine n7 ?_; refine jq ?_ ?_
   ·intro h16
    refine O3 ?_; refine tO (EM p.length rfl uu rfl uu (fun _=>zo)) rfl rfl ?_; refine tO (CG rfl uu rfl rfl rfl rfl) rfl rfl ?_; refine jc (CS (b6 (X3 ys k) (0+(k:Int).toNat))) ?_; refine tO (EM p.length rfl uu rfl uu (fun _=>zo)) rfl rfl ?_; refine l6 ?_
    exact g8.lp (k+1) zi zo (d7.mk (.i rfl zi<|zk) (.a (by rw[show 0+(k:Int).toNat=k by omega]; exact tY zo) zi<|.nil) rfl)
   ·intro h16
    replace h16:=Int.not_lt.1 h16
    refine i4 ?_
    exact g8.cut (k) zo (d7.mk (.i rfl zi<|zk) (zk) rfl)
  ·rintro k hkm2
   refine je ?_; refine i4 ?_; refine d5.frzQ 13 [92] ⟨rfl,trivial⟩ ⟨by omega,by simp only[t6]; omega⟩ rfl ?_; refine jl ?_; refine i4 ?_; exact d9.res1 (fn:=Tryz.f222) rfl (.r rfl (by unfold against; rw[<- hag,hkm2,tZ zo])<|.nil)

end Go.Fl

/- Contracts: roots between two fractions, fields. -/
namespace Go.Fl
open Go Go.Proofs
open d5 renaming op->tO
open i6 renaming op->rO
set_option maxRecDepth 100000

def DF (f:y8):Bool:=if f.1.length=2 then decide (f.2.1<=-b6 f.1 0*f.2.2.2/\-b6 f.1 0*f.2.2.2<=f.2.2.1) else decide (((G5 (R1 f.1 f.2.1 f.2.2.2)).1:Int)-(G5 (R1 f.1 f.2.2.1 f.2.2.2)).1=1)
noncomputable def E1 (f:y8):Int :=
 if ¬(2<=f.1.length/\f.1.length<=5) then 10
 else if f.1.any FZ=true then 2
 else if ¬((1<=f.2.2.2/\f.2.2.2<=1000000)/\(-1000000<=f.2.1/\f.2.1<=1000000)/\(-1000000<=f.2.2.1/\f.2.2.1<=1000000)) then 2
 else if b6 f.1 (f.1.length-1)≠1\/DJ f.1=true then 3
 else if f.2.1>f.2.2.1 then 9
 else if DF f=false then 11 else 0
theorem lQ (l:List Int) (h:∀s∈l,-1<=s/\s<=1):-1<=(G5 l).2/\(G5 l).2<=1:=by
 have key:∀(l:List Int) (st:Nat×Int),(∀s∈l,-1<=s/\s<=1)->(-1<=st.2/\st.2<=1)->-1<=(l.foldl B0 st).2/\(l.foldl B0 st).2<=1:=by
  intro l
  induction l with
  | nil=>intro st _ h; exact h
  | cons s l ih =>
   intro st h1 h2
   rw[List.foldl_cons]
   refine ih _ (fun x hx=>h1 x (List.mem_cons_of_mem _ hx)) ?_
   have:=h1 s List.mem_cons_self
   unfold B0; simp only; split<;>assumption
 exact key l (0,0) h (by decide)
theorem tP {s l:Int} (h1:-1<=s/\s<=1) (h2:-1<=l/\l<=1):-1<=s*l/\s*l<=1:=by
 rcases (show s=-1\/s=0\/s=1 by omega) with rfl | rfl | rfl<;>omega
theorem fN {p:List Int} (h:p.any FZ≠true) (i:Nat):(b6 p i).natAbs<=1000:=by
 by_cases hi:i<p.length
 ·have:=List.any_eq_false.1 (by simpa using h) (b6 p i) (F7 hi)
  unfold FZ at this
  simp at this
  omega
 ·rw[z6 zo]; show (0:Int).natAbs<=_; omega
theorem VX {α:Type} [Inhabited α] {xs:List α} {i k:Nat} (h:i<k):b6 (xs.take k) i=b6 xs i:=by simp[b6,List.getD,h]
theorem aW (a d:Int) (ch:List (List Int)) (ha:-1000000<=a/\a<=1000000) (hd:1<=d/\d<=1000000) (hl:ch.length<=5) (hc:∀j,j<ch.length->(b6 ch j).length<=5/\∀i,dl (b6 (b6 ch j) i)<=1681):Ct Tryz.prog 223 [kI a,r5 (eL (eL eZ)) ch,r5 eI d] (kI ((G5 (ch.map fun q=>y6 (E7 a d q).1)).1:Int)):=by
 obtain ⟨sl,hsl⟩:∃sl,sl=(ch.map fun q=>y6 (E7 a d q).1):=⟨_,rfl⟩
 have hll:sl.length=ch.length:=by rw[hsl,List.length_map]
 have hsn:∀j,j<ch.length->b6 sl j=y6 (E7 a d (b6 ch j)).1:=fun j hj=>by rw[hsl]; simp[b6,hj]
 have hsb:∀s∈sl,-1<=s/\s<=1:=fun s hs=>by rw[hsl] at hs; obtain ⟨q,_,rfl⟩:=List.mem_map.1 hs; exact QH _
 have hcle:=fun k=>YZ (l:=sl.take k)
 have htk:∀k,(sl.take k).length<=5:=fun k=>by rw[List.length_take]; omega
 rw[<- hsl]
 have had:=I4 (F:=d) zo zo
 have haa:dl a<=1:=U0 (by simp[BP]; omega)
 refine Ct.mk Tryz.func223 rfl Tryz.ntmps223 rfl (fun w J=>?_); refine US ?_
 refine Tr.for1 (σ:=Nat) [⟨0,true,_,_⟩,⟨2,true,_,_⟩,⟨10,true,_,_⟩,⟨11,true,_,_⟩] [] (fun k=>[⟨5,true,[],kI ((G5 (sl.take k)).1:Int)⟩,⟨6,true,[],kI (G5 (sl.take k)).2⟩,⟨12,true,[],kI (k:Int)⟩]) (fun k=>[]) (fun k=>k<=ch.length) (fun k=>k=ch.length) (fun k=>ch.length-k) (0) zi (d7.mk (.i rfl (by rfl)<|.i rfl (by rfl)<|.i rfl zi<|zk) (.nil) rfl) ?_ ?_
 ·intro k hR0
  refine jn ?_
  have hck:=fun (h:k<ch.length)=>hc k h
  have hcs:=fun (h:k<ch.length)=>lR (l:=sl) (k:=k) zo
  have hsk:=fun (h:k<ch.length)=>hsn k h
  have hb1:=QH (E7 a d (b6 ch k)).1
  have hb2:=lQ (sl.take k) (fun s hs=>hsb s (List.mem_of_mem_take hs))
  have hb3:=tP hb1 hb2
  have hb4:=hcle k
  have hb5:=htk k
  refine n7 ?_; refine jq ?_ ?_
  ·intro h3
   refine z5 ?_; refine Tr.draw 5 q9 (by kernel_rfl) ?_
   replace hck:=hck zo
   refine i2 ?_; refine jd (O0 a zo) ?_; refine i9 ?_; refine jd (O0 d zo) ?_; refine i9 ?_; refine jc (TD (b6 ch k) a d 1 1681 zo hck.2 haa had zo zo) ?_; refine z5 ?_; refine jq ?_ ?_
   ·intro h6
    refine z5 ?_; refine jq ?_ ?_
    ·intro h8
     refine v6 ?_
     exact g8.lp (k+1) zi zo (d7.mk (.i rfl (by rw[hcs zo,hsk zo]; unfold B0; simp only; split<;>omega)<|.i rfl (by rw[hcs zo,hsk zo]; unfold B0; simp only; split<;>omega)<|.i rfl zi<|zk) (.nil) rfl)
    ·intro h8
     replace h8:=Classical.not_not.1 h8
     refine l5 ?_
     exact g8.lp (k+1) zi zo (d7.mk (.i rfl (by rw[hcs zo,hsk zo]; unfold B0; simp only; split<;>omega)<|.i rfl (by rw[hcs zo,hsk zo]; unfold B0; simp only; split<;>omega)<|.i rfl zi<|zk) (.nil) rfl)
   ·intro h6
    replace h6:=Int.not_lt.1 h6
    refine l6 ?_; refine jq ?_ ?_
    ·intro h8
     refine v6 ?_
     exact g8.lp (k+1) zi zo (d7.mk (.i rfl (by rw[hcs zo,hsk zo]; unfold B0; simp only; split<;>omega)<|.i rfl (by rw[hcs zo,hsk zo]; unfold B0; simp only; split<;>omega)<|.i rfl zi<|zk) (.nil) rfl)
    ·intro h8
     replace h8:=Classical.not_not.1 h8
     refine l5 ?_
     exact g8.lp (k+1) zi zo (d7.mk (.i rfl (by rw[hcs zo,hsk zo]; unfold B0; simp only; split<;>omega)<|.i rfl (by rw[hcs zo,hsk zo]; unfold B0; simp only; split<;>omega)<|.i rfl zi<|zk) (.nil) rfl)
  ·intro h3
   replace h3:=Int.not_lt.1 h3
   refine i4 ?_
   exact g8.cut (k) zo (d7.mk (.i rfl zi<|.i rfl zi<|.i rfl zi<|zk) (.nil) rfl)
 ·rintro k hkn
  refine je ?_
  have htl:sl.take k=sl:=List.take_of_length_le zo
  refine l6 ?_; exact d9.res1 (fn:=Tryz.f223) rfl (.i rfl (by rw[htl])<|.nil)

set_option maxHeartbeats 1000000 in
theorem nV (p:List Int) (lo hi d:Int) (h3':3<=p.length) (h5':p.length<=5) (h1':b6 p (p.length-1)=1) (hs:∀i,(b6 p i).natAbs<=1000) (hlo:-1000000<=lo/\lo<=1000000) (hhi:-1000000<=hi/\hi<=1000000) (hd:1<=d/\d<=1000000):Ct Tryz.prog 213 [b7 (eL eZ) p,kI lo,kI hi,kI d] (kI (((G5 (R1 p lo d)).1:Int)-(G5 (R1 p hi d)).1)):=by
 have hdd:=(bU h3' h5' h1' hs).1
 have hL5:=lM h3' h5' h1' hs
 have hel:=fun (j:Nat) (hj:j<(B6 p).length)=>YW h3' h5' h1' hs hj
 have hne:=fun (j:Nat) (hj:j<(B6 p).length)=>List.length_pos_iff.2 (YX h3' h5' h1' hj)
 have hL2:2<=(B6 p).length:=by unfold B6; simp
 have hcl:∀a:Int,(G5 (R1 p a d)).1<=5:=fun a=>by have:=YZ (l:=R1 p a d); unfold R1 at this ⊢; rw[List.length_map] at this; omega
 have hc1:(G5 ((B6 p).map fun q=>y6 (E7 lo d q).1)).1<=5:=hcl lo
 have hc2:(G5 ((B6 p).map fun q=>y6 (E7 hi d q).1)).1<=5:=hcl hi
 refine Ct.mk Tryz.func213 rfl Tryz.ntmps213 rfl (fun w J=>?_); refine i2 ?_; refine jb 7 rfl ?_; refine l5 ?_; refine jc (nQ p zo h5' hdd) ?_; refine d5.new (D5 (eL eZ) 15 (fun hp=>.cons rfl<|.cons rfl<|.nil) rfl rfl rfl rfl) rfl rfl rfl rfl ?_; refine ja 9 ?_; refine j9 ?_
 refine Tr.for (σ:=Nat) [⟨1,true,_,_⟩,⟨2,true,_,_⟩,⟨7,true,_,_⟩,⟨9,true,_,_⟩] [⟨7,_,_⟩] (fun m=>[]) (fun m=>[⟨9,[15],j3 [q8 15 m]⟩,⟨15,[],m9 false 193 (eL eZ) ((B6 p).take m) m⟩]) (fun m=>2<=m/\m<=(B6 p).length) (fun m=>m=(B6 p).length) (fun m=>(B6 p).length-m) (2) ⟨Nat.le_refl _,hL2⟩ (d7.mk (zk) (.k rfl<|.a (by rfl) zi<|zk) rfl) ?_ ?_
 ·intro m hR0
  refine jn ?_
  have hX:b6 ((B6 p).take m) ((m:Int)-2).toNat=b6 (B6 p) (m-2):=by rw[show ((m:Int)-2).toNat=m-2 by omega]; exact VX zo
  have hY:b6 ((B6 p).take m) ((m:Int)-1).toNat=b6 (B6 p) (m-1):=by rw[show ((m:Int)-1).toNat=m-1 by omega]; exact VX zo
  refine i2 ?_; refine Tr.draw 12 q9 (by kernel_rfl) ?_; refine i2 ?_; refine rO (Z9 rfl uu) rfl rfl ?_; refine j9 ?_
  rw[hX]
  refine i2 ?_; refine rO (Z9 rfl uu) rfl rfl ?_; refine j9 ?_
  rw[hY]
  refine i9 ?_; refine tO (j7 (fun hp=>nN (b6 (B6 p) (m-2)) (b6 (B6 p) (m-1)) 1681 1681 (hne _ zo) (by have:=(hel (m-2) zo).2.1; omega) (hne _ zo) (by have:=(hel (m-1) zo).2.1; omega) (hel _ zo).2.2 (hel _ zo).2.2 zo zo) (.a rfl uu<|.a rfl uu<|.nil)) rfl rfl ?_; refine C6 ?_; refine jq ?_ ?_
  ·intro h3
   have B1:m=(B6 p).length:=Classical.byContradiction fun e=>by have hq:=SJ h3' h5' h1' hR0.1 hR0.2; rw[if_pos zo] at hq; have:=List.length_pos_iff.2 (hq.2 zo); rw[<- hq.1] at this; omega
   refine o0 ?_; exact g8.cut (m) B1 (d7.mk (zk) (zk) rfl)
  ·intro h3
   have hq:=SJ h3' h5' h1' hR0.1 hR0.2
   have B1:m<(B6 p).length:=Classical.byContradiction fun e=>by rw[if_neg e] at hq; rw[hq.1] at h3; exact h3 rfl
   rw[if_pos B1] at hq
   rw[hq.1]
   refine o0 ?_; refine d5.new (D5 (eL eZ) 34 (fun hp=>.cons rfl<|.nil) rfl rfl rfl rfl) rfl rfl rfl rfl ?_; refine d5.wkC 9 (.any<|.nil) rfl ?_; refine i9 ?_; refine jl ?_; refine j9 ?_
   exact g8.lp (m+1) zi zo (d7.mk (zk) (.e (by rfl) rfl<|.a (by rw[Y1 B1]) zi<|zk) rfl)
 ·rintro m B1
  refine jn ?_
  have htk:(B6 p).take m=B6 p:=by rw[B1,List.take_length]
  rw[htk]
  refine i9 ?_; refine Tr.frzC 15 9 (by simp only[t6]; omega) rfl rfl ?_; refine jn ?_; refine Tr.frzB 9 [9] (eL (eL eZ)) ⟨rfl,trivial⟩ rfl ?_; refine Tr.frzB 7 [7] eI ⟨rfl,trivial⟩ rfl ?_; refine jn ?_; refine i9 ?_; refine tO (EK (.cons rfl uu<|.cons rfl uu<|.nil)) rfl rfl ?_; refine l5 ?_; refine tO (fF rfl uu (fun hp=>aW lo d (B6 p) hlo hd hL5 (fun j hj=>⟨by have:=(hel j hj).2.1; omega,(hel j hj).2.2⟩)) (.a rfl uu<|.nil)) rfl rfl ?_; refine i2 ?_; refine tO (fF rfl uu (fun hp=>aW hi d (B6 p) hhi hd hL5 (fun j hj=>⟨by have:=(hel j hj).2.1; omega,(hel j hj).2.2⟩)) (.a rfl uu<|.nil)) rfl rfl ?_
  refine o0 ?_; exact d9.res1 (fn:=Tryz.f213) rfl (.i rfl (by rfl)<|.nil)

theorem nU (f:y8) (h2':2<=f.1.length) (h5':f.1.length<=5) (h1':b6 f.1 (f.1.length-1)=1) (hs:∀i,(b6 f.1 i).natAbs<=1000) (hd:1<=f.2.2.2/\f.2.2.2<=1000000) (hlo:-1000000<=f.2.1/\f.2.1<=1000000) (hhi:-1000000<=f.2.2.1/\f.2.2.1<=1000000):Ct Tryz.prog 189 [b7 D1 f] (kB (DF f)):=by
 have hm0:(-b6 f.1 0*f.2.2.2).natAbs<=1000*1000000:=U6 (by rw[Int.natAbs_neg]; exact hs 0) zo
 have hs0:=hs 0
 have hf:∀i,-9223372036854775808<=b6 f.1 i/\b6 f.1 i<=9223372036854775807:=fun i=>by have:=hs i; omega
 refine Ct.mk Tryz.func189 rfl Tryz.ntmps189 rfl (fun w J=>?_); refine i2 ?_; refine jb 1 rfl ?_; refine o0 ?_; refine Tr.frzB 1 [1] D1 (x:=f) ⟨rfl,trivial⟩ rfl ?_; refine jn ?_; refine l5 ?_; refine jq ?_ ?_
 ·intro h1
  have hb:DF f=decide (f.2.1<=-b6 f.1 0*f.2.2.2/\-b6 f.1 0*f.2.2.2<=f.2.2.1):=if_pos zo
  refine i9 ?_; refine Tr.draw 12 q9 (by kernel_rfl) ?_; refine i2 ?_; refine rO (I0 (i:=0) rfl uu rfl uu rfl (fun _=>zo)) rfl rfl ?_; refine i9 ?_; refine rO (FW rfl uu (fun _=>zo)) rfl rfl ?_; refine l6 ?_; refine tO (j7 (fun hp=>HG _ _ _) (.a rfl uu<|.a rfl uu<|.a rfl uu<|.nil)) rfl rfl ?_; refine o0 ?_; exact d9.res1 (fn:=Tryz.f189) rfl (.b rfl (by rw[hb])<|.nil)
 ·intro h1
  have hb:DF f=decide (((G5 (R1 f.1 f.2.1 f.2.2.2)).1:Int)-(G5 (R1 f.1 f.2.2.1 f.2.2.2)).1=1):=if_neg zo
  refine j9 ?_; refine Tr.draw 8 q9 (by kernel_rfl) ?_; refine i9 ?_; refine jd (aM f hf zo) ?_; refine l5 ?_; refine jc (nV f.1 f.2.1 f.2.2.1 f.2.2.2 zo h5' h1' hs hlo hhi hd) ?_; refine o0 ?_; exact d9.res1 (fn:=Tryz.f189) rfl (.b rfl (by rw[hb])<|.nil)

end Go.Fl

/- Contracts: errors of fields, opening. -/
namespace Go.Fl
open Go Go.Proofs
open d5 renaming op->tO
open i6 renaming op->rO
set_option maxRecDepth 100000

theorem Z4 {f:y8} (h:E1 f=0):((2<=f.1.length/\f.1.length<=5)/\(∀i,(b6 f.1 i).natAbs<=1000)/\((1<=f.2.2.2/\f.2.2.2<=1000000)/\(-1000000<=f.2.1/\f.2.1<=1000000)/\(-1000000<=f.2.2.1/\f.2.2.1<=1000000)))/\b6 f.1 (f.1.length-1)=1/\DJ f.1=false/\f.2.1<=f.2.2.1/\DF f=true:=by
 unfold E1 at h
 by_cases c1:2<=f.1.length/\f.1.length<=5
 ·rw[if_neg (fun e=>e c1)] at h
  by_cases c2:f.1.any FZ=true
  ·rw[if_pos c2] at h; exact absurd h (by decide)
  ·rw[if_neg c2] at h
   by_cases c3:(1<=f.2.2.2/\f.2.2.2<=1000000)/\(-1000000<=f.2.1/\f.2.1<=1000000)/\(-1000000<=f.2.2.1/\f.2.2.1<=1000000)
   ·rw[if_neg (fun e=>e c3)] at h
    by_cases c4:b6 f.1 (f.1.length-1)≠1\/DJ f.1=true
    ·rw[if_pos c4] at h; exact absurd h (by decide)
    ·rw[if_neg c4] at h
     by_cases c5:f.2.1>f.2.2.1
     ·rw[if_pos c5] at h; exact absurd h (by decide)
     ·rw[if_neg c5] at h
      by_cases c6:DF f=false
      ·rw[if_pos c6] at h; exact absurd h (by decide)
      ·refine ⟨⟨c1,fN c2,c3⟩,Classical.byContradiction fun e=>c4 (.inl e),?_,by omega,by simpa using c6⟩
       cases hr:DJ f.1 with
       | false=>rfl
       | true=>exact absurd (.inr hr) c4
   ·rw[if_pos c3] at h; exact absurd h (by decide)
 ·rw[if_pos c1] at h; exact absurd h (by decide)
def F9 (f:y8):Iv:=⟨f.2.1,f.2.2.1,f.2.2.2⟩
theorem TY {f:y8} (h:E1 f=0) (h3:3<=f.1.length):T3 f.1 (F9 f):=by
 obtain ⟨⟨c1,c2,c3,c4,c5⟩,c6,c7,c8,c9⟩:=Z4 h
 have hred:¬FE (lP f.1) (f.1.length-1):=wK h3 fun e=>by rw[PX e] at c7; cases c7
 refine ⟨⟨c1,fun i=>U0 (by have:=c2 i; simp[BP]; omega)⟩,h3,c6,fun c hc=>?_,⟨c8,by show 0<f.2.2.2; omega⟩,?_,?_,?_,c3.2,hred,?_⟩
 ·obtain ⟨i,hi,rfl⟩:=List.mem_iff_getElem.1 hc
  have:=c2 i
  simpa [b6,hi] using this
 ·show -(1000000*f.2.2.2)<=f.2.1; omega
 ·show f.2.2.1<=1000000*f.2.2.2; omega
 ·show f.2.2.1-f.2.1<=2000000; omega
 ·unfold DF at c9
  rw[if_neg zo,decide_eq_true_eq] at c9
  exact yL h3 c1.2 c6 hred (by show 0<f.2.2.2; omega) c9
def S9 (p l:List Int) (n k i:Nat):Int:=b6 p (n-(k+1))*((k:Int)+1)+s6 (fun j=>b6 p (n-(j+1))*b6 l (k-j)) i
def G8 (p:List Int) (n:Nat):Nat->List Int
 | 0=>[(n:Int)]
 | k+1=>G8 p n k++[-S9 p (G8 p n k) n k k]
theorem jA {p:List Int} {n:Nat}:∀{k:Nat},(G8 p n k).length=k+1
 | 0=>rfl
 | k+1=>by rw[G8,List.length_append,jA]; rfl
theorem fU {p l:List Int} {n k i:Nat}:S9 p l n k (i+1)=S9 p l n k i+b6 p (n-(i+1))*b6 l (k-i):=by unfold S9; rw[J4]; omega
theorem WK {p l:List Int} {n k B:Nat} (hp:∀i,dl (b6 p i)<=1) (hl:∀i,dl (b6 l i)<=B) (hk:k<=4) (hB:1<=B):∀{i:Nat},dl (S9 p l n k i)<=B+2+i
 | 0=>by
  unfold S9
  have h1:=hp (n-(k+1))
  have h2:=I4 (F:=(k:Int)+1) zo zo
  have h3:=w8 (b6 p (n-(k+1))) ((k:Int)+1)
  simp only[s6,Int.add_zero]
  omega
 | i+1=>by
  have ih:=WK (n:=n) hp hl hk hB (i:=i)
  rw[fU]
  have h1:=hp (n-(i+1))
  have h2:=hl (k-i)
  have h3:=w8 (b6 p (n-(i+1))) (b6 l (k-i))
  have h4:=T9 (S9 p l n k i) (b6 p (n-(i+1))*b6 l (k-i))
  omega
theorem iZ {p:List Int} {n:Nat} (hp:∀i,dl (b6 p i)<=1) (hn:n<=4):∀{k:Nat},k<=4->∀i,dl (b6 (G8 p n k) i)<=1+8*k
 | 0,_,i=>by
  match i with
  | 0=>exact I4 (F:=(n:Int)) zo zo
  | i+1=>rw[z6 (by rw[jA]; omega)]; show dl 0<=_; rw[F5.2 rfl]; omega
 | k+1,hk,i=>by
  have ih:=iZ hp hn (k:=k) zo
  rw[G8]
  by_cases h:i<(G8 p n k).length
  ·have e:b6 (G8 p n k++[-S9 p (G8 p n k) n k k]) i=b6 (G8 p n k) i:=by simp[b6,List.getD,List.getElem?_append_left h]
   rw[e]; have:=ih i; omega
  ·by_cases h2:i=(G8 p n k).length
   ·subst h2
    have e:b6 (G8 p n k++[-S9 p (G8 p n k) n k k]) (G8 p n k).length=-S9 p (G8 p n k) n k k:=by simp[b6]
    rw[e,K6]
    have:=WK (n:=n) hp ih (k:=k) zo zo (i:=k)
    omega
   ·rw[z6 (by rw[List.length_append]; simp; omega)]; show dl 0<=_; rw[F5.2 rfl]; omega
def EO (f:y8):Iv:=if f.1.length=2 then F9 f else i1 f.1 (F9 f) 64
def I9 (f:y8):y9:=(f,f.1,G8 f.1 (f.1.length-1) (f.1.length-2),(EO f).lo,(EO f).hi,(EO f).den)
theorem WE {f:y8} (h:E1 f=0) (h3:3<=f.1.length) {k:Nat} (hk:k<=64):dl (i1 f.1 (F9 f) k).lo<=73000/\dl (i1 f.1 (F9 f) k).hi<=73000/\dl (i1 f.1 (F9 f) k).den<=73000:=by
 have hf:=TY h h3
 have h5:=hf.len4
 obtain ⟨K,q1,_,q3⟩:=hf.bound (cs:=List.replicate (f.1.length-1) 1) (M:=1) (by simp) ⟨1,List.mem_replicate.2 ⟨by omega,rfl⟩,by decide⟩ (fun c hc=>by rw[(List.mem_replicate.1 hc).2]; exact I4 zo zo) zo zo
 exact q3 k zo
theorem ZV (f:y8):Ct Tryz.prog 157 [b7 D1 f] (kI (E1 f)):=by
 refine Ct.mk Tryz.func157 rfl Tryz.ntmps157 rfl (fun w J=>?_); refine i2 ?_; refine jb 1 rfl ?_; refine i4 ?_; refine Tr.frzB 1 [1] D1 (x:=f) ⟨rfl,trivial⟩ rfl ?_; refine jn ?_; refine z5 ?_; refine tO (j7 (fun hp=>HG _ _ _) (.a rfl uu<|.a rfl uu<|.a rfl uu<|.nil)) rfl rfl ?_; refine i4 ?_; refine Tr.cnd rfl ?_ ?_
 ·intro h2
  try simp only[decide_eq_false_iff_not,Bool.not_eq_true'] at h2
  have hc1:¬(2<=f.1.length/\f.1.length<=5):=by omega
  have he:E1 f=10:=if_pos hc1
  refine l6 ?_; exact d9.res1 (fn:=Tryz.f157) rfl (.i rfl (by rw[he])<|.nil)
 ·intro h2
  try simp only[decide_eq_true_eq,Bool.not_eq_false'] at h2
  have hc1:2<=f.1.length/\f.1.length<=5:=by omega
  have he1:=(if_neg (fun e=>e hc1):E1 f=_)
  refine i4 ?_; refine tO (j7 (fun hp=>mL _ 187 FZ (fun x=>nE x)) (.a rfl uu<|.a rfl uu<|.nil)) rfl rfl ?_; refine j9 ?_; refine Tr.cnd rfl ?_ ?_
  ·intro h4
   have he:E1 f=2:=he1.trans (if_pos h4)
   refine l6 ?_; exact d9.res1 (fn:=Tryz.f157) rfl (.i rfl (by rw[he])<|.nil)
  ·intro h4
   have hc2:f.1.any FZ≠true:=by rw[h4]; decide
   have hs:=fN hc2
   have he2:=he1.trans (if_neg hc2)
   refine i4 ?_; refine tO (j7 (fun hp=>HG _ _ _) (.a rfl uu<|.a rfl uu<|.a rfl uu<|.nil)) rfl rfl ?_; refine i4 ?_; refine d5.gd rfl rfl rfl (j7 (fun hp=>HG _ _ _) (.a rfl id<|.a rfl uu<|.a rfl uu<|.nil)) rfl rfl ?_; refine o0 ?_; refine d5.gd rfl rfl rfl (j7 (fun hp=>HG _ _ _) (.a rfl id<|.a rfl uu<|.a rfl uu<|.nil)) rfl rfl ?_; refine o0 ?_; refine Tr.cnd rfl ?_ ?_
   ·intro h6
    have hc3:¬((1<=f.2.2.2/\f.2.2.2<=1000000)/\(-1000000<=f.2.1/\f.2.1<=1000000)/\(-1000000<=f.2.2.1/\f.2.2.1<=1000000)):=fun ⟨q1,q2,q3⟩=>by simp[q1,q2,q3] at h6
    have he:E1 f=2:=he2.trans (if_pos hc3)
    refine l6 ?_; exact d9.res1 (fn:=Tryz.f157) rfl (.i rfl (by rw[he])<|.nil)
   ·intro h6
    have hc3:(1<=f.2.2.2/\f.2.2.2<=1000000)/\(-1000000<=f.2.1/\f.2.1<=1000000)/\(-1000000<=f.2.2.1/\f.2.2.1<=1000000):=by simp at h6; omega
    have he3:=he2.trans (if_neg (fun e=>e hc3))
    refine i2 ?_
    have hix:((f.1.length:Int)-1).toNat=f.1.length-1:=by omega
    refine v6 ?_; refine d5.gd rfl rfl rfl (j7 (fun hp=>nA f.1 hc1.1 hc1.2 hs) (.a rfl id<|.nil)) rfl rfl ?_; refine i4 ?_; refine Tr.cnd rfl ?_ ?_
    ·intro h8
     have hc4:b6 f.1 (f.1.length-1)≠1\/DJ f.1=true:=by simp[hix] at h8; simpa using h8
     have he:E1 f=3:=he3.trans (if_pos hc4)
     refine l6 ?_; exact d9.res1 (fn:=Tryz.f157) rfl (.i rfl (by rw[he])<|.nil)
    ·intro h8
     have hc4:b6 f.1 (f.1.length-1)=1/\DJ f.1=false:=by simp[hix] at h8; simpa using h8
     have he4:=he3.trans (if_neg (fun e=>e.elim (fun e=>e hc4.1) (fun e=>by rw[hc4.2] at e; cases e)))
     refine v6 ?_; refine Tr.cnd rfl ?_ ?_
     ·intro h10
      try simp only[decide_eq_true_eq] at h10
      have he:E1 f=9:=he4.trans (if_pos h10)
      refine l6 ?_; exact d9.res1 (fn:=Tryz.f157) rfl (.i rfl (by rw[he])<|.nil)
     ·intro h10
      try simp only[decide_eq_false_iff_not,Int.not_lt] at h10
      have he5:=he4.trans (if_neg (show ¬f.2.1>f.2.2.1 by omega))
      refine j9 ?_; refine jc (nU f hc1.1 hc1.2 hc4.1 hs hc3.1 hc3.2.1 hc3.2.2) ?_; refine i4 ?_; refine Tr.cnd rfl ?_ ?_
      ·intro h12
       have hc6:DF f=false:=by simpa using h12
       have he:E1 f=11:=he5.trans (if_pos hc6)
       refine l6 ?_; exact d9.res1 (fn:=Tryz.f157) rfl (.i rfl (by rw[he])<|.nil)
      ·intro h12
       have hc6:DF f=true:=by simpa using h12
       have he:E1 f=0:=he5.trans (if_neg (by rw[hc6]; decide))
       refine o9 ?_; exact d9.res1 (fn:=Tryz.f157) rfl (.i rfl (by rw[he])<|.nil)

theorem nI (f:y8) (h0:E1 f≠0):Ct Tryz.prog 113 [b7 D1 f] (y4 [j8 (.pointer none),kI (E1 f)]):=by
 refine Ct.mk Tryz.func113 rfl Tryz.ntmps113 rfl (fun w J=>?_); refine i2 ?_; refine jb 1 rfl ?_; refine l6 ?_; refine jc (ZV f) ?_; refine o9 ?_; refine Tr.cnd rfl ?_ ?_
 ·intro h2
  refine o9 ?_
  exact d9.res (fn:=Tryz.f113) (ts:=[2,3]) rfl rfl (.k rfl<|.i rfl zi<|.nil)
 ·intro h2
  exact absurd (of_decide_eq_false h2) (fun e=>e h0)

set_option maxHeartbeats 2000000 in
theorem ST (f:y8) (h0:E1 f=0):Ct Tryz.prog 113 [b7 D1 f] (y4 [r5 y1 (I9 f),kI 0]):=by
 obtain ⟨⟨c1,c2,c3,c4,c5⟩,c6,c7,c8,c9⟩:=Z4 h0
 have hf:∀i,-9223372036854775808<=b6 f.1 i/\b6 f.1 i<=9223372036854775807:=fun i=>by have:=c2 i; omega
 have hdp:∀i,dl (b6 f.1 i)<=1:=fun i=>U0 (by have:=c2 i; simp[BP]; omega)
 have hdg:Ct Tryz.prog 160 [r5 y1 (f,f.1,[],f.2.1,f.2.2.1,f.2.2.2)] (kI ((f.1.length:Int)-1)):=SR (f,f.1,[],f.2.1,f.2.2.1,f.2.2.2) c1
 have htr:=fun (k:Nat) (hk:k<=4)=>iZ (n:=f.1.length-1) hdp zo hk
 refine Ct.mk Tryz.func113 rfl Tryz.ntmps113 rfl (fun w J=>?_); refine i2 ?_; refine jb 1 rfl ?_; refine l6 ?_; refine jc (ZV f) ?_; refine o9 ?_; refine Tr.cnd rfl ?_ ?_
 ·intro h2
  exact absurd h0 (of_decide_eq_true h2)
 ·intro h2
  refine n7 ?_; refine tO (j7 (fun hp=>BU _ zo) (.a rfl uu<|.nil)) rfl rfl ?_; refine o0 ?_; refine Tr.draw 12 q9 (by kernel_rfl) ?_; refine i2 ?_; refine jd (aM f hf zo) ?_; refine i2 ?_; refine jd (O0 f.2.1 zo) ?_; refine i2 ?_; refine jd (O0 f.2.2.1 zo) ?_; refine i2 ?_; refine jd (O0 f.2.2.2 zo) ?_; refine i9 ?_; refine tO (A4 (fun hp=>.cons rfl rfl rfl<|.cons rfl rfl rfl<|.cons rfl rfl rfl<|.cons rfl rfl rfl<|.cons rfl rfl rfl<|.nil)) rfl rfl ?_; refine jb 32 rfl ?_; refine n7 ?_
  refine tO (uX (fun hp=>hdg) rfl rfl uu (.nil)) rfl rfl ?_; refine l5 ?_; refine jc (O0 ((f.1.length:Int)-1) zo) ?_; refine d5.new (D5 eZ 38 (fun hp=>.cons rfl<|.nil) rfl rfl rfl rfl) rfl rfl rfl rfl ?_; refine tO (O7 rfl uu) rfl rfl ?_; refine v6 ?_
  refine Tr.for1 (σ:=Nat) [⟨5,true,_,_⟩,⟨6,true,_,_⟩] [] (fun k=>[⟨7,true,[],kI ((k:Int)+1)⟩]) (fun k=>[⟨32,[38],j3 [b7 (eL eI) f.1,kI f.2.1,kI f.2.2.1,kI f.2.2.2,b7 (eL eZ) f.1,q8 38 (k+1),kB (decide ((F9 f).lo<0)),b7 (eL eI) (d6 ((F9 f).lo).natAbs),kB (decide ((F9 f).hi<0)),b7 (eL eI) (d6 ((F9 f).hi).natAbs),kB (decide ((F9 f).den<0)),b7 (eL eI) (d6 ((F9 f).den).natAbs)]⟩,⟨38,[],m9 false 160 eZ (G8 f.1 (f.1.length-1) k) (k+1)⟩]) (fun k=>k+2<=f.1.length) (fun k=>k+2=f.1.length) (fun k=>f.1.length-k) (0) zo (d7.mk (.i rfl zi<|zk) (.e (by rfl) rfl<|.a (by show [(f.1.length:Int)-1]=[((f.1.length-1:Nat):Int)]; congr 1; omega) zi<|.nil) rfl) ?_ ?_
  ·intro k hR0
   refine jn ?_
   have hix:((f.1.length:Int)-1-((k:Int)+1)).toNat=(f.1.length-1-(k+1)):=by omega
   refine l6 ?_; refine jq ?_ ?_
   ·intro h9
    refine o0 ?_; refine Tr.draw 13 q9 (by kernel_rfl) ?_; refine i9 ?_; refine rO (O7 rfl uu) rfl rfl ?_; refine n7 ?_
    rw[hix]
    refine i2 ?_; refine jd (O0 ((k:Int)+1) zo) ?_; refine jd (J7 (b6 f.1 (f.1.length-1-(k+1))) ((k:Int)+1) (by have:=hdp (f.1.length-1-(k+1)); omega) (by have:=I4 (F:=(k:Int)+1) zo zo; omega)) ?_; refine i6.new (IA 8) rfl rfl rfl rfl ?_; refine v6 ?_
    refine Tr.for1 (σ:=Nat) [⟨5,true,_,_⟩,⟨6,true,_,_⟩,⟨7,true,_,_⟩,⟨8,true,_,_⟩] [⟨32,_,_⟩,⟨38,_,_⟩] (fun i=>[⟨9,true,[],kI ((i:Int)+1)⟩]) (fun i=>[⟨8,[],j3 [kB (decide ((S9 f.1 (G8 f.1 (f.1.length-1) k) (f.1.length-1) k i)<0)),b7 (eL eI) (d6 ((S9 f.1 (G8 f.1 (f.1.length-1) k) (f.1.length-1) k i)).natAbs)]⟩]) (fun i=>i<=k) (fun i=>i=k) (fun i=>k-i) (0) zi (d7.mk (.i rfl zi<|zk) (.conv (Z2 (AP (by unfold S9; simp only[s6,Int.add_zero]))) rfl<|zk) rfl) ?_ ?_
    ·intro i hR1
     refine jn ?_
     have hiy:((f.1.length:Int)-1-((i:Int)+1)).toNat=(f.1.length-1-(i+1)):=by omega
     have hiz:((k:Int)+1-((i:Int)+1)).toNat=k-i:=by omega
     have hb1:=hdp (f.1.length-1-(i+1))
     have hb2:=htr k zo (k-i)
     have hb3:=w8 (b6 f.1 (f.1.length-1-(i+1))) (b6 (G8 f.1 (f.1.length-1) k) (k-i))
     have hb4:=WK (n:=f.1.length-1) hdp (htr k zo) (k:=k) zo zo (i:=i)
     refine l6 ?_; refine jq ?_ ?_
     ·intro h13
      refine i4 ?_; refine Tr.draw 20 q9 (by kernel_rfl) ?_; refine i2 ?_; refine rO (O7 rfl uu) rfl rfl ?_; refine n7 ?_
      rw[hiy]
      refine i2 ?_; refine rO (O7 rfl uu) rfl rfl ?_; refine n7 ?_
      rw[hiz]
      refine rO (CG rfl uu rfl rfl rfl rfl) rfl rfl ?_; refine jd (J7 (b6 f.1 (f.1.length-1-(i+1))) (b6 (G8 f.1 (f.1.length-1) k) (k-i)) zo zo) ?_; refine i9 ?_; refine jc (T7 (S9 f.1 (G8 f.1 (f.1.length-1) k) (f.1.length-1) k i) (b6 f.1 (f.1.length-1-(i+1))*b6 (G8 f.1 (f.1.length-1) k) (k-i)) zo zo) ?_; refine o9 ?_
      exact g8.lp (i+1) zi zo (d7.mk (.i rfl zi<|zk) (.conv (Z2 (AP (by rw[fU]))) rfl<|zk) rfl)
     ·intro h13
      replace h13:=Int.not_lt.1 h13
      refine i4 ?_
      exact g8.cut (i) zo (d7.mk (.i rfl zi<|zk) (zk) rfl)
    ·rintro i hik
     refine je ?_; refine i9 ?_; refine Tr.drawM (m:=8) q9 (by kernel_rfl) rfl (by kernel_rfl) (by kernel_rfl) (by kernel_rfl) ?_; refine i2 ?_; refine rO (O7 rfl uu) rfl rfl ?_; refine j9 ?_; refine jd (CS (S9 f.1 (G8 f.1 (f.1.length-1) k) (f.1.length-1) k i)) ?_; refine i6.new (D5 eZ 91 (fun hp=>.cons rfl<|.nil) rfl rfl rfl rfl) rfl rfl rfl rfl ?_; refine i9 ?_; refine d5.wkC 32 (.k<|.k<|.k<|.k<|.k<|.any<|.k<|.k<|.k<|.k<|.k<|.k<|.nil) rfl ?_; refine i9 ?_; refine jl ?_; refine tO (O7 rfl uu) rfl rfl ?_; refine i2 ?_
     refine d5.finN ?_; refine l5 ?_
     exact g8.lp (k+1) zi zo (d7.mk (.i rfl zi<|zk) (.e (by rfl) rfl<|.a (by rw[hik]; rfl) zi<|.nil) rfl)
   ·intro h9
    replace h9:=Int.not_lt.1 h9
    refine i4 ?_
    exact g8.cut (k) zo (d7.mk (.i rfl zi<|zk) (zk) rfl)
  ·rintro k hkn
   refine je ?_; refine j9 ?_; refine Tr.frzC 38 32 (by simp only[t6]; omega) rfl rfl ?_; refine jn ?_; refine o0 ?_; refine jq ?_ ?_
   ·intro h17
    have hl3:3<=f.1.length:=by omega
    refine o0 ?_
    refine Tr.for1 (σ:=Nat) [⟨5,true,_,_⟩] [] (fun h=>[⟨97,true,[],kI (h:Int)⟩]) (fun h=>[⟨32,[],j3 [b7 (eL eI) f.1,kI f.2.1,kI f.2.2.1,kI f.2.2.2,b7 (eL eZ) f.1,b7 (eL eZ) (G8 f.1 (f.1.length-1) k),kB (decide ((i1 f.1 (F9 f) h).lo<0)),b7 (eL eI) (d6 ((i1 f.1 (F9 f) h).lo).natAbs),kB (decide ((i1 f.1 (F9 f) h).hi<0)),b7 (eL eI) (d6 ((i1 f.1 (F9 f) h).hi).natAbs),kB (decide ((i1 f.1 (F9 f) h).den<0)),b7 (eL eI) (d6 ((i1 f.1 (F9 f) h).den).natAbs)]⟩]) (fun h=>h<=64) (fun h=>h=64) (fun h=>64-h) (0) zi (d7.mk (.i rfl zi<|zk) (.e (by rfl) rfl<|.nil) rfl) ?_ ?_
    ·intro h hR2
     refine jn ?_; refine n7 ?_; refine jq ?_ ?_
     ·intro h19
      refine n7 ?_; refine d5.mutP (aB (b7 (eL eI) f.1) (kI f.2.1) (kI f.2.2.1) (kI f.2.2.2) (b7 (eL eZ) (G8 f.1 (f.1.length-1) k)) f.1 (i1 f.1 (F9 f) h) 73000 zo hdp (WE h0 hl3 zo).1 (WE h0 hl3 zo).2.1 (WE h0 hl3 zo).2.2 zo) rfl (.nil) (fun g b cap o h=>Z3 (g:=g) (g':=g1 g.J b cap) rfl h) (fun {J b cap o g} h=>Z3 (g:=g1 J b cap) (g':=⟨J,g.M⟩) rfl h) rfl ?_; refine l5 ?_
      exact g8.lp (h+1) zi zo (d7.mk (.i rfl zi<|zk) (.e (by rfl) rfl<|.nil) rfl)
     ·intro h19
      replace h19:=Int.not_lt.1 h19
      refine i4 ?_
      exact g8.cut (h) zo (d7.mk (.i rfl zi<|zk) (zk) rfl)
    ·rintro _ rfl
     refine je ?_; refine i2 ?_; refine Tr.frzB 32 [5] y1 ⟨rfl,trivial⟩ rfl ?_; refine jn ?_; refine l5 ?_; exact d9.res (fn:=Tryz.f113) (ts:=[2,3]) rfl rfl (.p rfl (by unfold I9 EO; rw[if_neg zo,show k=f.1.length-2 by omega])<|.i rfl (by rfl)<|.nil)
   ·intro h17
    replace h17:=Int.not_lt.1 h17
    have hl2:f.1.length=2:=by omega
    refine j9 ?_; refine Tr.frzB 32 [5] y1 ⟨rfl,trivial⟩ rfl ?_; refine jn ?_; refine l5 ?_; exact d9.res (fn:=Tryz.f113) (ts:=[2,3]) rfl rfl (.p rfl (by unfold I9 EO; rw[if_pos hl2,show k=f.1.length-2 by omega])<|.i rfl (by rfl)<|.nil)

end Go.Fl

/- Numbers as the reference of chapter 1 reckons them: the same as the program's. No program in sight. -/
namespace Go.Fl
open Go
theorem wO {p xs:List Int}:red p (xs++[0])=red p xs:=by
 by_cases hl:(xs++[0]).length<=p.length-1
 ·rw[PY rfl hl]
  have h2:xs.length<=p.length-1:=by rw[List.length_append] at hl; omega
  rw[PY rfl h2,List.append_assoc]
  congr 1
  rw[List.length_append,List.length_singleton] at hl ⊢
  rw[show p.length-1-xs.length=p.length-1-(xs.length+1)+1 by omega,List.replicate_succ]; rfl
 ·rw[<- gK rfl zo]
  congr 1
  refine H2 (by rw[PV,List.length_append]; simp) fun i hi=>?_
  rw[PV,List.length_append,List.length_singleton,Nat.add_sub_cancel] at hi
  unfold ES
  rw[List.length_append,List.length_singleton,Nat.add_sub_cancel,s8 hi]
  have e1:b6 (xs++[0]) xs.length=0:=by simp[b6]
  have e2:b6 (xs++[0]) i=b6 xs i:=by simp[b6,List.getD,List.getElem?_append_left hi]
  rw[e1,e2]
  split
  ·rw[Int.zero_mul,Int.sub_zero]
  ·rw[Int.sub_zero]
theorem wL {p xs:List Int}:∀{k:Nat},red p (xs++List.replicate k 0)=red p xs
 | 0=>by rw[List.replicate_zero,List.append_nil]
 | k+1=>by rw[List.replicate_succ',<- List.append_assoc,wO,wL]
def JJ (B:Nat) (xs:List (List Int)):Prop:=∀i,A5 (b6 xs i)/\(b6 xs i).length<=B/\dl (val (b6 xs i))<=B
theorem HP:A5 []:=fun _ h=>absurd h (Nat.not_lt_zero _)
theorem cC {I:Iv} (hI:0<I.den):∀{xs:List Int},enc I (xs++[0])=(I.den*(enc I xs).1,I.den*(enc I xs).2.1,I.den*(enc I xs).2.2)
 | []=>by simp[enc,I8,I7]
 | c::xs=>by
  rw[List.cons_append,enc,cC hI,enc]
  simp only[Int.mul_assoc,VI (Int.le_of_lt hI),VG (Int.le_of_lt hI)]
  refine Prod.ext ?_ (Prod.ext ?_ rfl)
  ·simp only; rw[Int.mul_add,<- Int.mul_assoc c,<- Int.mul_assoc I.den c,Int.mul_comm I.den c]
  ·simp only; rw[Int.mul_add,<- Int.mul_assoc c,<- Int.mul_assoc I.den c,Int.mul_comm I.den c]
theorem TS {I:Iv} (hI:0<I.den) {xs:List Int}:∀{k:Nat},(0<(enc I (xs++List.replicate k 0)).1↔0<(enc I xs).1)/\((enc I (xs++List.replicate k 0)).2.1<0↔(enc I xs).2.1<0)
 | 0=>by simp
 | k+1=>by
  obtain ⟨h1,h2⟩:=TS hI (xs:=xs) (k:=k)
  rw[List.replicate_succ',<- List.append_assoc,cC hI,<- h1,<- h2]
  constructor
  ·exact ⟨fun h=>Classical.byContradiction fun hn=>by have:=Int.mul_nonneg (Int.le_of_lt hI) (show 0<=-(enc I (xs++List.replicate k 0)).1 by omega); rw[Int.mul_neg] at this; simp only at h; omega,fun h=>Int.mul_pos hI h⟩
  ·exact ⟨fun h=>Classical.byContradiction fun hn=>by have:=Int.mul_nonneg (Int.le_of_lt hI) (show 0<=(enc I (xs++List.replicate k 0)).2.1 by omega); simp only at h; omega,fun h=>Int.mul_neg_of_pos_of_neg hI h⟩
end Go.Fl

/- Contracts: fields of the reference. -/
namespace Go.Fl
open Go Go.Proofs
open d5 renaming op->tO
open i6 renaming op->rO
set_option maxRecDepth 100000

theorem L0 {f:y8} (h:E1 f=0):E8 f.1:=by
 obtain ⟨⟨c1,c2,_⟩,_⟩:=Z4 h
 exact ⟨c1,fun i=>U0 (by have:=c2 i; simp[BP]; omega)⟩
theorem hO {p:List Int} {I:Iv} {v:i5} (h:N2 v.1=true):D6 p I v=u5 (b6 v.1 0) 0:=if_pos h
theorem vE {f:y8} (h:¬f.1.length=2):i1 f.1 (F9 f) 64=EO f:=by unfold EO; rw[if_neg h]
theorem vF {f:y8}:(⟨(I9 f).2.2.2.1,(I9 f).2.2.2.2.1,(I9 f).2.2.2.2.2⟩:Iv)=EO f:=by simp only[I9]
theorem xU {r:y9} {I:Iv} (hpo:E8 r.2.1) (h2:r.2.1.length=2):DU r (D6 r.2.1 I):=by
 have hr:∀x:s7,N2 (i8 r.2.1 x).1=true:=fun x=>PR h2
 refine ⟨fun x hx=>?_,fun x y hx hy=>?_⟩
 ·rw[hO (hr x)]
  exact nK r x 250 hpo h2 hx zo
 ·have e:D6 r.2.1 I (j5 (i8 r.2.1 x) (i8 r.2.1 y))=u5 (b6 (j5 (i8 r.2.1 x) (i8 r.2.1 y)).1 0) 0:=hO (fY (hr x) (fZ (hr y)))
  rw[e]
  exact nG r x y 250 hpo hx hy zo h2
theorem xT {r:y9} {I:Iv} (hf:T3 r.2.1 I) (hI:i1 r.2.1 I 64=⟨r.2.2.2.1,r.2.2.2.2.1,r.2.2.2.2.2⟩):DU r (D6 r.2.1 I) :=
 ⟨fun x hx=>nJ r I x hf hI hx,fun x y hx hy=>nF r I x y hf hI hx hy⟩
theorem IW {f:y8} (h:E1 f=0):DU (I9 f) (D6 f.1 (F9 f)):=by
 have e:(I9 f).2.1=f.1:=rfl
 have hpo:=L0 h
 rw[<- e] at hpo ⊢
 by_cases h2:f.1.length=2
 ·rw[<- e] at h2
  exact xU hpo h2
 ·obtain ⟨⟨c1,_⟩,_⟩:=Z4 h
  have hf:=TY h zo
  have hI:=vE h2
  rw[<- vF] at hI
  generalize I9 f=r at *
  rw[<- e] at hf hI
  exact xT hf hI
end Go.Fl

/- Contracts: remainders, values at fractions and changes of sign, as the reference finds them. -/
namespace Go.Fl
open Go Go.Proofs
open d5 renaming op->tO
open i6 renaming op->rO
set_option maxRecDepth 100000

theorem JJ.dl {B:Nat} {xs:List (List Int)} (h:JJ B xs) (i:Nat):dl (b6 (xs.map val) i)<=B:=by rw[OU]; exact (h i).2.2
end Go.Fl

/- Contracts: fields of the reference. -/
namespace Go.Fl
open Go Go.Proofs
open d5 renaming op->tO
open i6 renaming op->rO
set_option maxRecDepth 100000

section
variable {p:List Int} (h3:3<=p.length) (h5:p.length<=5) (h1:b6 p (p.length-1)=1) (hs:∀i,(b6 p i).natAbs<=1000)
include h3 h5 h1 hs
end
end Go.Fl

/- Contracts: fields of the reference: errors, opening. -/
namespace Go.Fl
open Go Go.Proofs
open d5 renaming op->tO
open i6 renaming op->rO
set_option maxRecDepth 100000

end Go.Fl

/- Contracts: numbers of the reference: normal forms, sums, products. -/
namespace Go.Fl
open Go Go.Proofs
open d5 renaming op->tO
open i6 renaming op->rO
set_option maxRecDepth 100000

theorem JJ.take {B k:Nat} {xs:List (List Int)} (h:JJ B xs):JJ B (xs.take k):=fun i=>by
 by_cases hi:i<k
 ·rw[VX hi]; exact h i
 ·rw[z6 (by rw[List.length_take]; omega)]
  exact ⟨HP,Nat.zero_le _,by show Go.Fl.dl (val [])<=_; rw[zH,F5.2 rfl]; omega⟩
end Go.Fl

/- Contracts: numbers of the reference: normal forms, sums, products. -/
namespace Go.Fl
open Go Go.Proofs
open d5 renaming op->tO
open i6 renaming op->rO
set_option maxRecDepth 100000

end Go.Fl

/- Contracts: numbers of the reference: products, differences. -/
namespace Go.Fl
open Go Go.Proofs
open d5 renaming op->tO
open i6 renaming op->rO
set_option maxRecDepth 100000

end Go.Fl

/- Contracts: enclosures and halving of the reference. -/
namespace Go.Fl
open Go Go.Proofs
open d5 renaming op->tO
open i6 renaming op->rO
set_option maxRecDepth 100000

end Go.Fl

/- Contracts: enclosures, halving and signs of the reference. -/
namespace Go.Fl
open Go Go.Proofs
open d5 renaming op->tO
open i6 renaming op->rO
set_option maxRecDepth 100000

end Go.Fl

/- Sums of lengths in any order; orbits. No program in sight. -/
namespace Go.Fl
open Go
theorem vR {l l':List Int} (h:l.Perm l'):l.foldr (·+·) 0=l'.foldr (·+·) 0:=by
 induction h with
 | nil=>rfl
 | cons x _ ih=>simp only[List.foldr_cons,ih]
 | swap x y l=>simp only[List.foldr_cons]; omega
 | trans _ _ h1 h2=>exact h1.trans h2
theorem WZ {F:Nat->Int}:∀{k:Nat},s6 F k=((List.range k).map F).foldr (·+·) 0
 | 0=>rfl
 | k+1=>by
  have key:∀(l:List Int) (x:Int),(l++[x]).foldr (·+·) 0=l.foldr (·+·) 0+x:=by
   intro l x
   induction l with
   | nil=>simp
   | cons y l ih=>simp only[List.cons_append,List.foldr_cons,ih]; omega
  rw[J4,WZ,List.range_succ,List.map_append,List.map_cons,List.map_nil,key]
theorem wW {row:List Int} {n:Nat} (h:r7 row n):(row.map Int.toNat).Perm (List.range n):=by
 have hn:(row.map Int.toNat).Nodup:=by
  refine List.pairwise_iff_getElem.2 fun i j hi hj hij e=>?_
  rw[List.length_map] at hi hj
  simp only[List.getElem_map] at e
  have a1:=h.1 i hi
  have a2:=h.1 j hj
  have e1:b6 row i=row[i]:=by simp[b6,hi]
  have e2:b6 row j=row[j]:=by simp[b6,hj]
  have:=DC h.2.1 hi hj (by rw[e1,e2]; rw[e1] at a1; rw[e2] at a2; omega)
  omega
 refine (List.perm_ext_iff_of_nodup hn List.nodup_range).2 fun a=>?_
 rw[List.mem_map,List.mem_range]
 constructor
 ·rintro ⟨x,hx,rfl⟩
  obtain ⟨i,hi,rfl⟩:=List.mem_iff_getElem.1 hx
  have a1:=h.1 i hi
  have e1:b6 row i=row[i]:=by simp[b6,hi]
  rw[e1] at a1
  omega
 ·intro ha
  obtain ⟨j,hj,hja⟩:=GD h.2.1 h.1 h.2.2 (x:=(a:Int)) zo zo
  have hl:=h.2.2
  exact ⟨b6 row j,F7 zo,by rw[hja]; rfl⟩
theorem yP {row:List Int} {n:Nat} (h:r7 row n) {F:Nat->Int}:s6 (fun j=>F (b6 row j).toNat) n=s6 F n:=by
 rw[WZ,WZ]
 have e:(List.range n).map (fun j=>F (b6 row j).toNat)=(row.map Int.toNat).map F:=by
  rw[List.map_map]
  refine H2 (by simp[h.2.2]) fun i hi=>?_
  have hi:i<n:=by simpa using hi
  have hl:=h.2.2
  simp[b6,hi,hl]
 rw[e]
 exact vR ((wW h).map F)
theorem A8 {D:Int} {cs cs':List Int} (hD:0<D):o5 (loN cs D) (loN cs' D)=loN (n6 4 fun i=>b6 cs i+b6 cs' i) D:=by
 have hD0:D≠0:=by omega
 have p1:=FQ (cs:=cs) hD0
 have p2:=FQ (cs:=cs') hD0
 have p3:=Int.mul_pos p1 p2
 refine KR zo hD0 ?_
 rw[QP,QP]
 refine z8 fun i _=>?_
 have e1:=KQ (cs:=cs) hD0 i
 have e2:=KQ (cs:=cs') hD0 i
 generalize b6 (loN cs D).1 i=a at *
 generalize b6 (loN cs' D).1 i=b at *
 generalize (loN cs D).2=c at *
 generalize (loN cs' D).2=d at *
 generalize b6 cs i=u at *
 generalize b6 cs' i=v at *
 calc (a*d+b*c)*D=(a*D)*d+(b*D)*c:=by rw[Int.add_mul]; congr 1<;>ac_rfl
  _=u*c*d+v*d*c:=by rw[e1,e2]
  _=(u+v)*(c*d):=by rw[Int.add_mul]; congr 1<;>ac_rfl
def QK (ls:List i5):Nat->i5
 | 0=>u9 0
 | k+1=>o5 (QK ls k) (b6 ls k)
theorem OE {D:Int} (hD:0<D):u9 0=loN (n6 4 fun _=>0) D:=by
 have:u9 0=loN [0,0,0,0] 1:=KS.symm
 rw[this]
 exact KR (by decide) zo (by simp[n6,List.range,List.range.loop])
theorem fV {D:Int} {ls:List i5} {row:List Int} {cs:Nat->List Int} (hD:0<D):∀{k:Nat},(∀j,j<k->b6 ls (b6 row j).toNat=loN (cs (b6 row j).toNat) D)->j4 ls row k=loN (n6 4 fun i=>s6 (fun j=>b6 (cs (b6 row j).toNat) i) k) D
 | 0,_=>OE hD
 | k+1,h=>by
  rw[j4,fV hD (fun j hj=>h j zo),h k zo,A8 hD]
  exact congrArg (fun l=>loN l D) (z8 fun i hi=>by rw[s8 hi,J4])
theorem iF {D:Int} {ls:List i5} {cs:Nat->List Int} (hD:0<D):∀{k:Nat},(∀j,j<k->b6 ls j=loN (cs j) D)->QK ls k=loN (n6 4 fun i=>s6 (fun j=>b6 (cs j) i) k) D
 | 0,_=>OE hD
 | k+1,h=>by
  rw[QK,iF hD (fun j hj=>h j zo),h k zo,A8 hD]
  exact congrArg (fun l=>loN l D) (z8 fun i hi=>by rw[s8 hi,J4])
theorem v9.cs {p:List Int} {D:Int} {M n:Nat} {ls:List i5} (h:v9 p D M n ls):∃cs:Nat->List Int,∀a,a<n->b6 ls a=loN (cs a) D:=by
 have:∀a,∃c:List Int,a<n->b6 ls a=loN c D:=fun a=>by
  by_cases ha:a<n
  ·obtain ⟨c,_,h2,_⟩:=h.hb a ha
   exact ⟨c,fun _=>h2⟩
  ·exact ⟨[],fun h=>absurd h ha⟩
 exact ⟨fun a=>(this a).choose,fun a ha=>(this a).choose_spec ha⟩
theorem iX {p:List Int} {D:Int} {M n:Nat} {ls:List i5} {row:List Int} (h:v9 p D M n ls) (hr:r7 row n):t8 ls row=QK ls n:=by
 obtain ⟨cs,hc⟩:=h.cs
 have hl:=hr.2.2
 unfold t8
 rw[hl,fV h.pos (cs:=cs) (fun j hj=>hc _ (by have:=hr.1 j zo; omega)),iF h.pos (cs:=cs) hc]
 congr 1
 exact z8 fun i _=>yP hr (F:=fun a=>b6 (cs a) i)
def EP (sg:i5->Int) (o:List Int×List Int) (ls:List i5) (pv:i5):Nat->i5
 | 0=>pv
 | k+1=>E4 o ls (EP sg o ls pv k) (F6 sg (y0 ls o.1) o.1 (EP sg o ls pv k) (o.1.length-1))
theorem PM {sg:i5->Int} {p:List Int} {D:Int} {M:Nat} {ls:List i5} {o:List Int×List Int} {pv:i5} (hp:E8 p) (h:v9 p D M o.1.length ls) (h1:r7 o.1 o.1.length) (h2:r7 o.2 o.1.length) (h0:1<=o.1.length) (hr:n8 p pv) (hb:HB D M pv):∀k,n8 p (EP sg o ls pv k)/\HB D ((1+k*(2*o.1.length))*M) (EP sg o ls pv k)
 | 0=>⟨hr,by rw[Nat.zero_mul,Nat.add_zero,Nat.one_mul]; exact hb⟩
 | k+1=>by
  obtain ⟨q1,q2⟩:=PM hp h h1 h2 h0 hr hb k (sg:=sg)
  have hl:=dR (sg:=sg) (tops:=y0 ls o.1) (pv:=EP sg o ls pv k) h1 (show o.1.length-1<o.1.length by omega)
  obtain ⟨a1,a2⟩:=YP hp h h1 h2 (a:=(F6 sg (y0 ls o.1) o.1 (EP sg o ls pv k) (o.1.length-1)).toNat) zo
  refine ⟨Z0 q1 a1,?_⟩
  rw[show (1+(k+1)*(2*o.1.length))*M=(1+k*(2*o.1.length))*M+2*o.1.length*M by rw[Nat.succ_mul,<- Nat.add_assoc,Nat.add_mul]]
  exact q2.add h.pos a2
theorem fL {sg:i5->Int} {p:List Int} {D:Int} {M:Nat} {ls:List i5} {o:List Int×List Int} {pv:i5} (hp:E8 p) (h:v9 p D M o.1.length ls) (h1:r7 o.1 o.1.length) (h2:r7 o.2 o.1.length) (h0:1<=o.1.length/\o.1.length<=8) (hr:n8 p pv) (hb:HB D M pv) {k:Nat} (hk:k<=2001):E5 200 (EP sg o ls pv k):=by
 refine h.nbd (PM hp h h1 h2 h0.1 hr hb k).2 ?_
 have:=Nat.mul_le_mul hk (show 2*o.1.length<=16 by omega)
 omega
end Go.Fl

/- Contracts: exchanges of the reference: errors, places, shifts. -/
namespace Go.Fl
open Go Go.Proofs
open d5 renaming op->tO
open i6 renaming op->rO
set_option maxRecDepth 100000

def V7 (x:s7):Prop:=(∀i,A5 (b6 x.1 i))/\A5 x.2
def Y0 (x:s7) (k:Nat):Bool:=decide (x.1.length<=6)&&decide (x.2.length<=k)&&x.1.all fun c=>decide (c.length<=k)
theorem iC {x:s7} {k:Nat} (h:Y0 x k=true) (hi:V7 x):v7 k x:=by
 unfold Y0 at h
 simp only[Bool.and_eq_true,decide_eq_true_eq,List.all_eq_true] at h
 obtain ⟨⟨h1,h2⟩,h3⟩:=h
 refine ⟨h1,fun i=>⟨hi.1 i,?_⟩,hi.2,h2⟩
 by_cases hl:i<x.1.length
 ·exact h3 _ (F7 hl)
 ·rw[z6 zo]; exact Nat.zero_le _
def DK (x:n9):Bool:=decide (x.2.1.length<=12)&&decide (x.2.2.1.length<=12)&&decide (x.2.2.2.length<=12)&&decide (x.1.1.length<=8)&&x.2.2.2.all fun l=>Y0 l 2
structure V8 (x:n9):Prop where
 top:x.2.1.length<=12
 bot:x.2.2.1.length<=12
 len:x.2.2.2.length<=12
 num:∀a,v7 2 (b6 x.2.2.2 a)
theorem fD {k:Nat}:v7 k ([],[]):=⟨by simp,fun i=>⟨by rw[OW]; exact HP,by rw[OW]; exact Nat.zero_le _⟩,HP,Nat.zero_le _⟩
theorem yE {x:n9} (h:DK x=true) (hi:∀a,V7 (b6 x.2.2.2 a)):V8 x:=by
 unfold DK at h
 simp only[Bool.and_eq_true,decide_eq_true_eq,List.all_eq_true] at h
 obtain ⟨⟨⟨⟨h1,h2⟩,h3⟩,h4⟩,h5⟩:=h
 refine ⟨h1,h2,h3,fun a=>?_⟩
 by_cases ha:a<x.2.2.2.length
 ·exact iC (h5 _ (F7 ha)) (hi a)
 ·rw[z6 zo]; exact fD
noncomputable abbrev r9 (x:n9):i5->Int:=D6 x.1.1 (F9 x.1)
abbrev p7 (x:n9):List i5:=x.2.2.2.map (i8 x.1.1)
structure F1 (x:n9):Prop where
 fld:E1 x.1=0
 rows:C9 (x.2.1,x.2.2.1)
 len:x.2.2.2.length=x.2.1.length
 num:∀a,a<x.2.1.length->v7 250 (b6 x.2.2.2 a)
 pos:∀a,a<x.2.1.length->0<r9 x (i8 x.1.1 (b6 x.2.2.2 a))
open Classical in
noncomputable def H7 (x:n9):Int:=if E1 x.1≠0 then E1 x.1 else if H6 (x.2.1,x.2.2.1)≠0 then H6 (x.2.1,x.2.2.1) else if x.2.2.2.length≠x.2.1.length then 10 else if ∀a,a<x.2.2.2.length->0<r9 x (i8 x.1.1 (b6 x.2.2.2 a)) then 0 else 12
theorem ZB {x:n9} (h:H7 x=0) (hs:V8 x):F1 x:=by
 unfold H7 at h
 by_cases c1:E1 x.1=0
 ·rw[if_neg (fun e=>e c1)] at h
  by_cases c2:H6 (x.2.1,x.2.2.1)=0
  ·rw[if_neg (fun e=>e c2)] at h
   by_cases c3:x.2.2.2.length=x.2.1.length
   ·rw[if_neg (fun e=>e c3)] at h
    by_cases c4:∀a,a<x.2.2.2.length->0<r9 x (i8 x.1.1 (b6 x.2.2.2 a))
    ·exact ⟨c1,QA c2,c3,fun a _=>(hs.num a).mono zo,fun a ha=>c4 a zo⟩
    ·rw[if_neg c4] at h; exact absurd h (by decide)
   ·rw[if_pos c3] at h; exact absurd h (by decide)
  ·rw[if_pos c2] at h; exact absurd h c2
 ·rw[if_pos c1] at h; exact absurd h c1
theorem ZP (x:s7) (k:Nat):Ct Tryz.prog 14 [b7 j2 x,kI (k:Int)] (kB (Y0 x k)):=by
 refine Ct.mk Tryz.func14 rfl Tryz.ntmps14 rfl (fun w J=>?_); refine i2 ?_; refine jb 2 rfl ?_; refine o0 ?_; refine Tr.frzB 2 [2] j2 (x:=x) ⟨rfl,trivial⟩ rfl ?_; refine jn ?_; refine B4 ?_; refine Tr.cnd rfl ?_ ?_
 ·intro h1
  have hr:Y0 x k=false:=by simp at h1; unfold Y0; simp; omega
  refine l5 ?_; exact d9.res1 (fn:=Tryz.f14) rfl (.b rfl (by rw[hr])<|.nil)
 ·intro h1
  have h12:x.1.length<=6/\x.2.length<=k:=by simp at h1; omega
  refine l6 ?_
  refine Tr.for1 (σ:=Nat) [⟨1,true,_,_⟩,⟨2,true,_,_⟩] [] (fun i=>[⟨5,true,[],kI (i:Int)⟩]) (fun i=>[]) (fun i=>i<=x.1.length/\∀j,j<i->(b6 x.1 j).length<=k) (fun i=>∀j,j<x.1.length->(b6 x.1 j).length<=k) (fun i=>x.1.length-i) (0) ⟨by omega,fun j h=>absurd h (Nat.not_lt_zero _)⟩ (d7.mk (.i rfl zi<|zk) (.nil) rfl) ?_ ?_
  ·rintro i ⟨hi,hR⟩
   refine jn ?_; refine v6 ?_; refine jq ?_ ?_
   ·intro h4
    refine AU ?_; refine jq ?_ ?_
    ·intro h6
     have hr:Y0 x k=false:=by unfold Y0; simp only[Bool.and_eq_false_iff,List.all_eq_false,decide_eq_true_eq]; exact .inr ⟨b6 x.1 i,F7 zo,by omega⟩
     refine z5 ?_; exact d9.res1 (fn:=Tryz.f14) rfl (.b rfl (by rw[hr])<|.nil)
    ·intro h6
     replace h6:=Int.not_lt.1 h6
     have hok:(b6 x.1 i).length<=k:=by omega
     refine l6 ?_
     exact g8.lp (i+1) ⟨by omega,fun j hj=>by by_cases e:j=i; (rw[e]; exact hok); exact hR j zo⟩ zo (d7.mk (.i rfl zi<|zk) (.nil) rfl)
   ·intro h4
    replace h4:=Int.not_lt.1 h4
    refine i4 ?_
    exact g8.cut (i) (fun j hj=>hR j zo) (d7.mk (.i rfl zi<|zk) (.nil) rfl)
  ·intro i hE
   refine je ?_
   have hr:Y0 x k=true:=by unfold Y0; simp only[Bool.and_eq_true,decide_eq_true_eq,List.all_eq_true]; exact ⟨h12,fun c hc=>by obtain ⟨j,hj,rfl⟩:=List.mem_iff_getElem.1 hc; have:=hE j hj; have e:b6 x.1 j=x.1[j]:=(by simp[b6,hj]); rw[e] at this; exact this⟩
   refine l5 ?_; exact d9.res1 (fn:=Tryz.f14) rfl (.b rfl (by rw[hr])<|.nil)

theorem mT (a b:List s7):Ct Tryz.prog 22 [b7 (eL j2) a,b7 (eL j2) b] (kB (decide (a=b))):=by
 refine Ct.mk Tryz.func22 rfl Tryz.ntmps22 rfl (fun w J=>?_); refine Tr.fact (s:=0) rfl (fun _ _ h=>S4 h) (fun hb=>?_); refine O3 ?_; refine jq ?_ ?_
 ·intro h1
  have hne:a≠b:=fun e=>h1 (by rw[e])
  refine l5 ?_; exact d9.res1 (fn:=Tryz.f22) rfl (.b rfl (by symm; rw[decide_eq_false_iff_not]; exact hne)<|.nil)
 ·intro h1
  replace h1:=Classical.not_not.1 h1
  have hll:a.length=b.length:=by omega
  refine l6 ?_
  refine Tr.for1 (σ:=Nat) [⟨0,true,_,_⟩,⟨1,true,_,_⟩] [] (fun k=>[⟨5,true,[],kI (k:Int)⟩]) (fun k=>[]) (fun k=>k<=a.length/\∀i,i<k->b6 a i=b6 b i) (fun k=>∀i,i<a.length->b6 a i=b6 b i) (fun k=>a.length-k) (0) ⟨Nat.zero_le _,fun i h=>absurd h (Nat.not_lt_zero _)⟩ (d7.mk (.i rfl zi<|zk) (.nil) rfl) ?_ ?_
  ·rintro k ⟨hk,hR⟩
   refine jn ?_; refine o9 ?_; refine jq ?_ ?_
   ·intro h4
    refine o0 ?_; refine Tr.draw 8 q9 (by kernel_rfl) ?_; refine o9 ?_; refine jc (ZO (b6 a k) (b6 b k)) ?_; refine j9 ?_; refine Tr.cnd rfl ?_ ?_
    ·intro h6
     have hne:a≠b:=fun e=>by subst e; simp at h6
     refine z5 ?_; exact d9.res1 (fn:=Tryz.f22) rfl (.b rfl (by symm; rw[decide_eq_false_iff_not]; exact hne)<|.nil)
    ·intro h6
     have hkk:b6 a k=b6 b k:=by simpa using h6
     refine l6 ?_
     exact g8.lp (k+1) ⟨by omega,fun i hi=>by by_cases e:i=k; (rw[e]; exact hkk); exact hR i zo⟩ zo (d7.mk (.i rfl zi<|zk) (.nil) rfl)
   ·intro h4
    replace h4:=Int.not_lt.1 h4
    refine i4 ?_
    exact g8.cut (k) (fun i hi=>hR i zo) (d7.mk (.i rfl zi<|zk) (.nil) rfl)
  ·rintro k hE
   refine je ?_; refine l5 ?_; exact d9.res1 (fn:=Tryz.f22) rfl (.b rfl (by symm; rw[decide_eq_true_eq]; exact H2 hll hE)<|.nil)

theorem oP (x:n9):Ct Tryz.prog 65 [b7 eX x] (b7 eO (x.2.1,x.2.2.1)):=by
 refine Ct.mk Tryz.func65 rfl Tryz.ntmps65 rfl (fun w J=>?_); refine i2 ?_; refine jb 1 rfl ?_; refine ja 2 ?_; refine l6 ?_; refine tO (A4 (fun hp=>.cons rfl rfl rfl<|.cons rfl rfl rfl<|.nil)) rfl rfl ?_; refine i4 ?_; exact d9.resC1 (fn:=Tryz.f65) rfl rfl (u8 rfl (by rfl))

theorem pO (r:p6):Ct Tryz.prog 52 [b7 eO r] (kB (decide (r.1.length<=12)&&decide (r.2.length<=12))):=by
 refine Ct.mk Tryz.func52 rfl Tryz.ntmps52 rfl (fun w J=>?_); refine i2 ?_; refine jb 1 rfl ?_; refine i4 ?_; refine Tr.frzB 1 [1] eO (x:=r) ⟨rfl,trivial⟩ rfl ?_; refine jn ?_; refine O3 ?_; exact d9.res1 (fn:=Tryz.f52) rfl (.b rfl (by congr 1<;>exact decide_eq_decide.2 zo)<|.nil)

theorem pK (x:n9):Ct Tryz.prog 13 [b7 eX x] (kB (DK x)):=by
 refine Ct.mk Tryz.func13 rfl Tryz.ntmps13 rfl (fun w J=>?_); refine i2 ?_; refine jb 1 rfl ?_; refine o0 ?_; refine Tr.frzB 1 [1] eX (x:=x) ⟨rfl,trivial⟩ rfl ?_; refine jn ?_; refine i2 ?_; refine tO (j7 (fun hp=>oP _) (.a rfl uu<|.nil)) rfl rfl ?_; refine tO (j7 (fun hp=>pO _) (.a rfl uu<|.nil)) rfl rfl ?_; refine AU ?_; refine Tr.cnd rfl ?_ ?_
 ·intro h1
  have hr:DK x=false:=by simp at h1; unfold DK; simp only[Bool.and_eq_false_iff,decide_eq_false_iff_not]; omega
  refine l5 ?_; exact d9.res1 (fn:=Tryz.f13) rfl (.b rfl (by rw[hr])<|.nil)
 ·intro h1
  have h12:((x.2.1.length<=12/\x.2.2.1.length<=12)/\x.2.2.2.length<=12)/\x.1.1.length<=8:=by simp at h1; omega
  refine l6 ?_
  refine Tr.for1 (σ:=Nat) [⟨1,true,_,_⟩] [] (fun i=>[⟨3,true,[],kI (i:Int)⟩]) (fun i=>[]) (fun i=>i<=x.2.2.2.length/\∀j,j<i->Y0 (b6 x.2.2.2 j) 2=true) (fun i=>∀j,j<x.2.2.2.length->Y0 (b6 x.2.2.2 j) 2=true) (fun i=>x.2.2.2.length-i) (0) ⟨by omega,fun j h=>absurd h (Nat.not_lt_zero _)⟩ (d7.mk (.i rfl zi<|zk) (.nil) rfl) ?_ ?_
  ·rintro i ⟨hi,hR⟩
   refine jn ?_; refine v6 ?_; refine jq ?_ ?_
   ·intro h4
    refine C6 ?_; refine jc (ZP (b6 x.2.2.2 i) 2) ?_; refine j9 ?_; refine Tr.cnd rfl ?_ ?_
    ·intro h6
     have hr:DK x=false:=by unfold DK; simp only[Bool.and_eq_false_iff,List.all_eq_false]; exact .inr ⟨b6 x.2.2.2 i,F7 zo,by simpa using h6⟩
     refine z5 ?_; exact d9.res1 (fn:=Tryz.f13) rfl (.b rfl (by rw[hr])<|.nil)
    ·intro h6
     have hok:Y0 (b6 x.2.2.2 i) 2=true:=by simpa using h6
     refine l6 ?_
     exact g8.lp (i+1) ⟨by omega,fun j hj=>by by_cases e:j=i; (rw[e]; exact hok); exact hR j zo⟩ zo (d7.mk (.i rfl zi<|zk) (.nil) rfl)
   ·intro h4
    replace h4:=Int.not_lt.1 h4
    refine i4 ?_
    exact g8.cut (i) (fun j hj=>hR j zo) (d7.mk (.i rfl zi<|zk) (.nil) rfl)
  ·intro i hE
   refine je ?_
   have hr:DK x=true:=by unfold DK; simp only[Bool.and_eq_true,decide_eq_true_eq,List.all_eq_true]; exact ⟨h12,fun c hc=>by obtain ⟨j,hj,rfl⟩:=List.mem_iff_getElem.1 hc; have:=hE j hj; have e:b6 x.2.2.2 j=x.2.2.2[j]:=(by simp[b6,hj]); rw[e] at this; exact this⟩
   refine l5 ?_; exact d9.res1 (fn:=Tryz.f13) rfl (.b rfl (by rw[hr])<|.nil)

end Go.Fl

/- Contracts: exchanges of the reference: errors, places, shifts, orbits. -/
namespace Go.Fl
open Go Go.Proofs
open d5 renaming op->tO
open i6 renaming op->rO
set_option maxRecDepth 100000

end Go.Fl

/- Contracts: shifts, letters and orbits of the reference. -/
namespace Go.Fl
open Go Go.Proofs
open d5 renaming op->tO
open i6 renaming op->rO
set_option maxRecDepth 100000

abbrev oX (x:n9):p6:=(x.2.1,x.2.2.1)
noncomputable abbrev lX (x:n9) (pv:i5) (k:Nat):Int:=F6 (r9 x) (y0 (p7 x) x.2.1) x.2.1 pv k
noncomputable abbrev CH (x:n9) (pv:i5) (k:Nat):i5:=EP (r9 x) (oX x) (p7 x) pv k
end Go.Fl

/- Contracts: open with its errors; orbits. -/
namespace Go.Fl
open Go Go.Proofs
open d5 renaming op->tO
open i6 renaming op->rO
set_option maxRecDepth 100000

noncomputable abbrev HW (x:n9):Q2:=G4 (I9 x.1) (oX x) (p7 x)
theorem KC (x:n9) (D:Int) (M:Nat) (hx:F1 x) (hlo:v9 x.1.1 D M x.2.1.length (p7 x)):Ct Tryz.prog 66 [b7 eX x] (y4 [r5 E3 (HW x),kI 0]) :=
 bE x (I9 x.1) (r9 x) D M (ST _ hx.fld) (L0 hx.fld) (IW hx.fld) hx.rows hx.len (fun a h=>(hx.num a h).mono zo) hlo hx.pos
theorem oC (x:n9) (D:Int) (M:Nat) (p:s7) (hx:F1 x) (hlo:v9 x.1.1 D M x.2.1.length (p7 x)) (hpn:v7 250 p):Ct Tryz.prog 68 [r5 E3 (HW x),b7 j2 p] (y4 [b7 j2 (m8 (E4 (oX x) (p7 x) (i8 x.1.1 p) (lX x (i8 x.1.1 p) (x.2.1.length-1)))),kI (lX x (i8 x.1.1 p) (x.2.1.length-1))]) :=
 aC (I9 x.1) (oX x) (p7 x) (r9 x) D M p (L0 hx.fld) (IW hx.fld) hx.rows hlo hpn
theorem TB (f:y8) (p:s7) (h0:E1 f=0) (hp:v7 250 p):Ct Tryz.prog 82 [r5 y1 (I9 f),b7 j2 p] (kI (D6 f.1 (F9 f) (i8 f.1 p))):=(IW h0).sign p hp
theorem MZ (f:y8) (p q:s7) (h0:E1 f=0) (hp:v7 250 p) (hq:v7 250 q):Ct Tryz.prog 83 [r5 y1 (I9 f),b7 j2 p,b7 j2 q] (kI (D6 f.1 (F9 f) (j5 (i8 f.1 p) (i8 f.1 q)))):=(IW h0).cmp p q hp hq
theorem oH (f:y8) (p:s7) (h0:E1 f=0) (hp:v7 250 p):Ct Tryz.prog 69 [r5 y1 (I9 f),b7 j2 p] (b7 j2 (m8 (i8 f.1 p))):=ZW (I9 f) p 250 (L0 h0) hp zo
theorem SV (x:n9) (p q:s7) (h0:E1 x.1=0) (hpn:v7 250 p) (hq:v7 250 q):Ct Tryz.prog 67 [r5 E3 (HW x),b7 j2 p,b7 j2 q] (kB (decide (0<=r9 x (i8 x.1.1 p))&&decide (r9 x (j5 (i8 x.1.1 p) (i8 x.1.1 q))<0))):=aD (I9 x.1) (oX x) (p7 x) (r9 x) p q (IW h0) hpn hq
theorem pQ (x:n9) (h0:E1 x.1≠0):Ct Tryz.prog 66 [b7 eX x] (y4 [j8 (.pointer none),kI (H7 x)]):=by
 refine Ct.mk Tryz.func66 rfl Tryz.ntmps66 rfl (fun w J=>?_); refine i2 ?_; refine jb 1 rfl ?_; refine l6 ?_; refine jc (nI x.1 h0) ?_; refine B4 ?_; refine Tr.cnd rfl ?_ ?_
 ·intro h2
  refine o9 ?_; exact d9.res (fn:=Tryz.f66) (ts:=[2,3]) rfl rfl (.k rfl<|.i rfl (by unfold H7; rw[if_pos h0])<|.nil)
 ·intro h2
  exact absurd (of_decide_eq_false h2) (fun e=>e h0)

set_option maxHeartbeats 1000000 in
theorem pR (x:n9) (h0:E1 x.1=0) (hsm:V8 x) (hne:H7 x≠0):Ct Tryz.prog 66 [b7 eX x] (y4 [j8 (.pointer none),kI (H7 x)]):=by
 have he1:=(if_neg (fun e=>e h0):H7 x=_)
 have hpo:=L0 h0
 have ht1:=hsm.top
 have ht2:=hsm.bot
 have ht3:=hsm.len
 obtain ⟨ls,hls⟩:∃ls,ls=p7 x:=⟨_,rfl⟩
 have hll:ls.length=x.2.2.2.length:=by rw[hls,List.length_map]
 have hnk:∀k,k<x.2.2.2.length->b6 ls k=i8 x.1.1 (b6 x.2.2.2 k):=fun k hk=>by rw[hls]; exact HY hk
 refine Ct.mk Tryz.func66 rfl Tryz.ntmps66 rfl (fun w J=>?_); refine i2 ?_; refine jb 1 rfl ?_; refine l6 ?_; refine jc (ST x.1 h0) ?_; refine B4 ?_; refine Tr.cnd rfl ?_ ?_
 ·intro h2
  exact absurd h2 (by decide)
 ·intro h2
  refine n7 ?_; refine tO (j7 (fun hp=>NF _) (.s rfl uu rfl<|.nil)) rfl rfl ?_; refine tO (j7 (fun hp=>SS _) (.a rfl uu<|.nil)) rfl rfl ?_; refine o9 ?_; refine jq ?_ ?_
  ·intro h5
   have hr:H7 x=H6 (x.2.1,x.2.2.1):=he1.trans (if_pos h5)
   refine o9 ?_
   exact d9.res (fn:=Tryz.f66) (ts:=[2,3]) rfl rfl (.k rfl<|.i rfl zi<|.nil)
  ·intro h5
   replace h5:=Classical.not_not.1 h5
   have he2:=he1.trans (if_neg (fun e=>e h5))
   refine B4 ?_; refine jq ?_ ?_
   ·intro h7
    have hr:H7 x=10:=he2.trans (if_pos zo)
    refine l6 ?_; exact d9.res (fn:=Tryz.f66) (ts:=[2,3]) rfl rfl (.k rfl<|.i rfl (by rw[hr])<|.nil)
   ·intro h7
    replace h7:=Classical.not_not.1 h7
    have he3:=he2.trans (if_neg zo)
    refine n7 ?_; refine tO (j7 (fun hp=>NF _) (.s rfl uu rfl<|.nil)) rfl rfl ?_; refine tO (j7 (fun hp=>SQ _ (by show x.2.1.length<=1000; omega) (by show x.2.2.1.length<=1000; omega)) (.a rfl uu<|.nil)) rfl rfl ?_; refine tO (A4 (fun hp=>.cons rfl rfl rfl<|.cons rfl rfl rfl<|.nil)) rfl rfl ?_; refine jb 38 rfl ?_; refine z5 ?_; refine Tr.growC 38 3 139 rfl (ks':=[_,_,_,q8 139 0,_,_,_,_,_]) rfl rfl 30 j2 rfl (.cons inferInstance rfl<|.cons inferInstance rfl<|.cons inferInstance rfl<|.cons inferInstance rfl<|.cons inferInstance rfl<|.cons inferInstance rfl<|.cons inferInstance rfl<|.cons inferInstance rfl<|.cons inferInstance rfl<|inferInstance) ?_
    refine Tr.for1 (σ:=Nat) [⟨1,true,_,_⟩,⟨4,true,_,_⟩,⟨7,true,_,_⟩,⟨40,true,_,_⟩,⟨41,true,_,_⟩] [⟨1,_,_⟩] (fun k=>[⟨42,true,[],kI (k:Int)⟩]) (fun k=>[⟨38,[139],j3 [r5 y1 (I9 x.1),b7 (eL eI) x.2.1,b7 (eL eI) x.2.2.1,q8 139 k,j8 (.slice none 0 0),j8 (.slice none 0 0),j8 (.slice none 0 0),j8 (.slice none 0 0),j8 (.slice none 0 0)]⟩,⟨139,[],m9 true 30 j2 ((ls.take k).map m8) k⟩]) (fun k=>k<=x.2.2.2.length/\∀j,j<k->0<D6 x.1.1 (F9 x.1) (i8 x.1.1 (b6 x.2.2.2 j))) (fun k=>False) (fun k=>x.2.2.2.length-k) (0) ⟨by omega,fun j h=>absurd h (Nat.not_lt_zero _)⟩ (d7.mk (.i rfl zi<|zk) (.e (by rfl) rfl<|.a (by rfl) zi<|zk) rfl) ?_ ?_
    ·rintro k ⟨hk,hR⟩
     refine jn ?_; refine n7 ?_; refine jq ?_ ?_
     ·intro h11
      refine l6 ?_; refine ja 9 ?_; refine l6 ?_; refine jc (TB x.1 (b6 x.2.2.2 k) h0 ((hsm.num k).mono zo)) ?_; refine j9 ?_; refine jq ?_ ?_
      ·intro h13
       have hr:H7 x=12:=he3.trans (if_neg (fun e=>by have e2:0<D6 x.1.1 (F9 x.1) (i8 x.1.1 (b6 x.2.2.2 k)):=e k zo; omega))
       refine B4 ?_; exact d9.res (fn:=Tryz.f66) (ts:=[2,3]) rfl rfl (.k rfl<|.i rfl (by rw[hr])<|.nil)
      ·intro h13
       replace h13:=Int.not_le.1 h13
       have hok:0<D6 x.1.1 (F9 x.1) (i8 x.1.1 (b6 x.2.2.2 k)):=by omega
       refine i2 ?_; refine Tr.drawM (m:=9) q9 (by kernel_rfl) rfl (by kernel_rfl) (by kernel_rfl) (by kernel_rfl) ?_; refine i2 ?_; refine rO (O7 rfl uu) rfl rfl ?_; refine i4 ?_; refine jd (oH x.1 (b6 x.2.2.2 k) h0 ((hsm.num k).mono zo)) ?_; refine i6.new (D5 j2 58 (fun hp=>.cons rfl<|.nil) rfl rfl rfl rfl) rfl rfl rfl rfl ?_; refine i9 ?_; refine d5.wkC 38 (.k<|.k<|.k<|.any<|.k<|.k<|.k<|.k<|.k<|.nil) rfl ?_; refine i9 ?_; refine jl ?_; refine tO (O7 rfl uu) rfl rfl ?_; refine i2 ?_; refine d5.finN ?_; refine n7 ?_
       exact g8.lp (k+1) ⟨by omega,fun j hj=>by by_cases e:j=k; (rw[e]; exact hok); exact hR j zo⟩ zo (d7.mk (.i rfl zi<|zk) (.e (by rfl) rfl<|.a (by rw[Y1 zo,List.map_append,hnk k zo]; rfl) zi<|zk) rfl)
     ·intro h11
      replace h11:=Int.not_lt.1 h11
      refine i4 ?_
      exact g8.cut (k) (hne (he3.trans (if_pos fun j hj=>hR j zo))) (d7.mk (.i rfl zi<|zk) (zk) rfl)
    ·intro k hE0
     exact hE0.elim

theorem pH (x:n9) (D:Int) (M:Nat) (p:s7) (hx:F1 x) (hlo:v9 x.1.1 D M x.2.1.length (p7 x)) (hpn:v7 250 p) (hrg:(decide (0<=r9 x (i8 x.1.1 p))&&decide (r9 x (j5 (i8 x.1.1 p) (t8 (p7 x) x.2.1))<0))=false):Ct Tryz.prog 15 [b7 eX x,b7 j2 p] (y4 [b7 j2 ([],[]),kI 0,kI 2]):=by
 have h0:=hx.fld
 have hpo:=L0 h0
 have hs:=(Z4 h0).1.2.1
 have v:=hx.rows
 have hp1:r7 x.2.1 x.2.1.length:=v.p1
 have hp2:r7 x.2.2.1 x.2.1.length:=v.p2
 have hle:x.2.1.length<=8:=v.le
 have htwo:2<=x.2.1.length:=v.two
 have hbl:x.2.2.1.length=x.2.1.length:=v.len
 have hxl:=hx.len
 have hll:=hlo.len
 have htt:=U8 hpo hlo hp1 x.2.1.length (Nat.le_refl _)
 have htg:i8 x.1.1 (m8 (t8 (p7 x) x.2.1))=t8 (p7 x) x.2.1:=K2 htt.1
 refine Ct.mk Tryz.func15 rfl Tryz.ntmps15 rfl (fun w J=>?_); refine i2 ?_; refine jb 2 rfl ?_; refine jb 3 rfl ?_; refine ja 4 ?_; refine l5 ?_; refine jc (KC x D M hx hlo) ?_; refine B4 ?_; refine Tr.cnd rfl ?_ ?_
 ·intro h2
  exact absurd h2 (by decide)
 ·intro h2
  refine i4 ?_; refine Tr.draw 6 q9 (by kernel_rfl) ?_; refine j9 ?_; refine rO (G7 rfl uu) rfl rfl ?_; refine j9 ?_; refine jc (SV x p (m8 (t8 (p7 x) x.2.1)) h0 hpn ((M8 (hlo.nbd htt.2 zo)).mono zo)) ?_; refine j9 ?_; refine Tr.cnd rfl ?_ ?_
  ·intro h4
   refine i2 ?_; refine tO (A4 (fun hp=>.nil)) rfl rfl ?_; refine l5 ?_
   exact d9.resC (fn:=Tryz.f15) (ts:=[5,6]) rfl rfl rfl (u8 rfl zi) (.i rfl zi<|.i rfl zi<|.nil)
  ·intro h4
   rw[htg,hrg] at h4; simp at h4

end Go.Fl

/- Contracts: errors of Apply and Orbit. -/
namespace Go.Fl
open Go Go.Proofs
open d5 renaming op->tO
open i6 renaming op->rO
set_option maxRecDepth 100000

theorem pP (x:n9) (hsm:V8 x) (hne:H7 x≠0):Ct Tryz.prog 66 [b7 eX x] (y4 [j8 (.pointer none),kI (H7 x)]):=by
 by_cases h0:E1 x.1=0
 ·exact pR x h0 hsm hne
 ·exact pQ x h0
end Go.Fl

/- The law of orbits. -/
namespace Go.Fl
open Go Go.Proofs
open d5 renaming op->tO
open i6 renaming op->rO
set_option maxRecDepth 100000

theorem F1.dm {x:n9} (hx:F1 x) (hsm:V8 x) {ps:List s7} (hp:∀p∈ps,v7 2 p) (hl:ps.length<=2):∃(D:Int) (M:Nat),v9 x.1.1 D M x.2.1.length (p7 x)/\∀p∈ps,HB D M (i8 x.1.1 p):=by
 have hpo:=L0 hx.fld
 obtain ⟨D,M,h1,h2⟩:=yU (more:=ps.map (i8 x.1.1)) hpo hx.len hx.rows.le (fun a _=>hsm.num a) (by rw[List.length_map]; exact hl) fun v hv=>by
  obtain ⟨p,hpm,rfl⟩:=List.mem_map.1 hv
  exact ⟨DL hpo,V3 hpo (hp p hpm)⟩
 exact ⟨D,M,h1,fun p hpm=>h2 _ (List.mem_map.2 ⟨p,hpm,rfl⟩)⟩
theorem cZ {l:List Int} (h:P2 (Q8 .i64) l):A5 l:=fun i hi=>uL (h.2 i hi)
theorem rW {c:List (List Int)} {d:List Int} (h:P2 (P2 (Q8 .i64)) c) (h2:P2 (Q8 .i64) d):V7 (c,d):=⟨fun i=>by
 by_cases hi:i<c.length
 ·exact cZ (h.2 i hi)
 ·show A5 (b6 c i); rw[z6 zo]; exact HP,cZ h2⟩
theorem rX {l:List s7} (h:P2 V7 l) (a:Nat):V7 (b6 l a):=by
 by_cases hi:a<l.length
 ·exact h.2 a hi
 ·rw[z6 zo]; exact ⟨fun i=>by show A5 (b6 [] i); rw[OW]; exact HP,HP⟩
end Go.Fl

/- Places of letters; lists that are filled letter by letter; renumbered rows. No program in sight. -/
namespace Go.Fl
open Go
theorem rT {row:List Int} {n a:Nat} (h:r7 row n) (ha:a<n):∃j,j<n/\b6 row j=(a:Int)/\row.idxOf (a:Int)=j:=by
 have hl:=h.2.2
 obtain ⟨j,hj,hja⟩:=GD h.2.1 h.1 h.2.2 (x:=(a:Int)) zo zo
 exact ⟨j,hj,hja,by rw[<- hja]; exact EG h zo⟩
end Go.Fl

/- Contracts: the reference: renumbered rows, normal and inverse exchanges; comparisons of exchanges. -/
namespace Go.Fl
open Go Go.Proofs
open d5 renaming op->tO
open i6 renaming op->rO
set_option maxRecDepth 100000

end Go.Fl

/- Contracts: Check, Normal, Total, Shifts and Inverse of the program. -/
namespace Go.Fl
open Go Go.Proofs
open d5 renaming op->tO
open i6 renaming op->rO
set_option maxRecDepth 100000

theorem bF (r:p6):Ct Tryz.prog 85 [b7 eO r] (b7 eO (r.2,r.1)):=by
 refine Ct.mk Tryz.func85 rfl Tryz.ntmps85 rfl (fun w J=>?_); refine i2 ?_; refine jb 1 rfl ?_; refine ja 2 ?_; refine j9 ?_; refine Tr.frzB 1 [1] eO (x:=r) ⟨rfl,trivial⟩ rfl ?_; refine jn ?_; refine o0 ?_; refine tO (A4 (fun hp=>.cons rfl rfl rfl<|.cons rfl rfl rfl<|.nil)) rfl rfl ?_; refine i4 ?_; exact d9.resC1 (fn:=Tryz.f85) rfl rfl (u8 rfl (by rfl))

theorem nH (r:y9) (hl:r.1.1.length<=1000):Ct Tryz.prog 142 [r5 y1 r] (b7 D1 r.1):=by
 refine Ct.mk Tryz.func142 rfl Tryz.ntmps142 rfl (fun w J=>?_); refine i2 ?_; refine ja 2 ?_; refine n7 ?_; refine tO (EL rfl uu) rfl rfl ?_; refine i2 ?_; refine Tr.cnd rfl ?_ ?_
 ·intro h1
  exact absurd h1 (by decide)
 ·intro h1
  refine o0 ?_; refine tO (G7 rfl uu) rfl rfl ?_; refine i2 ?_; refine ja 3 ?_; refine l5 ?_; refine tO (j7 (fun hp=>BU _ zo) (.a rfl uu<|.nil)) rfl rfl ?_; refine C6 ?_
  exact d9.resC1 (fn:=Tryz.f142) rfl rfl (u8 rfl zi)

theorem pM (r:y9) (o q:p6) (ls:List i5) (l:List s7) (hf:r.1.1.length<=1000) (h1:q.1.length<=1000) (h2:q.2.length<=1000):Ct Tryz.prog 84 [r5 E3 (G4 r o ls),b7 eO q,b7 (eL j2) l] (b7 eX (r.1,q.1,q.2,l)):=by
 refine Ct.mk Tryz.func84 rfl Tryz.ntmps84 rfl (fun w J=>?_); refine i2 ?_; refine jb 4 rfl ?_; refine ja 6 ?_; refine j9 ?_; refine Tr.frzB 4 [4] eO (x:=q) ⟨rfl,trivial⟩ rfl ?_; refine jn ?_; refine Tr.draw 12 q9 (by kernel_rfl) ?_; refine i9 ?_; refine rO (G7 rfl uu) rfl rfl ?_; refine i2 ?_; refine jd (nH r hf) ?_; refine i2 ?_; refine jd (BU q.1 zo) ?_; refine i2 ?_; refine jd (BU q.2 zo) ?_; refine i2 ?_; refine tO (A4 (fun hp=>.cons rfl rfl rfl<|.cons rfl rfl rfl<|.cons rfl rfl rfl<|.cons rfl rfl rfl<|.nil)) rfl rfl ?_
 refine i4 ?_; exact d9.resC1 (fn:=Tryz.f84) rfl rfl (u8 rfl (by rfl))

theorem pL (x:n9) (D:Int) (M:Nat) (hx:F1 x) (hlo:v9 x.1.1 D M x.2.1.length (p7 x)):Ct Tryz.prog 37 [b7 eX x] (y4 [b7 j2 (m8 (t8 (p7 x) x.2.1)),kI 0]):=by
 refine Ct.mk Tryz.func37 rfl Tryz.ntmps37 rfl (fun w J=>?_); refine i2 ?_; refine jb 1 rfl ?_; refine ja 2 ?_; refine n7 ?_; refine jc (KC x D M hx hlo) ?_; refine B4 ?_; refine Tr.cnd rfl ?_ ?_
 ·intro h2
  exact absurd h2 (by decide)
 ·intro h2
  refine o0 ?_; refine tO (G7 rfl uu) rfl rfl ?_; refine l5 ?_
  exact d9.resC (fn:=Tryz.f37) (ts:=[3]) rfl rfl rfl (u8 rfl zi) (.i rfl zi<|.nil)

end Go.Fl

/- Contracts: errors of Check, Normal, Total, Shifts and Inverse. -/
namespace Go.Fl
open Go Go.Proofs
open d5 renaming op->tO
open i6 renaming op->rO
set_option maxRecDepth 100000

end Go.Fl

/- The law of exchanges. -/
namespace Go.Fl
open Go Go.Proofs
open d5 renaming op->tO
open i6 renaming op->rO
set_option maxRecDepth 100000

end Go.Fl

/- Sums of numbers: laws; numbers in order. No program in sight. -/
namespace Go.Fl
open Go
def CD (D:Int) (v:i5):Prop:=∃cs:List Int,cs.length=4/\v=loN cs D
theorem n8.cd {p:List Int} {v:i5} (h:n8 p v):CD v.2 v:=⟨v.1,h.len,h.loN.symm⟩
theorem CD.scale {D m:Int} {v:i5} (h:CD D v) (hD:0<D) (hm:0<m):CD (D*m) v:=by
 obtain ⟨cs,l,rfl⟩:=h
 exact ⟨cs.map fun c=>c*m,by rw[List.length_map,l],(KT zo zo).symm⟩
theorem AM {p:List Int} {u v w:i5} (hu:n8 p u) (hv:n8 p v) (hw:n8 p w):∃D,0<D/\CD D u/\CD D v/\CD D w:=by
 have a:=hu.pos
 have b:=hv.pos
 have c:=hw.pos
 have ab:=Int.mul_pos a b
 have ac:=Int.mul_pos a c
 refine ⟨u.2*v.2*w.2,Int.mul_pos ab c,(hu.cd.scale a b).scale ab c,?_,?_⟩
 ·have:=(hv.cd.scale b a).scale (Int.mul_pos b a) c
  rwa [Int.mul_comm v.2 u.2] at this
 ·have:=hw.cd.scale c ab
  rwa [Int.mul_comm w.2 (u.2*v.2)] at this
theorem IZ {cs:List Int} (h:cs.length=4):n6 4 (b6 cs)=cs:=H2 (by rw[t7,h]) fun i hi=>by rw[t7] at hi; exact s8 hi
theorem RP {p:List Int} {u v:i5} (hu:n8 p u) (hv:n8 p v):o5 u v=o5 v u:=by
 obtain ⟨D,hD,⟨a,_,rfl⟩,⟨b,_,rfl⟩,_⟩:=AM hu hv hv
 rw[A8 hD,A8 hD]
 exact congrArg (fun l=>loN l D) (z8 fun i _=>Int.add_comm _ _)
theorem kM {p:List Int} {u v w:i5} (hu:n8 p u) (hv:n8 p v) (hw:n8 p w):o5 (o5 u v) w=o5 u (o5 v w):=by
 obtain ⟨D,hD,⟨a,_,rfl⟩,⟨b,_,rfl⟩,⟨c,_,rfl⟩⟩:=AM hu hv hw
 rw[A8 hD,A8 hD,A8 hD,A8 hD]
 exact congrArg (fun l=>loN l D) (z8 fun i hi=>by rw[s8 hi,s8 hi]; omega)
theorem ME {p:List Int} {u:i5} (hu:n8 p u):o5 u (u9 0)=u:=by
 obtain ⟨D,hD,⟨a,ha,rfl⟩,_,_⟩:=AM hu hu hu
 rw[OE hD,A8 hD]
 refine congrArg (fun l=>loN l D) ((z8 fun i hi=>?_).trans (IZ ha))
 rw[s8 hi]; omega
theorem N0 {cs:List Int} {d:Int}:loN (cs.map fun z=>-z) d=X2 (loN cs d):=VC
theorem tW {p:List Int} {u v:i5} (hu:n8 p u) (hv:n8 p v):X2 (j5 u v)=j5 v u:=by
 obtain ⟨D,hD,⟨a,ha,rfl⟩,⟨b,hb,rfl⟩,_⟩:=AM hu hv hv
 unfold j5
 rw[<- N0,<- N0,A8 hD,A8 hD,<- N0]
 refine congrArg (fun l=>loN l D) ?_
 refine H2 (by rw[List.length_map,t7,t7]) fun i hi=>?_
 rw[List.length_map,t7] at hi
 rw[K8,s8 hi,s8 hi,K8,K8]; omega
theorem iK {p:List Int} {u v w:i5} (hu:n8 p u) (hv:n8 p v) (hw:n8 p w):o5 (j5 u v) (j5 v w)=j5 u w:=by
 obtain ⟨D,hD,⟨a,ha,rfl⟩,⟨b,hb,rfl⟩,⟨c,hc,rfl⟩⟩:=AM hu hv hw
 unfold j5
 rw[<- N0,<- N0,A8 hD,A8 hD,A8 hD,A8 hD]
 exact congrArg (fun l=>loN l D) (z8 fun i hi=>by rw[s8 hi,s8 hi,K8,K8]; omega)
theorem RQ {p:List Int} {u v:i5} (hu:n8 p u) (hv:n8 p v):j5 (o5 u v) u=v:=by
 obtain ⟨D,hD,⟨a,ha,rfl⟩,⟨b,hb,rfl⟩,_⟩:=AM hu hv hv
 unfold j5
 rw[<- N0,A8 hD,A8 hD]
 refine congrArg (fun l=>loN l D) ((z8 fun i hi=>?_).trans (IZ hb))
 rw[s8 hi,K8]; omega
structure J5 (p:List Int) (sg:i5->Int):Prop where
 pol:E8 p
 neg:∀v,n8 p v->sg (X2 v)=-sg v
 add:∀u v,n8 p u->n8 p v->0<=sg u->0<sg v->0<sg (o5 u v)
 zero:∀v,n8 p v->sg v=0->v=u9 0
 int0:sg (u9 0)=0
section
variable {p:List Int} {sg:i5->Int} (h:J5 p sg) {u v w:i5} (hu:n8 p u) (hv:n8 p v) (hw:n8 p w)
include h hu hv
theorem J5.swap:sg (j5 v u)=-sg (j5 u v):=by
 rw[<- tW hu hv]
 exact h.neg _ (P9 hu hv)
include hw
theorem J5.lt_of (a:0<=sg (j5 v u)) (b:0<sg (j5 w v)):0<sg (j5 w u):=by
 have:=h.add _ _ (P9 hv hu) (P9 hw hv) a b
 rwa [RP (P9 hv hu) (P9 hw hv),iK hw hv hu] at this
theorem J5.lt_of' (a:0<sg (j5 v u)) (b:0<=sg (j5 w v)):0<sg (j5 w u):=by
 have:=h.add _ _ (P9 hw hv) (P9 hv hu) b a
 rwa [iK hw hv hu] at this
end
end Go.Fl

/- The sign of a field's numbers goes with sums. No program in sight. -/
namespace Go.Fl
open Go
theorem LK {p:List Int} {I:Iv} {cs:List Int}:D7 p I cs=1\/D7 p I cs=-1\/D7 p I cs=0:=by
 unfold D7
 split
 ·exact .inl rfl
 ·split
  ·exact .inr (.inl rfl)
  ·exact .inr (.inr rfl)
theorem iB {p:List Int} {I:Iv} {cs:List Int} (h:D7 p I cs=1):∃k,0<(enc (i1 p I k) cs).1:=by
 unfold D7 at h
 split at h
 ·assumption
 ·split at h<;>omega
theorem iA {p:List Int} {I:Iv} {cs:List Int} (h:D7 p I cs=-1):∃k,(enc (i1 p I k) cs).2.1<0:=by
 unfold D7 at h
 split at h
 ·omega
 ·split at h
  ·assumption
  ·omega
theorem xX {p:List Int} {I:Iv} {cs:List Int} (hI:I.Ok):D7 p I (cs.map fun c=>-c)=-D7 p I cs:=by
 rcases LK (p:=p) (I:=I) (cs:=cs) with h | h | h
 ·obtain ⟨k,hk⟩:=iB h
  rw[h]
  exact LL (k:=k) hI (by rw[KG]; show -(enc (i1 p I k) cs).1<0; omega)
 ·obtain ⟨k,hk⟩:=iA h
  rw[h]
  exact IX (k:=k) (by rw[KG]; show 0 < -(enc (i1 p I k) cs).2.1; omega)
 ·rcases LK (p:=p) (I:=I) (cs:=cs.map fun c=>-c) with h' | h' | h'
  ·obtain ⟨k,hk⟩:=iB h'
   rw[KG] at hk
   have:=LL (k:=k) hI (show (enc (i1 p I k) cs).2.1<0 by have:0 < -(enc (i1 p I k) cs).2.1:=hk; omega)
   omega
  ·obtain ⟨k,hk⟩:=iA h'
   rw[KG] at hk
   have:=IX (p:=p) (I:=I) (cs:=cs) (k:=k) (show 0<(enc (i1 p I k) cs).1 by have:-(enc (i1 p I k) cs).1<0:=hk; omega)
   omega
  ·rw[h,h']; rfl
theorem yQ {cs:List Int}:∀c∈cs,c.natAbs<=(cs.map Int.natAbs).foldr (·+·) 0:=by
 induction cs with
 | nil=>intro c h; cases h
 | cons x cs ih =>
  intro c h
  rw[List.map_cons,List.foldr_cons]
  rcases List.mem_cons.1 h with rfl | h
  ·omega
  ·have:=ih c h; omega
theorem T3.ne0 {p cs:List Int} {I:Iv} (h:T3 p I) (hcl:cs.length=p.length-1) (hc0:∃c∈cs,c≠0):D7 p I cs=1\/D7 p I cs=-1:=by
 obtain ⟨F,hF⟩:∃F,F=1000+(cs.map Int.natAbs).foldr (·+·) 0:=⟨_,rfl⟩
 obtain ⟨k,hk⟩:∃k,k=EB (p.length-1) F 1000000 2000000:=⟨_,rfl⟩
 have h2:k<2 ^ k:=Nat.lt_two_pow_self
 have hd:=h.iv.pos
 rcases h.told (k:=k) hcl hc0 (F:=F) zo (fun c hc=>by have:=yQ c hc; omega) (by
  rw[<- hk]
  have e:((2 ^ k:Nat):Int)=2 ^ k:=by push_cast; rfl
  rw[<- e]
  have:=Int.mul_le_mul_of_nonneg_right (show (1:Int)<=I.den by omega) (show (0:Int)<=((2 ^ k:Nat):Int) by omega)
  omega) with q | q
 ·exact .inl (IX q)
 ·exact .inr (LL h.iv q)
theorem xZ {p:List Int} {I:Iv} {cs:List Int} (h:∀c∈cs,c=0):D7 p I cs=0:=by
 have e:cs=cs.map fun c=>c*0:=by
  conv=>lhs; rw[<- List.map_id cs]
  exact List.map_congr_left fun c hc=>by rw[h c hc]; rfl
 unfold D7
 rw[if_neg,if_neg]
 ·rintro ⟨k,hk⟩
  rw[e,KF (Int.le_refl 0)] at hk
  simp at hk
 ·rintro ⟨k,hk⟩
  rw[e,KF (Int.le_refl 0)] at hk
  simp at hk
theorem HD {a:Int}:(0<a/\u5 a 0=1)\/(a<0/\u5 a 0=-1)\/(a=0/\u5 a 0=0):=by
 unfold u5
 by_cases h:a<0
 ·exact .inr (.inl ⟨h,if_pos h⟩)
 ·by_cases h2:0<a
  ·exact .inl ⟨h2,by rw[if_neg h,if_pos h2]⟩
  ·exact .inr (.inr ⟨by omega,by rw[if_neg h,if_neg h2]⟩)
theorem cB {I:Iv} {c:Int}:enc I [c]=(c*I.den,c*I.den,I.den):=by
 simp[enc,I8,I7]
theorem xY {p:List Int} {I:Iv} (hI:I.Ok) {c:Int} {n:Nat}:D7 p I (c::List.replicate n 0)=u5 c 0:=by
 have hp:∀k,0<(i1 p I k).den:=fun k=>(X1 hI).pos
 rcases HD (a:=c) with ⟨h,e⟩ | ⟨h,e⟩ | ⟨h,e⟩
 ·rw[e]
  refine IX (k:=0) ((TS (hp 0) (xs:=[c])).1.2 ?_)
  rw[cB]
  exact Int.mul_pos h (hp 0)
 ·rw[e]
  refine LL (k:=0) hI ((TS (hp 0) (xs:=[c])).2.2 ?_)
  rw[cB]
  exact Int.mul_neg_of_neg_of_pos h (hp 0)
 ·rw[e]
  refine xZ fun x hx=>?_
  rcases List.mem_cons.1 hx with rfl | hx
  ·exact h
  ·exact (List.mem_replicate.1 hx).2
theorem IV {p:List Int} {I:Iv} {v:i5} (hI:I.Ok) (h3:3<=p.length) (h5:p.length<=5) (hv:n8 p v):D6 p I v=D7 p I (v.1.take (p.length-1)):=by
 unfold D6
 by_cases h:N2 v.1=true
 ·rw[if_pos h]
  have e:v.1.take (p.length-1)=b6 v.1 0::List.replicate (p.length-2) 0:=by
   have hl:=hv.len
   refine H2 (by rw[List.length_take,hl,List.length_cons,List.length_replicate]; omega) fun i hi=>?_
   rw[List.length_take,hl] at hi
   rw[K9 zo]
   by_cases h0:i=0
   ·subst h0; rfl
   ·obtain ⟨j,rfl⟩:∃j,i=j+1:=⟨i-1,by omega⟩
    rw[LG.1 h (j+1) zo zo]
    show 0=b6 (List.replicate (p.length-2) 0) j
    simp[b6,show j<p.length-2 by omega]
  rw[e]
  exact (xY hI).symm
 ·rw[if_neg h]
end Go.Fl

/- The sign of a field's numbers goes with sums: fields of every degree. No program in sight. -/
namespace Go.Fl
open Go
theorem uK {a b:List Int} {i:Nat} (ha:i<a.length) (hb:i<b.length):b6 (List.zipWith (·+·) a b) i=b6 a i+b6 b i:=by
 have h:i<(List.zipWith (·+·) a b).length:=by rw[List.length_zipWith]; omega
 have e:∀{l:List Int} (q:i<l.length),b6 l i=l[i]:=fun q=>by simp[b6,q]
 rw[e h,e ha,e hb,List.getElem_zipWith]
theorem tU {v:i5} {n:Nat}:(X2 v).1.take n=(v.1.take n).map fun c=>-c:=by
 unfold X2
 rw[List.map_take]
theorem gM {p:List Int} {v:i5} (hv:n8 p v) (h:∀i,i<4->b6 v.1 i=0):v=u9 0:=by
 have e:v.1=n6 4 fun _=>0:=by
  rw[<- IZ hv.len]
  exact z8 fun i hi=>h i hi
 rw[<- hv.loN,e,<- OE hv.pos]
theorem YG {u v:i5} (hu:0<u.2) (hv:0<v.2) {i:Nat} (hi:i<4):b6 (o5 u v).1 i*(u.2*v.2)=(b6 u.1 i*v.2+b6 v.1 i*u.2)*(o5 u v).2:=by
 have hD:=Int.mul_pos hu hv
 unfold o5
 rw[KQ zo i,s8 hi]
theorem J5.of_fld {p:List Int} {I:Iv} (h:T3 p I):J5 p (D6 p I):=by
 have h3:=h.three
 have h5:=h.len4
 have hl4:∀v,n8 p v->(v.1.take (p.length-1)).length=p.length-1:=fun v hv=>by rw[List.length_take,hv.len]; omega
 have hz:∀v,n8 p v->D6 p I v=0->v=u9 0:=fun v hv e=>by
  rw[IV h.iv h3 h5 hv] at e
  refine gM hv fun i hi=>?_
  by_cases hip:i<p.length-1
  ·refine Classical.byContradiction fun hne=>?_
   rcases h.ne0 (hl4 v hv) ⟨b6 v.1 i,by rw[<- K9 hip]; exact OV (by rw[hl4 v hv]; exact hip),hne⟩ with q | q<;>omega
  ·exact hv.hi i zo
 refine ⟨h.pol,fun v hv=>?_,fun u v hu hv a b=>?_,hz,?_⟩
 ·rw[IV h.iv h3 h5 hv,IV h.iv h3 h5 (VQ hv),tU]
  exact xX h.iv
 ·by_cases e:D6 p I u=0
  ·rw[hz u hu e,RP (KN h.pol 0) hv,ME hv]; exact b
  ·have hs:=Z0 hu hv
   rw[IV h.iv h3 h5 hs]
   rw[IV h.iv h3 h5 hu] at a e
   rw[IV h.iv h3 h5 hv] at b
   have a1:D7 p I (u.1.take (p.length-1))=1:=by rcases LK (p:=p) (I:=I) (cs:=u.1.take (p.length-1)) with q | q | q<;>omega
   have b1:D7 p I (v.1.take (p.length-1))=1:=by rcases LK (p:=p) (I:=I) (cs:=v.1.take (p.length-1)) with q | q | q<;>omega
   have pu:=hu.pos
   have pv:=hv.pos
   have key:=xV (p:=p) (I:=I) (xs:=(u.1.take (p.length-1)).map fun c=>c*v.2) (ys:=(v.1.take (p.length-1)).map fun c=>c*u.2) h.iv (by rw[List.length_map,List.length_map,hl4 u hu,hl4 v hv]) (by rw[QG pv]; exact a1) (by rw[QG pu]; exact b1)
   rw[<- QG (m:=u.2*v.2) (Int.mul_pos pu pv)]
   have e2:((o5 u v).1.take (p.length-1)).map (fun c=>c*(u.2*v.2))=(List.zipWith (·+·) ((u.1.take (p.length-1)).map fun c=>c*v.2) ((v.1.take (p.length-1)).map fun c=>c*u.2)).map fun c=>c*(o5 u v).2:=by
    refine H2 (by rw[List.length_map,hl4 _ hs,List.length_map,List.length_zipWith,List.length_map,List.length_map,hl4 u hu,hl4 v hv]; omega) fun i hi=>?_
    have hi:i<p.length-1:=by rw[List.length_map,hl4 _ hs] at hi; exact hi
    have m:∀{l:List Int} {c:Int},i<l.length->b6 (l.map fun x=>x*c) i=b6 l i*c:=fun hl=>by simp[b6,hl]
    rw[m (by rw[hl4 _ hs]; exact hi),m (by rw[List.length_zipWith,List.length_map,List.length_map,hl4 u hu,hl4 v hv]; omega),K9 hi]
    have z:b6 (List.zipWith (·+·) ((u.1.take (p.length-1)).map fun c=>c*v.2) ((v.1.take (p.length-1)).map fun c=>c*u.2)) i=b6 u.1 i*v.2+b6 v.1 i*u.2:=by
     have q1:=m (l:=u.1.take (p.length-1)) (c:=v.2) (by rw[hl4 u hu]; exact hi)
     have q2:=m (l:=v.1.take (p.length-1)) (c:=u.2) (by rw[hl4 v hv]; exact hi)
     rw[K9 hi] at q1 q2
     rw[<- q1,<- q2]
     exact uK (by rw[List.length_map,hl4 u hu]; exact hi) (by rw[List.length_map,hl4 v hv]; exact hi)
    rw[z]
    exact YG pu pv zo
   rw[e2,QG hs.pos,key]
   omega
 ·unfold D6
  rw[if_pos (by decide)]
  rfl
theorem J5.of_rat {p:List Int} {I:Iv} (hp:E8 p) (h2:p.length=2):J5 p (D6 p I):=by
 have hr:∀v,n8 p v->N2 v.1=true:=fun v hv=>IL fun i h1 _=>hv.hi i zo
 have hs:∀v,n8 p v->D6 p I v=u5 (b6 v.1 0) 0:=fun v hv=>if_pos (hr v hv)
 refine ⟨hp,fun v hv=>?_,fun u v hu hv a b=>?_,fun v hv e=>?_,?_⟩
 ·rw[hs _ hv,hs _ (VQ hv)]
  have:b6 (X2 v).1 0=-b6 v.1 0:=K8
  rw[this]
  unfold u5
  by_cases q:b6 v.1 0<0
  ·rw[if_neg zo,if_pos zo,if_pos q]; rfl
  ·by_cases q2:0<b6 v.1 0
   ·rw[if_pos zo,if_neg q,if_pos q2]
   ·rw[if_neg zo,if_neg zo,if_neg q,if_neg q2]; rfl
 ·rw[hs _ hu] at a
  rw[hs _ hv] at b
  rw[hs _ (Z0 hu hv)]
  have pu:=hu.pos
  have pv:=hv.pos
  have a0:0<=b6 u.1 0:=by rcases HD (a:=b6 u.1 0) with q | q | q<;>omega
  have b0:0<b6 v.1 0:=by rcases HD (a:=b6 v.1 0) with q | q | q<;>omega
  have c:=YG pu pv (i:=0) zo
  have d1:=Int.mul_nonneg a0 (show 0<=v.2 by omega)
  have d2:=Int.mul_pos b0 pu
  have d3:0<(b6 u.1 0*v.2+b6 v.1 0*u.2)*(o5 u v).2:=Int.mul_pos zo (Z0 hu hv).pos
  rw[<- c] at d3
  have d4:0<b6 (o5 u v).1 0:=by
   refine Classical.byContradiction fun hn=>?_
   have:=Int.mul_nonpos_of_nonpos_of_nonneg (show b6 (o5 u v).1 0<=0 by omega) (show 0<=u.2*v.2 from Int.le_of_lt (Int.mul_pos pu pv))
   omega
  rcases HD (a:=b6 (o5 u v).1 0) with q | q | q<;>omega
 ·rw[hs _ hv] at e
  have e0:b6 v.1 0=0:=by rcases HD (a:=b6 v.1 0) with q | q | q<;>omega
  refine gM hv fun i hi=>?_
  by_cases h0:i=0
  ·rw[h0]; exact e0
  ·exact LG.1 (hr v hv) i zo hi
 ·unfold D6
  rw[if_pos (by decide)]
  rfl
end Go.Fl

/- Points, letters and images: the interval of a point is the only one that holds it. No program in sight. -/
namespace Go.Fl
open Go
section
variable {p:List Int} {sg:i5->Int} {D:Int} {M n:Nat} {ls:List i5} {row:List Int} (h:J5 p sg) (hlo:v9 p D M n ls) (hr:r7 row n) (hpos:∀a,a<n->0<sg (b6 ls a))
include h hlo hr
theorem Q9 {k:Nat} (hk:k<=n):n8 p (j4 ls row k):=(U8 h.pol hlo hr k hk).1
include hpos
theorem WN {k:Nat} (hk:k<n):0<sg (j5 (j4 ls row (k+1)) (j4 ls row k)):=by
 have hl:=hr.2.2
 have hrk:=hr.1 k zo
 rw[j4,RQ (Q9 h hlo hr zo) (hlo.red _ zo)]
 exact hpos _ zo
theorem LF {i:Nat}:∀{j:Nat},i<j->j<=n->0<sg (j5 (j4 ls row j) (j4 ls row i))
 | 0,h1,_=>by omega
 | j+1,h1,h2=>by
  by_cases e:i=j
  ·rw[e]; exact WN h hlo hr hpos zo
  ·exact h.lt_of (Q9 h hlo hr zo) (Q9 h hlo hr zo) (Q9 h hlo hr zo) (Int.le_of_lt (LF zo zo)) (WN h hlo hr hpos zo)
theorem ON {pv:i5} (hv:n8 p pv) {k:Nat} (hk:k<n) (h1:0<=sg (j5 pv (j4 ls row k))) (h2:0<sg (j5 (j4 ls row (k+1)) pv)):∀{m:Nat},k<=m->m<n->F6 sg (y0 ls row) row pv m=b6 row k
 | 0,a,_=>by rw[F6,show k=0 by omega]
 | m+1,a,b=>by
  have hl:=hr.2.2
  have hrm:=hr.1 (m+1) zo
  have e:b6 (y0 ls row) (b6 row (m+1)).toNat=j4 ls row (m+1):=by
   show b6 (n6 row.length fun a=>j4 ls row (row.idxOf (a:Int))) _=_
   rw[s8 zo,show (((b6 row (m+1)).toNat:Nat):Int)=b6 row (m+1) by omega,EG hr zo]
  rw[F6,e]
  by_cases q:k=m+1
  ·subst q
   rw[if_pos (by rw[h.swap hv (Q9 h hlo hr zo)]; omega)]
  ·have hlt:0<sg (j5 (j4 ls row (m+1)) pv):=by
    by_cases e1:k+1=m+1
    ·rw[<- e1]; exact h2
    ·exact h.lt_of hv (Q9 h hlo hr zo) (Q9 h hlo hr zo) (Int.le_of_lt h2) (LF h hlo hr hpos zo zo)
   rw[if_neg zo]
   exact ON hv hk h1 h2 zo zo
theorem dS {pv:i5} (hv:n8 p pv) (h0:0<=sg pv):∀{m:Nat},m<=n->0<sg (j5 (j4 ls row m) pv)->∃k,k<m/\0<=sg (j5 pv (j4 ls row k))/\0<sg (j5 (j4 ls row (k+1)) pv)
 | 0,_,q=>by
  have _:=hpos
  exfalso
  have e:sg (j5 (u9 0) pv)=-sg (j5 pv (u9 0)):=h.swap hv (KN h.pol 0)
  have e2:j5 pv (u9 0)=pv:=ME hv
  rw[e2] at e
  have:0<sg (j5 (u9 0) pv):=q
  omega
 | m+1,hm,q=>by
  by_cases c:0<=sg (j5 pv (j4 ls row m))
  ·exact ⟨m,by omega,c,q⟩
  ·obtain ⟨k,a,b,d⟩:=dS hv h0 (m:=m) zo (by rw[h.swap hv (Q9 h hlo hr zo)]; omega)
   exact ⟨k,by omega,b,d⟩
end
end Go.Fl

/- The image of a point lies in the image of its interval; the inverse exchange takes it back. No program in sight. -/
namespace Go.Fl
open Go
theorem lK {p:List Int} {u v w x:i5} (hu:n8 p u) (hv:n8 p v) (hw:n8 p w) (hx:n8 p x):∃D,0<D/\CD D u/\CD D v/\CD D w/\CD D x:=by
 obtain ⟨D,hD,a,b,c⟩:=AM hu hv hw
 have d:=hx.pos
 refine ⟨D*x.2,Int.mul_pos hD d,a.scale hD d,b.scale hD d,c.scale hD d,?_⟩
 have:=hx.cd.scale d hD
 rwa [Int.mul_comm x.2 D] at this
theorem cY {p:List Int} {pv t b:i5} (hv:n8 p pv) (ht:n8 p t) (hb:n8 p b):j5 (o5 pv (j5 b t)) b=j5 pv t:=by
 obtain ⟨D,hD,⟨x,_,rfl⟩,⟨y,_,rfl⟩,⟨z,_,rfl⟩⟩:=AM hv ht hb
 unfold j5
 rw[<- N0,<- N0,A8 hD,A8 hD,A8 hD,A8 hD]
 exact congrArg (fun l=>loN l D) (z8 fun i hi=>by rw[s8 hi,s8 hi,K8,K8]; omega)
theorem UK {p:List Int} {pv t b l:i5} (hv:n8 p pv) (ht:n8 p t) (hb:n8 p b) (hl:n8 p l):j5 (o5 b l) (o5 pv (j5 b t))=j5 (o5 t l) pv:=by
 obtain ⟨D,hD,⟨x,_,rfl⟩,⟨y,_,rfl⟩,⟨z,_,rfl⟩,⟨w,_,rfl⟩⟩:=lK hv ht hb hl
 unfold j5
 rw[<- N0,A8 hD,A8 hD,A8 hD,<- N0,<- N0,A8 hD,A8 hD,A8 hD]
 exact congrArg (fun l=>loN l D) (z8 fun i hi=>by simp only[s8 hi,K8]; omega)
theorem rU {p:List Int} {pv t b:i5} (hv:n8 p pv) (ht:n8 p t) (hb:n8 p b):o5 (o5 pv (j5 b t)) (j5 t b)=pv:=by
 obtain ⟨D,hD,⟨x,hx,rfl⟩,⟨y,_,rfl⟩,⟨z,_,rfl⟩⟩:=AM hv ht hb
 unfold j5
 rw[<- N0,<- N0,A8 hD,A8 hD,A8 hD,A8 hD]
 exact congrArg (fun l=>loN l D) ((z8 fun i hi=>by simp only[s8 hi,K8]; omega).trans (IZ hx))
structure V6 (p:List Int) (sg:i5->Int) (D:Int) (M:Nat) (o:List Int×List Int) (ls:List i5):Prop where
 sgl:J5 p sg
 len:v9 p D M o.1.length ls
 top:r7 o.1 o.1.length
 bot:r7 o.2 o.1.length
 two:1<=o.1.length
 pos:∀a,a<o.1.length->0<sg (b6 ls a)
theorem V6.inv {p:List Int} {sg:i5->Int} {D:Int} {M:Nat} {o:List Int×List Int} {ls:List i5} (h:V6 p sg D M o ls):V6 p sg D M (o.2,o.1) ls:=by
 have e:o.2.length=o.1.length:=h.bot.2.2
 exact ⟨h.sgl,by show v9 p D M o.2.length ls; rw[e]; exact h.len,by show r7 o.2 o.2.length; rw[e]; exact h.bot,by show r7 o.1 o.2.length; rw[e]; exact h.top,by show 1<=o.2.length; rw[e]; exact h.two,by show ∀a,a<o.2.length->_; rw[e]; exact h.pos⟩
def B8 (sg:i5->Int) (o:List Int×List Int) (ls:List i5) (pv:i5):Int:=F6 sg (y0 ls o.1) o.1 pv (o.1.length-1)
section
variable {p:List Int} {sg:i5->Int} {D:Int} {M:Nat} {o:List Int×List Int} {ls:List i5} (h:V6 p sg D M o ls) {pv:i5} (hv:n8 p pv)
include h hv
theorem V6.at (h0:0<=sg pv) (h1:sg (j5 pv (t8 ls o.1))<0):∃i j,i<o.1.length/\j<o.1.length/\b6 o.1 i=B8 sg o ls pv/\b6 o.2 j=B8 sg o ls pv/\0<=sg (j5 pv (j4 ls o.1 i))/\0<sg (j5 (j4 ls o.1 (i+1)) pv)/\E4 o ls pv (B8 sg o ls pv)=o5 pv (j5 (j4 ls o.2 j) (j4 ls o.1 i)):=by
 have ht:=Q9 h.sgl h.len h.top (Nat.le_refl _)
 have h1':0<sg (j5 (j4 ls o.1 o.1.length) pv):=by
  rw[h.sgl.swap hv ht]
  have:sg (j5 pv (j4 ls o.1 o.1.length))<0:=h1
  omega
 obtain ⟨i,hi,a,b⟩:=dS h.sgl h.len h.top h.pos hv h0 (Nat.le_refl _) h1'
 have e:=ON h.sgl h.len h.top h.pos hv hi a b (m:=o.1.length-1) zo zo
 have hri:=h.top.1 i (by rw[h.top.2.2]; exact hi)
 obtain ⟨j,hj,hja,hjx⟩:=rT h.bot (a:=(b6 o.1 i).toNat) zo
 rw[show (((b6 o.1 i).toNat:Nat):Int)=b6 o.1 i by omega] at hja hjx
 refine ⟨i,j,hi,hj,e.symm,hja.trans e.symm,a,b,?_⟩
 unfold B8
 rw[e]
 unfold E4 V9
 rw[s8 zo]
 have e1:b6 (y0 ls o.1) (b6 o.1 i).toNat=j4 ls o.1 i:=by
  show b6 (n6 o.1.length fun a=>j4 ls o.1 (o.1.idxOf (a:Int))) _=_
  rw[s8 zo,show (((b6 o.1 i).toNat:Nat):Int)=b6 o.1 i by omega,EG h.top hi]
 have e2:b6 (y0 ls o.2) (b6 o.1 i).toNat=j4 ls o.2 j:=by
  show b6 (n6 o.2.length fun a=>j4 ls o.2 (o.2.idxOf (a:Int))) _=_
  rw[s8 (by rw[h.bot.2.2]; omega),show (((b6 o.1 i).toNat:Nat):Int)=b6 o.1 i by omega,hjx]
 rw[e1,e2]
theorem V6.img (h0:0<=sg pv) (h1:sg (j5 pv (t8 ls o.1))<0):n8 p (E4 o ls pv (B8 sg o ls pv))/\0<=sg (E4 o ls pv (B8 sg o ls pv))/\sg (j5 (E4 o ls pv (B8 sg o ls pv)) (t8 ls o.2))<0/\B8 sg (o.2,o.1) ls (E4 o ls pv (B8 sg o ls pv))=B8 sg o ls pv/\E4 (o.2,o.1) ls (E4 o ls pv (B8 sg o ls pv)) (B8 sg o ls pv)=pv:=by
 obtain ⟨i,j,hi,hj,ei,ej,a,b,e⟩:=h.at hv h0 h1
 have hbl:o.2.length=o.1.length:=h.bot.2.2
 have ti:=Q9 h.sgl h.len h.top (k:=i) zo
 have bj:=Q9 h.sgl h.len h.bot (k:=j) zo
 have hri:=h.top.1 i (by rw[h.top.2.2]; exact hi)
 have hl:=h.len.red (b6 o.1 i).toNat zo
 have hs:=P9 bj ti
 have hm:=Z0 hv hs
 have lo:=cY hv ti bj
 have hi':=UK hv ti bj hl
 have et:j4 ls o.1 (i+1)=o5 (j4 ls o.1 i) (b6 ls (b6 o.1 i).toNat):=rfl
 have eb:j4 ls o.2 (j+1)=o5 (j4 ls o.2 j) (b6 ls (b6 o.1 i).toNat):=by rw[j4,ej,ei]
 rw[<- et,<- eb] at hi'
 rw[<- lo] at a
 rw[<- hi'] at b
 rw[e]
 generalize him:o5 pv (j5 (j4 ls o.2 j) (j4 ls o.1 i))=im at *
 have bj1:=Q9 h.sgl h.len h.bot (k:=j+1) zo
 have g0:0<=sg im:=by
  have z:j5 im (u9 0)=im:=ME hm
  by_cases q:j=0
  ·subst q
   have:j5 im (j4 ls o.2 0)=im:=z
   rw[this] at a; exact a
  ·have lt:=LF h.sgl h.len h.bot h.pos (i:=0) (j:=j) zo zo
   have:=h.sgl.lt_of' (KN h.sgl.pol 0) bj hm lt a
   rw[z] at this; omega
 have g1:0<sg (j5 (j4 ls o.2 o.1.length) im):=by
  by_cases q:j+1=o.1.length
  ·rw[<- q]; exact b
  ·exact h.sgl.lt_of hm bj1 (Q9 h.sgl h.len h.bot (Nat.le_refl _)) (Int.le_of_lt b) (LF h.sgl h.len h.bot h.pos zo (Nat.le_refl _))
 have g2:sg (j5 im (t8 ls o.2))<0:=by
  unfold t8
  rw[hbl,h.sgl.swap (Q9 h.sgl h.len h.bot (Nat.le_refl _)) hm]; omega
 have el:B8 sg (o.2,o.1) ls im=B8 sg o ls pv:=by
  have:=ON h.sgl h.len h.bot h.pos hm hj a b (m:=o.1.length-1) zo zo
  unfold B8
  show F6 sg (y0 ls o.2) o.2 im (o.2.length-1)=_
  rw[hbl,this,ej]; rfl
 refine ⟨hm,g0,g2,el,?_⟩
 obtain ⟨j',i',hj',hi'',ej',ei',_,_,e'⟩:=h.inv.at hm g0 g2
 rw[el] at ej' ei' e'
 have f1:j'=j:=by
  have hj':j'<o.2.length:=hj'
  exact DC h.bot.2.1 hj' zo (by show b6 (o.2,o.1).1 j'=_; rw[ej',ej])
 have f2:i'=i:=by
  have hi'':i'<o.2.length:=hi''
  exact DC h.top.2.1 zo hi (by show b6 (o.2,o.1).2 i'=_; rw[ei',ei])
 subst f1 f2
 rw[e',<- him]
 exact rU hv ti bj
end
end Go.Fl

/- The law: an exchange is a bijection. -/
namespace Go.Fl
open Go Go.Proofs
open d5 renaming op->tO
open i6 renaming op->rO
set_option maxRecDepth 100000

theorem J5.of_chk {f:y8} (h0:E1 f=0):J5 f.1 (D6 f.1 (F9 f)):=by
 have hpo:=L0 h0
 have hl:=(Z4 h0).1.1
 by_cases h2:f.1.length=2
 ·exact J5.of_rat hpo h2
 ·exact J5.of_fld (TY h0 zo)
theorem F1.ex {x:n9} {D:Int} {M:Nat} (hx:F1 x) (hlo:v9 x.1.1 D M x.2.1.length (p7 x)):V6 x.1.1 (r9 x) D M (oX x) (p7 x) :=
 ⟨J5.of_chk hx.fld,hlo,hx.rows.p1,hx.rows.p2,by have:2<=x.2.1.length:=hx.rows.two; show 1<=x.2.1.length; omega,fun a ha=>by
  have ha:a<x.2.1.length:=ha
  have:=hx.pos a ha
  rwa [<- HY (p:=x.1.1) (by rw[hx.len]; exact ha)] at this⟩
end Go.Fl

/- Connections: which interval begins at a point. No program in sight. -/
namespace Go.Fl
open Go
def hJ (sg:i5->Int) (row:List Int) (ls:List i5) (pv:i5):Option Int:=if F6 sg (y0 ls row) row pv (row.length-1)≠b6 row 0/\sg (j5 (b6 (y0 ls row) (F6 sg (y0 ls row) row pv (row.length-1)).toNat) pv)=0 then some (F6 sg (y0 ls row) row pv (row.length-1)) else none
section
variable {p:List Int} {sg:i5->Int} {D:Int} {M n:Nat} {ls:List i5} {row:List Int} (h:J5 p sg) (hlo:v9 p D M n ls) (hr:r7 row n) (hpos:∀a,a<n->0<sg (b6 ls a)) {pv:i5} (hv:n8 p pv)
include h hlo hr hpos hv
end
end Go.Fl

/- Contracts: connections of exchanges. -/
namespace Go.Fl
open Go Go.Proofs
open d5 renaming op->tO
open i6 renaming op->rO
set_option maxRecDepth 100000

end Go.Fl

/- Contracts: connections of the program. -/
namespace Go.Fl
open Go Go.Proofs
open d5 renaming op->tO
open i6 renaming op->rO
set_option maxRecDepth 100000

end Go.Fl

/- Contracts: connections of the reference; the law of connections. -/
namespace Go.Fl
open Go Go.Proofs
open d5 renaming op->tO
open i6 renaming op->rO
set_option maxRecDepth 100000

end Go.Fl

/- The law of connections. -/
namespace Go.Fl
open Go Go.Proofs
open d5 renaming op->tO
open i6 renaming op->rO
set_option maxRecDepth 100000

end Go.Fl

/- Matrices of integers, minors, determinants: how large they are. The first of so many times. No program in sight. -/
namespace Go.Fl
open Go
section
variable {α:Type} [Inhabited α] {l:List α} {r k:Nat}
end
def pU (B:Nat):Nat->Nat
 | 0=>1
 | n+1=>B+pU B n+(n+1)
def M7 (P:Nat->Bool):Nat->Nat
 | 0=>0
 | m+1=>if M7 P m≠0 then M7 P m else if P (m+1)=true then m+1 else 0
theorem rB {P:Nat->Bool} {m:Nat} (h:M7 P m=0) (a:P (m+1)=false):M7 P (m+1)=0:=by simp[M7,h,a]
theorem rA {P:Nat->Bool} {m:Nat} (h:M7 P m=0) (a:P (m+1)=true):M7 P (m+1)=m+1:=by simp[M7,h,a]
theorem cL {P:Nat->Bool} {m:Nat} (h:M7 P m≠0):∀{n:Nat},m<=n->M7 P n=M7 P m
 | 0,hn=>by rw[show m=0 by omega]
 | n+1,hn=>by
  by_cases e:m=n+1
  ·rw[e]
  ·have:=cL h (n:=n) zo
   rw[M7,this,if_pos h]
end Go.Fl

/- Contracts: lowest terms over any denominator, matrices and minors. -/
namespace Go.Fl
open Go Go.Proofs
open d5 renaming op->tO
open i6 renaming op->rO
set_option maxRecDepth 100000

end Go.Fl

/- Contracts: matrices of multiplications, determinants. -/
namespace Go.Fl
open Go Go.Proofs
open d5 renaming op->tO
open i6 renaming op->rO
set_option maxRecDepth 100000

end Go.Fl

/- Contracts: inverses and quotients of the reference. -/
namespace Go.Fl
open Go Go.Proofs
open d5 renaming op->tO
open i6 renaming op->rO
set_option maxRecDepth 100000

end Go.Fl

/- Contracts: first returns. -/
namespace Go.Fl
open Go Go.Proofs
open d5 renaming op->tO
open i6 renaming op->rO
set_option maxRecDepth 100000

noncomputable def pN (x:n9) (p:s7):Nat->s7
 | 0=>p
 | k+1=>m8 (CH x (i8 x.1.1 p) (k+1))
theorem vL {x:n9} {p:s7} {k:Nat} (h:n8 x.1.1 (CH x (i8 x.1.1 p) k)):i8 x.1.1 (pN x p k)=CH x (i8 x.1.1 p) k:=by
 cases k with
 | zero=>rfl
 | succ k=>exact K2 h
theorem vK {x:n9} {p:s7} {k:Nat} (hp:v7 250 p) (h:E5 200 (CH x (i8 x.1.1 p) k)):v7 250 (pN x p k):=by
 cases k with
 | zero=>exact hp
 | succ k=>exact (M8 h).mono zo
noncomputable def ET (x:n9) (p l:s7) (k:Nat):Bool:=decide (r9 x (j5 (CH x (i8 x.1.1 p) k) (i8 x.1.1 l))<0)
noncomputable def KW:{ n:Nat // n=2000 }:=Classical.choice ⟨⟨2000,rfl⟩⟩
noncomputable def AC (x:n9) (p l:s7):Nat:=M7 (ET x p l) KW.1
noncomputable def IR (x:n9) (p l:s7):s7:=if AC x p l=0 then ([],[]) else m8 (CH x (i8 x.1.1 p) (AC x p l))
noncomputable def IP (x:n9) (p l:s7):Bool:=!(decide (r9 x (i8 x.1.1 l)<=0)||decide (0<r9 x (j5 (i8 x.1.1 l) (t8 (p7 x) x.2.1)))||!(decide (0<=r9 x (i8 x.1.1 p))&&decide (r9 x (j5 (i8 x.1.1 p) (i8 x.1.1 l))<0)))
theorem WT {x:n9} {p l:s7} {k:Nat} (hno:M7 (ET x p l) k=0) (h:r9 x (j5 (CH x (i8 x.1.1 p) (k+1)) (i8 x.1.1 l))<0) (hk:k+1<=2000):AC x p l=k+1/\IR x p l=m8 (CH x (i8 x.1.1 p) (k+1)):=by
 have hP:ET x p l (k+1)=true:=decide_eq_true h
 have e:=rA hno hP
 have hK:AC x p l=k+1:=(cL (by rw[e]; omega) (by rw[KW.2]; exact hk)).trans e
 exact ⟨hK,by unfold IR; rw[hK,if_neg zo]⟩
theorem gQ {x:n9} {p l:s7} {k:Nat} (hno:M7 (ET x p l) k=0) (h:¬r9 x (j5 (CH x (i8 x.1.1 p) (k+1)) (i8 x.1.1 l))<0):M7 (ET x p l) (k+1)=0:=rB hno (decide_eq_false h)
theorem WU {x:n9} {p l:s7} (h:M7 (ET x p l) KW.1=0):AC x p l=0/\IR x p l=([],[]):=⟨h,by unfold IR; rw[show AC x p l=0 from h,if_pos rfl]⟩
set_option maxHeartbeats 1000000 in
theorem pI (x:n9) (D:Int) (M:Nat) (p l:s7) (hx:F1 x) (hlo:v9 x.1.1 D M x.2.1.length (p7 x)) (hpn:v7 250 p) (hln:v7 250 l) (hb:HB D M (i8 x.1.1 p)) (hrg:IP x p l=true):Ct Tryz.prog 29 [b7 eX x,b7 j2 p,b7 j2 l] (y4 [b7 j2 (IR x p l),kI (AC x p l:Int),kI (if AC x p l=0 then 17 else 0)]):=by
 have h0:=hx.fld
 have hpo:=L0 h0
 have hs:=(Z4 h0).1.2.1
 have v:=hx.rows
 have hp1:r7 x.2.1 x.2.1.length:=v.p1
 have hp2:r7 x.2.2.1 x.2.1.length:=v.p2
 have hle:x.2.1.length<=8:=v.le
 have htwo:2<=x.2.1.length:=v.two
 have hbl:x.2.2.1.length=x.2.1.length:=v.len
 have hxl:=hx.len
 have hll:=hlo.len
 have htt:=U8 hpo hlo hp1 x.2.1.length (Nat.le_refl _)
 have htg:i8 x.1.1 (m8 (t8 (p7 x) x.2.1))=t8 (p7 x) x.2.1:=K2 htt.1
 have hro:=DL (x:=p) hpo
 unfold IP at hrg
 rw[Bool.not_eq_true'] at hrg
 refine Ct.mk Tryz.func29 rfl Tryz.ntmps29 rfl (fun w J=>?_); refine i2 ?_; refine jb 3 rfl ?_; refine jb 4 rfl ?_; refine jb 5 rfl ?_; refine ja 6 ?_; refine l5 ?_; refine jc (KC x D M hx hlo) ?_; refine B4 ?_; refine Tr.cnd rfl ?_ ?_
 ·intro h2
  exact absurd h2 (by decide)
 ·intro h2
  refine i4 ?_; refine Tr.draw 24 q9 (by kernel_rfl) ?_; refine i9 ?_; refine rO (G7 rfl uu) rfl rfl ?_; refine j9 ?_; refine jd (TB x.1 l h0 hln) ?_; refine j9 ?_; refine i6.gd rfl rfl rfl (G7 rfl id) rfl rfl ?_; refine i4 ?_; refine i6.gd rfl rfl rfl (G7 rfl id) rfl rfl ?_; refine i2 ?_; refine i6.gd rfl rfl rfl (j7 (fun hp=>MZ x.1 l (m8 (t8 (p7 x) x.2.1)) h0 hln ((M8 (hlo.nbd htt.2 zo)).mono zo)) (.a rfl id<|.s rfl id rfl<|.a rfl id<|.nil)) rfl rfl ?_
  rw[htg]
  refine l5 ?_; refine d5.gd rfl rfl rfl (j7 (fun hp=>SV x p l h0 hpn hln) (.a rfl id<|.s rfl id rfl<|.s rfl id rfl<|.nil)) rfl rfl ?_; refine i4 ?_; refine Tr.cnd rfl ?_ ?_
  ·intro h4
   rw[hrg] at h4; exact absurd h4 (by decide)
  ·intro h4
   refine l6 ?_
   refine Tr.for1 (σ:=Nat) [⟨4,true,_,_⟩,⟨5,true,_,_⟩,⟨6,true,_,_⟩,⟨9,true,_,_⟩] [⟨5,_,_⟩] (fun k=>[⟨11,true,[],kI (k:Int)⟩]) (fun k=>[⟨4,[],j3 [b7 (eL (eL eI)) (pN x p (k-1)).1,b7 (eL eI) (pN x p (k-1)).2]⟩,⟨6,[],j3 [j8 (.slice none 0 0),j8 (.slice none 0 0)]⟩]) (fun k=>(1<=k/\k<=2001)/\M7 (ET x p l) (k-1)=0) (fun k=>M7 (ET x p l) KW.1=0) (fun k=>2001-k) (1) ⟨by omega,rfl⟩ (d7.mk (.i rfl zi<|zk) (.e (by rfl) rfl<|zk) rfl) ?_ ?_
   ·rintro k ⟨⟨hk1,hk2⟩,hno⟩; obtain ⟨k,rfl⟩:∃j,k=j+1:=⟨k-1,by omega⟩; rw[Nat.add_sub_cancel] at hno ⊢
    refine jn ?_
    have hor1:=PM (sg:=r9 x) (o:=oX x) hpo hlo hp1 hp2 (by show 1<=x.2.1.length; omega) hro hb (k+1)
    have hor:=PM (sg:=r9 x) (o:=oX x) hpo hlo hp1 hp2 (by show 1<=x.2.1.length; omega) hro hb k
    have hob:=fun (h:k<=2000)=>fL (sg:=r9 x) (o:=oX x) hpo hlo hp1 hp2 ⟨by show 1<=x.2.1.length; omega,hle⟩ hro hb (k:=k) zo
    have hob1:=fun (h:k<=2000)=>fL (sg:=r9 x) (o:=oX x) hpo hlo hp1 hp2 ⟨by show 1<=x.2.1.length; omega,hle⟩ hro hb (k:=k+1) zo
    have hpt:=vL (p:=p) hor.1
    refine l5 ?_; refine jq ?_ ?_
    ·intro h7
     refine l6 ?_; refine jc (oC x D M (pN x p k) hx hlo (vK hpn (hob zo))) ?_
     rw[hpt]
     refine l5 ?_; refine Tr.draw 6 q9 (by kernel_rfl) ?_; refine i9 ?_; refine rO (G7 rfl uu) rfl rfl ?_; refine o0 ?_; refine jc (MZ x.1 (m8 (CH x (i8 x.1.1 p) (k+1))) l h0 ((M8 (hob1 zo)).mono zo) hln) ?_
     rw[K2 hor1.1]
     refine j9 ?_; refine jq ?_ ?_
     ·intro h10
      obtain ⟨e1,e2⟩:=WT hno h10 zo
      refine AU ?_; exact d9.resC (fn:=Tryz.f29) (ts:=[7,8]) rfl rfl rfl (u8 rfl (by rw[e2]<;>rfl)) (.i rfl (by rw[e1])<|.i rfl (by rw[e1,if_neg zo])<|.nil)
     ·intro h10
      replace h10:=Int.not_lt.1 h10
      have hnx:=gQ hno (Int.not_lt.2 h10)
      refine l6 ?_
      exact g8.lp (k+1+1) ⟨by omega,by rw[Nat.add_sub_cancel]; exact hnx⟩ zo (d7.mk (.i rfl zi<|zk) (.e (by rw[Nat.add_sub_cancel]; rfl) rfl<|zk) rfl)
    ·intro h7
     replace h7:=Int.not_le.1 h7
     refine i4 ?_
     exact g8.cut (k+1) (by rw[show k=2000 by omega] at hno; rw[KW.2]; exact hno) (d7.mk (.i rfl zi<|zk) (.e (by rw[Nat.add_sub_cancel]) rfl<|zk) rfl)
   ·intro k hE
    refine je ?_; refine j9 ?_; refine tO (A4 (fun hp=>.nil)) rfl rfl ?_; refine n7 ?_; exact d9.resC (fn:=Tryz.f29) (ts:=[7,8]) rfl rfl rfl (u8 rfl (by rw[(WU hE).2]<;>rfl)) (.i rfl (by rw[(WU hE).1]<;>rfl)<|.i rfl (by rw[(WU hE).1,if_pos rfl])<|.nil)

theorem pJ (x:n9) (D:Int) (M:Nat) (p l:s7) (hx:F1 x) (hlo:v9 x.1.1 D M x.2.1.length (p7 x)) (hpn:v7 250 p) (hln:v7 250 l) (hrg:IP x p l=false):Ct Tryz.prog 29 [b7 eX x,b7 j2 p,b7 j2 l] (y4 [b7 j2 ([],[]),kI 0,kI 2]):=by
 have h0:=hx.fld
 have hpo:=L0 h0
 have hs:=(Z4 h0).1.2.1
 have v:=hx.rows
 have hp1:r7 x.2.1 x.2.1.length:=v.p1
 have hp2:r7 x.2.2.1 x.2.1.length:=v.p2
 have hle:x.2.1.length<=8:=v.le
 have htwo:2<=x.2.1.length:=v.two
 have hbl:x.2.2.1.length=x.2.1.length:=v.len
 have hxl:=hx.len
 have hll:=hlo.len
 have htt:=U8 hpo hlo hp1 x.2.1.length (Nat.le_refl _)
 have htg:i8 x.1.1 (m8 (t8 (p7 x) x.2.1))=t8 (p7 x) x.2.1:=K2 htt.1
 unfold IP at hrg
 rw[Bool.not_eq_false'] at hrg
 refine Ct.mk Tryz.func29 rfl Tryz.ntmps29 rfl (fun w J=>?_); refine i2 ?_; refine jb 3 rfl ?_; refine jb 4 rfl ?_; refine jb 5 rfl ?_; refine ja 6 ?_; refine l5 ?_; refine jc (KC x D M hx hlo) ?_; refine B4 ?_; refine Tr.cnd rfl ?_ ?_
 ·intro h2
  exact absurd h2 (by decide)
 ·intro h2
  refine i4 ?_; refine Tr.draw 24 q9 (by kernel_rfl) ?_; refine i9 ?_; refine rO (G7 rfl uu) rfl rfl ?_; refine j9 ?_; refine jd (TB x.1 l h0 hln) ?_; refine j9 ?_; refine i6.gd rfl rfl rfl (G7 rfl id) rfl rfl ?_; refine i4 ?_; refine i6.gd rfl rfl rfl (G7 rfl id) rfl rfl ?_; refine i2 ?_; refine i6.gd rfl rfl rfl (j7 (fun hp=>MZ x.1 l (m8 (t8 (p7 x) x.2.1)) h0 hln ((M8 (hlo.nbd htt.2 zo)).mono zo)) (.a rfl id<|.s rfl id rfl<|.a rfl id<|.nil)) rfl rfl ?_
  rw[htg]
  refine l5 ?_; refine d5.gd rfl rfl rfl (j7 (fun hp=>SV x p l h0 hpn hln) (.a rfl id<|.s rfl id rfl<|.s rfl id rfl<|.nil)) rfl rfl ?_; refine i4 ?_; refine Tr.cnd rfl ?_ ?_
  ·intro h4
   refine i2 ?_; refine tO (A4 (fun hp=>.nil)) rfl rfl ?_; refine l5 ?_
   exact d9.resC (fn:=Tryz.f29) (ts:=[7,8]) rfl rfl rfl (u8 rfl (by rfl)) (.i rfl zi<|.i rfl zi<|.nil)
  ·intro h4
   rw[hrg] at h4; exact absurd h4 (by decide)

end Go.Fl

/- The law of first returns. -/
namespace Go.Fl
open Go Go.Proofs
open d5 renaming op->tO
open i6 renaming op->rO
set_option maxRecDepth 100000

end Go.Fl

/- Rows as they are printed, step by step. Plain Lean, no program in sight. -/
namespace Go.Fl
end Go.Fl

/- Irreducible rows, step by step. Plain Lean, no program in sight. -/
namespace Go.Fl
theorem xA {r:p6} {k:Nat}:CK r k 0=true:=rfl
theorem wZ {r:p6} {k i:Nat} (h:i<r.2.length):CK r k (i+1)=(CK r k i&&decide (b6 r.2 i∈r.1.take k)):=by
 unfold CK
 rw[Y1 h,List.all_append]
 simp
theorem sC {r:p6} (h:C9 r) {k:Nat} (h1:1<=k) (hk:k<r.1.length) (hs:CK r k k=true):B3 r=false:=by
 unfold B3
 rw[decide_eq_false_iff_not]
 intro hh
 have:=hh k hk h1
 rw[OI h zo,hs] at this
 cases this
theorem sD {r:p6} {k:Nat} (h1:1<=k) (hk:k<r.1.length) (hs:Q7 r k=false):B3 r=false:=by
 unfold B3
 rw[decide_eq_false_iff_not]
 intro hh
 have:=hh k hk h1
 rw[hs] at this
 cases this
theorem dC {r:p6} (h:∀k,k<r.1.length->1<=k->Q7 r k=true):B3 r=true:=decide_eq_true h
end Go.Fl

/- Steps of rows, and their matrices. No program in sight. -/
namespace Go.Fl
open Go
def M9 (f:Int->Bool):List Int->Int
 | []=>-1
 | x::l=>if f x=true then 0 else if M9 f l<0 then -1 else M9 f l+1
theorem UR {f:Int->Bool}:∀{l:List Int},(∀i,i<l.length->f (b6 l i)=false)->M9 f l=-1
 | [],_=>rfl
 | x::l,h=>by
  have h0:=h 0 (by simp)
  have e:b6 (x::l) 0=x:=rfl
  rw[e] at h0
  rw[M9,if_neg (by rw[h0]; simp),UR fun i hi=>h (i+1) (by simpa using hi)]
  rfl
theorem OJ {f:Int->Bool}:∀{l:List Int} {k:Nat},k<l.length->(∀i,i<k->f (b6 l i)=false)->f (b6 l k)=true->M9 f l=k
 | [],k,hk,_,_=>by simp at hk
 | x::l,0,_,_,h=>by
  have e:b6 (x::l) 0=x:=rfl
  rw[e] at h
  rw[M9,if_pos h]; rfl
 | x::l,k+1,hk,hn,h=>by
  have h0:=hn 0 zo
  have e:b6 (x::l) 0=x:=rfl
  rw[e] at h0
  have ih:=OJ (l:=l) (k:=k) (by simpa using hk) (fun i hi=>hn (i+1) zo) h
  rw[M9,if_neg (by rw[h0]; simp),ih,if_neg zo]
  rfl
theorem UQ {f:Int->Bool}:∀{l:List Int},decide (0<=M9 f l)=l.any f
 | []=>rfl
 | x::l=>by
  have ih:=UQ (f:=f) (l:=l)
  rw[List.any_cons,M9]
  by_cases h:f x=true
  ·rw[if_pos h,h]; rfl
  ·rw[if_neg h,Bool.eq_false_iff.2 h,Bool.false_or,<- ih]
   split
   ·rw[decide_eq_decide]; omega
   ·rw[decide_eq_decide]; omega
def g7 (l:List Int):Int:=b6 l (l.length-1)
def u4 (row:List Int) (b:Int):List Int:=BY (row.take (row.length-1)) (M9 (fun y=>decide (b=y)) (row.take (row.length-1))+1).toNat (g7 row)
def N1 (r:p6) (kind:Int):p6:=if kind=0 then (r.1,u4 r.2 (g7 r.1)) else (u4 r.1 (g7 r.2),r.2)
def C3 (r:p6) (kind:Int):Int:=if kind=0 then g7 r.1 else g7 r.2
def D4 (r:p6) (kind:Int):Int:=if kind=0 then g7 r.2 else g7 r.1
theorem iT {row:List Int} {i:Nat} (h:i<row.length):row.take (i+1)=row.take i++[b6 row i]:=by
 rw[List.take_succ_eq_append_getElem h]
 congr 2
 simp[b6,h]
theorem PZ {row:List Int} {n:Nat} (hl:row.length=n) (h:1<=n):row.take (n-1)++[g7 row]=row:=by
 unfold g7
 rw[hl,<- iT zo,show n-1+1=n by omega,<- hl,List.take_length]
theorem sE {row:List Int} {n j:Nat} {b:Int} (hp:r7 row n) (hj:j<n-1) (hb:b6 row j=b):M9 (fun y=>decide (b=y)) (row.take (row.length-1))=(j:Int):=by
 have hl:=hp.2.2
 have ht:(row.take (row.length-1)).length=n-1:=by rw[List.length_take]; omega
 have hg:∀i,i<n-1->b6 (row.take (row.length-1)) i=b6 row i:=fun i hi=>by
  unfold b6
  simp only[List.getD_eq_getElem?_getD]
  rw[List.getElem?_take,if_pos zo]
 refine OJ zo (fun i hi=>?_) ?_
 ·rw[hg i zo]
  refine decide_eq_false fun e=>?_
  have:=DC hp.2.1 (i:=i) (j:=j) zo zo (by rw[hb,<- e])
  omega
 ·rw[hg j hj,hb]; exact decide_eq_true rfl
theorem iD {row:List Int} {n j:Nat} {b:Int} (hp:r7 row n) (hj:j<n-1) (hb:b6 row j=b):u4 row b=row.take (j+1)++[g7 row]++(row.take (n-1)).drop (j+1):=by
 have hl:=hp.2.2
 unfold u4 BY
 rw[sE hp hj hb,show ((j:Int)+1).toNat=j+1 by omega,hl,List.take_take,Nat.min_eq_left zo]
theorem QI {row:List Int} {n:Nat} {b:Int} (hl:row.length=n) (h:1<=n):(u4 row b).Perm row:=by
 unfold u4 BY
 generalize (M9 (fun y=>decide (b=y)) (row.take (row.length-1))+1).toNat=i
 have h1:((row.take (row.length-1)).take i++[g7 row]++(row.take (row.length-1)).drop i).Perm ((row.take (row.length-1)).take i++(row.take (row.length-1)).drop i++[g7 row]):=by
  rw[List.append_assoc,List.append_assoc]
  exact List.Perm.append_left _ List.perm_append_comm
 rw[List.take_append_drop,hl,PZ hl h] at h1
 rw[hl]; exact h1
theorem vV {p q:List Int} {n:Nat} (h:q.Perm p) (hp:r7 p n):r7 q n:=by
 have hl:=h.length_eq
 refine ⟨fun i hi=>?_,h.nodup_iff.2 hp.2.1,by rw[hl]; exact hp.2.2⟩
 have:b6 q i∈p:=h.mem_iff.1 (F7 hi)
 obtain ⟨k,hk,e⟩:=List.mem_iff_getElem.1 this
 have:=hp.1 k hk
 rw[show b6 p k=p[k] by simp[b6,hk],e] at this
 exact this
theorem dD {r:p6} (h:C9 r) (hi:B3 r=true):C9 (r.2,r.1)/\B3 (r.2,r.1)=true:=by
 have hl:=h.len
 refine ⟨⟨hl.symm,by show 2<=r.2.length; rw[hl]; exact h.two,by show r.2.length<=8; rw[hl]; exact h.le,by show r7 r.2 r.2.length; rw[hl]; exact h.p2,by show r7 r.1 r.2.length; rw[hl]; exact h.p1⟩,decide_eq_true fun k hk h1=>?_⟩
 have hk:k<r.2.length:=hk
 have hi:=of_decide_eq_true hi k zo h1
 rw[OI h zo,Bool.not_eq_true'] at hi
 unfold CK at hi
 unfold Q7
 rw[<- Bool.not_eq_true,List.all_eq_true] at hi
 refine Classical.byContradiction fun hn=>hi fun a ha=>?_
 refine Classical.byContradiction fun hq=>hn ?_
 exact List.any_eq_true.2 ⟨a,ha,by simpa using hq⟩
theorem UX {r:p6} (h:C9 r) (hi:B3 r=true):g7 r.1≠g7 r.2:=by
 have hl:=h.len
 have h2:=h.two
 have hi:=of_decide_eq_true hi (r.1.length-1) zo zo
 obtain ⟨a,ha,hb⟩:=List.any_eq_true.1 hi
 simp only[Bool.not_eq_true',decide_eq_false_iff_not] at hb
 intro e
 have h1:=PZ (row:=r.1) rfl zo
 have d:=h.p1.2.1
 rw[<- h1] at d
 have:a≠g7 r.1:=fun e=>(List.nodup_append.1 d).2.2 a ha (g7 r.1) (by simp) e
 have ha2:a∈r.2:=by
  have hm:a∈r.1:=List.mem_of_mem_take ha
  obtain ⟨i,hi',e'⟩:=List.mem_iff_getElem.1 hm
  have hr:=h.p1.1 i hi'
  rw[show b6 r.1 i=r.1[i] by simp[b6,hi'],e'] at hr
  obtain ⟨j,hj,ej⟩:=GD h.p2.2.1 h.p2.1 h.p2.2.2 hr.1 hr.2
  rw[<- ej]; exact F7 zo
 have h3:=PZ (row:=r.2) hl zo
 rw[<- h3] at ha2
 rcases List.mem_append.1 ha2 with ha2 | ha2
 ·exact hb ha2
 ·rw[List.mem_singleton,<- e] at ha2; exact this ha2
theorem JU {row:List Int} {n:Nat} {b:Int} (hp:r7 row n) (h0:0<=b/\b<n) (hb:b≠g7 row):∃j,j<n-1/\b6 row j=b:=by
 obtain ⟨j,hj,e⟩:=GD hp.2.1 hp.1 hp.2.2 h0.1 h0.2
 refine ⟨j,Nat.lt_of_le_of_ne zo fun e'=>hb ?_,e⟩
 unfold g7
 rw[hp.2.2,<- e',e]
theorem P6 {row:List Int} {n:Nat} (hp:r7 row n) (h:1<=n):0<=g7 row/\g7 row<n:=by
 have:=hp.1 (row.length-1) (by have:=hp.2.2; omega)
 exact this
theorem eD {r:p6} (h:C9 r) (hi:B3 r=true):C9 (r.1,u4 r.2 (g7 r.1))/\B3 (r.1,u4 r.2 (g7 r.1))=true:=by
 have hl:=h.len
 have h2:=h.two
 have hp:=QI (b:=g7 r.1) hl zo
 have hv:C9 (r.1,u4 r.2 (g7 r.1)):=⟨by show (u4 r.2 (g7 r.1)).length=_; rw[hp.length_eq,hl],h.two,h.le,h.p1,vV hp h.p2⟩
 refine ⟨hv,decide_eq_true fun k hk h1=>?_⟩
 have hk:k<r.1.length:=hk
 obtain ⟨j,hj,ej⟩:=JU h.p2 (P6 h.p1 zo) (UX h hi)
 have es:=iD h.p2 hj ej
 by_cases c:k<=j
 ·have e:(u4 r.2 (g7 r.1)).take k=r.2.take k:=by
   rw[es,List.append_assoc,List.take_append_of_le_length (by rw[List.length_take]; omega),List.take_take,Nat.min_eq_left zo]
  have:=of_decide_eq_true hi k hk h1
  unfold Q7 at this ⊢
  show (r.1.take k).any (fun a=>!decide (a∈(u4 r.2 (g7 r.1)).take k))=true
  rw[e]; exact this
 ·rw[OI hv (Nat.le_of_lt hk)]
  have hm:g7 r.1∈(u4 r.2 (g7 r.1)).take k:=by
   rw[es,List.append_assoc,List.take_append,List.mem_append]
   left
   rw[List.take_take,Nat.min_eq_right zo,iT zo,ej]
   simp
  have hn:g7 r.1∉r.1.take k:=fun hm=>by
   have d:=h.p1.2.1
   rw[<- PZ (row:=r.1) rfl zo] at d
   refine (List.nodup_append.1 d).2.2 (g7 r.1) ?_ (g7 r.1) (by simp) rfl
   exact List.Sublist.subset (List.take_sublist_take_left zo) hm
  rw[Bool.not_eq_true']
  unfold CK
  refine Bool.eq_false_iff.2 fun ha=>hn ?_
  have:=List.all_eq_true.1 ha (g7 r.1) hm
  simpa using this
theorem VO {r:p6} (h:C9 r) (hi:B3 r=true) (kind:Int):C9 (N1 r kind)/\B3 (N1 r kind)=true:=by
 unfold N1
 split
 ·exact eD h hi
 ·obtain ⟨h1,h2⟩:=dD h hi
  obtain ⟨h3,h4⟩:=eD h1 h2
  exact dD h3 h4
abbrev ZM:=List (List Int)
structure DW (n B:Nat) (m:ZM):Prop where
 len:m.length=n
 row:∀i,i<n->(b6 m i).length=n
 rg:∀i j,0<=b6 (b6 m i) j/\b6 (b6 m i) j<=B
def MC (to col:Nat) (row:List Int):List Int:=row.set to (b6 row to+b6 row col)
def M4 (m:ZM) (to col:Nat):ZM:=m.map (MC to col)
theorem VV {m:ZM} {f:List Int->List Int} {i:Nat} (h:i<m.length):b6 (m.map f) i=f (b6 m i):=by simp[b6,h]
theorem fA {l:List Int} {k j:Nat} {x:Int} (h:k<l.length):b6 (l.set k x) j=if j=k then x else b6 l j:=by
 by_cases e:j=k
 ·subst e; rw[if_pos rfl]; simp[b6,h]
 ·rw[if_neg e]; simp[b6,List.getElem?_set_ne (Ne.symm e)]
theorem kL {n B:Nat} {m:ZM} {to col:Nat} (h:DW n B m) (ht:to<n):DW n (2*B) (M4 m to col):=by
 have hl:(M4 m to col).length=n:=by unfold M4; rw[List.length_map,h.len]
 refine ⟨hl,fun i hi=>?_,fun i j=>?_⟩
 ·unfold M4; rw[VV (by rw[h.len]; exact hi)]; unfold MC; rw[List.length_set]; exact h.row i hi
 ·by_cases hi:i<n
  ·unfold M4; rw[VV (by rw[h.len]; exact hi)]; unfold MC
   rw[fA (by rw[h.row i hi]; exact ht)]
   have a:=h.rg i to; have b:=h.rg i col; have d:=h.rg i j
   split<;>omega
  ·rw[show b6 (M4 m to col) i=[] from by simp[b6,List.getElem?_eq_none (show (M4 m to col).length<=i by omega)]; rfl]
   show 0<=(0:Int)/\(0:Int)<=_
   omega
end Go.Fl

/- The matrix of a step, and products with it. No program in sight. -/
namespace Go.Fl
open Go
def Y3 (n:Nat):List (List Int):=n6 n fun i=>(List.replicate n 0).set i 1
end Go.Fl

/- Contracts: unit matrices. -/
namespace Go.Fl
open Go Go.Proofs
open d5 renaming op->tO
open i6 renaming op->rO
set_option maxRecDepth 100000

theorem uI {α:Type} [Inhabited α] {l:List α} {k:Nat} {x:α} (h:k<l.length):b6 (l.set k x) k=x:=by simp[b6,h]
theorem uJ {α:Type} [Inhabited α] {l:List α} {k j:Nat} {x:α} (h:j≠k):b6 (l.set k x) j=b6 l j:=by simp[b6,List.getElem?_set_ne (Ne.symm h)]
end Go.Fl

/-
 DERIVED: THE SHELF's CONTRACTS AT THIS DUMP, IN PLAIN WORDS (tools/lay-plain.mjs out of 'YthfaleobmefibaaGreatInsRaw.lean', which tools/lay-shelf.mjs wrote): THE SAME DECLARATIONS UNDER THE SAME NAMES: 'import', 'namespace', 'open', 'def', 'theorem' AND NOTHING ELSE: no command of the shelf's: FOR A HAND-IN. Each laying: the table of numbers ('.._ren') and one theorem, a field a fact of the dump's own or the kernel's comparison; each contract: ONE APPLICATION.
-/
namespace Go.Proofs
open Go.Shelf
def Tryz.laysIns_ren:Go.Shelf.Ren:=⟨fun | 21=>184 | 27=>207 | 28=>208 | 35=>220 | 39=>226 | n=>n,fun | 22=>22 | 3=>3 | 4=>4 | 0=>0 | n=>n,fun | n=>n⟩
theorem Tryz.laysIns:Go.Proofs.Lays2.n21 Tryz.prog Tryz.laysIns_ren:={
 mixed:=by kernel_rfl
 f21:=Tryz.func184.trans (congrArg some (by kernel_rfl))
 f27:=Tryz.func207.trans (congrArg some (by kernel_rfl))
 f28:=Tryz.func208.trans (congrArg some (by kernel_rfl))
 f35:=Tryz.func220.trans (congrArg some (by kernel_rfl))
 f39:=Tryz.func226.trans (congrArg some (by kernel_rfl))
 t0:=Tryz.underlying0
 a0:=Tryz.isAgg0
 z0:=Tryz.sizeOf0
 v0:=Tryz.zeroValue0
 t3:=Tryz.underlying3
 a3:=Tryz.isAgg3
 z3:=Tryz.sizeOf3
 v3:=Tryz.zeroValue3
 t4:=Tryz.underlying4
 a4:=Tryz.isAgg4
 z4:=Tryz.sizeOf4
 v4:=Tryz.zeroValue4
 t22:=Tryz.underlying22
 a22:=Tryz.isAgg22
 z22:=Tryz.sizeOf22
 v22:=Tryz.zeroValue22
 i3:=by kernel_rfl }
end Go.Proofs

/- Contracts: irreducible rows, steps of rows. -/
namespace Go.Fl
open Go Go.Proofs
open d5 renaming op->tO
open i6 renaming op->rO
set_option maxRecDepth 100000

def K7 (r:p6):Int:=if H6 r≠0 then H6 r else if B3 r=true then 0 else 3
theorem sA {r:p6} (h:K7 r=0):C9 r/\B3 r=true:=by
 unfold K7 at h
 by_cases c:H6 r=0
 ·rw[if_neg (fun a=>a c)] at h
  by_cases c2:B3 r=true
  ·exact ⟨QA c,c2⟩
  ·rw[if_neg c2] at h; omega
 ·rw[if_pos c] at h; exact absurd h c
theorem dG {f:Int->Bool}:∀{l:List Int},-1<=M9 f l/\M9 f l<l.length
 | []=>by show -1<=(-1:Int)/\(-1:Int)<_; simp
 | x::l=>by
  have ih:=dG (f:=f) (l:=l)
  rw[M9,List.length_cons]
  split
  ·omega
  ·split<;>omega
theorem zW (r:p6) (v:C9 r):Ct Tryz.prog 105 [b7 eO r] (kB (B3 r)):=by
 have hv1:=v.len
 have hv2:=v.two
 have hv3:=v.le
 have hrb:∀i,i<r.1.length->0<=b6 r.1 i/\b6 r.1 i<100:=fun i hi=>v.b1 _ (F7 hi)
 have hub:∀i,i<r.2.length->0<=b6 r.2 i/\b6 r.2 i<100:=fun i hi=>v.b2 _ (F7 hi)
 have hpl:=fT v
 refine Ct.mk Tryz.func105 rfl Tryz.ntmps105 rfl (fun w J=>?_); refine i2 ?_; refine jb 1 rfl ?_; refine o9 ?_; refine Tr.for1 (σ:=Nat) [⟨1,true,_,_⟩] [⟨1,_,_⟩] (fun k=>[⟨3,true,[],kI (k:Int)⟩]) (fun k=>[]) (fun k=>1<=k/\k<=r.1.length/\∀j,j<k->1<=j->Q7 r j=true) (fun k=>∀j,j<r.1.length->1<=j->Q7 r j=true) (fun k=>r.1.length-k) (1) ⟨Nat.le_refl _,by omega,fun j hj hj1=>absurd hj1 zo⟩ (d7.mk (.i rfl (by rfl)<|zk) (zk) rfl) ?_ ?_
 ·rintro k ⟨hk1,hk2,hR0⟩
  refine jn ?_; refine v6 ?_; refine jq ?_ ?_
  ·intro h2
   refine O3 ?_
   refine Tr.for1 (σ:=Nat) [⟨1,true,_,_⟩,⟨3,true,_,_⟩] [⟨1,_,_⟩] (fun i=>[⟨5,true,[],kI (i:Int)⟩,⟨4,true,[],kB (CK r k i)⟩]) (fun i=>[]) (fun i=>i<=k) (fun i=>i=k) (fun i=>k-i) (0) (Nat.zero_le _) (d7.mk (.i rfl zi<|.b rfl xA.symm<|zk) (zk) rfl) ?_ ?_
   ·intro i hR1
    refine jn ?_; refine l6 ?_; refine jq ?_ ?_
    ·intro h6
     refine i4 ?_; refine Tr.draw 11 q9 (by kernel_rfl) ?_; refine o0 ?_; refine i6.gd rfl rfl rfl (FX rfl id rfl id (fun hp=>by simp at hp; omega)) rfl rfl ?_; refine j9 ?_
     first | refine i6.gd rfl rfl rfl (I0 rfl id rfl id rfl (fun hp=>by simp at hp; omega)) rfl rfl ?_ | refine i6.gd rfl rfl rfl (AY rfl id rfl id rfl (fun hp=>by simp at hp; omega)) rfl rfl ?_
     refine i2 ?_; refine d5.gd rfl rfl rfl (j7 (fun hp=>ZN _ _) (.a rfl id<|.a rfl id<|.nil)) rfl rfl ?_; refine v6 ?_
     exact g8.lp (i+1) zi zo (d7.mk (.i rfl zi<|.b rfl (wZ zo).symm<|zk) (zk) rfl)
    ·intro h6
     replace h6:=Int.not_lt.1 h6
     refine i4 ?_
     exact g8.cut (i) zo (d7.mk (.i rfl zi<|.b rfl zi<|zk) (zk) rfl)
   ·intro i hEi
    refine je ?_; refine n7 ?_; refine Tr.cnd rfl ?_ ?_
    ·intro h9
     rw[hEi] at h9
     have hno:=sC v (k:=k) zo zo h9
     refine z5 ?_; exact d9.res1 (fn:=Tryz.f105) rfl (.b rfl hno.symm<|.nil)
    ·intro h9
     rw[hEi] at h9
     have hyes:Q7 r k=true:=by rw[OI v zo,h9]; rfl
     refine l6 ?_
     exact g8.lp (k+1) ⟨by omega,by omega,fun j hj hj1=>by (rcases Nat.lt_succ_iff_lt_or_eq.1 hj with h | h; exact hR0 j h hj1; rw[h]; exact hyes)⟩ zo (d7.mk (.i rfl zi<|zk) (zk) rfl)
  ·intro h2
   replace h2:=Int.not_lt.1 h2
   refine i4 ?_
   exact g8.cut (k) (fun j hj hj1=>hR0 j zo hj1) (d7.mk (.i rfl zi<|zk) (zk) rfl)
 ·intro k hE0
  refine je ?_; refine l5 ?_; exact d9.res1 (fn:=Tryz.f105) rfl (.b rfl (dC hE0).symm<|.nil)

theorem oB (l:List Int) (φ:Int->Prop) (f:Int->Bool) (hl:∀x∈l,φ x):Ct Tryz.prog 149 [b7 (eL eI) l,HR Tryz.prog φ (fun x:Int=>[kI x]) (fun x:Int=>kB (f x))] (kI (M9 f l)):=by
 refine Ct.mk Tryz.func149 rfl Tryz.ntmps149 rfl (fun w J=>?_); refine Tr.fact (s:=0) rfl (fun _ _ h=>S4 h) (fun hb=>?_); refine D3 ?_
 refine Tr.for1 (σ:=Nat) [⟨0,true,_,_⟩,⟨1,true,_,_⟩,⟨7,true,_,_⟩] [] (fun k=>[⟨8,true,[],kI (k:Int)⟩]) (fun k=>[]) (fun k=>k<=l.length/\∀i,i<k->f (b6 l i)=false) (fun k=>∀i,i<l.length->f (b6 l i)=false) (fun k=>l.length-k) (0) ⟨by omega,fun i h=>absurd h zo⟩ (d7.mk (.i rfl zi<|zk) (.nil) rfl) ?_ ?_
 ·rintro k ⟨hk,hR⟩
  refine jn ?_; refine n7 ?_; refine jq ?_ ?_
  ·intro h2
   refine U2 ?_; refine tO (VZ (b6 l k) rfl uu (fun _=>hl _ (F7 zo)) (.a rfl uu<|.nil)) rfl rfl ?_; refine i2 ?_; refine Tr.cnd rfl ?_ ?_
   ·intro h4
    refine D3 ?_; exact d9.res1 (fn:=Tryz.f149) rfl (.i rfl (OJ zo hR h4).symm<|.nil)
   ·intro h4
    refine l5 ?_
    exact g8.lp (k+1) ⟨by omega,fun i hi=>by (rcases Nat.lt_succ_iff_lt_or_eq.1 hi with h | h; exact hR i h; subst h; exact h4)⟩ zo (d7.mk (.i rfl zi<|zk) (.nil) rfl)
  ·intro h2
   replace h2:=Int.not_lt.1 h2
   refine i4 ?_
   exact g8.cut (k) (fun i hi=>hR i zo) (d7.mk (.i rfl zi<|zk) (.nil) rfl)
 ·intro k hE
  refine je ?_; refine l5 ?_; exact d9.res1 (fn:=Tryz.f149) rfl (.i rfl (UR hE).symm<|.nil)

theorem ZS (l:List Int) (φ:Int->Prop) (f:Int->Bool) (hl:∀x∈l,φ x):Ct Tryz.prog 99 [b7 (eL eI) l,HR Tryz.prog φ (fun x:Int=>[kI x]) (fun x:Int=>kB (f x))] (kB (l.any f)):=by
 refine Ct.mk Tryz.func99 rfl Tryz.ntmps99 rfl (fun w J=>?_); refine o9 ?_; refine tO (j7 (fun hp=>oB _ _ _ (by assumption)) (.a rfl uu<|.a rfl uu<|.nil)) rfl rfl ?_; refine o0 ?_; exact d9.res1 (fn:=Tryz.f99) rfl (.b rfl UQ<|.nil)

theorem bA (l:List Int) (x:Int):Ct Tryz.prog 185 [b7 (eL eI) l,kI x] (kI (M9 (fun y=>decide (x=y)) l)):=by
 refine Ct.mk Tryz.func185 rfl Tryz.ntmps185 rfl (fun w J=>?_); refine Tr.fact (s:=0) rfl (fun _ _ h=>S4 h) (fun hb=>?_); refine D3 ?_
 refine Tr.for1 (σ:=Nat) [⟨0,true,_,_⟩,⟨1,true,_,_⟩,⟨7,true,_,_⟩] [] (fun k=>[⟨8,true,[],kI (k:Int)⟩]) (fun k=>[]) (fun k=>k<=l.length/\∀i,i<k->decide (x=b6 l i)=false) (fun k=>∀i,i<l.length->decide (x=b6 l i)=false) (fun k=>l.length-k) (0) ⟨by omega,fun i h=>absurd h zo⟩ (d7.mk (.i rfl zi<|zk) (.nil) rfl) ?_ ?_
 ·rintro k ⟨hk,hR⟩
  refine jn ?_; refine n7 ?_; refine jq ?_ ?_
  ·intro h2
   refine KP ?_; refine jq ?_ ?_
   ·intro h4
    refine D3 ?_; exact d9.res1 (fn:=Tryz.f185) rfl (.i rfl (OJ zo hR (decide_eq_true h4)).symm<|.nil)
   ·intro h4
    refine l5 ?_
    exact g8.lp (k+1) ⟨by omega,fun i hi=>by (rcases Nat.lt_succ_iff_lt_or_eq.1 hi with h | h; exact hR i h; subst h; exact decide_eq_false h4)⟩ zo (d7.mk (.i rfl zi<|zk) (.nil) rfl)
  ·intro h2
   replace h2:=Int.not_lt.1 h2
   refine i4 ?_
   exact g8.cut (k) (fun i hi=>hR i zo) (d7.mk (.i rfl zi<|zk) (.nil) rfl)
 ·intro k hE
  refine je ?_; refine l5 ?_; exact d9.res1 (fn:=Tryz.f185) rfl (.i rfl (UR hE).symm<|.nil)

theorem oY (l:List Int) (x:Int):Ct Tryz.prog 155 [b7 (eL eI) l,kI x] (kB (l.any fun y=>decide (x=y))):=by
 refine Ct.mk Tryz.func155 rfl Tryz.ntmps155 rfl (fun w J=>?_); refine o9 ?_; refine tO (j7 (fun hp=>bA _ _) (.a rfl uu<|.a rfl uu<|.nil)) rfl rfl ?_; refine o0 ?_; exact d9.res1 (fn:=Tryz.f155) rfl (.b rfl UQ<|.nil)

theorem oF (x:Int) (r:p6) (k:Nat) (hk:k<=r.2.length):Ct Tryz.prog 154 [kI x,r5 eO r,r5 eI (k:Int)] (kB (!decide (x∈r.2.take k))):=by
 refine Ct.mk Tryz.func154 rfl Tryz.ntmps154 rfl (fun w J=>?_); refine v6 ?_; refine tO (FX rfl uu rfl uu (fun _=>zo)) rfl rfl ?_; refine i9 ?_; refine tO (j7 (fun hp=>oY _ _) (.a rfl uu<|.a rfl uu<|.nil)) rfl rfl ?_; refine o0 ?_; exact d9.res1 (fn:=Tryz.f154) rfl (.b rfl (by congr 1; rw[Bool.eq_iff_iff]; simp[List.any_eq_true])<|.nil)

theorem oE (r:p6) (v:C9 r):Ct Tryz.prog 109 [b7 eO r] (kB (B3 r)):=by
 have hv1:=v.len
 have hv2:=v.two
 have hv3:=v.le
 have hrb:∀i,i<r.1.length->0<=b6 r.1 i/\b6 r.1 i<100:=fun i hi=>v.b1 _ (F7 hi)
 have hub:∀i,i<r.2.length->0<=b6 r.2 i/\b6 r.2 i<100:=fun i hi=>v.b2 _ (F7 hi)
 have hpl:=fT v
 refine Ct.mk Tryz.func109 rfl Tryz.ntmps109 rfl (fun w J=>?_); refine i2 ?_; refine jb 1 rfl ?_; refine o0 ?_; refine Tr.frzB 1 [1] eO ⟨rfl,trivial⟩ rfl ?_; refine jn ?_; refine i9 ?_; refine ja 3 ?_; refine j9 ?_; refine Tr.for1 (σ:=Nat) [⟨1,true,_,_⟩] [] (fun k=>[⟨3,true,[3],w6 3 0⟩]) (fun k=>[⟨3,[],j3 [kI (k:Int)]⟩]) (fun k=>1<=k/\k<=r.1.length/\∀j,j<k->1<=j->Q7 r j=true) (fun k=>∀j,j<r.1.length->1<=j->Q7 r j=true) (fun k=>r.1.length-k) (1) ⟨Nat.le_refl _,by omega,fun j hj hj1=>absurd hj1 zo⟩ (d7.mk (zk) (.e (by rfl) rfl<|.nil) rfl) ?_ ?_
 ·rintro k ⟨hk1,hk2,hR0⟩
  refine jn ?_; refine v6 ?_; refine jq ?_ ?_
  ·intro h2
   refine o0 ?_; refine Tr.frzB 3 [3] eI ⟨rfl,trivial⟩ rfl ?_; refine jn ?_; refine i4 ?_; refine tO (FX rfl uu rfl uu (fun _=>zo)) rfl rfl ?_; refine tO (EK (.cons rfl uu<|.cons rfl uu .nil)) rfl rfl ?_; refine tO (j7 (fun hp=>ZS (r.1.take k) (fun _=>True) (fun x=>!decide (x∈r.2.take k)) (fun _ _=>trivial)) (.a rfl uu<|.cons rfl uu (fun g u h=>OL (fun a _=>oF a r k zo) g u h)<|.nil)) rfl rfl ?_; refine j9 ?_; refine Tr.cnd rfl ?_ ?_
   ·intro h4
    have hno:Q7 r k=false:=by simpa [Q7] using h4
    refine z5 ?_; exact d9.res1 (fn:=Tryz.f109) rfl (.b rfl (sD hk1 zo hno).symm<|.nil)
   ·intro h4
    have hyes:Q7 r k=true:=by simpa [Q7] using h4
    refine v6 ?_; refine ja 3 ?_; refine l6 ?_; exact g8.lp (k+1) ⟨by omega,by omega,fun j hj hj1=>by (rcases Nat.lt_succ_iff_lt_or_eq.1 hj with h | h; exact hR0 j h hj1; rw[h]; exact hyes)⟩ zo (d7.mk (zk) (.e (by rfl) rfl<|.nil) rfl)
  ·intro h2
   replace h2:=Int.not_lt.1 h2
   refine i4 ?_; exact g8.cut (k) (fun j hj hj1=>hR0 j zo hj1) (d7.mk (zk) (zk) rfl)
 ·intro k hE0
  refine je ?_; refine l5 ?_; exact d9.res1 (fn:=Tryz.f109) rfl (.b rfl (dC hE0).symm<|.nil)

theorem aJ (r:p6):Ct Tryz.prog 98 [b7 eO r] (kI (K7 r)):=by
 refine Ct.mk Tryz.func98 rfl Tryz.ntmps98 rfl (fun w J=>?_); refine i2 ?_; refine jb 1 rfl ?_; refine l5 ?_; refine tO (j7 (fun hp=>SS _) (.s rfl uu rfl<|.nil)) rfl rfl ?_; refine o9 ?_; refine jq ?_ ?_
 ·intro h2
  have hr:K7 r=H6 r:=if_pos h2
  refine l6 ?_; exact d9.res1 (fn:=Tryz.f98) rfl (.i rfl hr.symm<|.nil)
 ·intro h2
  replace h2:=Classical.not_not.1 h2
  have v:=QA (by omega:H6 r=0)
  refine n7 ?_; refine tO (j7 (fun hp=>oE _ v) (.s rfl uu rfl<|.nil)) rfl rfl ?_; refine j9 ?_; refine Tr.cnd rfl ?_ ?_
  ·intro h4
   have hir:B3 r=false:=by simpa using h4
   have hr:K7 r=3:=by unfold K7; rw[if_neg (fun a=>a h2),hir]; rfl
   refine l5 ?_; exact d9.res1 (fn:=Tryz.f98) rfl (.i rfl hr.symm<|.nil)
  ·intro h4
   have hir:B3 r=true:=by simpa using h4
   have hr:K7 r=0:=by unfold K7; rw[if_neg (fun a=>a h2),if_pos hir]
   refine l6 ?_; exact d9.res1 (fn:=Tryz.f98) rfl (.i rfl hr.symm<|.nil)

theorem NB (row:List Int) (h:1<=row.length):Ct Tryz.prog 147 [b7 (eL eI) row] (kI (g7 row)):=by
 refine Ct.mk Tryz.func147 rfl Tryz.ntmps147 rfl (fun w J=>?_); refine Tr.fact (s:=0) rfl (fun _ _ h=>S4 h) (fun hb=>?_); refine U2 ?_; exact d9.res1 (fn:=Tryz.f147) rfl (.i rfl (by unfold g7; rw[show ((row.length:Int)-1).toNat=row.length-1 by omega])<|.nil)

theorem TC (row:List Int) (b:Int) (h2:2<=row.length) (hn:row.length<=900):Ct Tryz.prog 151 [b7 (eL eI) row,kI b] (b7 (eL eI) (u4 row b)):=by
 have hix:=dG (f:=fun y=>decide (b=y)) (l:=(row.take (row.length-1)))
 have htl:(row.take (row.length-1)).length=row.length-1:=by rw[List.length_take]; omega
 have htk:row.take ((row.length:Int)-1).toNat=(row.take (row.length-1)):=by rw[show ((row.length:Int)-1).toNat=row.length-1 by omega]
 refine Ct.mk Tryz.func151 rfl Tryz.ntmps151 rfl (fun w J=>?_); refine U2 ?_; refine tO (FX rfl uu rfl uu (fun _=>zo)) rfl rfl ?_
 rw[htk]
 refine d5.new (DD 13 (fun hp=>MY (row.take (row.length-1)) zo zo) (.a rfl uu<|.nil)) rfl rfl rfl rfl ?_; refine i4 ?_; refine Tr.draw 10 q9 (by kernel_rfl) ?_; refine j9 ?_; refine rO (uW (fun hp=>bA (row.take (row.length-1)) b) rfl uu (fun _=>by simp only[t6]; omega) (.a rfl uu<|.nil)) rfl rfl ?_; refine i9 ?_
 rw[show (M9 (fun y=>decide (b=y)) (row.take (row.length-1)))+1=((((M9 (fun y=>decide (b=y)) (row.take (row.length-1)))+1).toNat:Nat):Int) by omega]
 refine i4 ?_; refine i6.new (D5 eI 23 (fun hp=>.cons rfl<|.nil) rfl rfl rfl rfl) rfl rfl rfl rfl ?_; refine i9 ?_; refine d5.insI (f:=184) Go.Proofs.Tryz.laysIns rfl rfl rfl rfl zo rfl rfl zo rfl rfl ?_; refine jl ?_; refine j9 ?_; refine Tr.frz 13 [4] ⟨rfl,trivial⟩ (by simp only[t6]; omega) rfl ?_; refine i9 ?_; exact d9.res1 (fn:=Tryz.f151) rfl (.r rfl (by unfold u4 g7; rw[show ((row.length:Int)-1).toNat=row.length-1 by omega])<|.nil)

theorem aH (r:p6) (h1:2<=r.1.length/\r.1.length<=900) (h2:2<=r.2.length/\r.2.length<=900):Ct Tryz.prog 150 [b7 eO r] (y4 [b7 eO (r.1,u4 r.2 (g7 r.1)),kI (g7 r.1),kI (g7 r.2)]):=by
 refine Ct.mk Tryz.func150 rfl Tryz.ntmps150 rfl (fun w J=>?_); refine i2 ?_; refine jb 1 rfl ?_; refine ja 2 ?_; refine o0 ?_; refine Tr.draw 5 q9 (by kernel_rfl) ?_; refine i2 ?_; refine jd (NB r.1 zo) ?_; refine j9 ?_; refine jc (NB r.2 zo) ?_; refine o0 ?_; refine Tr.drawA q9 #[false,false,false,false,false,false,false,false,false,false,false,false,false] rfl ?_; refine g6.take 0 #[true,false,false,false,false,false,false,false,false,false,false,false,false] (by kernel_rfl) (by kernel_rfl) (by kernel_rfl) rfl rfl (EY rfl) rfl rfl ?_
 refine g6.take 3 #[true,false,false,true,false,false,false,false,false,false,false,false,false] (by kernel_rfl) (by kernel_rfl) (by kernel_rfl) rfl rfl (EY rfl) rfl rfl ?_; refine g6.take 5 #[true,false,false,true,false,true,false,false,false,false,false,false,false] (by kernel_rfl) (by kernel_rfl) (by kernel_rfl) rfl rfl (BN rfl) rfl rfl ?_; refine g6.take 8 #[true,false,false,true,false,true,false,false,true,false,false,false,false] (by kernel_rfl) (by kernel_rfl) (by kernel_rfl) rfl rfl (BN rfl) rfl rfl ?_; refine g6.take 9 #[true,false,false,true,false,true,false,false,true,true,false,false,false] (by kernel_rfl) (by kernel_rfl) (by kernel_rfl) rfl rfl (BN rfl) rfl rfl ?_
 refine g6.all [1,4] (by kernel_rfl) (by simp) (fun i hi=>?_)
 simp only[List.mem_cons,List.not_mem_nil,or_false] at hi
 rcases hi with rfl | rfl
 ·refine ⟨_,rfl,?_⟩
  refine tO (AZ rfl uu rfl) rfl rfl ?_; refine g6.k #[true,true,false,true,false,true,false,false,true,true,false,false,false] rfl (fun _ _ _ _=>trivial) ?_; refine g6.all [2,4] (by kernel_rfl) (by simp) (fun i hi=>?_)
  simp only[List.mem_cons,List.not_mem_nil,or_false] at hi
  rcases hi with rfl | rfl
  ·refine ⟨_,rfl,?_⟩
   refine jc (BU r.1 zo) ?_; refine g6.k #[true,true,true,true,false,true,false,false,true,true,false,false,false] rfl (fun _ _ _ _=>trivial) ?_; refine g6.one 4 (by kernel_rfl) rfl ?_; refine tO (AZ rfl uu rfl) rfl rfl ?_; refine g6.k #[true,true,true,true,true,true,false,false,true,true,false,false,false] rfl (fun _ _ _ _=>trivial) ?_; refine g6.one 6 (by kernel_rfl) rfl ?_; refine jc (TC r.2 (g7 r.1) h2.1 h2.2) ?_; refine g6.k #[true,true,true,true,true,true,true,false,true,true,false,false,false] rfl (fun _ _ _ _=>trivial) ?_
   refine g6.one 7 (by kernel_rfl) rfl ?_; refine tO (A4 (fun hp=>.cons rfl rfl rfl<|.cons rfl rfl rfl<|.nil)) rfl rfl ?_; refine g6.k #[true,true,true,true,true,true,true,true,true,true,false,false,false] rfl (fun _ _ _ _=>trivial) ?_; refine g6.one 10 (by kernel_rfl) rfl ?_; refine d5.stB rfl rfl rfl rfl ?_; refine g6.k #[true,true,true,true,true,true,true,true,true,true,true,false,false] rfl (fun _ _ _ _=>trivial) ?_; refine g6.one 11 (by kernel_rfl) rfl ?_; refine mw rfl rfl rfl ?_; refine g6.k #[true,true,true,true,true,true,true,true,true,true,true,true,false] rfl (fun _ _ _ _=>trivial) ?_
   refine g6.one 12 (by kernel_rfl) rfl ?_; refine mw rfl rfl rfl ?_; refine g6.k #[true,true,true,true,true,true,true,true,true,true,true,true,true] rfl (fun _ _ _ _=>trivial) ?_; refine g6.done (by kernel_rfl) ?_; refine i2 ?_
   exact d9.resC (fn:=Tryz.f150) (ts:=[3,4]) rfl rfl rfl (u8 rfl (by rfl)) (.i rfl zi<|.i rfl zi<|.nil)
  ·refine ⟨_,rfl,?_⟩
   refine tO (AZ rfl uu rfl) rfl rfl ?_; refine g6.k #[true,true,false,true,true,true,false,false,true,true,false,false,false] rfl (fun _ _ _ _=>trivial) ?_; refine g6.one 2 (by kernel_rfl) rfl ?_; refine jc (BU r.1 zo) ?_; refine g6.k #[true,true,true,true,true,true,false,false,true,true,false,false,false] rfl (fun _ _ _ _=>trivial) ?_; refine g6.one 6 (by kernel_rfl) rfl ?_; refine jc (TC r.2 (g7 r.1) h2.1 h2.2) ?_; refine g6.k #[true,true,true,true,true,true,true,false,true,true,false,false,false] rfl (fun _ _ _ _=>trivial) ?_
   refine g6.one 7 (by kernel_rfl) rfl ?_; refine tO (A4 (fun hp=>.cons rfl rfl rfl<|.cons rfl rfl rfl<|.nil)) rfl rfl ?_; refine g6.k #[true,true,true,true,true,true,true,true,true,true,false,false,false] rfl (fun _ _ _ _=>trivial) ?_; refine g6.one 10 (by kernel_rfl) rfl ?_; refine d5.stB rfl rfl rfl rfl ?_; refine g6.k #[true,true,true,true,true,true,true,true,true,true,true,false,false] rfl (fun _ _ _ _=>trivial) ?_; refine g6.one 11 (by kernel_rfl) rfl ?_; refine mw rfl rfl rfl ?_; refine g6.k #[true,true,true,true,true,true,true,true,true,true,true,true,false] rfl (fun _ _ _ _=>trivial) ?_
   refine g6.one 12 (by kernel_rfl) rfl ?_; refine mw rfl rfl rfl ?_; refine g6.k #[true,true,true,true,true,true,true,true,true,true,true,true,true] rfl (fun _ _ _ _=>trivial) ?_; refine g6.done (by kernel_rfl) ?_; refine i2 ?_
   exact d9.resC (fn:=Tryz.f150) (ts:=[3,4]) rfl rfl rfl (u8 rfl (by rfl)) (.i rfl zi<|.i rfl zi<|.nil)
 ·refine ⟨_,rfl,?_⟩
  refine tO (AZ rfl uu rfl) rfl rfl ?_; refine g6.k #[true,false,false,true,true,true,false,false,true,true,false,false,false] rfl (fun _ _ _ _=>trivial) ?_; refine g6.one 1 (by kernel_rfl) rfl ?_; refine tO (AZ rfl uu rfl) rfl rfl ?_; refine g6.k #[true,true,false,true,true,true,false,false,true,true,false,false,false] rfl (fun _ _ _ _=>trivial) ?_; refine g6.one 2 (by kernel_rfl) rfl ?_; refine jc (BU r.1 zo) ?_; refine g6.k #[true,true,true,true,true,true,false,false,true,true,false,false,false] rfl (fun _ _ _ _=>trivial) ?_
  refine g6.one 6 (by kernel_rfl) rfl ?_; refine jc (TC r.2 (g7 r.1) h2.1 h2.2) ?_; refine g6.k #[true,true,true,true,true,true,true,false,true,true,false,false,false] rfl (fun _ _ _ _=>trivial) ?_; refine g6.one 7 (by kernel_rfl) rfl ?_; refine tO (A4 (fun hp=>.cons rfl rfl rfl<|.cons rfl rfl rfl<|.nil)) rfl rfl ?_; refine g6.k #[true,true,true,true,true,true,true,true,true,true,false,false,false] rfl (fun _ _ _ _=>trivial) ?_; refine g6.one 10 (by kernel_rfl) rfl ?_; refine d5.stB rfl rfl rfl rfl ?_; refine g6.k #[true,true,true,true,true,true,true,true,true,true,true,false,false] rfl (fun _ _ _ _=>trivial) ?_
  refine g6.one 11 (by kernel_rfl) rfl ?_; refine mw rfl rfl rfl ?_; refine g6.k #[true,true,true,true,true,true,true,true,true,true,true,true,false] rfl (fun _ _ _ _=>trivial) ?_; refine g6.one 12 (by kernel_rfl) rfl ?_; refine mw rfl rfl rfl ?_; refine g6.k #[true,true,true,true,true,true,true,true,true,true,true,true,true] rfl (fun _ _ _ _=>trivial) ?_; refine g6.done (by kernel_rfl) ?_; refine i2 ?_
  exact d9.resC (fn:=Tryz.f150) (ts:=[3,4]) rfl rfl rfl (u8 rfl (by rfl)) (.i rfl zi<|.i rfl zi<|.nil)

theorem aG (r:p6) (kind:Int) (g1:2<=r.1.length/\r.1.length<=900) (g2:2<=r.2.length/\r.2.length<=900):Ct Tryz.prog 103 [b7 eO r,kI kind] (y4 [b7 eO (N1 r kind),kI (C3 r kind),kI (D4 r kind)]):=by
 refine Ct.mk Tryz.func103 rfl Tryz.ntmps103 rfl (fun w J=>?_); refine i2 ?_; refine jb 2 rfl ?_; refine ja 4 ?_; refine AU ?_; refine jq ?_ ?_
 ·intro h2
  have h2_:kind=0:=by assumption
  refine i4 ?_; refine tO (IB rfl uu (fun hp=>aH r g1 g2) (.s rfl uu rfl<|.nil)) rfl rfl ?_; refine v6 ?_; exact d9.resC (fn:=Tryz.f103) (ts:=[5,6]) rfl rfl rfl (u8 rfl (by unfold N1; rw[if_pos h2_])) (.i rfl (by unfold C3; rw[if_pos h2_])<|.i rfl (by unfold D4; rw[if_pos h2_])<|.nil)
 ·intro h2
  have h2_:¬kind=0:=by assumption
  refine n7 ?_; refine jc (bF r) ?_; refine tO (IB rfl uu (fun hp=>aH (r.2,r.1) g2 g1) (.a rfl uu<|.nil)) rfl rfl ?_; refine i4 ?_; refine ja 8 ?_; refine l6 ?_; refine jc (bF (r.2,u4 r.1 (g7 r.2))) ?_; refine l6 ?_; exact d9.resC (fn:=Tryz.f103) (ts:=[5,6]) rfl rfl rfl (u8 rfl (by unfold N1; rw[if_neg h2_])) (.i rfl (by unfold C3; rw[if_neg h2_])<|.i rfl (by unfold D4; rw[if_neg h2_])<|.nil)

end Go.Fl

/- Contracts: paths of rows and their matrices. -/
namespace Go.Fl
open Go Go.Proofs
open d5 renaming op->tO
open i6 renaming op->rO
set_option maxRecDepth 100000

def x9 (r:p6) (ks:List Int):Nat->p6
 | 0=>r
 | i+1=>N1 (x9 r ks i) (b6 ks i)
def E6 (r:p6) (ks:List Int):Nat->ZM
 | 0=>Y3 r.1.length
 | i+1=>M4 (E6 r ks i) (D4 (x9 r ks i) (b6 ks i)).toNat (C3 (x9 r ks i) (b6 ks i)).toNat
theorem eE {r:p6} {k:Int} (h2:r.2.length=r.1.length) (h1:2<=r.1.length):(N1 r k).1.length=r.1.length/\(N1 r k).2.length=r.1.length:=by
 unfold N1
 split
 ·exact ⟨rfl,by show (u4 r.2 (g7 r.1)).length=_; rw[(QI (b:=g7 r.1) h2 zo).length_eq,h2]⟩
 ·exact ⟨by show (u4 r.1 (g7 r.2)).length=_; rw[(QI (row:=r.1) (b:=g7 r.2) rfl zo).length_eq],h2⟩
theorem TZ {r:p6} {ks:List Int} (v:C9 r) (hi:B3 r=true):∀i,(C9 (x9 r ks i)/\B3 (x9 r ks i)=true)/\(x9 r ks i).1.length=r.1.length
 | 0=>⟨⟨v,hi⟩,rfl⟩
 | i+1=>by
  obtain ⟨⟨h1,h2⟩,h3⟩:=TZ v hi (ks:=ks) i
  exact ⟨VO h1 h2 _,(eE h1.len h1.two).1.trans h3⟩
theorem HV {r:p6} (v:C9 r) (k:Int):(0<=D4 r k/\D4 r k<r.1.length)/\(0<=C3 r k/\C3 r k<r.1.length):=by
 have h1:=P6 v.p1 (by have:=v.two; omega)
 have h2:=P6 v.p2 (by have:=v.two; omega)
 unfold D4 C3
 split<;>exact ⟨by assumption,by assumption⟩
theorem zG {n:Nat}:DW n 1 (Y3 n):=by
 refine ⟨t7,fun i hi=>?_,fun i j=>?_⟩
 ·unfold Y3; rw[s8 hi,List.length_set,List.length_replicate]
 ·by_cases hi:i<n
  ·unfold Y3; rw[s8 hi,fA (by rw[List.length_replicate]; exact hi)]
   split
   ·omega
   ·by_cases hj:j<n
    ·have:b6 (List.replicate n (0:Int)) j=0:=by simp[b6,hj]
     rw[this]; omega
    ·rw[z6 (by rw[List.length_replicate]; omega)]; show 0<=(0:Int)/\(0:Int)<=_; omega
  ·rw[show b6 (Y3 n) i=[] from z6 (by show (n6 _ _).length<=i; rw[t7]; omega)]
   show 0<=(0:Int)/\(0:Int)<=_; omega
theorem cJ {r:p6} {ks:List Int} (v:C9 r) (hi:B3 r=true):∀i,DW r.1.length (2 ^ i) (E6 r ks i)
 | 0=>zG
 | i+1=>by
  obtain ⟨⟨h1,_⟩,h3⟩:=TZ v hi (ks:=ks) i
  have:=kL (to:=(D4 (x9 r ks i) (b6 ks i)).toNat) (col:=(C3 (x9 r ks i) (b6 ks i)).toNat) (cJ v hi (ks:=ks) i) (by have:=(HV h1 (b6 ks i)).1; omega)
  rw[<- Nat.pow_succ'] at this
  exact this
theorem DW.mono {n B C:Nat} {m:ZM} (h:DW n B m) (hBC:B<=C):DW n C m:=⟨h.len,h.row,fun i j=>⟨(h.rg i j).1,Int.le_trans (h.rg i j).2 zo⟩⟩
theorem cK {r:p6} {ks:List Int} (v:C9 r) (hi:B3 r=true) {i:Nat} (h:i<=61):DW r.1.length 2305843009213693952 (E6 r ks i):=(cJ v hi i).mono (Nat.le_trans (Nat.pow_le_pow_right zo h) (by decide))
def P1 (n k:Nat):ZM:=n6 k fun i=>(List.replicate n 0).set i 1
def H0 (m:ZM) (to col i:Nat):ZM:=n6 m.length fun q=>if q<i then MC to col (b6 m q) else b6 m q
theorem DY {m:ZM} {to col:Nat}:m=H0 m to col 0:=by
 refine H2 (by show m.length=(n6 _ _).length; rw[t7]) fun i hi=>?_
 unfold H0; rw[s8 hi,if_neg zo]
theorem DX {m:ZM} {to col:Nat}:H0 m to col m.length=M4 m to col:=by
 refine H2 (by show (n6 _ _).length=_; unfold M4; rw[t7,List.length_map]) fun i hi=>?_
 have hi:i<m.length:=by rw[show (H0 m to col m.length).length=m.length from t7] at hi; exact hi
 unfold H0 M4; rw[s8 hi,if_pos hi,VV hi]
theorem YF {m:ZM} {to col i:Nat} (h:i<m.length):b6 (H0 m to col i) i=b6 m i:=by unfold H0; rw[s8 h,if_neg zo]
theorem Q4 {m:ZM} {to col i:Nat} (h:i<m.length):(H0 m to col i).set i ((b6 (H0 m to col i) i).set to (b6 (b6 (H0 m to col i) i) to+b6 (b6 (H0 m to col i) i) col))=H0 m to col (i+1):=by
 rw[YF h]
 refine H2 (by rw[List.length_set]; show (n6 _ _).length=(n6 _ _).length; rw[t7,t7]) fun q hq=>?_
 have hq:q<m.length:=by rw[List.length_set,show (H0 m to col i).length=m.length from t7] at hq; exact hq
 by_cases e:q=i
 ·subst e
  rw[uI (by rw[show (H0 m to col q).length=m.length from t7]; exact h)]
  unfold H0; rw[s8 h,if_pos zo]; rfl
 ·rw[uJ e]
  unfold H0; rw[s8 hq,s8 hq]
  by_cases c:q<i
  ·rw[if_pos c,if_pos zo]
  ·rw[if_neg c,if_neg zo]
theorem wP {hs:List Value} {rows:List (List Int)} {k:Nat} {v:Value} {xs:List Int} (hk:hs.length=k) (hr:rows.length=k):k<(hs++[v]).length/\b6 (hs++[v]) k=v/\b6 (rows++[xs]) k=xs/\∀j,j≠k->(j<(hs++[v]).length->j<hs.length/\b6 (hs++[v]) j=b6 hs j/\b6 (rows++[xs]) j=b6 rows j)/\((hs++[v]).length<=j->hs.length<=j):=by
 subst hk
 refine ⟨by simp,by simp[b6],by rw[<- hr]; simp[b6],fun j hj=>⟨fun h=>?_,fun h=>by simp at h; omega⟩⟩
 have h:j<hs.length:=by simp at h; omega
 refine ⟨h,?_,?_⟩
 ·simp[b6,List.getElem?_append_left h]
 ·simp[b6,List.getElem?_append_left (show j<rows.length by omega)]
theorem SL {r:p6} (v:C9 r):H6 r=0:=by
 have h1:=v.len; have h2:=v.two; have h3:=v.le
 unfold H6
 rw[if_neg zo,if_neg (fun a=>a ⟨v.p1,v.p2⟩)]
theorem nS (k:Int):Ct Tryz.prog 100 [kI k] (kB (decide (k≠0)&&decide (k≠1))):=by
 refine Ct.mk Tryz.func100 rfl Tryz.ntmps100 rfl (fun w J=>?_); refine U2 ?_
 exact d9.res1 (fn:=Tryz.f100) rfl (.b rfl zi<|.nil)

set_option maxHeartbeats 2000000 in
theorem nT (r:p6) (ks:List Int) (v:C9 r) (hi:B3 r=true) (hl:ks.length<=60) (hk:∀k∈ks,k=0\/k=1):Ct Tryz.prog 54 [b7 eO r,b7 (eL eI) ks] (y4 [b7 eO (x9 r ks ks.length),b7 (eL (eL eI)) (E6 r ks ks.length),kI 0]):=by
 have hle:=v.le
 have htw:=v.two
 have hbl:=v.len
 have hic:K7 r=0:=by unfold K7; rw[if_neg,if_pos hi]; exact fun a=>a (SL v)
 have han:ks.any (fun x=>decide (x≠0)&&decide (x≠1))=false:=by rw[<- Bool.not_eq_true,List.any_eq_true]; rintro ⟨x,hx,e⟩; rcases hk x hx with h | h<;>simp[h] at e
 refine Ct.mk Tryz.func54 rfl Tryz.ntmps54 rfl (fun w J=>?_); refine i2 ?_; refine jb 2 rfl ?_; refine ja 4 ?_; refine l6 ?_; refine jc (aJ r) ?_; refine o9 ?_; refine jq ?_ ?_
 ·intro h2
  exact absurd hic h2
 ·intro h2
  replace h2:=Classical.not_not.1 h2
  refine v6 ?_; refine jq ?_ ?_
  ·intro h4
   omega
  ·intro h4
   replace h4:=Int.not_lt.1 h4
   refine n7 ?_; refine tO (j7 (fun hp=>ZS ks (fun _=>True) (fun x=>decide (x≠0)&&decide (x≠1)) (fun _ _=>trivial)) (.a rfl uu<|.cons rfl uu (fun g u h=>OL (cks:=[]) (fun a _=>nS a) g u ⟨[],h,trivial⟩)<|.nil)) rfl rfl ?_; refine i2 ?_; refine Tr.cnd rfl ?_ ?_
   ·intro h6
    rw[han] at h6; cases h6
   ·intro h6
    refine o0 ?_; refine jc (SQ r zo zo) ?_; refine l6 ?_; refine d5.inlX (σ:=List Value) [2,4] Tryz.func102 rfl Tryz.ntmps102 rfl (.cons rfl (fun _=>rfl)<|.nil) rfl rfl (fun hs=>[⟨103,[],m9 true 22 U1 hs r.1.length⟩,⟨1000,[],v8 3 hs (Y3 r.1.length) 0⟩,⟨1001,[],v8 3 hs (Y3 r.1.length) 1⟩,⟨1002,[],v8 3 hs (Y3 r.1.length) 2⟩,⟨1003,[],v8 3 hs (Y3 r.1.length) 3⟩,⟨1004,[],v8 3 hs (Y3 r.1.length) 4⟩,⟨1005,[],v8 3 hs (Y3 r.1.length) 5⟩,⟨1006,[],v8 3 hs (Y3 r.1.length) 6⟩,⟨1007,[],v8 3 hs (Y3 r.1.length) 7⟩,⟨2,[],j3 [b7 (eL eI) r.1,b7 (eL eI) r.2]⟩,⟨4,[],j3 [j8 (.slice none 0 0),j8 (.slice none 0 0)]⟩]) (fun hs=>q8 103 r.1.length) (fun hs=>hs.length=r.1.length) (fun _=>rfl) (fun _=>inferInstance) (fun _=>rfl) rfl (fun J9 bks9 om9=>?_) ?_
    ·skip
     refine jn ?_; refine U2 ?_; refine Tr.grow (s:=3) rfl rfl 103 rfl 22 U1 rfl ?_; refine Tr.fam 1000 3 (hs:=[]) (rows:=[]) (fun j h=>absurd h (Nat.not_lt_zero _)) rfl ?_; refine jn ?_
     refine Tr.for1 (σ:=Nat×List Value) [⟨0,true,_,_⟩,⟨6,true,_,_⟩,⟨23,true,_,_⟩,⟨25,true,_,_⟩] [⟨2,_,_⟩,⟨4,_,_⟩] (fun (k,hs)=>[⟨3,true,[103],q8 103 k⟩,⟨7,true,[],kI (k:Int)⟩]) (fun (k,hs)=>[⟨103,[],m9 true 22 U1 hs k⟩,⟨1000,[],v8 3 hs (P1 r.1.length k) 0⟩,⟨1001,[],v8 3 hs (P1 r.1.length k) 1⟩,⟨1002,[],v8 3 hs (P1 r.1.length k) 2⟩,⟨1003,[],v8 3 hs (P1 r.1.length k) 3⟩,⟨1004,[],v8 3 hs (P1 r.1.length k) 4⟩,⟨1005,[],v8 3 hs (P1 r.1.length k) 5⟩,⟨1006,[],v8 3 hs (P1 r.1.length k) 6⟩,⟨1007,[],v8 3 hs (P1 r.1.length k) 7⟩]) (fun (k,hs)=>k<=r.1.length/\hs.length=k) (fun (k,hs)=>k=r.1.length/\hs.length=r.1.length) (fun (k,hs)=>r.1.length-k) ((0,[])) ⟨by omega,rfl⟩ (d7.mk (.o rfl zi rfl<|.i rfl zi<|zk) (.k rfl<|.e (by rfl) rfl<|.e (by rfl) rfl<|.e (by rfl) rfl<|.e (by rfl) rfl<|.e (by rfl) rfl<|.e (by rfl) rfl<|.e (by rfl) rfl<|.e (by rfl) rfl<|zk) rfl) ?_ ?_
     ·rintro ⟨k,hs⟩ ⟨hk,hhl⟩
      refine jn ?_; refine n7 ?_; refine jq ?_ ?_
      ·intro h3
       refine D3 ?_; refine d5.new (IG eI 11 rfl uu rfl uu rfl rfl rfl (fun _=>zo)) rfl rfl rfl rfl ?_; refine B4 ?_; refine d5.raw 16 11 rfl (fun v=>?_); refine d5.norm (S':=⟨_,_,_,_⟩::⟨_,_,_,_⟩::⟨_,_,_,_⟩::⟨_,_,_,_⟩::⟨_,_,_,_⟩::⟨_,_,_,_⟩::⟨_,_,_,_⟩::⟨_,_,_,_⟩::⟨_,_,_,_⟩::⟨_,_,_,_⟩::⟨_,_,_,_⟩::⟨_,_,_,_⟩::⟨_,_,_,_⟩::⟨_,_,_,_⟩::⟨_,_,_,_⟩::⟨_,_,_,_⟩::⟨_,_,_,_⟩::⟨_,_,_,_⟩::[]) (M':=[⟨_,_,_⟩,⟨_,_,_⟩,⟨_,_,_⟩,⟨_,_,_⟩,⟨_,_,_⟩,⟨_,_,_⟩,⟨_,_,_⟩,⟨_,_,_⟩,⟨_,_,_⟩,⟨_,_,_⟩,⟨_,_,_⟩,⟨_,_,_⟩]) rfl rfl ?_
       refine d5.new (D5 U1 17 (fun hp=>.cons rfl<|.nil) rfl rfl rfl rfl) rfl rfl rfl rfl ?_; refine i9 ?_; refine jl ?_; refine i9 ?_
       obtain ⟨q1,q2,q3,q4⟩:=wP (hs:=hs) (rows:=P1 r.1.length k) (k:=k) (v:=v) (xs:=(List.replicate r.1.length 0).set k 1) hhl t7
       refine d5.ren 11 1000 k (hs++[v]) (P1 r.1.length k++[(List.replicate r.1.length 0).set k 1]) inferInstance zo zo (.inl zo) q1 q2 q3 q4 rfl rfl ?_; refine d5.norm (S':=⟨_,_,_,_⟩::⟨_,_,_,_⟩::⟨_,_,_,_⟩::⟨_,_,_,_⟩::⟨_,_,_,_⟩::⟨_,_,_,_⟩::⟨_,_,_,_⟩::⟨_,_,_,_⟩::⟨_,_,_,_⟩::⟨_,_,_,_⟩::⟨_,_,_,_⟩::⟨_,_,_,_⟩::⟨_,_,_,_⟩::⟨_,_,_,_⟩::⟨_,_,_,_⟩::⟨_,_,_,_⟩::⟨_,_,_,_⟩::⟨_,_,_,_⟩::⟨_,_,_,_⟩::⟨_,_,_,_⟩::⟨_,_,_,_⟩::[]) (M':=[⟨_,_,_⟩,⟨_,_,_⟩,⟨_,_,_⟩,⟨_,_,_⟩,⟨_,_,_⟩,⟨_,_,_⟩,⟨_,_,_⟩,⟨_,_,_⟩,⟨_,_,_⟩,⟨_,_,_⟩,⟨_,_,_⟩,⟨_,_,_⟩]) rfl rfl ?_
       refine l5 ?_
       exact g8.lp ((k+1,hs++[v])) ⟨by omega,by rw[List.length_append,hhl]; rfl⟩ (by show r.1.length-(k+1)<r.1.length-k; omega) (d7.mk (.o rfl zi rfl<|.i rfl zi<|zk) (.k rfl<|.e (by rw[show P1 r.1.length (k+1)=_ from H4]; rfl) rfl<|.e (by rw[show P1 r.1.length (k+1)=_ from H4]; rfl) rfl<|.e (by rw[show P1 r.1.length (k+1)=_ from H4]; rfl) rfl<|.e (by rw[show P1 r.1.length (k+1)=_ from H4]; rfl) rfl<|.e (by rw[show P1 r.1.length (k+1)=_ from H4]; rfl) rfl<|.e (by rw[show P1 r.1.length (k+1)=_ from H4]; rfl) rfl<|.e (by rw[show P1 r.1.length (k+1)=_ from H4]; rfl) rfl<|.e (by rw[show P1 r.1.length (k+1)=_ from H4]; rfl) rfl<|zk) rfl)
      ·intro h3
       replace h3:=Int.not_lt.1 h3
       refine i4 ?_
       exact g8.cut ((k,hs)) ⟨zo,zo⟩ (d7.mk (.o rfl zi rfl<|.i rfl zi<|zk) (zk) rfl)
     ·rintro ⟨_,hs⟩ ⟨rfl,hhl⟩
      refine je ?_; refine l6 ?_; exact d9.inlX (n:=21) (bks:=bks9) (hs) hhl (t:=2) rfl (d7.mk (zk) (.k rfl<|.e (by rfl) rfl<|.e (by rfl) rfl<|.e (by rfl) rfl<|.e (by rfl) rfl<|.e (by rfl) rfl<|.e (by rfl) rfl<|.e (by rfl) rfl<|.e (by rfl) rfl<|zk) rfl) (.cons rfl<|.cons rfl<|.nil) (fun _ _ h=>h)
    intro hs hhl
    refine d5.norm (S':=⟨_,_,_,_⟩::⟨_,_,_,_⟩::⟨_,_,_,_⟩::⟨_,_,_,_⟩::⟨_,_,_,_⟩::⟨_,_,_,_⟩::⟨_,_,_,_⟩::⟨_,_,_,_⟩::⟨_,_,_,_⟩::⟨_,_,_,_⟩::⟨_,_,_,_⟩::⟨_,_,_,_⟩::⟨_,_,_,_⟩::⟨_,_,_,_⟩::⟨_,_,_,_⟩::⟨_,_,_,_⟩::⟨_,_,_,_⟩::⟨_,_,_,_⟩::⟨_,_,_,_⟩::⟨_,_,_,_⟩::⟨_,_,_,_⟩::⟨_,_,_,_⟩::[]) (M':=[⟨_,_,_⟩,⟨_,_,_⟩,⟨_,_,_⟩,⟨_,_,_⟩,⟨_,_,_⟩,⟨_,_,_⟩,⟨_,_,_⟩,⟨_,_,_⟩,⟨_,_,_⟩,⟨_,_,_⟩,⟨_,_,_⟩]) rfl rfl ?_; refine C6 ?_
    refine Tr.for1 (σ:=Nat) [⟨2,true,_,_⟩,⟨4,true,_,_⟩,⟨8,true,_,_⟩,⟨32,true,_,_⟩,⟨33,true,_,_⟩] [⟨103,_,_⟩,⟨4,_,_⟩] (fun k=>[⟨34,true,[],kI (k:Int)⟩]) (fun k=>[⟨2,[],j3 [b7 (eL eI) (x9 r ks k).1,b7 (eL eI) (x9 r ks k).2]⟩,⟨1000,[],v8 3 hs (E6 r ks k) 0⟩,⟨1001,[],v8 3 hs (E6 r ks k) 1⟩,⟨1002,[],v8 3 hs (E6 r ks k) 2⟩,⟨1003,[],v8 3 hs (E6 r ks k) 3⟩,⟨1004,[],v8 3 hs (E6 r ks k) 4⟩,⟨1005,[],v8 3 hs (E6 r ks k) 5⟩,⟨1006,[],v8 3 hs (E6 r ks k) 6⟩,⟨1007,[],v8 3 hs (E6 r ks k) 7⟩]) (fun k=>k<=ks.length) (fun k=>k=ks.length) (fun k=>ks.length-k) (0) zi (d7.mk (.i rfl zi<|zk) (.e (by rfl) rfl<|.e (by rfl) rfl<|.e (by rfl) rfl<|.e (by rfl) rfl<|.e (by rfl) rfl<|.e (by rfl) rfl<|.e (by rfl) rfl<|.e (by rfl) rfl<|.e (by rfl) rfl<|zk) rfl) ?_ ?_
    ·intro k hR0
     refine jn ?_; refine n7 ?_; refine jq ?_ ?_
     ·intro h11
      refine US ?_
      obtain ⟨⟨v2,_⟩,hfl⟩:=TZ v hi (ks:=ks) k
      have hfl2:=v2.len
      have hmz:=cK (ks:=ks) v hi (i:=k) zo
      have hlw:=HV v2 (b6 ks k)
      refine i2 ?_; refine jc (aG (x9 r ks k) (b6 ks k) ⟨zo,zo⟩ ⟨zo,zo⟩) ?_; refine D3 ?_; refine d5.inlX (σ:=Unit) [2,4,103,1000,1001,1002,1003,1004,1005,1006,1007] Tryz.func104 rfl Tryz.ntmps104 rfl (.cons rfl (fun _=>rfl)<|.cons rfl (fun _=>rfl)<|.cons rfl (fun _=>rfl)<|.nil) rfl rfl (fun _=>[⟨103,[],m9 true 22 U1 hs r.1.length⟩,⟨1000,[],v8 3 hs (M4 (E6 r ks k) (D4 (x9 r ks k) (b6 ks k)).toNat (C3 (x9 r ks k) (b6 ks k)).toNat) 0⟩,⟨1001,[],v8 3 hs (M4 (E6 r ks k) (D4 (x9 r ks k) (b6 ks k)).toNat (C3 (x9 r ks k) (b6 ks k)).toNat) 1⟩,⟨1002,[],v8 3 hs (M4 (E6 r ks k) (D4 (x9 r ks k) (b6 ks k)).toNat (C3 (x9 r ks k) (b6 ks k)).toNat) 2⟩,⟨1003,[],v8 3 hs (M4 (E6 r ks k) (D4 (x9 r ks k) (b6 ks k)).toNat (C3 (x9 r ks k) (b6 ks k)).toNat) 3⟩,⟨1004,[],v8 3 hs (M4 (E6 r ks k) (D4 (x9 r ks k) (b6 ks k)).toNat (C3 (x9 r ks k) (b6 ks k)).toNat) 4⟩,⟨1005,[],v8 3 hs (M4 (E6 r ks k) (D4 (x9 r ks k) (b6 ks k)).toNat (C3 (x9 r ks k) (b6 ks k)).toNat) 5⟩,⟨1006,[],v8 3 hs (M4 (E6 r ks k) (D4 (x9 r ks k) (b6 ks k)).toNat (C3 (x9 r ks k) (b6 ks k)).toNat) 6⟩,⟨1007,[],v8 3 hs (M4 (E6 r ks k) (D4 (x9 r ks k) (b6 ks k)).toNat (C3 (x9 r ks k) (b6 ks k)).toNat) 7⟩,⟨2,[],j3 [b7 (eL eI) (N1 (x9 r ks k) (b6 ks k)).1,b7 (eL eI) (N1 (x9 r ks k) (b6 ks k)).2]⟩,⟨4,[],j3 [j8 (.slice none 0 0),j8 (.slice none 0 0)]⟩]) (fun _=>j8 (.tuple #[])) (fun _=>True) (fun _=>rfl) (fun _=>inferInstance) (fun _=>rfl) rfl (fun J15 bks15 om15=>?_) ?_
      ·skip
       refine jn ?_; refine j9 ?_; refine tO (Z9 rfl uu) rfl rfl ?_; refine j9 ?_
       refine Tr.for1 (σ:=Nat) [⟨1,true,_,_⟩,⟨2,true,_,_⟩,⟨8,true,_,_⟩,⟨9,true,_,_⟩,⟨27,true,_,_⟩,⟨29,true,_,_⟩,⟨128,true,_,_⟩,⟨1025,true,_,_⟩,⟨1026,true,_,_⟩,⟨1027,true,_,_⟩,⟨1028,true,_,_⟩,⟨1029,true,_,_⟩,⟨1030,true,_,_⟩,⟨1031,true,_,_⟩,⟨1032,true,_,_⟩] [⟨103,_,_⟩,⟨4,_,_⟩,⟨2,_,_⟩] (fun i=>[⟨10,true,[],kI (i:Int)⟩]) (fun i=>[⟨1000,[],v8 3 hs (H0 (E6 r ks k) (D4 (x9 r ks k) (b6 ks k)).toNat (C3 (x9 r ks k) (b6 ks k)).toNat i) 0⟩,⟨1001,[],v8 3 hs (H0 (E6 r ks k) (D4 (x9 r ks k) (b6 ks k)).toNat (C3 (x9 r ks k) (b6 ks k)).toNat i) 1⟩,⟨1002,[],v8 3 hs (H0 (E6 r ks k) (D4 (x9 r ks k) (b6 ks k)).toNat (C3 (x9 r ks k) (b6 ks k)).toNat i) 2⟩,⟨1003,[],v8 3 hs (H0 (E6 r ks k) (D4 (x9 r ks k) (b6 ks k)).toNat (C3 (x9 r ks k) (b6 ks k)).toNat i) 3⟩,⟨1004,[],v8 3 hs (H0 (E6 r ks k) (D4 (x9 r ks k) (b6 ks k)).toNat (C3 (x9 r ks k) (b6 ks k)).toNat i) 4⟩,⟨1005,[],v8 3 hs (H0 (E6 r ks k) (D4 (x9 r ks k) (b6 ks k)).toNat (C3 (x9 r ks k) (b6 ks k)).toNat i) 5⟩,⟨1006,[],v8 3 hs (H0 (E6 r ks k) (D4 (x9 r ks k) (b6 ks k)).toNat (C3 (x9 r ks k) (b6 ks k)).toNat i) 6⟩,⟨1007,[],v8 3 hs (H0 (E6 r ks k) (D4 (x9 r ks k) (b6 ks k)).toNat (C3 (x9 r ks k) (b6 ks k)).toNat i) 7⟩]) (fun i=>i<=r.1.length) (fun i=>i=r.1.length) (fun i=>r.1.length-i) (0) zi (d7.mk (.i rfl zi<|zk) (.e (by rw[<- DY]) rfl<|.e (by rw[<- DY]) rfl<|.e (by rw[<- DY]) rfl<|.e (by rw[<- DY]) rfl<|.e (by rw[<- DY]) rfl<|.e (by rw[<- DY]) rfl<|.e (by rw[<- DY]) rfl<|.e (by rw[<- DY]) rfl<|zk) rfl) ?_ ?_
       ·intro i hR0
        refine jn ?_; refine n7 ?_; refine jq ?_ ?_
        ·intro h1
         refine l6 ?_; refine d5.asRow 13 1000 rfl inferInstance zo zo ?_; refine d5.norm (S':=⟨_,_,_,_⟩::⟨_,_,_,_⟩::⟨_,_,_,_⟩::⟨_,_,_,_⟩::⟨_,_,_,_⟩::⟨_,_,_,_⟩::⟨_,_,_,_⟩::⟨_,_,_,_⟩::⟨_,_,_,_⟩::⟨_,_,_,_⟩::⟨_,_,_,_⟩::⟨_,_,_,_⟩::⟨_,_,_,_⟩::⟨_,_,_,_⟩::⟨_,_,_,_⟩::⟨_,_,_,_⟩::⟨_,_,_,_⟩::⟨_,_,_,_⟩::⟨_,_,_,_⟩::⟨_,_,_,_⟩::[]) (M':=[⟨_,_,_⟩,⟨_,_,_⟩,⟨_,_,_⟩,⟨_,_,_⟩,⟨_,_,_⟩,⟨_,_,_⟩,⟨_,_,_⟩,⟨_,_,_⟩,⟨_,_,_⟩,⟨_,_,_⟩,⟨_,_,_⟩]) rfl rfl ?_; refine j9 ?_
         refine Tr.drawA q9 #[false,false,false,false,false,false,false,false,false,false,false] rfl ?_
         have hat:=YF (m:=(E6 r ks k)) (to:=(D4 (x9 r ks k) (b6 ks k)).toNat) (col:=(C3 (x9 r ks k) (b6 ks k)).toNat) (i:=i) (by rw[hmz.len]; omega)
         have hrl:(b6 (H0 (E6 r ks k) (D4 (x9 r ks k) (b6 ks k)).toNat (C3 (x9 r ks k) (b6 ks k)).toNat i) i).length=r.1.length:=by rw[hat]; exact hmz.row i zo
         have hr1:=hmz.rg i (D4 (x9 r ks k) (b6 ks k)).toNat
         have hr2:=hmz.rg i (C3 (x9 r ks k) (b6 ks k)).toNat
         rw[<- hat] at hr1 hr2
         refine g6.take 0 #[true,false,false,false,false,false,false,false,false,false,false] (by kernel_rfl) (by kernel_rfl) (by kernel_rfl) rfl rfl (BN rfl) rfl rfl ?_; refine g6.take 1 #[true,true,false,false,false,false,false,false,false,false,false] (by kernel_rfl) (by kernel_rfl) (by kernel_rfl) rfl rfl (BN rfl) rfl rfl ?_; refine g6.take 2 #[true,true,true,false,false,false,false,false,false,false,false] (by kernel_rfl) (by kernel_rfl) (by kernel_rfl) rfl rfl (RD rfl rfl zo) rfl rfl ?_; refine g6.take 4 #[true,true,true,false,true,false,false,false,false,false,false] (by kernel_rfl) (by kernel_rfl) (by kernel_rfl) rfl rfl (BN rfl) rfl rfl ?_
         refine g6.take 5 #[true,true,true,false,true,true,false,false,false,false,false] (by kernel_rfl) (by kernel_rfl) (by kernel_rfl) rfl rfl (BN rfl) rfl rfl ?_; refine g6.take 6 #[true,true,true,false,true,true,true,false,false,false,false] (by kernel_rfl) (by kernel_rfl) (by kernel_rfl) rfl rfl (RD rfl rfl zo) rfl rfl ?_; refine g6.all [3,7] (by kernel_rfl) (by simp) (fun i hi=>?_)
         simp only[List.mem_cons,List.not_mem_nil,or_false] at hi
         rcases hi with rfl | rfl
         ·refine ⟨_,rfl,?_⟩
          refine tO (PE (t0:=1000) inferInstance rfl uu (fun _=>zo)) rfl rfl ?_; refine g6.k #[true,true,true,true,true,true,true,false,false,false,false] rfl (fun _ _ _ _=>trivial) ?_; refine g6.one 7 (by kernel_rfl) rfl ?_; refine tO (PE (t0:=1000) inferInstance rfl uu (fun _=>zo)) rfl rfl ?_; refine g6.k #[true,true,true,true,true,true,true,true,false,false,false] rfl (fun _ _ _ _=>trivial) ?_; refine g6.take 8 #[true,true,true,true,true,true,true,true,true,false,false] (by kernel_rfl) (by kernel_rfl) (by kernel_rfl) rfl rfl (kG rfl rfl zo) rfl rfl ?_
          refine g6.take 9 #[true,true,true,true,true,true,true,true,true,true,false] (by kernel_rfl) (by kernel_rfl) (by kernel_rfl) rfl rfl (RD rfl rfl zo) rfl rfl ?_; refine g6.one 10 (by kernel_rfl) rfl ?_; refine d5.stR (t0:=1000) inferInstance rfl rfl zo ?_; refine d5.norm (S':=⟨_,_,_,_⟩::⟨_,_,_,_⟩::⟨_,_,_,_⟩::⟨_,_,_,_⟩::⟨_,_,_,_⟩::⟨_,_,_,_⟩::⟨_,_,_,_⟩::⟨_,_,_,_⟩::⟨_,_,_,_⟩::⟨_,_,_,_⟩::⟨_,_,_,_⟩::⟨_,_,_,_⟩::⟨_,_,_,_⟩::⟨_,_,_,_⟩::⟨_,_,_,_⟩::⟨_,_,_,_⟩::⟨_,_,_,_⟩::⟨_,_,_,_⟩::⟨_,_,_,_⟩::⟨_,_,_,_⟩::⟨_,_,_,_⟩::⟨_,_,_,_⟩::⟨_,_,_,_⟩::⟨_,_,_,_⟩::⟨_,_,_,_⟩::⟨_,_,_,_⟩::⟨_,_,_,_⟩::⟨_,_,_,_⟩::⟨_,_,_,_⟩::⟨_,_,_,_⟩::⟨_,_,_,_⟩::[]) (M':=[⟨_,_,_⟩,⟨_,_,_⟩,⟨_,_,_⟩,⟨_,_,_⟩,⟨_,_,_⟩,⟨_,_,_⟩,⟨_,_,_⟩,⟨_,_,_⟩,⟨_,_,_⟩,⟨_,_,_⟩,⟨_,_,_⟩]) rfl rfl ?_
          refine g6.k #[true,true,true,true,true,true,true,true,true,true,true] rfl (fun _ _ _ _=>trivial) ?_; refine g6.done (by kernel_rfl) ?_; refine n7 ?_
          exact g8.lp (i+1) zi zo (d7.mk (.i rfl zi<|zk) (.e (by rw[<- Q4 (by rw[hmz.len]; omega)]) rfl<|.e (by rw[<- Q4 (by rw[hmz.len]; omega)]) rfl<|.e (by rw[<- Q4 (by rw[hmz.len]; omega)]) rfl<|.e (by rw[<- Q4 (by rw[hmz.len]; omega)]) rfl<|.e (by rw[<- Q4 (by rw[hmz.len]; omega)]) rfl<|.e (by rw[<- Q4 (by rw[hmz.len]; omega)]) rfl<|.e (by rw[<- Q4 (by rw[hmz.len]; omega)]) rfl<|.e (by rw[<- Q4 (by rw[hmz.len]; omega)]) rfl<|zk) rfl)
         ·refine ⟨_,rfl,?_⟩
          refine tO (PE (t0:=1000) inferInstance rfl uu (fun _=>zo)) rfl rfl ?_; refine g6.k #[true,true,true,false,true,true,true,true,false,false,false] rfl (fun _ _ _ _=>trivial) ?_; refine g6.one 3 (by kernel_rfl) rfl ?_; refine tO (PE (t0:=1000) inferInstance rfl uu (fun _=>zo)) rfl rfl ?_; refine g6.k #[true,true,true,true,true,true,true,true,false,false,false] rfl (fun _ _ _ _=>trivial) ?_; refine g6.take 8 #[true,true,true,true,true,true,true,true,true,false,false] (by kernel_rfl) (by kernel_rfl) (by kernel_rfl) rfl rfl (kG rfl rfl zo) rfl rfl ?_
          refine g6.take 9 #[true,true,true,true,true,true,true,true,true,true,false] (by kernel_rfl) (by kernel_rfl) (by kernel_rfl) rfl rfl (RD rfl rfl zo) rfl rfl ?_; refine g6.one 10 (by kernel_rfl) rfl ?_; refine d5.stR (t0:=1000) inferInstance rfl rfl zo ?_; refine d5.norm (S':=⟨_,_,_,_⟩::⟨_,_,_,_⟩::⟨_,_,_,_⟩::⟨_,_,_,_⟩::⟨_,_,_,_⟩::⟨_,_,_,_⟩::⟨_,_,_,_⟩::⟨_,_,_,_⟩::⟨_,_,_,_⟩::⟨_,_,_,_⟩::⟨_,_,_,_⟩::⟨_,_,_,_⟩::⟨_,_,_,_⟩::⟨_,_,_,_⟩::⟨_,_,_,_⟩::⟨_,_,_,_⟩::⟨_,_,_,_⟩::⟨_,_,_,_⟩::⟨_,_,_,_⟩::⟨_,_,_,_⟩::⟨_,_,_,_⟩::⟨_,_,_,_⟩::⟨_,_,_,_⟩::⟨_,_,_,_⟩::⟨_,_,_,_⟩::⟨_,_,_,_⟩::⟨_,_,_,_⟩::⟨_,_,_,_⟩::⟨_,_,_,_⟩::⟨_,_,_,_⟩::⟨_,_,_,_⟩::[]) (M':=[⟨_,_,_⟩,⟨_,_,_⟩,⟨_,_,_⟩,⟨_,_,_⟩,⟨_,_,_⟩,⟨_,_,_⟩,⟨_,_,_⟩,⟨_,_,_⟩,⟨_,_,_⟩,⟨_,_,_⟩,⟨_,_,_⟩]) rfl rfl ?_
          refine g6.k #[true,true,true,true,true,true,true,true,true,true,true] rfl (fun _ _ _ _=>trivial) ?_; refine g6.done (by kernel_rfl) ?_; refine n7 ?_
          exact g8.lp (i+1) zi zo (d7.mk (.i rfl zi<|zk) (.e (by rw[<- Q4 (by rw[hmz.len]; omega)]) rfl<|.e (by rw[<- Q4 (by rw[hmz.len]; omega)]) rfl<|.e (by rw[<- Q4 (by rw[hmz.len]; omega)]) rfl<|.e (by rw[<- Q4 (by rw[hmz.len]; omega)]) rfl<|.e (by rw[<- Q4 (by rw[hmz.len]; omega)]) rfl<|.e (by rw[<- Q4 (by rw[hmz.len]; omega)]) rfl<|.e (by rw[<- Q4 (by rw[hmz.len]; omega)]) rfl<|.e (by rw[<- Q4 (by rw[hmz.len]; omega)]) rfl<|zk) rfl)
        ·intro h1
         replace h1:=Int.not_lt.1 h1
         refine i4 ?_
         exact g8.cut (i) zo (d7.mk (.i rfl zi<|zk) (zk) rfl)
       ·intro i hin
        refine je ?_; exact g8.inlX (n:=25) (bks:=bks15) (()) trivial rfl (d7.mk (zk) (.k rfl<|.e (by rw[hin,<- hmz.len,DX]) rfl<|.e (by rw[hin,<- hmz.len,DX]) rfl<|.e (by rw[hin,<- hmz.len,DX]) rfl<|.e (by rw[hin,<- hmz.len,DX]) rfl<|.e (by rw[hin,<- hmz.len,DX]) rfl<|.e (by rw[hin,<- hmz.len,DX]) rfl<|.e (by rw[hin,<- hmz.len,DX]) rfl<|.e (by rw[hin,<- hmz.len,DX]) rfl<|zk) rfl) (.cons rfl<|.cons rfl<|.cons rfl<|.cons rfl<|.cons rfl<|.cons rfl<|.cons rfl<|.cons rfl<|.cons rfl<|.cons rfl<|.cons rfl<|.nil) rfl
      intro _ hX15
      refine d5.norm (S':=⟨_,_,_,_⟩::⟨_,_,_,_⟩::⟨_,_,_,_⟩::⟨_,_,_,_⟩::⟨_,_,_,_⟩::⟨_,_,_,_⟩::⟨_,_,_,_⟩::⟨_,_,_,_⟩::⟨_,_,_,_⟩::⟨_,_,_,_⟩::⟨_,_,_,_⟩::⟨_,_,_,_⟩::⟨_,_,_,_⟩::⟨_,_,_,_⟩::⟨_,_,_,_⟩::⟨_,_,_,_⟩::⟨_,_,_,_⟩::⟨_,_,_,_⟩::⟨_,_,_,_⟩::⟨_,_,_,_⟩::⟨_,_,_,_⟩::⟨_,_,_,_⟩::⟨_,_,_,_⟩::⟨_,_,_,_⟩::⟨_,_,_,_⟩::[]) (M':=[⟨_,_,_⟩,⟨_,_,_⟩,⟨_,_,_⟩,⟨_,_,_⟩,⟨_,_,_⟩,⟨_,_,_⟩,⟨_,_,_⟩,⟨_,_,_⟩,⟨_,_,_⟩,⟨_,_,_⟩,⟨_,_,_⟩]) rfl rfl ?_; refine l5 ?_
      exact g8.lp (k+1) zi zo (d7.mk (.i rfl zi<|zk) (.e (by rfl) rfl<|.e (by rfl) rfl<|.e (by rfl) rfl<|.e (by rfl) rfl<|.e (by rfl) rfl<|.e (by rfl) rfl<|.e (by rfl) rfl<|.e (by rfl) rfl<|.e (by rfl) rfl<|zk) rfl)
     ·intro h11
      replace h11:=Int.not_lt.1 h11
      refine i4 ?_
      exact g8.cut (k) zo (d7.mk (.i rfl zi<|zk) (zk) rfl)
    ·rintro _ rfl
     refine je ?_
     have hmz:=cK (ks:=ks) v hi (i:=ks.length) zo
     refine i2 ?_; refine Tr.frzM 8 103 1000 rfl inferInstance zo (by rw[hmz.len,hhl]) (fun i=>by by_cases hi:i<r.1.length; (rw[hmz.row i hi]; simp only[t6]; omega); (rw[z6 (by rw[hmz.len]; omega)]; exact Nat.zero_le _)) rfl ?_; refine jn ?_; refine o9 ?_
     exact d9.resC (fn:=Tryz.f54) (ts:=[5,6]) rfl rfl rfl (u8 rfl (by rfl)) (.r rfl zi<|.i rfl zi<|.nil)

end Go.Fl

/- Contracts: kinds and steps of exchanges (the program). -/
namespace Go.Fl
open Go Go.Proofs
open d5 renaming op->tO
open i6 renaming op->rO
set_option maxRecDepth 100000

theorem hZ {p:List Int} {I:Iv} {v:i5}:D6 p I v=1\/D6 p I v=-1\/D6 p I v=0:=by
 unfold D6
 split
 ·rcases HD (a:=b6 v.1 0) with h | h | h
  ·exact .inl h.2
  ·exact .inr (.inl h.2)
  ·exact .inr (.inr h.2)
 ·exact LK
structure T6 (p:List Int) (D:Int) (M n e:Nat) (r:p6) (ls:List i5):Prop where
 rows:C9 r
 nn:r.1.length=n
 len:ls.length=n
 red:∀a,a<n->n8 p (b6 ls a)
 hb:∀a,a<n->HB D (2 ^ e*M) (b6 ls a)
def K0 (sg:i5->Int) (r:p6) (ls:List i5):Int:=sg (j5 (b6 ls (g7 r.1).toNat) (b6 ls (g7 r.2).toNat))
def U4 (sg:i5->Int) (r:p6) (ls:List i5):Int:=if K0 sg r ls=1 then 0 else 1
def V1 (r:p6) (ls:List i5) (kind:Int):List i5:=ls.set (C3 r kind).toNat (j5 (b6 ls (C3 r kind).toNat) (b6 ls (D4 r kind).toNat))
theorem T6.nbd {p:List Int} {D:Int} {M n e a:Nat} {r:p6} {ls l0:List i5} (h:T6 p D M n e r ls) (h0:v9 p D M n l0) (he:e<=16) (ha:a<n):E5 200 (b6 ls a) :=
 h0.nbd (h.hb a ha) (Nat.le_trans (Nat.pow_le_pow_right zo he) (by decide))
theorem VW {l:List i5} {k j:Nat} {x:i5} (h:k<l.length):b6 (l.set k x) j=if j=k then x else b6 l j:=by
 by_cases e:j=k
 ·subst e; rw[if_pos rfl]; simp[b6,h]
 ·rw[if_neg e]; simp[b6,List.getElem?_set_ne (Ne.symm e)]
theorem T6.step {p:List Int} {D:Int} {M n e:Nat} {r:p6} {ls l0:List i5} (h:T6 p D M n e r ls) (h0:v9 p D M n l0) (hi:B3 r=true) (kind:Int):T6 p D M n (e+1) (N1 r kind) (V1 r ls kind):=by
 obtain ⟨h1,h2⟩:=HV h.rows kind
 have hn:=h.nn
 have e1:(C3 r kind).toNat<n:=by omega
 have e2:(D4 r kind).toNat<n:=by omega
 refine ⟨(VO h.rows hi kind).1,(eE h.rows.len h.rows.two).1.trans hn,by unfold V1; rw[List.length_set]; exact h.len,fun a ha=>?_,fun a ha=>?_⟩
 ·unfold V1
  rw[VW (by rw[h.len]; exact e1)]
  split
  ·exact P9 (h.red _ e1) (h.red _ e2)
  ·exact h.red a ha
 ·unfold V1
  rw[VW (by rw[h.len]; exact e1)]
  have:2 ^ (e+1)*M=2 ^ e*M+2 ^ e*M:=by rw[Nat.pow_succ',Nat.mul_assoc,Nat.two_mul]
  split
  ·rw[this]; exact (h.hb _ e1).sub h0.pos (h.hb _ e2)
  ·exact (h.hb a ha).mono zo
theorem oV (f:y8) (p q:s7) (h0:E1 f=0) (hp:v7 250 p) (hq:v7 250 q):Ct Tryz.prog 116 [r5 y1 (I9 f),b7 j2 p,b7 j2 q] (b7 j2 (m8 (j5 (i8 f.1 p) (i8 f.1 q)))):=ZX (I9 f) p q 250 (L0 h0) hp hq zo
theorem map_set {l:List i5} {k:Nat} {x:i5}:(l.map m8).set k (m8 x)=(l.set k x).map m8:=by
 rw[List.map_set]
theorem mW (p:List s7) (hn:p.length<=100000) (h0:0<p.length):R5 Tryz.prog 148 [b7 (eL j2) p] (fun t=>q8 t p.length) (m9 false 30 j2 p p.length):=by
 refine R5.mk Tryz.func148 rfl Tryz.ntmps148 rfl (fun w J=>?_); refine o9 ?_; refine tO (LB rfl uu) rfl rfl ?_; refine i2 ?_; refine Tr.exB (s:=4) rfl (fun b1 q1=>?_); refine Tr.cnd rfl ?_ ?_
 ·intro h1
  exact absurd (congrArg List.length (q1 h1)) (by simp only[List.length_nil]; omega)
 ·intro h1
  refine i4 ?_; refine d5.new (FU j2 5) rfl rfl rfl rfl ?_; refine i2 ?_; refine jl ?_; refine i4 ?_
  exact d9.resN (fn:=Tryz.f148) (u:=5) rfl rfl (FK zi zi) (FY zi) inferInstance

set_option maxHeartbeats 1000000 in
theorem aF (x:n9) (D:Int) (M e:Nat) (r:p6) (ls:List i5) (hx:F1 x) (hlo:v9 x.1.1 D M x.2.1.length (p7 x)) (hst:T6 x.1.1 D M x.2.1.length e r ls) (he:e<=16):Ct Tryz.prog 94 [r5 E3 (HW x),b7 eO r,b7 (eL j2) (ls.map m8)] (y4 [kI (if K0 (r9 x) r ls=0 then 0 else U4 (r9 x) r ls),kI (if K0 (r9 x) r ls=0 then 14 else 0)]):=by
 have h0:=hx.fld
 have hpo:=L0 h0
 have hle:x.2.1.length<=8:=hx.rows.le
 have htwo:2<=x.2.1.length:=hx.rows.two
 have hnn:=hst.nn
 have hr2:=hst.rows.len
 have hln:=hst.len
 have hml:(ls.map m8).length=x.2.1.length:=by rw[List.length_map,hln]
 have hg:∀a,a<x.2.1.length->b6 (ls.map m8) a=m8 (b6 ls a):=fun a ha=>CB (by rw[hln]; exact ha)
 have hnb:=fun a (ha:a<x.2.1.length)=>hst.nbd hlo he ha
 have hl1:=P6 hst.rows.p1 zo
 have hl2:=P6 hst.rows.p2 zo
 have hga:=hg (g7 r.1).toNat zo
 have hgb:=hg (g7 r.2).toNat zo
 have htr:K0 (r9 x) r ls=1\/K0 (r9 x) r ls=-1\/K0 (r9 x) r ls=0:=hZ
 have hks:K0 (r9 x) r ls=r9 x (j5 (b6 ls (g7 r.1).toNat) (b6 ls (g7 r.2).toNat)):=rfl
 refine Ct.mk Tryz.func94 rfl Tryz.ntmps94 rfl (fun w J=>?_); refine i2 ?_; refine jb 4 rfl ?_; refine n7 ?_; refine Tr.draw 16 q9 (by kernel_rfl) ?_; refine i9 ?_; refine rO (G7 rfl uu) rfl rfl ?_; refine o0 ?_; refine jd (NB r.1 zo) ?_; refine o0 ?_; refine jd (NB r.2 zo) ?_; refine j9 ?_; refine tO (j7 (fun hp=>MZ x.1 (b6 (ls.map m8) (g7 r.1).toNat) (b6 (ls.map m8) (g7 r.2).toNat) h0 (by rw[hga]; exact (M8 (hnb _ zo)).mono zo) (by rw[hgb]; exact (M8 (hnb _ zo)).mono zo)) (.a rfl uu<|.a rfl uu<|.a rfl uu<|.nil)) rfl rfl ?_
 rw[hga,hgb,K2 (hst.red _ zo),K2 (hst.red _ zo)]
 refine o9 ?_; refine Tr.cnd rfl ?_ ?_
 ·intro h2
  try simp only[decide_eq_true_eq] at h2
  have q1:K0 (r9 x) r ls=1:=by rw[hks]; assumption
  have q2:U4 (r9 x) r ls=0:=if_pos q1
  refine o9 ?_; exact d9.res (fn:=Tryz.f94) (ts:=[6,7]) rfl rfl (.i rfl (by rw[q1,q2]; rfl)<|.i rfl (by rw[q1]; rfl)<|.nil)
 ·intro h2
  try simp only[decide_eq_false_iff_not] at h2
  have q1:¬K0 (r9 x) r ls=1:=by rw[hks]; assumption
  have q2:U4 (r9 x) r ls=1:=if_neg q1
  refine n7 ?_; refine Tr.cnd rfl ?_ ?_
  ·intro h4
   try simp only[decide_eq_true_eq] at h4
   have q3:K0 (r9 x) r ls=-1:=by rw[hks]; assumption
   refine o9 ?_; exact d9.res (fn:=Tryz.f94) (ts:=[6,7]) rfl rfl (.i rfl (by rw[q3,q2]; rfl)<|.i rfl (by rw[q3]; rfl)<|.nil)
  ·intro h4
   try simp only[decide_eq_false_iff_not] at h4
   have q4:¬K0 (r9 x) r ls=-1:=by rw[hks]; assumption
   have q3:K0 (r9 x) r ls=0:=by omega
   refine v6 ?_; exact d9.res (fn:=Tryz.f94) (ts:=[6,7]) rfl rfl (.i rfl (by rw[q3]; rfl)<|.i rfl (by rw[q3]; rfl)<|.nil)

set_option maxHeartbeats 1000000 in
theorem aI (x:n9) (D:Int) (M e:Nat) (r:p6) (ls:List i5) (k:Int) (hx:F1 x) (hlo:v9 x.1.1 D M x.2.1.length (p7 x)) (hst:T6 x.1.1 D M x.2.1.length e r ls) (he:e<=16):Ct Tryz.prog 95 [r5 E3 (HW x),b7 eO r,b7 (eL j2) (ls.map m8),kI k] (y4 [b7 eO (N1 r k),b7 (eL j2) ((V1 r ls k).map m8)]):=by
 have h0:=hx.fld
 have hpo:=L0 h0
 have hle:x.2.1.length<=8:=hx.rows.le
 have htwo:2<=x.2.1.length:=hx.rows.two
 have hnn:=hst.nn
 have hr2:=hst.rows.len
 have hln:=hst.len
 have hml:(ls.map m8).length=x.2.1.length:=by rw[List.length_map,hln]
 have hg:∀a,a<x.2.1.length->b6 (ls.map m8) a=m8 (b6 ls a):=fun a ha=>CB (by rw[hln]; exact ha)
 have hnb:=fun a (ha:a<x.2.1.length)=>hst.nbd hlo he ha
 obtain ⟨hl1,hl2⟩:=HV hst.rows k
 have hga:=hg (C3 r k).toNat zo
 have hgb:=hg (D4 r k).toNat zo
 refine Ct.mk Tryz.func95 rfl Tryz.ntmps95 rfl (fun w J=>?_); refine i2 ?_; refine jb 5 rfl ?_; refine ja 8 ?_; refine l5 ?_; refine jc (aG r k ⟨zo,zo⟩ ⟨zo,zo⟩) ?_; refine z5 ?_; refine d5.new (DD 20 (fun hp=>mW (ls.map m8) zo zo) (.a rfl uu<|.nil)) rfl rfl rfl rfl ?_; refine i4 ?_; refine Tr.draw 15 q9 (by kernel_rfl) ?_; refine j9 ?_; refine rO (G7 rfl uu) rfl rfl ?_; refine o0 ?_; refine rO (CG rfl uu rfl rfl rfl rfl) rfl rfl ?_; refine j9 ?_; refine rO (CG rfl uu rfl rfl rfl rfl) rfl rfl ?_
 refine rO (j7 (fun hp=>oV x.1 (b6 (ls.map m8) (C3 r k).toNat) (b6 (ls.map m8) (D4 r k).toNat) h0 (by rw[hga]; exact (M8 (hnb _ zo)).mono zo) (by rw[hgb]; exact (M8 (hnb _ zo)).mono zo)) (.a rfl uu<|.a rfl uu<|.a rfl uu<|.nil)) rfl rfl ?_
 rw[hga,hgb,K2 (hst.red _ zo),K2 (hst.red _ zo)]
 refine D3 ?_; refine Tr.frz 20 [9] ⟨rfl,trivial⟩ (by simp only[t6]; omega) rfl ?_; refine i9 ?_; exact d9.resC (fn:=Tryz.f95) (ts:=[9]) rfl rfl rfl (u8 rfl (by rfl)) (.r rfl (by unfold V1; rw[map_set])<|.nil)

end Go.Fl

/- Contracts: Path and Step (the program). -/
namespace Go.Fl
open Go Go.Proofs
open d5 renaming op->tO
open i6 renaming op->rO
set_option maxRecDepth 100000

def S8 (sg:i5->Int) (r:p6) (ls:List i5):Nat->p6×List i5
 | 0=>(r,ls)
 | i+1=>(N1 (S8 sg r ls i).1 (U4 sg (S8 sg r ls i).1 (S8 sg r ls i).2),V1 (S8 sg r ls i).1 (S8 sg r ls i).2 (U4 sg (S8 sg r ls i).1 (S8 sg r ls i).2))
def PO (sg:i5->Int) (r:p6) (ls:List i5) (i:Nat):Int:=U4 sg (S8 sg r ls i).1 (S8 sg r ls i).2
def vP (sg:i5->Int) (r:p6) (ls:List i5) (i:Nat):Int:=K0 sg (S8 sg r ls i).1 (S8 sg r ls i).2
theorem PP {sg:i5->Int} {r:p6} {ls:List i5} {i:Nat}:PO sg r ls i=0\/PO sg r ls i=1:=by unfold PO U4; split<;>simp
theorem LC {p:List Int} {sg:i5->Int} {D:Int} {M n:Nat} {r:p6} {ls l0:List i5} (h:T6 p D M n 0 r ls) (h0:v9 p D M n l0) (hi:B3 r=true):∀i,T6 p D M n i (S8 sg r ls i).1 (S8 sg r ls i).2/\B3 (S8 sg r ls i).1=true
 | 0=>⟨h,hi⟩
 | i+1=>by
  obtain ⟨h1,h2⟩:=LC h h0 hi (sg:=sg) i
  exact ⟨h1.step h0 h2 _,(VO h1.rows h2 _).2⟩
theorem F1.st {x:n9} {D:Int} {M:Nat} (hx:F1 x) (hlo:v9 x.1.1 D M x.2.1.length (p7 x)):T6 x.1.1 D M x.2.1.length 0 (oX x) (p7 x) :=
 ⟨hx.rows,rfl,hlo.len,hlo.red,fun a ha=>by rw[Nat.pow_zero,Nat.one_mul]; exact hlo.hb a ha⟩
abbrev zX:n9:=(([],0,0,0),[],[],[])
noncomputable abbrev y5 (x:n9) (i:Nat):p6×List i5:=S8 (r9 x) (oX x) (p7 x) i
noncomputable abbrev G1 (x:n9) (i:Nat):Int:=PO (r9 x) (oX x) (p7 x) i
noncomputable abbrev L7 (x:n9) (i:Nat):Int:=vP (r9 x) (oX x) (p7 x) i
noncomputable def r6 (x:n9) (n:Nat):n9:=(x.1,(y5 x n).1.1,(y5 x n).1.2,(y5 x n).2.map m8)
theorem OH {r:p6} (v:C9 r) (hi:B3 r=true):K7 r=0:=by unfold K7; rw[if_neg (fun a=>a (SL v)),if_pos hi]
theorem NE (x:n9) (D:Int) (M:Nat) (hx:F1 x) (hlo:v9 x.1.1 D M x.2.1.length (p7 x)):Ct Tryz.prog 93 [b7 eX x] (y4 [r5 E3 (HW x),kI (K7 (oX x))]):=by
 refine Ct.mk Tryz.func93 rfl Tryz.ntmps93 rfl (fun w J=>?_); refine i2 ?_; refine jb 1 rfl ?_; refine l5 ?_; refine jc (KC x D M hx hlo) ?_; refine B4 ?_; refine Tr.cnd rfl ?_ ?_
 ·intro h2
  exact absurd h2 (by decide)
 ·intro h2
  refine n7 ?_; refine tO (G7 rfl uu) rfl rfl ?_; refine i2 ?_; refine jc (aJ (oX x)) ?_; refine o0 ?_
  exact d9.res (fn:=Tryz.f93) (ts:=[2,3]) rfl rfl (.p rfl zi<|.i rfl zi<|.nil)

theorem oR (x:n9) (hsm:V8 x) (hne:H7 x≠0):Ct Tryz.prog 93 [b7 eX x] (y4 [j8 (.pointer none),kI (H7 x)]):=by
 refine Ct.mk Tryz.func93 rfl Tryz.ntmps93 rfl (fun w J=>?_); refine i2 ?_; refine jb 1 rfl ?_; refine l5 ?_; refine jc (pP x hsm hne) ?_; refine B4 ?_; refine Tr.cnd rfl ?_ ?_
 ·intro h2
  refine o9 ?_
  exact d9.res (fn:=Tryz.f93) (ts:=[2,3]) rfl rfl (.k rfl<|.i rfl zi<|.nil)
 ·intro h2
  exact absurd (of_decide_eq_false h2) (fun e=>e hne)

set_option maxHeartbeats 2000000 in
theorem oK (x:n9) (D:Int) (M:Nat) (n:Nat) (hx:F1 x) (hlo:v9 x.1.1 D M x.2.1.length (p7 x)) (hir:B3 (oX x)=true) (hn:n<=16) (hnt:∀i,i<n->L7 x i≠0):Ct Tryz.prog 47 [b7 eX x,kI (n:Int)] (y4 [b7 eX (r6 x n),b7 (eL eI) (n6 n (G1 x)),b7 (eL (eL eI)) (E6 (oX x) (n6 n (G1 x)) n),kI 0]):=by
 have h0:=hx.fld
 have hpo:=L0 h0
 have hs:=(Z4 h0).1.2.1
 have v:=hx.rows
 have hp1:r7 x.2.1 x.2.1.length:=v.p1
 have hp2:r7 x.2.2.1 x.2.1.length:=v.p2
 have hle:x.2.1.length<=8:=v.le
 have htwo:2<=x.2.1.length:=v.two
 have hbl:x.2.2.1.length=x.2.1.length:=v.len
 have hxl:=hx.len
 have hll:=hlo.len
 have hic:=OH hx.rows hir
 have htl:(n6 n (G1 x)).length=n:=t7
 have hfg:=nT (oX x) (n6 n (G1 x)) hx.rows hir (by rw[htl]; omega) (fun k hk=>by obtain ⟨i,_,rfl⟩:=List.mem_map.1 hk; exact PP)
 rw[htl] at hfg
 refine Ct.mk Tryz.func47 rfl Tryz.ntmps47 rfl (fun w J=>?_); refine i2 ?_; refine jb 2 rfl ?_; refine ja 4 ?_; refine l6 ?_; refine jc (NE x D M hx hlo) ?_
 rw[hic]
 refine B4 ?_; refine Tr.cnd rfl ?_ ?_
 ·intro h2
  exact absurd h2 (by decide)
 ·intro h2
  refine D3 ?_; refine Tr.cnd rfl ?_ ?_
  ·intro h4
   simp at h4; omega
  ·intro h4
   refine i2 ?_; refine Tr.meet2 (σ:=Unit) [⟨1,true,_,_⟩,⟨4,true,_,_⟩,⟨8,true,_,_⟩] [⟨4,_,_⟩] (zk) (zk) (fun _=>[⟨10,true,[10],w6 10 0⟩,⟨11,true,[],b7 (eL j2) ((p7 x).map m8)⟩]) (fun _=>[⟨10,[],j3 [b7 (eL eI) (oX x).1,b7 (eL eI) (oX x).2]⟩]) (fun _=>True) ?_ ?_
   ·skip
    refine Tr.drawA q9 #[false,false,false,false,false,false,false,false,false,false,false] rfl ?_; refine g6.take 0 #[true,false,false,false,false,false,false,false,false,false,false] (by kernel_rfl) (by kernel_rfl) (by kernel_rfl) rfl rfl (BN rfl) rfl rfl ?_; refine g6.take 1 #[true,true,false,false,false,false,false,false,false,false,false] (by kernel_rfl) (by kernel_rfl) (by kernel_rfl) rfl rfl (RE rfl) rfl rfl ?_; refine g6.take 2 #[true,true,true,false,false,false,false,false,false,false,false] (by kernel_rfl) (by kernel_rfl) (by kernel_rfl) rfl rfl (RC rfl rfl) rfl rfl ?_
    refine g6.take 4 #[true,true,true,false,true,false,false,false,false,false,false] (by kernel_rfl) (by kernel_rfl) (by kernel_rfl) rfl rfl (BN rfl) rfl rfl ?_; refine g6.take 5 #[true,true,true,false,true,true,false,false,false,false,false] (by kernel_rfl) (by kernel_rfl) (by kernel_rfl) rfl rfl (RE rfl) rfl rfl ?_; refine g6.take 6 #[true,true,true,false,true,true,true,false,false,false,false] (by kernel_rfl) (by kernel_rfl) (by kernel_rfl) rfl rfl (RC rfl rfl) rfl rfl ?_; refine g6.all [3,7,8] (by kernel_rfl) (by simp) (fun i hi=>?_)
    simp only[List.mem_cons,List.not_mem_nil,or_false] at hi
    rcases hi with rfl | rfl | rfl
    ·refine ⟨_,rfl,?_⟩
     refine tO (S7 rfl uu rfl rfl) rfl rfl ?_; refine g6.k #[true,true,true,true,true,true,true,false,false,false,false] rfl (fun _ _ _ _=>trivial) ?_; refine g6.all [7,8] (by kernel_rfl) (by simp) (fun i hi=>?_)
     simp only[List.mem_cons,List.not_mem_nil,or_false] at hi
     rcases hi with rfl | rfl
     ·refine ⟨_,rfl,?_⟩
      refine tO (K1 rfl uu rfl) rfl rfl ?_; refine g6.k #[true,true,true,true,true,true,true,true,false,false,false] rfl (fun _ _ _ _=>trivial) ?_; refine g6.one 8 (by kernel_rfl) rfl ?_; refine ja 10 ?_; refine g6.k #[true,true,true,true,true,true,true,true,true,false,false] rfl (fun _ _ _ _=>trivial) ?_; refine g6.one 9 (by kernel_rfl) rfl ?_; refine d5.stB rfl rfl rfl rfl ?_; refine g6.k #[true,true,true,true,true,true,true,true,true,true,false] rfl (fun _ _ _ _=>trivial) ?_; refine g6.one 10 (by kernel_rfl) rfl ?_; refine mw rfl rfl rfl ?_
      refine g6.k #[true,true,true,true,true,true,true,true,true,true,true] rfl (fun _ _ _ _=>trivial) ?_; refine g6.done (by kernel_rfl) ?_
      exact g8.cut (()) zi (d7.mk (.k rfl rfl<|.r rfl (by rfl)<|zk) (zk) rfl)
     ·refine ⟨_,rfl,?_⟩
      refine ja 10 ?_; refine g6.k #[true,true,true,true,true,true,true,false,true,false,false] rfl (fun _ _ _ _=>trivial) ?_; refine g6.all [7,9] (by kernel_rfl) (by simp) (fun i hi=>?_)
      simp only[List.mem_cons,List.not_mem_nil,or_false] at hi
      rcases hi with rfl | rfl
      ·refine ⟨_,rfl,?_⟩
       refine tO (K1 rfl uu rfl) rfl rfl ?_; refine g6.k #[true,true,true,true,true,true,true,true,true,false,false] rfl (fun _ _ _ _=>trivial) ?_; refine g6.one 9 (by kernel_rfl) rfl ?_; refine d5.stB rfl rfl rfl rfl ?_; refine g6.k #[true,true,true,true,true,true,true,true,true,true,false] rfl (fun _ _ _ _=>trivial) ?_; refine g6.one 10 (by kernel_rfl) rfl ?_; refine mw rfl rfl rfl ?_; refine g6.k #[true,true,true,true,true,true,true,true,true,true,true] rfl (fun _ _ _ _=>trivial) ?_; refine g6.done (by kernel_rfl) ?_
       exact g8.cut (()) zi (d7.mk (.k rfl rfl<|.r rfl (by rfl)<|zk) (zk) rfl)
      ·refine ⟨_,rfl,?_⟩
       refine d5.stB rfl rfl rfl rfl ?_; refine g6.k #[true,true,true,true,true,true,true,false,true,true,false] rfl (fun _ _ _ _=>trivial) ?_; refine g6.one 7 (by kernel_rfl) rfl ?_; refine tO (K1 rfl uu rfl) rfl rfl ?_; refine g6.k #[true,true,true,true,true,true,true,true,true,true,false] rfl (fun _ _ _ _=>trivial) ?_; refine g6.one 10 (by kernel_rfl) rfl ?_; refine mw rfl rfl rfl ?_; refine g6.k #[true,true,true,true,true,true,true,true,true,true,true] rfl (fun _ _ _ _=>trivial) ?_; refine g6.done (by kernel_rfl) ?_
       exact g8.cut (()) zi (d7.mk (.k rfl rfl<|.r rfl (by rfl)<|zk) (zk) rfl)
    ·refine ⟨_,rfl,?_⟩
     refine tO (K1 rfl uu rfl) rfl rfl ?_; refine g6.k #[true,true,true,false,true,true,true,true,false,false,false] rfl (fun _ _ _ _=>trivial) ?_; refine g6.all [3,8] (by kernel_rfl) (by simp) (fun i hi=>?_)
     simp only[List.mem_cons,List.not_mem_nil,or_false] at hi
     rcases hi with rfl | rfl
     ·refine ⟨_,rfl,?_⟩
      refine tO (S7 rfl uu rfl rfl) rfl rfl ?_; refine g6.k #[true,true,true,true,true,true,true,true,false,false,false] rfl (fun _ _ _ _=>trivial) ?_; refine g6.one 8 (by kernel_rfl) rfl ?_; refine ja 10 ?_; refine g6.k #[true,true,true,true,true,true,true,true,true,false,false] rfl (fun _ _ _ _=>trivial) ?_; refine g6.one 9 (by kernel_rfl) rfl ?_; refine d5.stB rfl rfl rfl rfl ?_; refine g6.k #[true,true,true,true,true,true,true,true,true,true,false] rfl (fun _ _ _ _=>trivial) ?_; refine g6.one 10 (by kernel_rfl) rfl ?_; refine mw rfl rfl rfl ?_
      refine g6.k #[true,true,true,true,true,true,true,true,true,true,true] rfl (fun _ _ _ _=>trivial) ?_; refine g6.done (by kernel_rfl) ?_
      exact g8.cut (()) zi (d7.mk (.k rfl rfl<|.r rfl (by rfl)<|zk) (zk) rfl)
     ·refine ⟨_,rfl,?_⟩
      refine ja 10 ?_; refine g6.k #[true,true,true,false,true,true,true,true,true,false,false] rfl (fun _ _ _ _=>trivial) ?_; refine g6.one 3 (by kernel_rfl) rfl ?_; refine tO (S7 rfl uu rfl rfl) rfl rfl ?_; refine g6.k #[true,true,true,true,true,true,true,true,true,false,false] rfl (fun _ _ _ _=>trivial) ?_; refine g6.one 9 (by kernel_rfl) rfl ?_; refine d5.stB rfl rfl rfl rfl ?_; refine g6.k #[true,true,true,true,true,true,true,true,true,true,false] rfl (fun _ _ _ _=>trivial) ?_; refine g6.one 10 (by kernel_rfl) rfl ?_; refine mw rfl rfl rfl ?_
      refine g6.k #[true,true,true,true,true,true,true,true,true,true,true] rfl (fun _ _ _ _=>trivial) ?_; refine g6.done (by kernel_rfl) ?_
      exact g8.cut (()) zi (d7.mk (.k rfl rfl<|.r rfl (by rfl)<|zk) (zk) rfl)
    ·refine ⟨_,rfl,?_⟩
     refine ja 10 ?_; refine g6.k #[true,true,true,false,true,true,true,false,true,false,false] rfl (fun _ _ _ _=>trivial) ?_; refine g6.all [3,7] (by kernel_rfl) (by simp) (fun i hi=>?_)
     simp only[List.mem_cons,List.not_mem_nil,or_false] at hi
     rcases hi with rfl | rfl
     ·refine ⟨_,rfl,?_⟩
      refine tO (S7 rfl uu rfl rfl) rfl rfl ?_; refine g6.k #[true,true,true,true,true,true,true,false,true,false,false] rfl (fun _ _ _ _=>trivial) ?_; refine g6.all [7,9] (by kernel_rfl) (by simp) (fun i hi=>?_)
      simp only[List.mem_cons,List.not_mem_nil,or_false] at hi
      rcases hi with rfl | rfl
      ·refine ⟨_,rfl,?_⟩
       refine tO (K1 rfl uu rfl) rfl rfl ?_; refine g6.k #[true,true,true,true,true,true,true,true,true,false,false] rfl (fun _ _ _ _=>trivial) ?_; refine g6.one 9 (by kernel_rfl) rfl ?_; refine d5.stB rfl rfl rfl rfl ?_; refine g6.k #[true,true,true,true,true,true,true,true,true,true,false] rfl (fun _ _ _ _=>trivial) ?_; refine g6.one 10 (by kernel_rfl) rfl ?_; refine mw rfl rfl rfl ?_; refine g6.k #[true,true,true,true,true,true,true,true,true,true,true] rfl (fun _ _ _ _=>trivial) ?_; refine g6.done (by kernel_rfl) ?_
       exact g8.cut (()) zi (d7.mk (.k rfl rfl<|.r rfl (by rfl)<|zk) (zk) rfl)
      ·refine ⟨_,rfl,?_⟩
       refine d5.stB rfl rfl rfl rfl ?_; refine g6.k #[true,true,true,true,true,true,true,false,true,true,false] rfl (fun _ _ _ _=>trivial) ?_; refine g6.one 7 (by kernel_rfl) rfl ?_; refine tO (K1 rfl uu rfl) rfl rfl ?_; refine g6.k #[true,true,true,true,true,true,true,true,true,true,false] rfl (fun _ _ _ _=>trivial) ?_; refine g6.one 10 (by kernel_rfl) rfl ?_; refine mw rfl rfl rfl ?_; refine g6.k #[true,true,true,true,true,true,true,true,true,true,true] rfl (fun _ _ _ _=>trivial) ?_; refine g6.done (by kernel_rfl) ?_
       exact g8.cut (()) zi (d7.mk (.k rfl rfl<|.r rfl (by rfl)<|zk) (zk) rfl)
     ·refine ⟨_,rfl,?_⟩
      refine tO (K1 rfl uu rfl) rfl rfl ?_; refine g6.k #[true,true,true,false,true,true,true,true,true,false,false] rfl (fun _ _ _ _=>trivial) ?_; refine g6.one 3 (by kernel_rfl) rfl ?_; refine tO (S7 rfl uu rfl rfl) rfl rfl ?_; refine g6.k #[true,true,true,true,true,true,true,true,true,false,false] rfl (fun _ _ _ _=>trivial) ?_; refine g6.one 9 (by kernel_rfl) rfl ?_; refine d5.stB rfl rfl rfl rfl ?_; refine g6.k #[true,true,true,true,true,true,true,true,true,true,false] rfl (fun _ _ _ _=>trivial) ?_; refine g6.one 10 (by kernel_rfl) rfl ?_
      refine mw rfl rfl rfl ?_; refine g6.k #[true,true,true,true,true,true,true,true,true,true,true] rfl (fun _ _ _ _=>trivial) ?_; refine g6.done (by kernel_rfl) ?_
      exact g8.cut (()) zi (d7.mk (.k rfl rfl<|.r rfl (by rfl)<|zk) (zk) rfl)
   ·intro _ hM
    refine jn ?_; refine z5 ?_; refine Tr.grow (s:=12) rfl rfl 112 rfl 3 eI rfl ?_
    refine Tr.for1 (σ:=Nat) [⟨4,true,_,_⟩,⟨8,true,_,_⟩,⟨10,true,_,_⟩,⟨42,true,_,_⟩] [] (fun k=>[⟨11,true,[],b7 (eL j2) ((y5 x k).2.map m8)⟩,⟨12,true,[112],q8 112 k⟩,⟨43,true,[],kI (k:Int)⟩]) (fun k=>[⟨10,[],j3 [b7 (eL eI) (y5 x k).1.1,b7 (eL eI) (y5 x k).1.2]⟩,⟨4,[],j3 [j8 (.slice none 0 0),kI 0,kI 0,kI 0,j8 (.slice none 0 0),j8 (.slice none 0 0),j8 (.slice none 0 0)]⟩,⟨112,[],m9 true 3 eI (n6 k (G1 x)) k⟩]) (fun k=>k<=n) (fun k=>n=k) (fun k=>n-k) (0) zi (d7.mk (.r rfl (by rfl)<|.o rfl zi rfl<|.i rfl zi<|zk) (.e (by rfl) rfl<|.k rfl<|.a (by rfl) zi<|.nil) rfl) ?_ ?_
    ·intro k hR0
     refine jn ?_
     obtain ⟨hst,hik⟩:=LC (sg:=r9 x) (hx.st hlo) hlo hir k
     refine n7 ?_; refine jq ?_ ?_
     ·intro h9
      refine o9 ?_; refine jc (aF x D M k (y5 x k).1 (y5 x k).2 hx hlo hst zo) ?_
      rw[show K0 (r9 x) (y5 x k).1 (y5 x k).2=L7 x k from rfl,if_neg (hnt k zo),if_neg (hnt k zo),show U4 (r9 x) (y5 x k).1 (y5 x k).2=G1 x k from rfl]
      refine B4 ?_; refine Tr.cnd rfl ?_ ?_
      ·intro h11
       exact absurd h11 (by decide)
      ·intro h11
       refine n7 ?_; refine d5.new (D5 eI 58 (fun hp=>.cons rfl<|.nil) rfl rfl rfl rfl) rfl rfl rfl rfl ?_; refine i9 ?_; refine jl ?_; refine l6 ?_; refine jc (aI x D M k (y5 x k).1 (y5 x k).2 (G1 x k) hx hlo hst zo) ?_; refine z5 ?_
       exact g8.lp (k+1) zi zo (d7.mk (.r rfl (by rfl)<|.o rfl zi rfl<|.i rfl zi<|zk) (.e (by rfl) rfl<|.k rfl<|.a H4.symm zi<|.nil) rfl)
     ·intro h9
      replace h9:=Int.not_lt.1 h9
      refine i4 ?_
      exact g8.cut (k) zo (d7.mk (.r rfl zi<|.o rfl zi rfl<|.i rfl zi<|zk) (zk) rfl)
    ·rintro _ rfl
     refine je ?_
     obtain ⟨hsn,hin⟩:=LC (sg:=r9 x) (hx.st hlo) hlo hir n
     have hsn1:(y5 x n).1.1.length=x.2.1.length:=hsn.nn
     have hsn2:(y5 x n).1.2.length=(y5 x n).1.1.length:=hsn.rows.len
     refine i4 ?_; refine tO (G7 rfl uu) rfl rfl ?_; refine j9 ?_; refine d5.frz 112 [12,74] ⟨rfl,rfl,trivial⟩ (by simp only[t6]; omega) rfl ?_; refine jl ?_; refine jc hfg ?_; refine i4 ?_; refine ja 15 ?_; refine v6 ?_; refine jc (pM (I9 x.1) (oX x) (y5 x n).1 (p7 x) ((y5 x n).2.map m8) (by show x.1.1.length<=1000; have:=hpo.1; omega) zo zo) ?_; refine o9 ?_
     exact d9.resC (fn:=Tryz.f47) (ts:=[5,6,7]) rfl rfl rfl (u8 rfl (by rfl)) (.r rfl zi<|.r rfl zi<|.i rfl zi<|.nil)

end Go.Fl

/- Contracts: errors of Path; Step (the program). -/
namespace Go.Fl
open Go Go.Proofs
open d5 renaming op->tO
open i6 renaming op->rO
set_option maxRecDepth 100000

noncomputable def BK (x:n9):Nat->Bool
 | 0=>false
 | i+1=>BK x i||decide (L7 x i=0)
theorem iV {x:n9}:∀{n:Nat},BK x n=true->∃i,i<n/\L7 x i=0
 | n+1,h=>by
  rw[BK,Bool.or_eq_true,decide_eq_true_eq] at h
  rcases h with h | h
  ·obtain ⟨i,hi,e⟩:=iV h; exact ⟨i,by omega,e⟩
  ·exact ⟨n,by omega,h⟩
theorem iW {x:n9}:∀{n:Nat},BK x n=false->∀i,i<n->L7 x i≠0
 | n+1,h,i,hi=>by
  rw[BK,Bool.or_eq_false_iff,decide_eq_false_iff_not] at h
  by_cases e:i=n
  ·rw[e]; exact h.2
  ·exact iW h.1 i zo
theorem oJ (x:n9) (n:Int) (hsm:V8 x) (hne:H7 x≠0):Ct Tryz.prog 47 [b7 eX x,kI n] (y4 [b7 eX zX,b7 (eL eI) [],b7 (eL (eL eI)) [],kI (H7 x)]):=by
 refine Ct.mk Tryz.func47 rfl Tryz.ntmps47 rfl (fun w J=>?_); refine i2 ?_; refine jb 2 rfl ?_; refine ja 4 ?_; refine l6 ?_; refine jc (oR x hsm hne) ?_; refine B4 ?_; refine Tr.cnd rfl ?_ ?_
 ·intro h2
  refine i2 ?_; refine tO (A4 (fun hp=>.nil)) rfl rfl ?_; refine o9 ?_
  exact d9.resC (fn:=Tryz.f47) (ts:=[5,6,7]) rfl rfl rfl (u8 rfl (by rfl)) (.n rfl zi<|.n rfl zi<|.i rfl zi<|.nil)
 ·intro h2
  exact absurd (of_decide_eq_false h2) (fun e=>e hne)

theorem oL (x:n9) (D:Int) (M:Nat) (n:Int) (hx:F1 x) (hlo:v9 x.1.1 D M x.2.1.length (p7 x)) (hne:K7 (oX x)≠0):Ct Tryz.prog 47 [b7 eX x,kI n] (y4 [b7 eX zX,b7 (eL eI) [],b7 (eL (eL eI)) [],kI (K7 (oX x))]):=by
 have h0:=hx.fld
 have hpo:=L0 h0
 have hs:=(Z4 h0).1.2.1
 have v:=hx.rows
 have hp1:r7 x.2.1 x.2.1.length:=v.p1
 have hp2:r7 x.2.2.1 x.2.1.length:=v.p2
 have hle:x.2.1.length<=8:=v.le
 have htwo:2<=x.2.1.length:=v.two
 have hbl:x.2.2.1.length=x.2.1.length:=v.len
 have hxl:=hx.len
 have hll:=hlo.len
 refine Ct.mk Tryz.func47 rfl Tryz.ntmps47 rfl (fun w J=>?_); refine i2 ?_; refine jb 2 rfl ?_; refine ja 4 ?_; refine l6 ?_; refine jc (NE x D M hx hlo) ?_; refine B4 ?_; refine Tr.cnd rfl ?_ ?_
 ·intro h2
  refine i2 ?_; refine tO (A4 (fun hp=>.nil)) rfl rfl ?_; refine o9 ?_
  exact d9.resC (fn:=Tryz.f47) (ts:=[5,6,7]) rfl rfl rfl (u8 rfl (by rfl)) (.n rfl zi<|.n rfl zi<|.i rfl zi<|.nil)
 ·intro h2
  exact absurd (of_decide_eq_false h2) (fun e=>e hne)

theorem oM (x:n9) (D:Int) (M:Nat) (n:Int) (hx:F1 x) (hlo:v9 x.1.1 D M x.2.1.length (p7 x)) (hir:B3 (oX x)=true) (hnr:-9223372036854775808<=n/\n<=9223372036854775807) (hrg:n<0\/60<n):Ct Tryz.prog 47 [b7 eX x,kI n] (y4 [b7 eX zX,b7 (eL eI) [],b7 (eL (eL eI)) [],kI 2]):=by
 have h0:=hx.fld
 have hpo:=L0 h0
 have hs:=(Z4 h0).1.2.1
 have v:=hx.rows
 have hp1:r7 x.2.1 x.2.1.length:=v.p1
 have hp2:r7 x.2.2.1 x.2.1.length:=v.p2
 have hle:x.2.1.length<=8:=v.le
 have htwo:2<=x.2.1.length:=v.two
 have hbl:x.2.2.1.length=x.2.1.length:=v.len
 have hxl:=hx.len
 have hll:=hlo.len
 have hic:=OH hx.rows hir
 refine Ct.mk Tryz.func47 rfl Tryz.ntmps47 rfl (fun w J=>?_); refine i2 ?_; refine jb 2 rfl ?_; refine ja 4 ?_; refine l6 ?_; refine jc (NE x D M hx hlo) ?_
 rw[hic]
 refine B4 ?_; refine Tr.cnd rfl ?_ ?_
 ·intro h2
  exact absurd h2 (by decide)
 ·intro h2
  refine D3 ?_; refine Tr.cnd rfl ?_ ?_
  ·intro h4
   refine i2 ?_; refine tO (A4 (fun hp=>.nil)) rfl rfl ?_; refine l6 ?_
   exact d9.resC (fn:=Tryz.f47) (ts:=[5,6,7]) rfl rfl rfl (u8 rfl (by rfl)) (.n rfl zi<|.n rfl zi<|.i rfl zi<|.nil)
  ·intro h4
   simp at h4; omega

set_option maxHeartbeats 2000000 in
theorem oN (x:n9) (D:Int) (M:Nat) (n i0:Nat) (hx:F1 x) (hlo:v9 x.1.1 D M x.2.1.length (p7 x)) (hir:B3 (oX x)=true) (hn:n<=16) (hi0:i0<n) (hz0:L7 x i0=0):Ct Tryz.prog 47 [b7 eX x,kI (n:Int)] (y4 [b7 eX zX,b7 (eL eI) [],b7 (eL (eL eI)) [],kI 14]):=by
 have h0:=hx.fld
 have hpo:=L0 h0
 have hs:=(Z4 h0).1.2.1
 have v:=hx.rows
 have hp1:r7 x.2.1 x.2.1.length:=v.p1
 have hp2:r7 x.2.2.1 x.2.1.length:=v.p2
 have hle:x.2.1.length<=8:=v.le
 have htwo:2<=x.2.1.length:=v.two
 have hbl:x.2.2.1.length=x.2.1.length:=v.len
 have hxl:=hx.len
 have hll:=hlo.len
 have hic:=OH hx.rows hir
 refine Ct.mk Tryz.func47 rfl Tryz.ntmps47 rfl (fun w J=>?_); refine i2 ?_; refine jb 2 rfl ?_; refine ja 4 ?_; refine l6 ?_; refine jc (NE x D M hx hlo) ?_
 rw[hic]
 refine B4 ?_; refine Tr.cnd rfl ?_ ?_
 ·intro h2
  exact absurd h2 (by decide)
 ·intro h2
  refine D3 ?_; refine Tr.cnd rfl ?_ ?_
  ·intro h4
   simp at h4; omega
  ·intro h4
   refine i2 ?_; refine Tr.meet2 (σ:=Unit) [⟨1,true,_,_⟩,⟨4,true,_,_⟩,⟨8,true,_,_⟩] [⟨4,_,_⟩] (zk) (zk) (fun _=>[⟨10,true,[10],w6 10 0⟩,⟨11,true,[],b7 (eL j2) ((p7 x).map m8)⟩]) (fun _=>[⟨10,[],j3 [b7 (eL eI) (oX x).1,b7 (eL eI) (oX x).2]⟩]) (fun _=>True) ?_ ?_
   ·skip
    refine Tr.drawA q9 #[false,false,false,false,false,false,false,false,false,false,false] rfl ?_; refine g6.take 0 #[true,false,false,false,false,false,false,false,false,false,false] (by kernel_rfl) (by kernel_rfl) (by kernel_rfl) rfl rfl (BN rfl) rfl rfl ?_; refine g6.take 1 #[true,true,false,false,false,false,false,false,false,false,false] (by kernel_rfl) (by kernel_rfl) (by kernel_rfl) rfl rfl (RE rfl) rfl rfl ?_; refine g6.take 2 #[true,true,true,false,false,false,false,false,false,false,false] (by kernel_rfl) (by kernel_rfl) (by kernel_rfl) rfl rfl (RC rfl rfl) rfl rfl ?_
    refine g6.take 4 #[true,true,true,false,true,false,false,false,false,false,false] (by kernel_rfl) (by kernel_rfl) (by kernel_rfl) rfl rfl (BN rfl) rfl rfl ?_; refine g6.take 5 #[true,true,true,false,true,true,false,false,false,false,false] (by kernel_rfl) (by kernel_rfl) (by kernel_rfl) rfl rfl (RE rfl) rfl rfl ?_; refine g6.take 6 #[true,true,true,false,true,true,true,false,false,false,false] (by kernel_rfl) (by kernel_rfl) (by kernel_rfl) rfl rfl (RC rfl rfl) rfl rfl ?_; refine g6.all [3,7,8] (by kernel_rfl) (by simp) (fun i hi=>?_)
    simp only[List.mem_cons,List.not_mem_nil,or_false] at hi
    rcases hi with rfl | rfl | rfl
    ·refine ⟨_,rfl,?_⟩
     refine tO (S7 rfl uu rfl rfl) rfl rfl ?_; refine g6.k #[true,true,true,true,true,true,true,false,false,false,false] rfl (fun _ _ _ _=>trivial) ?_; refine g6.all [7,8] (by kernel_rfl) (by simp) (fun i hi=>?_)
     simp only[List.mem_cons,List.not_mem_nil,or_false] at hi
     rcases hi with rfl | rfl
     ·refine ⟨_,rfl,?_⟩
      refine tO (K1 rfl uu rfl) rfl rfl ?_; refine g6.k #[true,true,true,true,true,true,true,true,false,false,false] rfl (fun _ _ _ _=>trivial) ?_; refine g6.one 8 (by kernel_rfl) rfl ?_; refine ja 10 ?_; refine g6.k #[true,true,true,true,true,true,true,true,true,false,false] rfl (fun _ _ _ _=>trivial) ?_; refine g6.one 9 (by kernel_rfl) rfl ?_; refine d5.stB rfl rfl rfl rfl ?_; refine g6.k #[true,true,true,true,true,true,true,true,true,true,false] rfl (fun _ _ _ _=>trivial) ?_; refine g6.one 10 (by kernel_rfl) rfl ?_; refine mw rfl rfl rfl ?_
      refine g6.k #[true,true,true,true,true,true,true,true,true,true,true] rfl (fun _ _ _ _=>trivial) ?_; refine g6.done (by kernel_rfl) ?_
      exact g8.cut (()) zi (d7.mk (.k rfl rfl<|.r rfl (by rfl)<|zk) (zk) rfl)
     ·refine ⟨_,rfl,?_⟩
      refine ja 10 ?_; refine g6.k #[true,true,true,true,true,true,true,false,true,false,false] rfl (fun _ _ _ _=>trivial) ?_; refine g6.all [7,9] (by kernel_rfl) (by simp) (fun i hi=>?_)
      simp only[List.mem_cons,List.not_mem_nil,or_false] at hi
      rcases hi with rfl | rfl
      ·refine ⟨_,rfl,?_⟩
       refine tO (K1 rfl uu rfl) rfl rfl ?_; refine g6.k #[true,true,true,true,true,true,true,true,true,false,false] rfl (fun _ _ _ _=>trivial) ?_; refine g6.one 9 (by kernel_rfl) rfl ?_; refine d5.stB rfl rfl rfl rfl ?_; refine g6.k #[true,true,true,true,true,true,true,true,true,true,false] rfl (fun _ _ _ _=>trivial) ?_; refine g6.one 10 (by kernel_rfl) rfl ?_; refine mw rfl rfl rfl ?_; refine g6.k #[true,true,true,true,true,true,true,true,true,true,true] rfl (fun _ _ _ _=>trivial) ?_; refine g6.done (by kernel_rfl) ?_
       exact g8.cut (()) zi (d7.mk (.k rfl rfl<|.r rfl (by rfl)<|zk) (zk) rfl)
      ·refine ⟨_,rfl,?_⟩
       refine d5.stB rfl rfl rfl rfl ?_; refine g6.k #[true,true,true,true,true,true,true,false,true,true,false] rfl (fun _ _ _ _=>trivial) ?_; refine g6.one 7 (by kernel_rfl) rfl ?_; refine tO (K1 rfl uu rfl) rfl rfl ?_; refine g6.k #[true,true,true,true,true,true,true,true,true,true,false] rfl (fun _ _ _ _=>trivial) ?_; refine g6.one 10 (by kernel_rfl) rfl ?_; refine mw rfl rfl rfl ?_; refine g6.k #[true,true,true,true,true,true,true,true,true,true,true] rfl (fun _ _ _ _=>trivial) ?_; refine g6.done (by kernel_rfl) ?_
       exact g8.cut (()) zi (d7.mk (.k rfl rfl<|.r rfl (by rfl)<|zk) (zk) rfl)
    ·refine ⟨_,rfl,?_⟩
     refine tO (K1 rfl uu rfl) rfl rfl ?_; refine g6.k #[true,true,true,false,true,true,true,true,false,false,false] rfl (fun _ _ _ _=>trivial) ?_; refine g6.all [3,8] (by kernel_rfl) (by simp) (fun i hi=>?_)
     simp only[List.mem_cons,List.not_mem_nil,or_false] at hi
     rcases hi with rfl | rfl
     ·refine ⟨_,rfl,?_⟩
      refine tO (S7 rfl uu rfl rfl) rfl rfl ?_; refine g6.k #[true,true,true,true,true,true,true,true,false,false,false] rfl (fun _ _ _ _=>trivial) ?_; refine g6.one 8 (by kernel_rfl) rfl ?_; refine ja 10 ?_; refine g6.k #[true,true,true,true,true,true,true,true,true,false,false] rfl (fun _ _ _ _=>trivial) ?_; refine g6.one 9 (by kernel_rfl) rfl ?_; refine d5.stB rfl rfl rfl rfl ?_; refine g6.k #[true,true,true,true,true,true,true,true,true,true,false] rfl (fun _ _ _ _=>trivial) ?_; refine g6.one 10 (by kernel_rfl) rfl ?_; refine mw rfl rfl rfl ?_
      refine g6.k #[true,true,true,true,true,true,true,true,true,true,true] rfl (fun _ _ _ _=>trivial) ?_; refine g6.done (by kernel_rfl) ?_
      exact g8.cut (()) zi (d7.mk (.k rfl rfl<|.r rfl (by rfl)<|zk) (zk) rfl)
     ·refine ⟨_,rfl,?_⟩
      refine ja 10 ?_; refine g6.k #[true,true,true,false,true,true,true,true,true,false,false] rfl (fun _ _ _ _=>trivial) ?_; refine g6.one 3 (by kernel_rfl) rfl ?_; refine tO (S7 rfl uu rfl rfl) rfl rfl ?_; refine g6.k #[true,true,true,true,true,true,true,true,true,false,false] rfl (fun _ _ _ _=>trivial) ?_; refine g6.one 9 (by kernel_rfl) rfl ?_; refine d5.stB rfl rfl rfl rfl ?_; refine g6.k #[true,true,true,true,true,true,true,true,true,true,false] rfl (fun _ _ _ _=>trivial) ?_; refine g6.one 10 (by kernel_rfl) rfl ?_; refine mw rfl rfl rfl ?_
      refine g6.k #[true,true,true,true,true,true,true,true,true,true,true] rfl (fun _ _ _ _=>trivial) ?_; refine g6.done (by kernel_rfl) ?_
      exact g8.cut (()) zi (d7.mk (.k rfl rfl<|.r rfl (by rfl)<|zk) (zk) rfl)
    ·refine ⟨_,rfl,?_⟩
     refine ja 10 ?_; refine g6.k #[true,true,true,false,true,true,true,false,true,false,false] rfl (fun _ _ _ _=>trivial) ?_; refine g6.all [3,7] (by kernel_rfl) (by simp) (fun i hi=>?_)
     simp only[List.mem_cons,List.not_mem_nil,or_false] at hi
     rcases hi with rfl | rfl
     ·refine ⟨_,rfl,?_⟩
      refine tO (S7 rfl uu rfl rfl) rfl rfl ?_; refine g6.k #[true,true,true,true,true,true,true,false,true,false,false] rfl (fun _ _ _ _=>trivial) ?_; refine g6.all [7,9] (by kernel_rfl) (by simp) (fun i hi=>?_)
      simp only[List.mem_cons,List.not_mem_nil,or_false] at hi
      rcases hi with rfl | rfl
      ·refine ⟨_,rfl,?_⟩
       refine tO (K1 rfl uu rfl) rfl rfl ?_; refine g6.k #[true,true,true,true,true,true,true,true,true,false,false] rfl (fun _ _ _ _=>trivial) ?_; refine g6.one 9 (by kernel_rfl) rfl ?_; refine d5.stB rfl rfl rfl rfl ?_; refine g6.k #[true,true,true,true,true,true,true,true,true,true,false] rfl (fun _ _ _ _=>trivial) ?_; refine g6.one 10 (by kernel_rfl) rfl ?_; refine mw rfl rfl rfl ?_; refine g6.k #[true,true,true,true,true,true,true,true,true,true,true] rfl (fun _ _ _ _=>trivial) ?_; refine g6.done (by kernel_rfl) ?_
       exact g8.cut (()) zi (d7.mk (.k rfl rfl<|.r rfl (by rfl)<|zk) (zk) rfl)
      ·refine ⟨_,rfl,?_⟩
       refine d5.stB rfl rfl rfl rfl ?_; refine g6.k #[true,true,true,true,true,true,true,false,true,true,false] rfl (fun _ _ _ _=>trivial) ?_; refine g6.one 7 (by kernel_rfl) rfl ?_; refine tO (K1 rfl uu rfl) rfl rfl ?_; refine g6.k #[true,true,true,true,true,true,true,true,true,true,false] rfl (fun _ _ _ _=>trivial) ?_; refine g6.one 10 (by kernel_rfl) rfl ?_; refine mw rfl rfl rfl ?_; refine g6.k #[true,true,true,true,true,true,true,true,true,true,true] rfl (fun _ _ _ _=>trivial) ?_; refine g6.done (by kernel_rfl) ?_
       exact g8.cut (()) zi (d7.mk (.k rfl rfl<|.r rfl (by rfl)<|zk) (zk) rfl)
     ·refine ⟨_,rfl,?_⟩
      refine tO (K1 rfl uu rfl) rfl rfl ?_; refine g6.k #[true,true,true,false,true,true,true,true,true,false,false] rfl (fun _ _ _ _=>trivial) ?_; refine g6.one 3 (by kernel_rfl) rfl ?_; refine tO (S7 rfl uu rfl rfl) rfl rfl ?_; refine g6.k #[true,true,true,true,true,true,true,true,true,false,false] rfl (fun _ _ _ _=>trivial) ?_; refine g6.one 9 (by kernel_rfl) rfl ?_; refine d5.stB rfl rfl rfl rfl ?_; refine g6.k #[true,true,true,true,true,true,true,true,true,true,false] rfl (fun _ _ _ _=>trivial) ?_; refine g6.one 10 (by kernel_rfl) rfl ?_
      refine mw rfl rfl rfl ?_; refine g6.k #[true,true,true,true,true,true,true,true,true,true,true] rfl (fun _ _ _ _=>trivial) ?_; refine g6.done (by kernel_rfl) ?_
      exact g8.cut (()) zi (d7.mk (.k rfl rfl<|.r rfl (by rfl)<|zk) (zk) rfl)
   ·intro _ hM
    refine jn ?_; refine z5 ?_; refine Tr.grow (s:=12) rfl rfl 112 rfl 3 eI rfl ?_
    refine Tr.for1 (σ:=Nat) [⟨4,true,_,_⟩,⟨8,true,_,_⟩,⟨10,true,_,_⟩,⟨42,true,_,_⟩] [] (fun k=>[⟨11,true,[],b7 (eL j2) ((y5 x k).2.map m8)⟩,⟨12,true,[112],q8 112 k⟩,⟨43,true,[],kI (k:Int)⟩]) (fun k=>[⟨10,[],j3 [b7 (eL eI) (y5 x k).1.1,b7 (eL eI) (y5 x k).1.2]⟩,⟨4,[],j3 [j8 (.slice none 0 0),kI 0,kI 0,kI 0,j8 (.slice none 0 0),j8 (.slice none 0 0),j8 (.slice none 0 0)]⟩,⟨112,[],m9 true 3 eI (n6 k (G1 x)) k⟩]) (fun k=>k<=i0) (fun k=>False) (fun k=>i0+1-k) (0) zi (d7.mk (.r rfl (by rfl)<|.o rfl zi rfl<|.i rfl zi<|zk) (.e (by rfl) rfl<|.k rfl<|.a (by rfl) zi<|.nil) rfl) ?_ ?_
    ·intro k hR0
     refine jn ?_
     obtain ⟨hst,hik⟩:=LC (sg:=r9 x) (hx.st hlo) hlo hir k
     refine n7 ?_; refine jq ?_ ?_
     ·intro h9
      refine o9 ?_; refine jc (aF x D M k (y5 x k).1 (y5 x k).2 hx hlo hst zo) ?_
      rw[show K0 (r9 x) (y5 x k).1 (y5 x k).2=L7 x k from rfl,show U4 (r9 x) (y5 x k).1 (y5 x k).2=G1 x k from rfl]
      refine B4 ?_; refine Tr.cnd rfl ?_ ?_
      ·intro h11
       have hz:L7 x k=0:=Classical.byContradiction fun a=>by rw[if_neg a] at h11; exact absurd h11 (by decide)
       refine i2 ?_; refine tO (A4 (fun hp=>.nil)) rfl rfl ?_; refine O3 ?_
       exact d9.resC (fn:=Tryz.f47) (ts:=[5,6,7]) rfl rfl rfl (u8 rfl (by rfl)) (.n rfl zi<|.n rfl zi<|.i rfl (by rw[if_pos hz])<|.nil)
      ·intro h11
       have hz:¬L7 x k=0:=fun a=>by rw[if_pos a] at h11; exact absurd h11 (by decide)
       have hki:k≠i0:=fun a=>hz (by rw[a]; exact hz0)
       refine Tr.rwI (s:=13) rfl (if_neg hz) ?_; refine n7 ?_; refine d5.new (D5 eI 58 (fun hp=>.cons rfl<|.nil) rfl rfl rfl rfl) rfl rfl rfl rfl ?_; refine i9 ?_; refine jl ?_; refine l6 ?_; refine jc (aI x D M k (y5 x k).1 (y5 x k).2 (G1 x k) hx hlo hst zo) ?_; refine z5 ?_
       exact g8.lp (k+1) zo zo (d7.mk (.r rfl (by rfl)<|.o rfl zi rfl<|.i rfl zi<|zk) (.e (by rfl) rfl<|.k rfl<|.a H4.symm zi<|.nil) rfl)
     ·intro h9
      replace h9:=Int.not_lt.1 h9
      refine i4 ?_
      exact g8.cut (k) zo (d7.mk (.r rfl zi<|.o rfl zi rfl<|.i rfl zi<|zk) (zk) rfl)
    ·intro k hE0
     exact hE0.elim

theorem oZ (x y:n9) (kk:List Int) (m:ZM) (e:Int) (hpa:Ct Tryz.prog 47 [b7 eX x,kI 1] (y4 [b7 eX y,b7 (eL eI) kk,b7 (eL (eL eI)) m,kI e])) (hk:e=0->0<kk.length):Ct Tryz.prog 46 [b7 eX x] (y4 [b7 eX (if e=0 then y else zX),kI (if e=0 then b6 kk 0 else 0),kI e]):=by
 refine Ct.mk Tryz.func46 rfl Tryz.ntmps46 rfl (fun w J=>?_); refine i2 ?_; refine jb 1 rfl ?_; refine ja 2 ?_; refine l5 ?_; refine jc hpa ?_; refine o0 ?_; refine ja 5 ?_; refine D3 ?_; refine jq ?_ ?_
 ·intro h2
  have he:¬e=0:=h2
  refine i2 ?_; refine tO (A4 (fun hp=>.nil)) rfl rfl ?_; refine l6 ?_
  exact d9.resC (fn:=Tryz.f46) (ts:=[3,4]) rfl rfl rfl (u8 rfl (by rw[if_neg he])) (.i rfl (by rw[if_neg he])<|.i rfl zi<|.nil)
 ·intro h2
  replace h2:=Classical.not_not.1 h2
  have he:e=0:=by omega
  have hkl:=hk he
  refine j9 ?_; refine Tr.drawS 4 2 q9 (by kernel_rfl) ?_; refine o7.opA (O6 rfl uu) (by kernel_rfl) rfl rfl ?_; refine o7.op (H3 rfl uu) rfl rfl ?_; refine o7.op (I0 (i:=0) rfl uu rfl uu rfl (fun _=>zo)) rfl rfl ?_; refine o7.op (K1 rfl uu rfl) rfl rfl ?_; refine o7.z (EU rfl rfl rfl) rfl rfl rfl ?_; refine o0 ?_
  exact d9.resC (fn:=Tryz.f46) (ts:=[3,4]) rfl rfl rfl (u8 rfl (by rw[if_pos he])) (.i rfl (by rw[if_pos he])<|.i rfl zi<|.nil)

end Go.Fl

/- Contracts: Path and Step put together; the step of the example. -/
namespace Go.Fl
open Go Go.Proofs
open d5 renaming op->tO
open i6 renaming op->rO
set_option maxRecDepth 100000

noncomputable def O8 (x:n9):Int:=if H7 x≠0 then H7 x else K7 (oX x)
noncomputable def C7 (x:n9) (n:Int):Int:=if O8 x≠0 then O8 x else if 0<=n/\n<=60 then (if BK x n.toNat=true then 14 else 0) else 2
noncomputable def DG (x:n9) (n:Int):n9:=if C7 x n≠0 then zX else r6 x n.toNat
noncomputable def CI (x:n9) (n:Int):List Int:=if C7 x n≠0 then [] else n6 n.toNat (G1 x)
noncomputable def GA (x:n9) (n:Int):ZM:=if C7 x n≠0 then [] else E6 (oX x) (n6 n.toNat (G1 x)) n.toNat
theorem sB {r:p6} (h:H6 r=0):K7 r=0/\B3 r=true\/K7 r=3/\B3 r=false:=by
 unfold K7
 rw[if_neg (fun a=>a h)]
 cases hi:B3 r with
 | true=>exact .inl ⟨rfl,rfl⟩
 | false=>exact .inr ⟨rfl,rfl⟩
theorem F1.d0 {x:n9} (hx:F1 x) (hsm:V8 x):∃(D:Int) (M:Nat),v9 x.1.1 D M x.2.1.length (p7 x):=by
 obtain ⟨D,M,h,_⟩:=hx.dm hsm (ps:=[]) (fun p h=>by cases h) (Nat.zero_le _)
 exact ⟨D,M,h⟩
theorem oI (x:n9) (n:Int) (hsm:V8 x) (hnr:-9223372036854775808<=n/\n<=9223372036854775807) (hn:n<=16\/60<n):Ct Tryz.prog 47 [b7 eX x,kI n] (y4 [b7 eX (DG x n),b7 (eL eI) (CI x n),b7 (eL (eL eI)) (GA x n),kI (C7 x n)]):=by
 by_cases h:H7 x=0
 ·have hx:=ZB h hsm
  obtain ⟨D,M,hlo⟩:=hx.d0 hsm
  rcases sB (r:=oX x) (SL hx.rows) with ⟨hi,hir⟩ | ⟨hi,hir⟩
  ·have hrd:O8 x=0:=by unfold O8; rw[if_neg (fun a=>a h)]; exact hi
   by_cases c:0<=n/\n<=60
   ·cases ht:BK x n.toNat with
    | true =>
     have e:C7 x n=14:=by unfold C7; rw[if_neg (fun a=>a hrd),if_pos c,ht]; rfl
     obtain ⟨i,hi1,hi2⟩:=iV ht
     have:=oN x D M n.toNat i hx hlo hir zo hi1 hi2
     rw[show ((n.toNat:Nat):Int)=n by omega] at this
     unfold DG CI GA
     rw[e,if_pos (by decide),if_pos (by decide),if_pos (by decide)]
     exact this
    | false =>
     have e:C7 x n=0:=by unfold C7; rw[if_neg (fun a=>a hrd),if_pos c,ht]; rfl
     have:=oK x D M n.toNat hx hlo hir zo (iW ht)
     rw[show ((n.toNat:Nat):Int)=n by omega] at this
     unfold DG CI GA
     rw[e,if_neg (fun a=>a rfl),if_neg (fun a=>a rfl),if_neg (fun a=>a rfl)]
     exact this
   ·have e:C7 x n=2:=by unfold C7; rw[if_neg (fun a=>a hrd),if_neg c]
    unfold DG CI GA
    rw[e,if_pos (by decide),if_pos (by decide),if_pos (by decide)]
    exact oM x D M n hx hlo hir hnr zo
  ·have hrd:O8 x=3:=by unfold O8; rw[if_neg (fun a=>a h)]; exact hi
   have e:C7 x n=K7 (oX x):=by unfold C7; rw[if_pos (by rw[hrd]; decide),hrd,hi]
   have hne:K7 (oX x)≠0:=by rw[hi]; decide
   unfold DG CI GA
   rw[e,if_pos hne,if_pos hne,if_pos hne]
   exact oL x D M n hx hlo hne
 ·have hrd:O8 x=H7 x:=by unfold O8; rw[if_pos h]
  have e:C7 x n=H7 x:=by unfold C7; rw[if_pos (by rw[hrd]; exact h),hrd]
  unfold DG CI GA
  rw[e,if_pos h,if_pos h,if_pos h]
  exact oJ x n hsm h
noncomputable def AD (x:n9):n9:=if C7 x 1≠0 then zX else r6 x 1
noncomputable def BG (x:n9):Int:=if C7 x 1≠0 then 0 else G1 x 0
theorem bB (x:n9) (hsm:V8 x):Ct Tryz.prog 46 [b7 eX x] (y4 [b7 eX (AD x),kI (BG x),kI (C7 x 1)]):=by
 have h:=oZ x (DG x 1) (CI x 1) (GA x 1) (C7 x 1) (oI x 1 hsm zo zo) (fun e=>by
  unfold CI; rw[if_neg (fun a=>a e)]; show 0<(n6 1 _).length; rw[t7]; omega)
 have e1:(if C7 x 1=0 then DG x 1 else zX)=AD x:=by
  unfold AD DG
  by_cases c:C7 x 1=0
  ·rw[if_pos c,if_neg (fun a=>a c),if_neg (fun a=>a c)]; rfl
  ·rw[if_neg c,if_pos c]
 have e2:(if C7 x 1=0 then b6 (CI x 1) 0 else 0)=BG x:=by
  unfold BG CI
  by_cases c:C7 x 1=0
  ·rw[if_pos c,if_neg (fun a=>a c),if_neg (fun a=>a c)]; exact s8 (by decide)
  ·rw[if_neg c,if_pos c]
 rw[e1,e2] at h
 exact h
theorem lT:E1 IM=0:=by
 unfold E1
 rw[if_neg (by decide),if_neg (by decide),if_neg (by decide),if_neg,if_neg (by decide),if_neg (by decide)]
 rintro (h | h)
 ·exact h rfl
 ·rw[PW (fun a=>by have:=a.1; revert this; decide)] at h; cases h
theorem jJ:p7 C2=XG:=zE
theorem XM {n:Int}:r9 C2 (u9 n)=u5 n 0:=by
 show D6 [0,1] _ (u9 n)=_
 unfold D6
 rw[if_pos (by rfl)]; rfl
theorem jK {n:Int} (h:-1000<=n/\n<=1000):v7 2 (m8 (u9 n)):=by
 refine (M8 (⟨fun i=>?_,by show dl 1<=1; exact I4 zo zo,by show (0:Int)<1; omega,rfl⟩:E5 1 (u9 n))).mono zo
 match i with
 | 0=>show dl n<=1; exact U0 (by simp[BP]; omega)
 | 1=>show dl 0<=1; rw[F5.2 rfl]; omega
 | 2=>show dl 0<=1; rw[F5.2 rfl]; omega
 | 3=>show dl 0<=1; rw[F5.2 rfl]; omega
 | i+4=>rw[z6 (by show 4<=i+4; omega)]; show dl 0<=1; rw[F5.2 rfl]; omega
theorem zF:V8 C2:=⟨by decide,by decide,by show 2<=12; omega,fun a=>by
 match a with
 | 0=>exact jK zo
 | 1=>exact jK zo
 | a+2=>exact fD⟩
theorem zC:H7 C2=0:=by
 unfold H7
 rw[if_neg (fun a=>a lT),if_neg (by decide),if_neg (fun a=>a rfl),if_pos]
 intro a ha
 have ha:a<2:=ha
 match a,ha with
 | 0,_=>show 0<r9 C2 (i8 [0,1] (m8 (u9 3))); rw[XE,XM]; decide
 | 1,_=>show 0<r9 C2 (i8 [0,1] (m8 (u9 2))); rw[XE,XM]; decide
theorem zD:B3 (oX C2)=true:=by decide
theorem jM:L7 C2 0=-1:=by
 show r9 C2 (j5 (b6 (p7 C2) (g7 (oX C2).1).toNat) (b6 (p7 C2) (g7 (oX C2).2).toNat))=-1
 rw[jJ]
 show r9 C2 (j5 (u9 2) (u9 3))=-1
 rw[iN,XM]; decide
theorem jI:G1 C2 0=1:=by
 show U4 (r9 C2) (y5 C2 0).1 (y5 C2 0).2=1
 unfold U4
 rw[if_neg]
 intro h
 have:L7 C2 0=1:=h
 rw[jM] at this; exact absurd this (by decide)
theorem XL:C7 C2 1=0:=by
 have hrd:O8 C2=0:=by unfold O8; rw[if_neg (fun a=>a zC)]; exact OH (QA (by decide)) zD
 unfold C7
 rw[if_neg (fun a=>a hrd),if_pos (by decide)]
 have:BK C2 (Int.toNat 1)=false:=by
  show (false||decide (L7 C2 0=0))=false
  rw[jM]; decide
 rw[this]; rfl
theorem jL:AD C2=(IM,[0,1],[1,0],[m8 (u9 1),m8 (u9 2)])/\BG C2=1:=by
 unfold AD BG
 rw[if_neg (fun a=>a XL),if_neg (fun a=>a XL)]
 refine ⟨?_,jI⟩
 have h1:y5 C2 1=(N1 (oX C2) (G1 C2 0),V1 (oX C2) (p7 C2) (G1 C2 0)):=rfl
 unfold r6
 rw[h1,jI,jJ]
 have h2:N1 (oX C2) 1=([0,1],[1,0]):=by decide
 have h3:V1 (oX C2) XG 1=[u9 1,u9 2]:=by
  show [j5 (u9 3) (u9 2),u9 2]=_
  rw[iN]; rfl
 rw[h2,h3]; rfl
end Go.Fl

/- Contracts: steps of rows and matrices of the reference. -/
namespace Go.Fl
open Go Go.Proofs
open d5 renaming op->tO
open i6 renaming op->rO
set_option maxRecDepth 100000

end Go.Fl

/- Contracts: Move and Follow, with errors; the step of the example. -/
namespace Go.Fl
open Go Go.Proofs
open d5 renaming op->tO
open i6 renaming op->rO
set_option maxRecDepth 100000

end Go.Fl

/- Contracts: Follow and Move with errors, the law of paths. -/
namespace Go.Fl
open Go Go.Proofs
open d5 renaming op->tO
open i6 renaming op->rO
set_option maxRecDepth 100000

theorem oD  : Ct Tryz.prog 45 [] (kB true):=by
 have hw:∀n:Int,-1000<=n/\n<=1000->Ct Tryz.prog 28 [kI n] (b7 j2 (m8 (u9 n))):=fun n hn=>by have h:=KA n zo; rw[UF] at h; exact h
 have hst:Ct Tryz.prog 46 [b7 eX C2] (y4 [b7 eX ((IM,[0,1],[1,0],[m8 (u9 1),m8 (u9 2)]):n9),kI 1,kI 0]):=by have h:=bB C2 zF; rw[jL.1,jL.2,XL] at h; exact h
 refine Ct.mk Tryz.func45 rfl Tryz.ntmps45 rfl (fun w J=>?_); refine l5 ?_; refine jc pA ?_; refine jc hst ?_; refine i4 ?_; refine ja 1 ?_; refine n7 ?_; refine Tr.draw 24 q9 (by kernel_rfl) ?_; refine o9 ?_; refine i6.gd rfl rfl rfl (CC eI (fun hp=>.cons rfl<|.cons rfl<|.nil) rfl rfl rfl rfl) rfl rfl ?_; refine i6.gd rfl rfl rfl (j7 (fun hp=>MX [0,1] [0,1]) (.a rfl id<|.a rfl id<|.nil)) rfl rfl ?_; refine i4 ?_; refine i6.gd rfl rfl rfl (CC eI (fun hp=>.cons rfl<|.cons rfl<|.nil) rfl rfl rfl rfl) rfl rfl ?_; refine i6.gd rfl rfl rfl (j7 (fun hp=>MX [1,0] [1,0]) (.a rfl id<|.a rfl id<|.nil)) rfl rfl ?_
 refine i4 ?_; refine i6.gd rfl rfl rfl (j7 (fun hp=>KA _ zo) (.a rfl uu<|.nil)) rfl rfl ?_; refine i6.gd rfl rfl rfl (j7 (fun hp=>KA _ zo) (.a rfl uu<|.nil)) rfl rfl ?_; refine i6.gd rfl rfl rfl (CC j2 (fun hp=>.consG rfl (id hp)<|.consG rfl (id hp)<|.nil) rfl rfl rfl rfl) rfl rfl ?_; refine i9 ?_; refine d5.gd rfl rfl rfl (j7 (fun hp=>mT ((IM,[0,1],[1,0],[m8 (u9 1),m8 (u9 2)]):n9).2.2.2 [m8 (u9 1),m8 (u9 2)]) (.a rfl id<|.a rfl id<|.nil)) rfl rfl ?_; refine o0 ?_; exact d9.res1 (fn:=Tryz.f45) rfl (.b rfl (by simp)<|.nil)

end Go.Fl

/- Contracts: steps of exchanges of the reference. -/
namespace Go.Fl
open Go Go.Proofs
open d5 renaming op->tO
open i6 renaming op->rO
set_option maxRecDepth 100000

end Go.Fl

/- Contracts: paths of exchanges of the reference. -/
namespace Go.Fl
open Go Go.Proofs
open d5 renaming op->tO
open i6 renaming op->rO
set_option maxRecDepth 100000

end Go.Fl

/- Contracts: the law of steps. -/
namespace Go.Fl
open Go Go.Proofs
open d5 renaming op->tO
open i6 renaming op->rO
set_option maxRecDepth 100000

theorem wJ {x:n9} (h:O8 x=0) (hsm:V8 x):F1 x/\B3 (oX x)=true:=by
 unfold O8 at h
 by_cases c:H7 x=0
 ·rw[if_neg (fun a=>a c)] at h
  exact ⟨ZB c hsm,(sA h).2⟩
 ·rw[if_pos c] at h; exact absurd h c
theorem xG {x:n9} (h:C7 x 1≠0):AD x=zX/\BG x=0:=by unfold AD BG; rw[if_pos h,if_pos h]; exact ⟨rfl,rfl⟩
theorem xH {x:n9} (h:C7 x 1=0):AD x=r6 x 1/\BG x=G1 x 0:=by unfold AD BG; rw[if_neg (fun a=>a h),if_neg (fun a=>a h)]; exact ⟨rfl,rfl⟩
theorem vO {x:n9} {n:Int} (h:O8 x≠0):C7 x n=O8 x:=by unfold C7; rw[if_pos h]
theorem vN {x:n9} {n:Int} (h:O8 x=0) (hn:0<=n/\n<=60):C7 x n=if BK x n.toNat=true then 14 else 0:=by unfold C7; rw[if_neg (fun a=>a h),if_pos hn]
theorem iU {x:n9}:BK x 1=decide (L7 x 0=0):=by show (false||decide (L7 x 0=0))=_; rw[Bool.false_or]
theorem yH {x:n9} (h:O8 x=0):(L7 x 0=0/\C7 x 1=14/\AD x=zX/\BG x=0)\/(¬L7 x 0=0/\C7 x 1=0/\AD x=r6 x 1/\BG x=G1 x 0/\(G1 x 0=0\/G1 x 0=1)):=by
 have e:C7 x 1=if BK x 1=true then 14 else 0:=vN h zo
 by_cases hz:L7 x 0=0
 ·rw[if_pos (by rw[iU,decide_eq_true_eq]; exact hz)] at e
  have:=xG (x:=x) (by rw[e]; decide)
  exact .inl ⟨hz,e,this.1,this.2⟩
 ·rw[if_neg (by rw[iU,decide_eq_true_eq]; exact hz)] at e
  have:=xH e
  exact .inr ⟨hz,e,this.1,this.2,PP⟩
end Go.Fl

/- Cones of paths; contracts: searches among numbers. -/
namespace Go.Fl
open Go Go.Proofs
open d5 renaming op->tO
open i6 renaming op->rO
set_option maxRecDepth 100000

def posL (sg:i5->Int) (n:Nat) (ls:List i5):Prop:=∀a,a<n->0<sg (b6 ls a)
theorem yN {p:List Int} {u:i5} (hu:n8 p u):j5 u (u9 0)=u:=by
 have n0:X2 (u9 0)=u9 0:=rfl
 unfold j5; rw[n0]; exact ME hu
section
variable {p:List Int} {sg:i5->Int} {D:Int} {M n e:Nat} {r:p6} {ls:List i5}
theorem yG {k:Int} {a:Nat} (h:T6 p D M n e r ls):b6 (V1 r ls k) a=if a=(C3 r k).toNat then j5 (b6 ls (C3 r k).toNat) (b6 ls (D4 r k).toNat) else b6 ls a:=by
 have h1:=(HV h.rows k).2
 have h2:=h.nn; have h3:=h.len
 unfold V1
 rw[VW zo]
theorem vX (hs:J5 p sg) (ht:∀v,sg v=1\/sg v=-1\/sg v=0) (h:T6 p D M n e r ls) (hz:K0 sg r ls≠0) (hp:posL sg n ls):posL sg n (V1 r ls (U4 sg r ls)):=by
 intro a ha
 rw[yG h]
 split
 ·have htr:K0 sg r ls=1\/K0 sg r ls=-1\/K0 sg r ls=0:=ht _
  by_cases c:K0 sg r ls=1
  ·have e:U4 sg r ls=0:=if_pos c
   rw[e]
   show 0<K0 sg r ls
   omega
  ·have e:U4 sg r ls=1:=if_neg c
   have h2:=(HV h.rows 1)
   have hn:=h.nn
   have r1:=h.red (C3 r 1).toNat zo
   have r2:=h.red (D4 r 1).toNat zo
   have q:=hs.swap r2 r1
   rw[e]
   have q2:sg (j5 (b6 ls (D4 r 1).toNat) (b6 ls (C3 r 1).toNat))=K0 sg r ls:=rfl
   omega
 ·exact hp a ha
end
section
variable {p:List Int} {sg:i5->Int} {D:Int} {M n:Nat} {r:p6} {ls l0:List i5} {ks:List Int} (hs:J5 p sg) (ht:∀v,sg v=1\/sg v=-1\/sg v=0) (h:T6 p D M n 0 r ls) (h0:v9 p D M n l0) (hi:B3 r=true)
include hs h h0 hi
include ht
end
end Go.Fl

/- A step of induction is the first return to the shorter interval. No program in sight. -/
namespace Go.Fl
open Go
theorem IY {row:List Int} {n j i:Nat} {b:Int} (hp:r7 row n) (hj:j<n-1) (hb:b6 row j=b) (hi:i<n):b6 (u4 row b) i=if i<=j then b6 row i else if i=j+1 then g7 row else b6 row (i-1):=by
 have hl:=hp.2.2
 rw[iD hp hj hb]
 have l1:(row.take (j+1)).length=j+1:=by rw[List.length_take]; omega
 have l2:(row.take (j+1)++[g7 row]).length=j+2:=by rw[List.length_append,l1]; rfl
 unfold b6
 simp only[List.getD_eq_getElem?_getD]
 by_cases c:i<=j
 ·rw[if_pos c,List.append_assoc,List.getElem?_append_left zo,List.getElem?_take,if_pos zo]
 ·rw[if_neg c]
  by_cases d:i=j+1
  ·subst d
   rw[if_pos rfl,List.getElem?_append_left zo,List.getElem?_append_right zo,l1,Nat.sub_self]
   rfl
  ·rw[if_neg d,List.getElem?_append_right zo,l2,List.getElem?_drop,List.getElem?_take,if_pos zo,show j+1+(i-(j+2))=i-1 by omega]
theorem WL {ls ls':List i5} {row row':List Int}:∀{k:Nat},(∀i,i<k->b6 row' i=b6 row i/\b6 ls' (b6 row i).toNat=b6 ls (b6 row i).toNat)->j4 ls' row' k=j4 ls row k
 | 0,_=>rfl
 | k+1,h=>by
  obtain ⟨a,b⟩:=h k zo
  show o5 (j4 ls' row' k) _=o5 (j4 ls row k) _
  rw[WL fun i hi=>h i zo,a,b]
theorem fW {ls ls':List i5} {row row':List Int} {m:Nat} (h0:j4 ls' row' (m+1)=j4 ls row m):∀{k:Nat},m<=k->(∀i,m<=i->i<k->b6 row' (i+1)=b6 row i/\b6 ls' (b6 row i).toNat=b6 ls (b6 row i).toNat)->j4 ls' row' (k+1)=j4 ls row k
 | 0,hm,_=>by rw[show m=0 by omega] at h0; exact h0
 | k+1,hm,h=>by
  by_cases e:m=k+1
  ·rw[e] at h0; exact h0
  ·obtain ⟨a,b⟩:=h k zo zo
   show o5 (j4 ls' row' (k+1)) _=o5 (j4 ls row k) _
   rw[fW h0 (k:=k) zo fun i hi hk=>h i hi zo,a,b]
theorem MP {p:List Int}:∀{l:List i5},(∀v∈l,n8 p v)->∃D:Int,0<D/\∀v∈l,CD D v
 | [],_=>⟨1,by omega,fun v h=>by cases h⟩
 | v::l,h=>by
  obtain ⟨D,hD,hl⟩:=MP (l:=l) fun w hw=>h w (List.mem_cons_of_mem _ hw)
  have hv:=h v List.mem_cons_self
  refine ⟨D*v.2,Int.mul_pos hD hv.pos,fun w hw=>?_⟩
  rcases List.mem_cons.1 hw with rfl | hw
  ·have:=hv.cd.scale hv.pos hD
   rwa [Int.mul_comm] at this
  ·exact (hl w hw).scale hD hv.pos
theorem gN {p:List Int} {t a b:i5} (ht:n8 p t) (ha:n8 p a) (hb:n8 p b):j5 (o5 t a) (o5 t (j5 a b))=b:=by
 obtain ⟨D,hD,⟨x,_,rfl⟩,⟨y,_,rfl⟩,⟨z,hz,rfl⟩⟩:=AM ht ha hb
 unfold j5
 rw[<- N0,A8 hD,A8 hD,A8 hD,<- N0,A8 hD]
 exact congrArg (fun l=>loN l D) ((z8 fun i hi=>by simp only[s8 hi,K8]; omega).trans (IZ hz))
theorem qW {p:List Int} {v a b c d:i5} (hv:n8 p v) (ha:n8 p a) (hb:n8 p b) (hc:n8 p c) (hd:n8 p d):o5 (o5 v (j5 (o5 a d) b)) (j5 c a)=o5 v (j5 (o5 c d) b):=by
 obtain ⟨D,hD,h⟩:=MP (p:=p) (l:=[v,a,b,c,d]) (by intro w hw; simp at hw; rcases hw with rfl | rfl | rfl | rfl | rfl<;>assumption)
 obtain ⟨x,_,rfl⟩:=h v (by simp)
 obtain ⟨y,_,rfl⟩:=h a (by simp)
 obtain ⟨z,_,rfl⟩:=h b (by simp)
 obtain ⟨u,_,rfl⟩:=h c (by simp)
 obtain ⟨w,_,rfl⟩:=h d (by simp)
 unfold j5
 simp only[<- N0,A8 hD]
 exact congrArg (fun l=>loN l D) (z8 fun i hi=>by simp only[s8 hi,K8]; omega)
theorem qX {p:List Int} {v a b c d:i5} (hv:n8 p v) (ha:n8 p a) (hb:n8 p b) (hc:n8 p c) (hd:n8 p d):o5 (o5 v (j5 a b)) (j5 c (o5 a d))=o5 v (j5 c (o5 b d)):=by
 obtain ⟨D,hD,h⟩:=MP (p:=p) (l:=[v,a,b,c,d]) (by intro w hw; simp at hw; rcases hw with rfl | rfl | rfl | rfl | rfl<;>assumption)
 obtain ⟨x,_,rfl⟩:=h v (by simp)
 obtain ⟨y,_,rfl⟩:=h a (by simp)
 obtain ⟨z,_,rfl⟩:=h b (by simp)
 obtain ⟨u,_,rfl⟩:=h c (by simp)
 obtain ⟨w,_,rfl⟩:=h d (by simp)
 unfold j5
 simp only[<- N0,A8 hD]
 exact congrArg (fun l=>loN l D) (z8 fun i hi=>by simp only[s8 hi,K8]; omega)
theorem qY {p:List Int} {v a b d:i5} (hv:n8 p v) (ha:n8 p a) (hb:n8 p b) (hd:n8 p d):j5 (o5 v (j5 a b)) (o5 a d)=j5 v (o5 b d):=by
 obtain ⟨D,hD,h⟩:=MP (p:=p) (l:=[v,a,b,d]) (by intro w hw; simp at hw; rcases hw with rfl | rfl | rfl | rfl<;>assumption)
 obtain ⟨x,_,rfl⟩:=h v (by simp)
 obtain ⟨y,_,rfl⟩:=h a (by simp)
 obtain ⟨z,_,rfl⟩:=h b (by simp)
 obtain ⟨w,_,rfl⟩:=h d (by simp)
 unfold j5
 simp only[<- N0,A8 hD]
 exact congrArg (fun l=>loN l D) (z8 fun i hi=>by simp only[s8 hi,K8]; omega)
section
variable {p:List Int} {sg:i5->Int} {D:Int} {M:Nat} {o:List Int×List Int} {ls:List i5} (h:V6 p sg D M o ls) {pv:i5} (hv:n8 p pv)
include h hv
theorem V6.img_of {i j:Nat} (hi:i<o.1.length) (hj:j<o.1.length) (hij:b6 o.2 j=b6 o.1 i) (a:0<=sg (j5 pv (j4 ls o.1 i))) (b:0<sg (j5 (j4 ls o.1 (i+1)) pv)):B8 sg o ls pv=b6 o.1 i/\E4 o ls pv (B8 sg o ls pv)=o5 pv (j5 (j4 ls o.2 j) (j4 ls o.1 i)):=by
 have e:B8 sg o ls pv=b6 o.1 i:=ON h.sgl h.len h.top h.pos hv hi a b (m:=o.1.length-1) zo zo
 have hri:=h.top.1 i (by rw[h.top.2.2]; exact hi)
 refine ⟨e,?_⟩
 rw[e]
 unfold E4 V9
 rw[s8 zo]
 have e1:b6 (y0 ls o.1) (b6 o.1 i).toNat=j4 ls o.1 i:=by
  show b6 (n6 o.1.length fun a=>j4 ls o.1 (o.1.idxOf (a:Int))) _=_
  rw[s8 zo,show (((b6 o.1 i).toNat:Nat):Int)=b6 o.1 i by omega,EG h.top hi]
 have e2:b6 (y0 ls o.2) (b6 o.1 i).toNat=j4 ls o.2 j:=by
  show b6 (n6 o.2.length fun a=>j4 ls o.2 (o.2.idxOf (a:Int))) _=_
  rw[s8 (by rw[h.bot.2.2]; omega),show (((b6 o.1 i).toNat:Nat):Int)=b6 o.1 i by omega,<- hij,EG h.bot (by rw[h.bot.2.2]; exact hj)]
 rw[e1,e2]
end
abbrev stW (ls:List i5) (w l:Int):List i5:=ls.set w.toNat (j5 (b6 ls w.toNat) (b6 ls l.toNat))
section
variable {p:List Int} {D:Int} {M n j:Nat} {ls:List i5} {R W:List Int} (hpo:E8 p) (hlo:v9 p D M n ls) (hR:r7 R n) (hW:r7 W n) (h1:1<=n) (hj:j<n-1) (hjw:b6 R j=g7 W)
include hlo hW h1 in
theorem LM {a:Nat}:b6 (stW ls (g7 W) (g7 R)) a=if a=(g7 W).toNat then j5 (b6 ls (g7 W).toNat) (b6 ls (g7 R).toNat) else b6 ls a:=by
 have:=P6 hW h1
 have hl:=hlo.len
 by_cases e:a=(g7 W).toNat
 ·subst e; rw[if_pos rfl]; simp[b6,show (g7 W).toNat<ls.length by omega]
 ·rw[if_neg e]; simp[b6,List.getElem?_set_ne (Ne.symm e)]
include hlo hW h1 in
theorem QM {a:Int} (h0:0<=a) (ha:a≠g7 W):b6 (stW ls (g7 W) (g7 R)) a.toNat=b6 ls a.toNat:=by
 have:=P6 hW h1
 rw[LM hlo hW h1,if_neg zo]
include hlo hR hW h1 hj hjw
theorem QC {i:Nat} (hi:i<=j):j4 (stW ls (g7 W) (g7 R)) (u4 R (g7 W)) i=j4 ls R i:=WL fun k hk=>by
 have hl:=hR.2.2
 rw[IY hR hj hjw zo,if_pos zo]
 refine ⟨rfl,QM hlo hW h1 (hR.1 k zo).1 fun e=>?_⟩
 have:=DC hR.2.1 (i:=k) (j:=j) zo zo (by rw[e,hjw])
 omega
theorem QB:j4 (stW ls (g7 W) (g7 R)) (u4 R (g7 W)) (j+1)=o5 (j4 ls R j) (j5 (b6 ls (g7 W).toNat) (b6 ls (g7 R).toNat)):=by
 show o5 (j4 _ (u4 R (g7 W)) j) _=_
 rw[QC hlo hR hW h1 hj hjw (Nat.le_refl _),IY hR hj hjw zo,if_pos zo,hjw,LM hlo hW h1,if_pos rfl]
include hpo in
theorem gO:j4 (stW ls (g7 W) (g7 R)) (u4 R (g7 W)) (j+2)=j4 ls R (j+1):=by
 have hl:=hR.2.2
 have q1:=P6 hW h1
 have q2:=P6 hR h1
 have hne:g7 R≠g7 W:=fun e=>by
  have:=DC hR.2.1 (i:=R.length-1) (j:=j) zo zo (by rw[hjw,<- e]; rfl)
  omega
 show o5 (j4 _ (u4 R (g7 W)) (j+1)) _=o5 (j4 ls R j) _
 rw[QB hlo hR hW h1 hj hjw,IY hR hj hjw zo,if_neg zo,if_pos rfl,QM hlo hW h1 q2.1 hne,hjw]
 have t:=(U8 hpo hlo hR j zo).1
 have a:=hlo.red (g7 W).toNat zo
 have b:=hlo.red (g7 R).toNat zo
 rw[kM t (P9 a b) b,RP (P9 a b) b]
 congr 1
 obtain ⟨D',hD,⟨x,hx,e1⟩,⟨y,_,e2⟩,_⟩:=AM a b b
 rw[e1,e2]
 unfold j5
 rw[<- N0,A8 hD,A8 hD]
 exact congrArg (fun l=>loN l D') ((z8 fun i hi=>by simp only[s8 hi,K8]; omega).trans (IZ hx))
include hpo in
theorem IQ {i:Nat} (hi:j+1<=i) (hin:i<=n-1):j4 (stW ls (g7 W) (g7 R)) (u4 R (g7 W)) (i+1)=j4 ls R i:=by
 have hl:=hR.2.2
 refine fW (m:=j+1) (gO hpo hlo hR hW h1 hj hjw) hi fun k a b=>?_
 rw[IY hR hj hjw zo,if_neg zo,if_neg zo,Nat.add_sub_cancel]
 refine ⟨rfl,QM hlo hW h1 (hR.1 k zo).1 fun e=>?_⟩
 have:=DC hR.2.1 (i:=k) (j:=j) zo zo (by rw[e,hjw])
 omega
omit hR hj hjw
theorem RB {i:Nat} (hi:i<=n-1):j4 (stW ls (g7 W) (g7 R)) W i=j4 ls W i:=WL fun k hk=>by
 have hl:=hW.2.2
 refine ⟨rfl,QM hlo hW h1 (hW.1 k zo).1 fun e=>?_⟩
 have:=DC hW.2.1 (i:=k) (j:=W.length-1) zo zo e
 omega
theorem XS:j4 (stW ls (g7 W) (g7 R)) W n=o5 (j4 ls W (n-1)) (j5 (b6 ls (g7 W).toNat) (b6 ls (g7 R).toNat)):=by
 have hl:=hW.2.2
 have e:j4 (stW ls (g7 W) (g7 R)) W (n-1+1)=o5 (j4 (stW ls (g7 W) (g7 R)) W (n-1)) (b6 (stW ls (g7 W) (g7 R)) (b6 W (n-1)).toNat):=rfl
 rw[show n-1+1=n by omega] at e
 rw[e,RB hlo hW h1 (Nat.le_refl _),show b6 W (n-1)=g7 W by unfold g7; rw[hl],LM hlo hW h1,if_pos rfl]
end
theorem gP {p:List Int} {sg:i5->Int} {D:Int} {M n j:Nat} {ls:List i5} {R W:List Int} (h:J5 p sg) (hlo:v9 p D M n ls) (hR:r7 R n) (hW:r7 W n) (hpos:∀a,a<n->0<sg (b6 ls a)) (h1:1<=n) (hj:j<n-1) (hjw:b6 R j=g7 W):sg (j5 (j4 (stW ls (g7 W) (g7 R)) (u4 R (g7 W)) n) (j4 ls R n))<0:=by
 have e:=IQ h.pol hlo hR hW h1 hj hjw (i:=n-1) zo (Nat.le_refl _)
 rw[show n-1+1=n by omega] at e
 have s:=WN h hlo hR hpos (k:=n-1) zo
 rw[show n-1+1=n by omega] at s
 rw[e,h.swap (Q9 h hlo hR (Nat.le_refl _)) (Q9 h hlo hR zo)]
 omega
section
variable {p:List Int} {sg:i5->Int} {D D':Int} {M M':Nat} {o:List Int×List Int} {ls:List i5}
theorem DM {row row':List Int} {n:Nat} (h:v9 p D M n ls) (h1:r7 row n) (h2:r7 row' n):j4 ls row n=j4 ls row' n:=by
 have a:=iX h h1
 have b:=iX h h2
 unfold t8 at a b
 rw[h1.2.2] at a
 rw[h2.2.2] at b
 rw[a,b]
theorem WM {row:List Int} {n:Nat} (h:r7 row n) (h1:1<=n):j4 ls row n=o5 (j4 ls row (n-1)) (b6 ls (g7 row).toNat):=by
 have e:j4 ls row (n-1+1)=o5 (j4 ls row (n-1)) (b6 ls (b6 row (n-1)).toNat):=rfl
 rw[show n-1+1=n by omega] at e
 rw[e]
 unfold g7
 rw[h.2.2]
def RI (sg:i5->Int) (o o':List Int×List Int) (ls ls':List i5) (pv:i5):Prop :=
 (sg (j5 (E4 o ls pv (B8 sg o ls pv)) (t8 ls' o'.1))<0/\E4 o' ls' pv (B8 sg o' ls' pv)=E4 o ls pv (B8 sg o ls pv)) \/
 (¬sg (j5 (E4 o ls pv (B8 sg o ls pv)) (t8 ls' o'.1))<0/\E4 o' ls' pv (B8 sg o' ls' pv)=E4 o ls (E4 o ls pv (B8 sg o ls pv)) (B8 sg o ls (E4 o ls pv (B8 sg o ls pv))))
theorem rY {R W:List Int} (h:V6 p sg D M (W,R) ls) (h':V6 p sg D' M' (W,u4 R (g7 W)) (stW ls (g7 W) (g7 R))) {j:Nat} (hj:j<W.length-1) (hjw:b6 R j=g7 W) {pv:i5} (hv:n8 p pv) (h0:0<=sg pv) (h1:sg (j5 pv (t8 (stW ls (g7 W) (g7 R)) W))<0):RI sg (W,R) (W,u4 R (g7 W)) ls (stW ls (g7 W) (g7 R)) pv:=by
 obtain ⟨n,hn⟩:∃n,n=W.length:=⟨_,rfl⟩
 have hlo:v9 p D M n ls:=by rw[hn]; exact h.len
 have hlo':v9 p D' M' n (stW ls (g7 W) (g7 R)):=by rw[hn]; exact h'.len
 have hW:r7 W n:=by rw[hn]; exact h.top
 have hR:r7 R n:=by rw[hn]; exact h.bot
 have hR':r7 (u4 R (g7 W)) n:=by rw[hn]; exact h'.bot
 have n1:1<=n:=by rw[hn]; exact h.two
 rw[<- hn] at hj
 have hpo:=h.sgl.pol
 have hl:=hR.2.2
 have q1:=P6 hW n1
 have q2:=P6 hR n1
 have rw_:=hlo.red (g7 W).toNat zo
 have rl_:=hlo.red (g7 R).toNat zo
 have rd_:=P9 rw_ rl_
 have pl_:0<sg (b6 ls (g7 R).toNat):=h.pos _ (by show _<W.length; omega)
 have pd_:0<sg (j5 (b6 ls (g7 W).toNat) (b6 ls (g7 R).toNat)):=by
  have:=h'.pos (g7 W).toNat (by show _<W.length; omega)
  rwa [LM hlo hW n1,if_pos rfl] at this
 have ptW:∀{k},k<=n->n8 p (j4 ls W k):=fun hk=>(U8 hpo hlo hW _ hk).1
 have ptR:∀{k},k<=n->n8 p (j4 ls R k):=fun hk=>(U8 hpo hlo hR _ hk).1
 have t1:t8 (stW ls (g7 W) (g7 R)) W=j4 ls R (n-1):=by
  unfold t8
  rw[hW.2.2,DM hlo' hW hR']
  have:=IQ hpo hlo hR hW n1 hj hjw (i:=n-1) zo (Nat.le_refl _)
  rwa [show n-1+1=n by omega] at this
 have t2:j4 ls R (n-1)=o5 (j4 ls W (n-1)) (j5 (b6 ls (g7 W).toNat) (b6 ls (g7 R).toNat)):=by
  rw[<- XS hlo hW n1,<- t1]; unfold t8; rw[hW.2.2]
 have t3:j4 ls W n=j4 ls R n:=DM hlo hW hR
 obtain ⟨i,jy,hi,hjy,ei,ejy,a,b,e⟩:=h'.at hv h0 h1
 have hi:i<n:=by rw[hn]; exact hi
 have hjy:jy<n:=by rw[hn]; exact hjy
 have hij:b6 (u4 R (g7 W)) jy=b6 W i:=ejy.trans ei.symm
 have him:=(h'.img hv h0 h1)
 have a:0<=sg (j5 pv (j4 (stW ls (g7 W) (g7 R)) W i)):=a
 have b:0<sg (j5 (j4 (stW ls (g7 W) (g7 R)) W (i+1)) pv):=b
 have e:E4 (W,u4 R (g7 W)) (stW ls (g7 W) (g7 R)) pv (B8 sg (W,u4 R (g7 W)) (stW ls (g7 W) (g7 R)) pv)=o5 pv (j5 (j4 (stW ls (g7 W) (g7 R)) (u4 R (g7 W)) jy) (j4 (stW ls (g7 W) (g7 R)) W i)):=e
 rw[RB hlo hW n1 zo] at a e
 have b':0<sg (j5 (j4 ls W (i+1)) pv):=by
  by_cases c:i+1<=n-1
  ·rwa [RB hlo hW n1 c] at b
  ·rw[show i+1=n by omega] at b ⊢
   rw[XS hlo hW n1] at b
   refine h.sgl.lt_of hv (Z0 (ptW zo) rd_) (ptW (Nat.le_refl _)) (Int.le_of_lt b) ?_
   rw[WM hW n1,gN (ptW zo) rw_ rl_]
   exact pl_
 have hsh:=IY hR hj hjw hjy
 by_cases c:jy=j+1
 ·-- the loser's interval: a second image
  have ej:b6 W i=g7 R:=by rw[<- hij,hsh,if_neg zo,if_pos c]
  have hlast:b6 R (n-1)=g7 R:=by unfold g7; rw[hl]
  obtain ⟨x1,x2⟩:=h.img_of hv (i:=i) (j:=n-1) (by show i<W.length; omega) (by show n-1<W.length; omega) (by show b6 R (n-1)=b6 W i; rw[hlast,ej]) a b'
  have x2:E4 (W,R) ls pv (B8 sg (W,R) ls pv)=o5 pv (j5 (j4 ls R (n-1)) (j4 ls W i)):=x2
  have hq:=Z0 hv (P9 (ptR (k:=n-1) zo) (ptW (k:=i) zo))
  have lo:j5 (o5 pv (j5 (j4 ls R (n-1)) (j4 ls W i))) (j4 ls R (n-1))=j5 pv (j4 ls W i):=cY hv (ptW zo) (ptR zo)
  have hi':j5 (o5 (j4 ls R (n-1)) (b6 ls (g7 R).toNat)) (o5 pv (j5 (j4 ls R (n-1)) (j4 ls W i)))=j5 (o5 (j4 ls W i) (b6 ls (g7 R).toNat)) pv:=UK hv (ptW zo) (ptR zo) rl_
  rw[<- WM hR n1,show o5 (j4 ls W i) (b6 ls (g7 R).toNat)=j4 ls W (i+1) by rw[j4,ej]] at hi'
  refine .inr ⟨?_,?_⟩
  ·rw[x2,show t8 (stW ls (g7 W) (g7 R)) (W,u4 R (g7 W)).1=_ from t1,lo]; omega
  ·rw[x2]
   generalize hqq:o5 pv (j5 (j4 ls R (n-1)) (j4 ls W i))=q at *
   have z1:0<=sg (j5 q (j4 ls W (n-1))):=by
    refine Int.le_of_lt (h.sgl.lt_of' (ptW zo) (ptR (k:=n-1) zo) hq ?_ (by rw[lo]; exact a))
    rw[t2,RQ (ptW zo) rd_]; exact pd_
   have z2:0<sg (j5 (j4 ls W (n-1+1)) q):=by
    rw[show n-1+1=n by omega,t3,hi']; exact b'
   obtain ⟨_,y2⟩:=h.img_of hq (i:=n-1) (j:=j) (by show n-1<W.length; omega) (by show j<W.length; omega) (by show b6 R j=b6 W (n-1); rw[hjw]; unfold g7; rw[hW.2.2]) z1 z2
   rw[e,y2,c,QB hlo hR hW n1 hj hjw,<- hqq]
   show _=o5 _ (j5 (j4 ls R j) (j4 ls W (n-1)))
   rw[t2]
   exact (qW hv (ptW zo) (ptW zo) (ptR zo) rd_).symm
 ·obtain ⟨jx,hjx,ex,px⟩:∃jx,jx<n/\b6 R jx=b6 W i/\j4 (stW ls (g7 W) (g7 R)) (u4 R (g7 W)) jy=j4 ls R jx:=by
   by_cases c2:jy<=j
   ·exact ⟨jy,hjy,by rw[<- hij,hsh,if_pos c2],QC hlo hR hW n1 hj hjw c2⟩
   ·refine ⟨jy-1,by omega,by rw[<- hij,hsh,if_neg c2,if_neg c],?_⟩
    have:=IQ hpo hlo hR hW n1 hj hjw (i:=jy-1) zo zo
    rwa [show jy-1+1=jy by omega] at this
  obtain ⟨_,x2⟩:=h.img_of hv (i:=i) (j:=jx) (by show i<W.length; omega) (by show jx<W.length; omega) ex a b'
  have x3:E4 (W,R) ls pv (B8 sg (W,R) ls pv)=E4 (W,u4 R (g7 W)) (stW ls (g7 W) (g7 R)) pv (B8 sg (W,u4 R (g7 W)) (stW ls (g7 W) (g7 R)) pv):=by
   rw[x2,e,px]
  refine .inl ⟨?_,x3.symm⟩
  rw[x3]
  have:=him.2.2.1
  have te:t8 (stW ls (g7 W) (g7 R)) (W,u4 R (g7 W)).2=t8 (stW ls (g7 W) (g7 R)) (W,u4 R (g7 W)).1:=by
   show t8 _ (u4 R (g7 W))=t8 _ W
   unfold t8
   rw[hR'.2.2,hW.2.2]
   exact (DM hlo' hW hR').symm
  rwa [te] at this
theorem rZ {R W:List Int} (h:V6 p sg D M (R,W) ls) (h':V6 p sg D' M' (u4 R (g7 W),W) (stW ls (g7 W) (g7 R))) {j:Nat} (hj:j<R.length-1) (hjw:b6 R j=g7 W) {pv:i5} (hv:n8 p pv) (h0:0<=sg pv) (h1:sg (j5 pv (t8 (stW ls (g7 W) (g7 R)) (u4 R (g7 W))))<0):RI sg (R,W) (u4 R (g7 W),W) ls (stW ls (g7 W) (g7 R)) pv:=by
 obtain ⟨n,hn⟩:∃n,n=R.length:=⟨_,rfl⟩
 have hs:(u4 R (g7 W)).length=n:=by rw[hn]; exact (QI rfl zo).length_eq
 have hlo:v9 p D M n ls:=by rw[hn]; exact h.len
 have hlo':v9 p D' M' n (stW ls (g7 W) (g7 R)):=by rw[<- hs]; exact h'.len
 have hR:r7 R n:=by rw[hn]; exact h.top
 have hW:r7 W n:=by rw[hn]; exact h.bot
 have hR':r7 (u4 R (g7 W)) n:=by have:=h'.top; rw[show (u4 R (g7 W),W).1=u4 R (g7 W) from rfl,hs] at this; exact this
 have n1:1<=n:=by rw[hn]; exact h.two
 rw[<- hn] at hj
 have hpo:=h.sgl.pol
 have hl:=hR.2.2
 have q1:=P6 hW n1
 have q2:=P6 hR n1
 have rw_:=hlo.red (g7 W).toNat zo
 have rl_:=hlo.red (g7 R).toNat zo
 have rd_:=P9 rw_ rl_
 have pl_:0<sg (b6 ls (g7 R).toNat):=h.pos _ (by show _<R.length; omega)
 have pd_:0<sg (j5 (b6 ls (g7 W).toNat) (b6 ls (g7 R).toNat)):=by
  have:=h'.pos (g7 W).toNat (by show _<(u4 R (g7 W)).length; omega)
  rwa [LM hlo hW n1,if_pos rfl] at this
 have ptW:∀{k},k<=n->n8 p (j4 ls W k):=fun hk=>(U8 hpo hlo hW _ hk).1
 have ptR:∀{k},k<=n->n8 p (j4 ls R k):=fun hk=>(U8 hpo hlo hR _ hk).1
 have t1:t8 (stW ls (g7 W) (g7 R)) (u4 R (g7 W))=j4 ls R (n-1):=by
  unfold t8
  rw[hs]
  have:=IQ hpo hlo hR hW n1 hj hjw (i:=n-1) zo (Nat.le_refl _)
  rwa [show n-1+1=n by omega] at this
 have t2:j4 ls R (n-1)=o5 (j4 ls W (n-1)) (j5 (b6 ls (g7 W).toNat) (b6 ls (g7 R).toNat)):=by
  rw[<- XS hlo hW n1,<- t1]; unfold t8; rw[hs]; exact DM hlo' hR' hW
 have t3:j4 ls W n=j4 ls R n:=DM hlo hW hR
 obtain ⟨i,jy,hi,hjy,ei,ejy,a,b,e⟩:=h'.at hv h0 h1
 have hi:i<n:=by rw[<- hs]; exact hi
 have hjy:jy<n:=by rw[<- hs]; exact hjy
 have hij:b6 W jy=b6 (u4 R (g7 W)) i:=ejy.trans ei.symm
 have him:=(h'.img hv h0 h1)
 have a:0<=sg (j5 pv (j4 (stW ls (g7 W) (g7 R)) (u4 R (g7 W)) i)):=a
 have b:0<sg (j5 (j4 (stW ls (g7 W) (g7 R)) (u4 R (g7 W)) (i+1)) pv):=b
 have e:E4 (u4 R (g7 W),W) (stW ls (g7 W) (g7 R)) pv (B8 sg (u4 R (g7 W),W) (stW ls (g7 W) (g7 R)) pv)=o5 pv (j5 (j4 (stW ls (g7 W) (g7 R)) W jy) (j4 (stW ls (g7 W) (g7 R)) (u4 R (g7 W)) i)):=e
 rw[RB hlo hW n1 zo] at e
 have hsh:=IY hR hj hjw hi
 by_cases c:i=j+1
 ·-- what the winner has taken of the loser: a second image
  subst c
  have ej:b6 W jy=g7 R:=by rw[hij,hsh,if_neg zo,if_pos rfl]
  have hlast:b6 W (n-1)=g7 W:=by unfold g7; rw[hW.2.2]
  rw[QB hlo hR hW n1 hj hjw] at a e
  rw[show j+1+1=j+2 from rfl,gO hpo hlo hR hW n1 hj hjw] at b
  have rj:=ptR (k:=j) zo
  have hb1:=Z0 rj rd_
  have a':0<=sg (j5 pv (j4 ls R j)):=by
   refine Int.le_of_lt (h.sgl.lt_of' rj hb1 hv ?_ a)
   rw[RQ rj rd_]; exact pd_
  obtain ⟨_,x2⟩:=h.img_of hv (i:=j) (j:=n-1) (by show j<R.length; omega) (by show n-1<R.length; omega) (by show b6 W (n-1)=b6 R j; rw[hlast,hjw]) a' b
  have x2:E4 (R,W) ls pv (B8 sg (R,W) ls pv)=o5 pv (j5 (j4 ls W (n-1)) (j4 ls R j)):=x2
  have hq:=Z0 hv (P9 (ptW (k:=n-1) zo) rj)
  have lo:j5 (o5 pv (j5 (j4 ls W (n-1)) (j4 ls R j))) (j4 ls R (n-1))=j5 pv (o5 (j4 ls R j) (j5 (b6 ls (g7 W).toNat) (b6 ls (g7 R).toNat))):=by
   rw[t2]; exact qY hv (ptW zo) rj rd_
  have hi':j5 (o5 (j4 ls W (n-1)) (b6 ls (g7 W).toNat)) (o5 pv (j5 (j4 ls W (n-1)) (j4 ls R j)))=j5 (o5 (j4 ls R j) (b6 ls (g7 W).toNat)) pv:=UK hv rj (ptW zo) rw_
  rw[<- WM hW n1,show o5 (j4 ls R j) (b6 ls (g7 W).toNat)=j4 ls R (j+1) by rw[j4,hjw]] at hi'
  refine .inr ⟨?_,?_⟩
  ·rw[x2,show t8 (stW ls (g7 W) (g7 R)) (u4 R (g7 W),W).1=_ from t1,lo]; omega
  ·rw[x2]
   have z1:0<=sg (j5 (o5 pv (j5 (j4 ls W (n-1)) (j4 ls R j))) (j4 ls R (n-1))):=by rw[lo]; exact a
   have z2:0<sg (j5 (j4 ls R (n-1+1)) (o5 pv (j5 (j4 ls W (n-1)) (j4 ls R j)))):=by
    rw[show n-1+1=n by omega,<- t3,hi']; exact b
   obtain ⟨_,y2⟩:=h.img_of hq (i:=n-1) (j:=jy) (by show n-1<R.length; omega) (by show jy<R.length; omega) (by show b6 W jy=b6 R (n-1); rw[ej]; unfold g7; rw[hl]) z1 z2
   rw[e,y2]
   show _=o5 _ (j5 (j4 ls W jy) (j4 ls R (n-1)))
   rw[t2]
   exact (qX hv (ptW zo) rj (ptW zo) rd_).symm
 ·obtain ⟨ix,hix,ex,px,a',b'⟩:∃ix,ix<n/\b6 R ix=b6 W jy/\j4 (stW ls (g7 W) (g7 R)) (u4 R (g7 W)) i=j4 ls R ix/\0<=sg (j5 pv (j4 ls R ix))/\0<sg (j5 (j4 ls R (ix+1)) pv):=by
   by_cases c2:i<=j
   ·have e1:=QC hlo hR hW n1 hj hjw c2
    refine ⟨i,hi,by rw[hij,hsh,if_pos c2],e1,by rwa [e1] at a,?_⟩
    by_cases c3:i=j
    ·subst c3
     rw[QB hlo hR hW n1 hj hjw] at b
     refine h.sgl.lt_of hv (Z0 (ptR zo) rd_) (ptR zo) (Int.le_of_lt b) ?_
     rw[j4,hjw,gN (ptR zo) rw_ rl_]
     exact pl_
    ·rwa [QC hlo hR hW n1 hj hjw (i:=i+1) zo] at b
   ·have e1:=IQ hpo hlo hR hW n1 hj hjw (i:=i-1) zo zo
    have e2:=IQ hpo hlo hR hW n1 hj hjw (i:=i) zo zo
    rw[show i-1+1=i by omega] at e1
    refine ⟨i-1,by omega,by rw[hij,hsh,if_neg c2,if_neg c],e1,by rwa [e1] at a,?_⟩
    rw[show i-1+1=i by omega]
    rwa [e2] at b
  obtain ⟨_,x2⟩:=h.img_of hv (i:=ix) (j:=jy) (by show ix<R.length; omega) (by show jy<R.length; omega) ex.symm a' b'
  have x3:E4 (R,W) ls pv (B8 sg (R,W) ls pv)=E4 (u4 R (g7 W),W) (stW ls (g7 W) (g7 R)) pv (B8 sg (u4 R (g7 W),W) (stW ls (g7 W) (g7 R)) pv):=by
   rw[x2,e,px]
  refine .inl ⟨?_,x3.symm⟩
  rw[x3]
  have:=him.2.2.1
  have te:t8 (stW ls (g7 W) (g7 R)) (u4 R (g7 W),W).2=t8 (stW ls (g7 W) (g7 R)) (u4 R (g7 W),W).1:=by
   show t8 _ W=t8 _ (u4 R (g7 W))
   unfold t8
   rw[hs,hW.2.2]
   exact (DM hlo' hR' hW).symm
  rwa [te] at this
end
theorem yV {p:List Int} {xs:List (List (List Int)×List Int)} {n:Nat} (hp:E8 p) (hl:xs.length=n) (hn:n<=8) (h:∀a,a<n->v7 2 (b6 xs a)) {more:List i5} (hm:more.length<=2) (hmo:∀v∈more,n8 p v/\E5 17 v):∃(D:Int) (M:Nat),v9 p D M n (xs.map (i8 p))/\dl ((100000*(2*M):Nat):Int)<=200/\∀v∈more,HB D M v:=by
 have key:∀v∈xs.map (i8 p)++more,n8 p v/\E5 17 v:=fun v hv=>by
  rcases List.mem_append.1 hv with hv | hv
  ·obtain ⟨x,hx,rfl⟩:=List.mem_map.1 hv
   obtain ⟨i,hi,rfl⟩:=List.mem_iff_getElem.1 hx
   have e:b6 xs i=xs[i]:=by simp[b6,hi]
   rw[<- e]
   exact ⟨DL hp,V3 hp (h i zo)⟩
  ·exact hmo v hv
 obtain ⟨D,M,h1,h2,h3,h4⟩:=HB.all key
 have hll:(xs.map (i8 p)++more).length<=10:=by rw[List.length_append,List.length_map]; omega
 have hk:=Nat.mul_le_mul_right 17 hll
 have e:∀a,a<n->b6 (xs.map (i8 p)) a∈xs.map (i8 p)++more:=fun a ha=>List.mem_append_left _ (by rw[HY zo]; exact List.mem_map_of_mem (by simp[b6,hl,ha]))
 have d1:=w8 (200000:Int) (M:Int)
 have d2:=I4 (F:=200000) zo zo
 have d3:dl ((100000*(2*M):Nat):Int)<=200:=by
  rw[show ((100000*(2*M):Nat):Int)=200000*(M:Int) by omega]
  omega
 exact ⟨D,M,⟨by rw[List.length_map,hl],fun a ha=>(key _ (e a ha)).1,fun a ha=>h4 _ (e a ha),h1,by omega,Nat.le_trans (K5 (by rw[Int.natAbs_natCast,Int.natAbs_natCast]; omega)) d3⟩,d3,fun v hv=>h4 v (List.mem_append_right _ hv)⟩
end Go.Fl

/- Contracts: a step is a first return. -/
namespace Go.Fl
open Go Go.Proofs
open d5 renaming op->tO
open i6 renaming op->rO
set_option maxRecDepth 100000

theorem F1.dmS {x:n9} (hx:F1 x) (hsm:V8 x) {p:s7} (hp:v7 2 p):∃(D:Int) (M:Nat),v9 x.1.1 D M x.2.1.length (p7 x)/\dl ((100000*(2*M):Nat):Int)<=200/\HB D M (i8 x.1.1 p):=by
 have hpo:=L0 hx.fld
 obtain ⟨D,M,h1,h2,h3⟩:=yV (more:=[i8 x.1.1 p]) hpo hx.len hx.rows.le (fun a _=>hsm.num a) (by show 1<=2; omega) fun v hv=>by
  rw[List.mem_singleton.1 hv]
  exact ⟨DL hpo,V3 hpo hp⟩
 exact ⟨D,M,h1,h2,h3 _ (by simp)⟩
theorem yY {x:n9} (v:i5):r9 x v=1\/r9 x v=-1\/r9 x v=0:=hZ
theorem F1.posL {x:n9} (hx:F1 x):posL (r9 x) x.2.1.length (p7 x):=fun a ha=>by
 rw[show b6 (p7 x) a=i8 x.1.1 (b6 x.2.2.2 a) from HY (by rw[hx.len]; exact ha)]
 exact hx.pos a ha
section
variable {x:n9} {D:Int} {M:Nat} (hx:F1 x) (hlo:v9 x.1.1 D M x.2.1.length (p7 x)) (h2:dl ((100000*(2*M):Nat):Int)<=200) (hir:B3 (oX x)=true) (hz:L7 x 0≠0)
include hx hlo hir in
theorem RF:T6 x.1.1 D M x.2.1.length 1 (y5 x 1).1 (y5 x 1).2:=(LC (sg:=r9 x) (hx.st hlo) hlo hir 1).1
include hx hlo hir in
theorem XU:p7 (r6 x 1)=(y5 x 1).2:=by
 have h:=RF hx hlo hir
 show ((y5 x 1).2.map m8).map (i8 x.1.1)=_
 refine H2 (by rw[List.length_map,List.length_map]) fun i hi=>?_
 rw[List.length_map,List.length_map] at hi
 rw[HY (by rw[List.length_map]; exact hi),CB hi]
 exact K2 (h.red i (by rw[<- h.len]; exact hi))
include hx hlo hir in
theorem XT:(r6 x 1).2.1.length=x.2.1.length:=(RF hx hlo hir).nn
include hx hlo hir h2 in
theorem GN:v9 x.1.1 D (2*M) (r6 x 1).2.1.length (p7 (r6 x 1)):=by
 have h:=RF hx hlo hir
 rw[XU hx hlo hir,XT hx hlo hir]
 exact ⟨h.len,h.red,fun a ha=>h.hb a ha,hlo.pos,hlo.bD,h2⟩
include hx hlo hir hz in
theorem GO:F1 (r6 x 1):=by
 have h:=RF hx hlo hir
 have hl:=XT hx hlo hir
 have hs:=J5.of_chk hx.fld
 have hp:posL (r9 x) x.2.1.length (y5 x 1).2:=vX (sg:=r9 x) hs yY (hx.st hlo) hz hx.posL
 refine ⟨hx.fld,h.rows,?_,fun a ha=>?_,fun a ha=>?_⟩
 ·show ((y5 x 1).2.map m8).length=_
  rw[List.length_map,hl,h.len]
 ·rw[hl] at ha
  show v7 250 (b6 ((y5 x 1).2.map m8) a)
  rw[CB (by rw[h.len]; exact ha)]
  exact (M8 (h.nbd hlo zo ha)).mono zo
 ·rw[hl] at ha
  show 0<r9 x (i8 x.1.1 (b6 ((y5 x 1).2.map m8) a))
  rw[CB (by rw[h.len]; exact ha),K2 (h.red a ha)]
  exact hp a ha
include hx hlo hir h2 hz in
theorem zU:r9 x (j5 (t8 (p7 (r6 x 1)) (r6 x 1).2.1) (t8 (p7 x) x.2.1))<0:=by
 have hl:=hx.rows.len
 have htw:2<=x.2.1.length:=hx.rows.two
 have hy:=GO hx hlo hir hz
 have hly:=GN hx hlo h2 hir
 have hl1:=XT hx hlo hir
 have hlp:(y5 x 1).1.1.length=x.2.1.length:=hl1
 rw[hl1] at hly
 have hps:y5 x 1=(N1 (oX x) (G1 x 0),V1 (oX x) (p7 x) (G1 x 0)):=rfl
 have hs:=J5.of_chk hx.fld
 have hp1:r7 x.2.1 x.2.1.length:=hx.rows.p1
 have hp2:r7 x.2.2.1 x.2.1.length:=hx.rows.p2
 have hq1:r7 (r6 x 1).2.1 x.2.1.length:=by rw[<- hl1]; exact hy.rows.p1
 have hq2:r7 (r6 x 1).2.2.1 x.2.1.length:=by rw[<- hl1]; exact hy.rows.p2
 have hpos:∀a,a<x.2.1.length->0<r9 x (b6 (p7 x) a):=hx.posL
 have hne:=UX hx.rows hir
 have hne:g7 x.2.1≠g7 x.2.2.1:=hne
 have g:=XU hx hlo hir
 unfold t8
 rw[hl1]
 have hc:G1 x 0=0\/G1 x 0=1:=PP
 rcases hc with c | c
 ·have e1:(r6 x 1).2.1=x.2.1:=by show (y5 x 1).1.1=_; rw[hps,c]; rfl
  have e2:(r6 x 1).2.2.1=u4 x.2.2.1 (g7 x.2.1):=by show (y5 x 1).1.2=_; rw[hps,c]; rfl
  have e3:p7 (r6 x 1)=stW (p7 x) (g7 x.2.1) (g7 x.2.2.1):=by rw[g,hps,c]; rfl
  obtain ⟨j,hj,hjw⟩:=JU hp2 (P6 hp1 zo) hne
  have:=gP hs hlo hp2 hp1 hpos zo hj hjw
  rw[DM hly hq1 hq2,DM hlo hp1 hp2,e2,e3]
  exact this
 ·have e1:(r6 x 1).2.1=u4 x.2.1 (g7 x.2.2.1):=by show (y5 x 1).1.1=_; rw[hps,c]; rfl
  have e3:p7 (r6 x 1)=stW (p7 x) (g7 x.2.2.1) (g7 x.2.1):=by rw[g,hps,c]; rfl
  obtain ⟨j,hj,hjw⟩:=JU hp1 (P6 hp2 zo) (Ne.symm hne)
  have:=gP hs hlo hp1 hp2 hpos zo hj hjw
  rw[e1,e3]
  exact this
include hx hlo hir h2 hz in
theorem zS {pv:i5} (hv:n8 x.1.1 pv) (h0:0<=r9 x pv) (h1:r9 x (j5 pv (t8 (p7 (r6 x 1)) (r6 x 1).2.1))<0):RI (r9 x) (oX x) (oX (r6 x 1)) (p7 x) (p7 (r6 x 1)) pv:=by
 have htw:2<=x.2.1.length:=hx.rows.two
 have hl:x.2.2.1.length=x.2.1.length:=hx.rows.len
 have hex:=hx.ex hlo
 have hex':=(GO hx hlo hir hz).ex (GN hx hlo h2 hir)
 have hps:y5 x 1=(N1 (oX x) (G1 x 0),V1 (oX x) (p7 x) (G1 x 0)):=rfl
 have hp1:r7 x.2.1 x.2.1.length:=hx.rows.p1
 have hp2:r7 x.2.2.1 x.2.1.length:=hx.rows.p2
 have hne:g7 x.2.1≠g7 x.2.2.1:=UX hx.rows hir
 have g:=XU hx hlo hir
 have hc:G1 x 0=0\/G1 x 0=1:=PP
 rcases hc with c | c
 ·have e2:oX (r6 x 1)=(x.2.1,u4 x.2.2.1 (g7 x.2.1)):=by show (y5 x 1).1=_; rw[hps,c]; rfl
  have e1:(r6 x 1).2.1=x.2.1:=by show (oX (r6 x 1)).1=_; rw[e2]
  have e3:p7 (r6 x 1)=stW (p7 x) (g7 x.2.1) (g7 x.2.2.1):=by rw[g,hps,c]; rfl
  obtain ⟨j,hj,hjw⟩:=JU hp2 (P6 hp1 zo) hne
  rw[e3,e1] at h1
  rw[e2,e3] at hex' ⊢
  exact rY hex hex' hj hjw hv h0 h1
 ·have e2:oX (r6 x 1)=(u4 x.2.1 (g7 x.2.2.1),x.2.2.1):=by show (y5 x 1).1=_; rw[hps,c]; rfl
  have e1:(r6 x 1).2.1=u4 x.2.1 (g7 x.2.2.1):=by show (oX (r6 x 1)).1=_; rw[e2]
  have e3:p7 (r6 x 1)=stW (p7 x) (g7 x.2.2.1) (g7 x.2.1):=by rw[g,hps,c]; rfl
  obtain ⟨j,hj,hjw⟩:=JU hp1 (P6 hp2 zo) (Ne.symm hne)
  rw[e3,e1] at h1
  rw[e2,e3] at hex' ⊢
  exact rZ hex hex' hj hjw hv h0 h1
end
noncomputable def Q6 (x:n9):s7:=m8 (t8 (p7 (r6 x 1)) (r6 x 1).2.1)
noncomputable def X0 (x:n9) (p:s7):Bool:=decide (0<=r9 x (i8 x.1.1 p))&&decide (r9 x (j5 (i8 x.1.1 p) (t8 (p7 (r6 x 1)) (r6 x 1).2.1))<0)
noncomputable def CW (x:n9) (p:s7):s7:=if X0 x p=true then m8 (E4 (oX (r6 x 1)) (p7 (r6 x 1)) (i8 x.1.1 p) (B8 (r9 x) (oX (r6 x 1)) (p7 (r6 x 1)) (i8 x.1.1 p))) else ([],[])
noncomputable def UJ (x:n9) (p:s7):Int:=if X0 x p=true then B8 (r9 x) (oX (r6 x 1)) (p7 (r6 x 1)) (i8 x.1.1 p) else 0
noncomputable def Z7 (x:n9) (p:s7):Int:=if X0 x p=true then 0 else 2
noncomputable def HO (x:n9) (p:s7):Int:=if X0 x p=true then (AC x p (Q6 x):Int) else 0
section
variable {x:n9} {D:Int} {M:Nat} {p:s7} (hx:F1 x) (hlo:v9 x.1.1 D M x.2.1.length (p7 x)) (h2:dl ((100000*(2*M):Nat):Int)<=200) (hir:B3 (oX x)=true) (hz:L7 x 0≠0)
include hx hlo h2 hir hz
theorem XV:n8 x.1.1 (t8 (p7 (r6 x 1)) (r6 x 1).2.1)/\E5 200 (t8 (p7 (r6 x 1)) (r6 x 1).2.1):=by
 have hy:=GO hx hlo hir hz
 have hly:=GN hx hlo h2 hir
 have h:=U8 (L0 hx.fld) hly hy.rows.p1 (r6 x 1).2.1.length (Nat.le_refl _)
 have h8:(r6 x 1).2.1.length<=8:=hy.rows.le
 exact ⟨h.1,hly.nbd h.2 zo⟩
theorem zT:IP x p (Q6 x)=X0 x p:=by
 obtain ⟨r1,_⟩:=XV hx hlo h2 hir hz
 have hy:=GO hx hlo hir hz
 have hly:=GN hx hlo h2 hir
 have e:i8 x.1.1 (Q6 x)=t8 (p7 (r6 x 1)) (r6 x 1).2.1:=K2 r1
 have htt:=zU hx hlo h2 hir hz
 have htw:2<=(r6 x 1).2.1.length:=hy.rows.two
 have hpos:=LF (J5.of_chk hx.fld) hly hy.rows.p1 (hy.ex hly).pos (i:=0) (j:=(r6 x 1).2.1.length) zo (Nat.le_refl _)
 have hpos:0<r9 x (j5 (t8 (p7 (r6 x 1)) (r6 x 1).2.1) (u9 0)):=hpos
 rw[yN r1] at hpos
 unfold IP X0
 rw[e,decide_eq_false (by omega:¬r9 x (t8 (p7 (r6 x 1)) (r6 x 1).2.1)<=0),decide_eq_false (by omega:¬0<r9 x (j5 (t8 (p7 (r6 x 1)) (r6 x 1).2.1) (t8 (p7 x) x.2.1)))]
 simp
theorem kH (hb:X0 x p=true):(AC x p (Q6 x)=1\/AC x p (Q6 x)=2)/\IR x p (Q6 x)=CW x p:=by
 obtain ⟨r1,_⟩:=XV hx hlo h2 hir hz
 have hy:=GO hx hlo hir hz
 have hly:=GN hx hlo h2 hir
 have e:i8 x.1.1 (Q6 x)=t8 (p7 (r6 x 1)) (r6 x 1).2.1:=K2 r1
 have hv:=DL (x:=p) (L0 hx.fld)
 have hb':=hb
 unfold X0 at hb'
 rw[Bool.and_eq_true,decide_eq_true_eq,decide_eq_true_eq] at hb'
 have e2:CW x p=m8 (E4 (oX (r6 x 1)) (p7 (r6 x 1)) (i8 x.1.1 p) (B8 (r9 x) (oX (r6 x 1)) (p7 (r6 x 1)) (i8 x.1.1 p))):=if_pos hb
 rcases zS hx hlo h2 hir hz hv hb'.1 hb'.2 with ⟨a,b⟩ | ⟨a,b⟩
 ·have:=WT (x:=x) (p:=p) (l:=Q6 x) (k:=0) rfl (by rw[e]; exact a) zo
  exact ⟨.inl this.1,by rw[this.2,e2,b]; rfl⟩
 ·have hno:=gQ (x:=x) (p:=p) (l:=Q6 x) (k:=0) rfl (by rw[e]; exact a)
  have him:=((hy.ex hly).img hv hb'.1 hb'.2).2.2.1
  have te:t8 (p7 (r6 x 1)) (oX (r6 x 1)).2=t8 (p7 (r6 x 1)) (r6 x 1).2.1:=by
   have hq2:r7 (r6 x 1).2.2.1 (r6 x 1).2.1.length:=hy.rows.p2
   show t8 _ (r6 x 1).2.2.1=_
   unfold t8
   rw[hq2.2.2]
   exact (DM hly hy.rows.p1 hy.rows.p2).symm
  rw[te] at him
  have him:r9 x (j5 (E4 (oX (r6 x 1)) (p7 (r6 x 1)) (i8 x.1.1 p) (B8 (r9 x) (oX (r6 x 1)) (p7 (r6 x 1)) (i8 x.1.1 p))) (t8 (p7 (r6 x 1)) (r6 x 1).2.1))<0:=him
  rw[b] at him
  have:=WT (x:=x) (p:=p) (l:=Q6 x) (k:=1) hno (by rw[e]; exact him) zo
  exact ⟨.inr this.1,by rw[this.2,e2,b]; rfl⟩
theorem nY (hp:v7 2 p):Ct Tryz.prog 15 [b7 eX (r6 x 1),b7 j2 p] (y4 [b7 j2 (CW x p),kI (UJ x p),kI (Z7 x p)]):=by
 have hy:=GO hx hlo hir hz
 have hly:=GN hx hlo h2 hir
 by_cases c:X0 x p=true
 ·have hi:=c
  unfold X0 at hi
  rw[Bool.and_eq_true,decide_eq_true_eq,decide_eq_true_eq] at hi
  unfold CW UJ Z7
  rw[if_pos c,if_pos c,if_pos c]
  exact pG (r6 x 1) (I9 x.1) (r9 x) D (2*M) p (ST _ hx.fld) (L0 hx.fld) (IW hx.fld) hy.rows hy.len (fun a h=>(hy.num a h).mono zo) hly hy.pos (hp.mono zo) hi
 ·unfold CW UJ Z7
  rw[if_neg c,if_neg c,if_neg c]
  exact pH (r6 x 1) D (2*M) p hy hly (hp.mono zo) (Bool.eq_false_iff.2 c)
theorem nZ (hp:v7 2 p) (hb:HB D M (i8 x.1.1 p)):Ct Tryz.prog 29 [b7 eX x,b7 j2 p,b7 j2 (Q6 x)] (y4 [b7 j2 (CW x p),kI (HO x p),kI (Z7 x p)]):=by
 obtain ⟨_,r2⟩:=XV hx hlo h2 hir hz
 have hln:v7 250 (Q6 x):=(M8 r2).mono zo
 have hrg:=zT (p:=p) hx hlo h2 hir hz
 by_cases c:X0 x p=true
 ·obtain ⟨k,n⟩:=kH hx hlo h2 hir hz c
  have:=pI x D M p (Q6 x) hx hlo (hp.mono zo) hln hb (by rw[hrg,c])
  rw[n,if_neg (show ¬AC x p (Q6 x)=0 by omega)] at this
  unfold HO Z7
  rw[if_pos c,if_pos c]
  exact this
 ·have:=pJ x D M p (Q6 x) hx hlo (hp.mono zo) hln (by rw[hrg]; exact Bool.eq_false_iff.2 c)
  unfold CW HO Z7
  rw[if_neg c,if_neg c,if_neg c]
  exact this
theorem oA:Ct Tryz.prog 37 [b7 eX (r6 x 1)] (y4 [b7 j2 (Q6 x),kI 0]):=pL (r6 x 1) D (2*M) (GO hx hlo hir hz) (GN hx hlo h2 hir)
end
theorem lF {a b:Bool} (h:(!a||!b)=false):a=true/\b=true:=by cases a<;>cases b<;>simp_all
theorem vM {x:n9} (h:C7 x 1=0):O8 x=0/\L7 x 0≠0/\AD x=r6 x 1:=by
 by_cases c:O8 x=0
 ·rcases yH c with ⟨_,e,_⟩ | ⟨z,_,e,_⟩
  ·omega
  ·exact ⟨c,z,e⟩
 ·rw[vO c] at h; exact absurd h c
set_option maxHeartbeats 1000000 in
theorem mN (x:n9) (p:s7) (hxn:∀a,V7 (b6 x.2.2.2 a)) (hpi:V7 p):Ct Tryz.prog 11 [b7 eX x,b7 j2 p] (kB true):=by
 refine Ct.mk Tryz.func11 rfl Tryz.ntmps11 rfl (fun w J=>?_); refine i2 ?_; refine jb 2 rfl ?_; refine jb 3 rfl ?_; refine o0 ?_; refine Tr.frzB 2 [2] eX (x:=x) ⟨rfl,trivial⟩ rfl ?_; refine Tr.frzB 3 [3] j2 (x:=p) ⟨rfl,trivial⟩ rfl ?_; refine jn ?_; refine i9 ?_; refine jc oD ?_; refine j9 ?_; refine Tr.cnd rfl ?_ ?_
 ·intro h1
  exact absurd h1 (by decide)
 ·intro h1
  refine n7 ?_; refine jc (pK x) ?_; refine j9 ?_; refine d5.gd rfl rfl rfl (j7 (fun hp=>ZP p 2) (.a rfl id<|.a rfl uu<|.nil)) rfl rfl ?_; refine i4 ?_; refine Tr.cnd rfl ?_ ?_
  ·intro h3
   refine l5 ?_
   exact d9.res1 (fn:=Tryz.f11) rfl (.b rfl zi<|.nil)
  ·intro h3
   obtain ⟨hs1,hs2⟩:=lF h3
   have hsm:=yE hs1 hxn
   have hp2:=iC hs2 hpi
   refine o0 ?_; refine jc (bB x hsm) ?_; refine i4 ?_; refine ja 5 ?_; refine z5 ?_; refine jq ?_ ?_
   ·intro h6
    refine l5 ?_
    exact d9.res1 (fn:=Tryz.f11) rfl (.b rfl zi<|.nil)
   ·intro h6
    replace h6:=Classical.not_not.1 h6
    obtain ⟨hz,hpz,hse⟩:=vM (by omega:C7 x 1=0)
    obtain ⟨hx,hir⟩:=wJ hz hsm
    obtain ⟨D,M,hlo,hM2,hb⟩:=hx.dmS hsm hp2
    have hta:=oA hx hlo hM2 hir hpz
    have hap:=nY (p:=p) hx hlo hM2 hir hpz hp2
    have hre:=nZ (p:=p) hx hlo hM2 hir hpz hp2 hb
    have hkk:=fun h=>(kH (p:=p) hx hlo hM2 hir hpz h).1
    rw[<- hse] at hta hap
    refine o0 ?_; refine jc hta ?_; refine j9 ?_; refine ja 8 ?_; refine l6 ?_; refine jc hap ?_; refine i4 ?_; refine ja 10 ?_; refine v6 ?_; refine jc hre ?_; refine i4 ?_; refine ja 13 ?_; refine z5 ?_; refine Tr.cnd rfl ?_ ?_
    ·intro h11
     exact absurd h11 (by decide)
    ·intro h11
     refine o9 ?_; refine jq ?_ ?_
     ·intro h13
      have hib:X0 x p=false:=Bool.eq_false_iff.2 fun c=>by unfold Z7 at h13; rw[if_pos c] at h13; exact h13 rfl
      have hie:Z7 x p=2:=by unfold Z7; rw[if_neg (by rw[hib]; decide)]
      refine D3 ?_; exact d9.res1 (fn:=Tryz.f11) rfl (.b rfl (by rw[hie]; rfl)<|.nil)
     ·intro h13
      replace h13:=Classical.not_not.1 h13
      have hib:X0 x p=true:=Classical.byContradiction fun c=>by unfold Z7 at h13; rw[if_neg c] at h13; exact absurd h13 (by decide)
      have hie:Z7 x p=0:=by unfold Z7; rw[if_pos hib]
      have hik:HO x p=1\/HO x p=2:=by unfold HO; rw[if_pos hib]; rcases hkk hib with h | h<;>rw[h]<;>simp
      refine o9 ?_; refine d5.gd rfl rfl rfl (j7 (fun hp=>ZO (CW x p) (CW x p)) (.s rfl id rfl<|.s rfl id rfl<|.nil)) rfl rfl ?_; refine D3 ?_; exact d9.res1 (fn:=Tryz.f11) rfl (.b rfl (by rw[hie]; rcases hik with h | h<;>rw[h]<;>simp)<|.nil)

end Go.Fl
