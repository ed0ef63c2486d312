/- Laws on walking typed knowledge through code, and contracts. -/
import Derived.Test.YthfaleobmefibaaGreatM3
import Derived.RangeFuncBox
import Derived.WalkKit
import Derived.TacticsInMore
import Derived.LoopNIn
import Derived.LoopIn

/- Contracts: numbers of a field (reduction modulo its polynomial, sums, negatives). -/
namespace Go.Fl
open Go Go.Proofs
open d5 renaming op->tO
open i6 renaming op->rO
set_option maxRecDepth 100000

abbrev y9:=y8×List Int×List Int×Int×Int×Int
abbrev s7:=List (List Int)×List Int
def y1:i7 y9:=eC (fun v:y9=>(v.1,v.2.1,v.2.2.1,v.2.2.2.1,v.2.2.2.2.1,v.2.2.2.2.2,())) (eP D1 (eP (eL eZ) (eP (eL eZ) (eP eZ (eP eZ (eP eZ eU))))))
instance {v:y9}:F3 (b7 y1 v) [b7 (eL eI) (v.1.1),kI (v.1.2.1),kI (v.1.2.2.1),kI (v.1.2.2.2),b7 (eL eZ) (v.2.1),b7 (eL eZ) (v.2.2.1),kB (decide (v.2.2.2.1<0)),b7 (eL eI) (d6 (v.2.2.2.1).natAbs),kB (decide (v.2.2.2.2.1<0)),b7 (eL eI) (d6 (v.2.2.2.2.1).natAbs),kB (decide (v.2.2.2.2.2<0)),b7 (eL eI) (d6 (v.2.2.2.2.2).natAbs)]:=inferInstanceAs (F3 (b7 (eC (fun v:y9=>(v.1,v.2.1,v.2.2.1,v.2.2.2.1,v.2.2.2.2.1,v.2.2.2.2.2,())) (eP D1 (eP (eL eZ) (eP (eL eZ) (eP eZ (eP eZ (eP eZ eU))))))) v) _)
instance {v:y9}:P3 y1 v (b7 y1 v):=⟨fun h=>h⟩
instance {v:y9}:u6 y1 v 0 D1 (v.1) 0:=inferInstanceAs (u6 (eC (fun v:y9=>(v.1,v.2.1,v.2.2.1,v.2.2.2.1,v.2.2.2.2.1,v.2.2.2.2.2,())) (eP D1 (eP (eL eZ) (eP (eL eZ) (eP eZ (eP eZ (eP eZ eU))))))) v 0 _ _ _)
instance {v:y9}:u6 y1 v 1 (eL eZ) (v.2.1) 4:=inferInstanceAs (u6 (eC (fun v:y9=>(v.1,v.2.1,v.2.2.1,v.2.2.2.1,v.2.2.2.2.1,v.2.2.2.2.2,())) (eP D1 (eP (eL eZ) (eP (eL eZ) (eP eZ (eP eZ (eP eZ eU))))))) v 1 _ _ _)
instance {ks r:List b8} {f:y8} {p t:List Int} {a b c:Int} [h:v5 ks (eP D1 (eP (eL eZ) (eP (eL eZ) (eP eZ (eP eZ (eP eZ eU)))))) (f,p,t,a,b,c,()) r]:v5 ks y1 ((f,p,t,a,b,c)) r:=⟨fun h'=>h.imp h'⟩
def j2:i7 s7:=eC (fun v:s7=>(v.1,v.2,())) (eP (eL (eL eI)) (eP (eL eI) eU))
instance {v:s7}:F3 (b7 j2 v) [b7 (eL (eL eI)) (v.1),b7 (eL eI) (v.2)]:=inferInstanceAs (F3 (b7 (eC (fun v:s7=>(v.1,v.2,())) (eP (eL (eL eI)) (eP (eL eI) eU))) v) _)
instance {v:s7}:P3 j2 v (b7 j2 v):=⟨fun h=>h⟩
instance {v:s7}:u6 j2 v 0 (eL (eL eI)) (v.1) 0:=inferInstanceAs (u6 (eC (fun v:s7=>(v.1,v.2,())) (eP (eL (eL eI)) (eP (eL eI) eU))) v 0 _ _ _)
instance {v:s7}:u6 j2 v 1 (eL eI) (v.2) 1:=inferInstanceAs (u6 (eC (fun v:s7=>(v.1,v.2,())) (eP (eL (eL eI)) (eP (eL eI) eU))) v 1 _ _ _)
instance {ks r:List b8} {a:List (List Int)} {b:List Int} [h:v5 ks (eP (eL (eL eI)) (eP (eL eI) eU)) (a,b,()) r]:v5 ks j2 ((a,b)) r:=⟨fun h'=>h.imp h'⟩
instance:YD Tryz.prog 112:=⟨⟨_,Tryz.underlying112⟩⟩
theorem SR (r:y9) (hn:2<=r.2.1.length/\r.2.1.length<=5):Ct Tryz.prog 160 [r5 y1 r] (kI ((r.2.1.length:Int)-1)):=by
 refine Ct.mk Tryz.func160 rfl Tryz.ntmps160 rfl (fun w J=>?_); refine l6 ?_; refine tO (G7 rfl uu) rfl rfl ?_; refine l6 ?_
 exact d9.res1 (fn:=Tryz.f160) rfl (.i rfl zi<|.nil)

theorem mY (p:List Int) (hn:p.length<=1000000):R5 Tryz.prog 196 [b7 (eL eZ) p] (fun t=>q8 t p.length) (m9 false 160 eZ p p.length):=by
 refine R5.mk Tryz.func196 rfl Tryz.ntmps196 rfl (fun w J=>?_); refine o9 ?_; refine tO (LB rfl uu) rfl rfl ?_; refine i2 ?_; refine Tr.exB (s:=4) rfl (fun b1 q1=>?_); refine Tr.cnd rfl ?_ ?_
 ·intro h1
  have he1:[]=p:=(q1 h1).symm
  have he2:0=p.length:=by rw[<- he1]; rfl
  refine o0 ?_; refine Tr.grow (s:=2) rfl rfl 9 rfl 160 eZ rfl ?_; refine i2 ?_
  exact d9.resN (fn:=Tryz.f196) (u:=9) rfl rfl (FK zi zi) (FY zi) inferInstance
 ·intro h1
  refine i4 ?_; refine d5.new (FU eZ 5) rfl rfl rfl rfl ?_; refine i2 ?_; refine jl ?_; refine i4 ?_
  exact d9.resN (fn:=Tryz.f196) (u:=5) rfl rfl (FK zi zi) (FY zi) inferInstance

set_option maxHeartbeats 1000000 in
theorem aV (r:y9) (xs:List Int) (d:Int) (B:Nat) (hn:2<=r.2.1.length/\r.2.1.length<=5) (hL:xs.length<=16) (hc:∀i,dl (b6 xs i)<=B) (hpp:∀i,dl (b6 r.2.1 i)<=1) (hB:B<=600000) (hd:dl d<=700000) (h0:d≠0):Ct Tryz.prog 169 [r5 y1 r,b7 (eL eZ) xs,b7 eW (wh d)] (b7 I5 (loN (U7 r.2.1 xs) d)):=by
 obtain ⟨n,hn1⟩:∃n,r.2.1.length=n+1:=⟨r.2.1.length-1,by omega⟩
 have hn2:r.2.1.length-1=n:=by omega
 refine Ct.mk Tryz.func169 rfl Tryz.ntmps169 rfl (fun w J=>?_); refine i2 ?_; refine jb 5 rfl ?_; refine ja 6 ?_; refine o0 ?_; refine jc (SR r hn) ?_; refine n7 ?_; refine d5.new (DD 15 (fun hp=>mY _ zo) (.a rfl uu<|.nil)) rfl rfl rfl rfl ?_; refine l5 ?_; refine tO (Z9 rfl uu) rfl rfl ?_; refine i4 ?_
 refine Tr.for1 (σ:=List Int×Nat) [⟨0,true,_,_⟩,⟨1,true,_,_⟩,⟨5,true,_,_⟩,⟨6,true,_,_⟩,⟨7,true,_,_⟩] [⟨5,_,_⟩,⟨6,_,_⟩] (fun (ys,m)=>[⟨8,true,[],kI ((m:Int)-1)⟩]) (fun (ys,m)=>[⟨15,[],m9 false 160 eZ ys xs.length⟩]) (fun (ys,m)=>ys.length=xs.length/\m<=xs.length/\red r.2.1 (ys.take m)=red r.2.1 xs/\(∀j,dl (b6 ys j)<=B+2*(xs.length-m))/\(n<=m\/m=xs.length)) (fun (ys,m)=>ys.length=xs.length/\m=min n xs.length/\red r.2.1 (ys.take m)=red r.2.1 xs/\(∀j,dl (b6 ys j)<=B+2*(xs.length-m))) (fun (ys,m)=>m) ((xs,xs.length)) ⟨rfl,Nat.le_refl _,by rw[List.take_length],fun j=>by have:=hc j; omega,.inr rfl⟩ (d7.mk (.i rfl zi<|zk) (zk) rfl) ?_ ?_
 ·rintro ⟨ys,m⟩ ⟨hl,hm,hr,hy,hnm⟩
  refine jn ?_; refine l6 ?_; refine jq ?_ ?_
  ·intro h4
   refine v6 ?_
   refine Tr.for1 (σ:=Nat) [⟨0,true,_,_⟩,⟨1,true,_,_⟩,⟨5,true,_,_⟩,⟨6,true,_,_⟩,⟨7,true,_,_⟩,⟨8,true,_,_⟩,⟨24,true,_,_⟩] [⟨5,_,_⟩,⟨6,_,_⟩] (fun k=>[⟨25,true,[],kI (k:Int)⟩]) (fun k=>[⟨15,[],m9 false 160 eZ (P0 r.2.1 ys n (m-1) k) xs.length⟩]) (fun k=>k<=n) (fun k=>k=n) (fun k=>n-k) (0) zi (d7.mk (.i rfl zi<|zk) (.a yK zi<|zk) rfl) ?_ ?_
   ·intro k hR1
    refine jn ?_
    have hix:((m:Int)-1-((r.2.1.length:Int)-1)+(k:Int)).toNat=m-1-n+k:=by omega
    have hiy:((m:Int)-1).toNat=m-1:=by omega
    have hsd:=iH (p:=r.2.1) (ys:=ys) (n:=n) (i:=m-1) (k:=k) zo zo hy hpp
    have hsl:(P0 r.2.1 ys n (m-1) k).length=ys.length:=QN
    refine n7 ?_; refine jq ?_ ?_
    ·intro h7
     refine v6 ?_; refine Tr.draw 28 q9 (by kernel_rfl) ?_; refine D3 ?_; refine rO (CG rfl uu rfl rfl rfl rfl) rfl rfl ?_; refine j9 ?_; refine rO (CG rfl uu rfl rfl rfl rfl) rfl rfl ?_; refine i9 ?_; refine rO (G7 rfl uu) rfl rfl ?_; refine o0 ?_; refine rO (j7 (fun hp=>J7 _ _ (Nat.le_trans (hsd _) zo) (Nat.le_trans (hpp _) zo)) (.a rfl uu<|.a rfl uu<|.nil)) rfl rfl ?_; refine rO (j7 (fun hp=>CS _) (.a rfl uu<|.nil)) rfl rfl ?_; refine rO (j7 (fun hp=>T7 _ _ (Nat.le_trans (hsd _) zo) (by rw[K6]; exact Nat.le_trans (w8 _ _) (Nat.le_trans (Nat.add_le_add (hsd _) (hpp _)) zo))) (.a rfl uu<|.a rfl uu<|.nil)) rfl rfl ?_
     refine v6 ?_
     exact g8.lp (k+1) zi zo (d7.mk (.i rfl zi<|zk) (.a (by rw[hix,hiy,iI zo zo,iI zo zo]; exact yI zo zo zo) zi<|zk) rfl)
    ·intro h7
     replace h7:=Int.not_lt.1 h7
     refine i4 ?_
     exact g8.cut (k) zo (d7.mk (.i rfl zi<|zk) (zk) rfl)
   ·rintro k hkn
    refine je ?_; refine l5 ?_
    exact g8.lp ((P0 r.2.1 ys n (m-1) n,m-1)) ⟨QN.trans hl,by omega,(wN hn2 zo zo).trans hr,fun j=>by have:=iH (p:=r.2.1) (n:=n) (i:=m-1) (k:=n) zo zo hy hpp j; omega,.inl zo⟩ (by show m-1<m; omega) (d7.mk (.i rfl zi<|zk) (.a (by rw[hkn]) zi<|zk) rfl)
  ·intro h4
   replace h4:=Int.not_le.1 h4
   refine i4 ?_
   exact g8.cut ((ys,m)) ⟨hl,by omega,hr,hy⟩ (d7.mk (.i rfl zi<|zk) (zk) rfl)
 ·rintro ⟨ys,m⟩ ⟨hl,hm,hr,hy⟩
  refine je ?_
  obtain ⟨X,hX⟩:∃X,X=(if (ys.length:Int)<(r.2.1.length:Int)-1 then (ys.length:Int) else (r.2.1.length:Int)-1).toNat:=⟨_,rfl⟩
  have hXm:X=m:=by split at hX<;>omega
  have W9:∀i,i<4->b6 (red r.2.1 xs) i=(if i<m then b6 ys i else 0)/\dl (b6 (red r.2.1 xs) i)<=B+2*(xs.length-m):=fun i _=>qC hn2 zo zo hr hy i
  have hnt:∀i,i<m->b6 (ys.take X) i=b6 ys i:=fun i h=>K9 zo
  have hpd:∀i,i<4->(if i<m then b6 (ys.take X) i else 0)=b6 (red r.2.1 xs) i:=fun i h=>by rw[(W9 i h).1]; split; (rename_i h2; exact hnt i h2); rfl
  have hdp:∀i,i<4->dl (if i<m then b6 (ys.take X) i else 0)<=700000:=fun i h=>by rw[hpd i h]; have:=(W9 i h).2; omega
  refine j9 ?_; refine ja 10 ?_; refine j9 ?_; refine Tr.conC 10 (ct':=j3 (wC (fun _=>0) 0 4++[kB (decide ((0:Int)<0)),b7 (eL eI) (d6 ((0:Int)).natAbs)])) (jU (r':=[kB (decide ((0:Int)<0)),b7 (eL eI) (d6 ((0:Int)).natAbs)]) fun _ _ h=>by obtain ⟨u,v,rfl,h1,h2⟩:=lB h; cases h1; cases h2; exact ⟨rfl,⟨_,V0 (c:=0),rfl⟩,trivial⟩) rfl ?_; refine Tr.frz 15 [1] ⟨rfl,trivial⟩ (by simp only[t6]; omega) rfl ?_; refine jn ?_; refine Tr.draw 9 q9 (by kernel_rfl) ?_; refine i2 ?_; refine rO (uZ rfl uu rfl uu (fun _=>zo)) rfl rfl ?_
  refine i4 ?_; refine rO (fH rfl uu rfl uu) rfl rfl ?_; refine rO (FX rfl uu rfl uu (fun _=>zo)) rfl rfl ?_; refine i9 ?_; refine d5.cpW (m) rfl rfl (by rw[List.length_take]; split<;>omega) zo rfl rfl ?_; refine AU ?_; refine Tr.cnd rfl ?_ ?_
  ·intro h14
   try simp only[decide_eq_true_eq] at h14
   refine j9 ?_; refine jc (CS d) ?_; refine o9 ?_
   refine Tr.for1 (σ:=Nat) [⟨6,true,_,_⟩,⟨10,true,_,_⟩] [⟨6,_,_⟩] (fun k=>[⟨75,true,[],kI (k:Int)⟩]) (fun k=>[⟨10,[],j3 (wC (fun i=>if i<k then -(if i<m then b6 (ys.take X) i else 0) else (if i<m then b6 (ys.take X) i else 0)) 0 4++[kB (decide (-d<0)),b7 (eL eI) (d6 (-d).natAbs)])⟩]) (fun k=>k<=4) (fun k=>k=4) (fun k=>4-k) (0) zi (d7.mk (.i rfl zi<|zk) (.conv (cW (fun j _=>by subst hX; exact (if_neg (Nat.not_lt_zero _)).symm) rfl) rfl<|zk) rfl) ?_ ?_
   ·intro k hR2
    refine jn ?_; refine n7 ?_; refine jq ?_ ?_
    ·intro h17
     refine B4 ?_; refine tO (CF rfl uu rfl uu (fun _=>zo)) rfl rfl ?_; refine tO (IF (k) (fun _=>zo) (fun _=>zo) rfl uu) rfl rfl ?_; refine tO (j7 (fun hp=>CS _) (.a rfl uu<|.nil)) rfl rfl ?_; refine i9 ?_; refine tO (CF rfl uu rfl uu (fun _=>zo)) rfl rfl ?_; refine d5.stW (k) zo zo rfl rfl rfl ?_; refine l5 ?_
     exact g8.lp (k+1) zi zo (d7.mk (.i rfl zi<|zk) (.conv (cW (fun j _=>jN (F:=fun i=>-(if i<m then b6 (ys.take X) i else 0)) (C:=fun i=>(if i<m then b6 (ys.take X) i else 0)) (by rw[if_neg (Nat.lt_irrefl k)])) rfl) rfl<|zk) rfl)
    ·intro h17
     replace h17:=Int.not_lt.1 h17
     refine i4 ?_
     exact g8.cut (k) zo (d7.mk (.i rfl zi<|zk) (zk) rfl)
   ·rintro _ rfl
    refine je ?_; refine i4 ?_
    refine tO (j7 (fun hp=>SW _ _ (CT fun i hi=>by first | (subst hX; exact hdp i hi) | (rw[if_pos hi,K6]; exact hdp i hi)) (by first | exact hd | (rw[K6]; exact hd)) zo) (.se rfl uu rfl rfl<|.nil)) rfl rfl ?_
    refine i4 ?_; exact d9.resC1 (fn:=Tryz.f169) rfl rfl (u8 rfl (by rw[ED (by rw[CA,t7]),<- sW h0]; refine congrArg (fun l=>loN l (-d)) ?_; simp only[U7,n6,List.map_map]; exact List.map_congr_left fun i hi=>by have hi:=List.mem_range.1 hi; simp only[Function.comp]; rw[if_pos hi,hpd i hi]))
  ·intro h14
   try simp only[decide_eq_false_iff_not,Int.not_lt] at h14
   refine o0 ?_
   refine tO (j7 (fun hp=>SW _ _ (CT fun i hi=>by first | (subst hX; exact hdp i hi) | (rw[if_pos hi,K6]; exact hdp i hi)) (by first | exact hd | (rw[K6]; exact hd)) zo) (.se rfl uu rfl rfl<|.nil)) rfl rfl ?_
   refine i4 ?_; exact d9.resC1 (fn:=Tryz.f169) rfl rfl (u8 rfl (by rw[ED (by rw[CA,t7])]; subst hX; exact congrArg (fun l=>loN l d) (z8 hpd)))

theorem SX (c:List Int) (d:Int):Ct Tryz.prog 141 [b7 I5 (c,d)] (b7 I5 (c.map fun z=>-z,d)):=by
 refine Ct.mk Tryz.func141 rfl Tryz.ntmps141 rfl (fun w J=>?_); refine Tr.fact (s:=0) rfl (fun _ _ h=>NR h) (fun hl=>?_)
 have hl:c.length=4:=hl
 refine i2 ?_; refine jb 1 rfl ?_; refine ja 2 ?_; refine v6 ?_
 refine Tr.for1 (σ:=Nat) [⟨1,true,_,_⟩,⟨2,true,_,_⟩,⟨6,true,_,_⟩] [⟨2,_,_⟩] (fun k=>[⟨7,true,[],kI (k:Int)⟩]) (fun k=>[⟨1,[],j3 (wC (fun i=>if i<k then -b6 c i else b6 c i) 0 4++[kB (decide (d<0)),b7 (eL eI) (d6 (d).natAbs)])⟩]) (fun k=>k<=4) (fun k=>k=4) (fun k=>4-k) (0) zi (d7.mk (.i rfl zi<|zk) (.conv (cW (fun j _=>(if_neg zo).symm) rfl) rfl<|zk) rfl) ?_ ?_
 ·intro k hR0
  refine jn ?_; refine n7 ?_; refine jq ?_ ?_
  ·intro h2
   refine l5 ?_; refine tO (WA rfl uu rfl uu (fun _=>zo)) rfl rfl ?_; refine ja 4 ?_; refine l5 ?_; refine jc (CS (b6 c k)) ?_; refine i9 ?_; refine tO (CF rfl uu rfl uu (fun _=>zo)) rfl rfl ?_; refine d5.stW (k) zo zo rfl rfl rfl ?_; refine l5 ?_
   exact g8.lp (k+1) zi zo (d7.mk (.i rfl zi<|zk) (.conv (cW (fun j _=>jN (F:=fun i=>-b6 c i) (C:=fun i=>b6 c i) rfl) rfl) rfl<|zk) rfl)
  ·intro h2
   replace h2:=Int.not_lt.1 h2
   refine i4 ?_
   exact g8.cut (k) zo (d7.mk (.i rfl zi<|zk) (zk) rfl)
 ·rintro _ rfl
  refine je ?_; refine l6 ?_; exact d9.resC1 (fn:=Tryz.f141) rfl rfl (u8 rfl (by rw[eG hl]; exact Prod.ext (z8 fun i hi=>if_pos hi) rfl))

theorem ND (x y:List Int×Int) (hx:∀i,dl (b6 x.1 i)<=300000) (hy:∀i,dl (b6 y.1 i)<=300000) (hdx:dl x.2<=300000) (hdy:dl y.2<=300000) (hpx:0<x.2) (hpy:0<y.2):Ct Tryz.prog 140 [b7 I5 x,b7 I5 y] (b7 I5 (o5 x y)):=by
 refine Ct.mk Tryz.func140 rfl Tryz.ntmps140 rfl (fun w J=>?_); refine i2 ?_; refine jb 2 rfl ?_; refine jb 3 rfl ?_; refine ja 4 ?_; refine l6 ?_; refine jc (J7 x.2 y.2 zo zo) ?_; refine tO (A4 (fun hp=>.cons rfl rfl rfl<|.nil)) rfl rfl ?_; refine ja 5 ?_; refine o9 ?_
 refine Tr.for1 (σ:=Nat) [⟨2,true,_,_⟩,⟨3,true,_,_⟩,⟨4,true,_,_⟩,⟨5,true,_,_⟩] [⟨2,_,_⟩,⟨3,_,_⟩,⟨4,_,_⟩] (fun k=>[⟨13,true,[],kI (k:Int)⟩]) (fun k=>[⟨5,[],j3 (wC (fun i=>if i<k then b6 x.1 i*y.2+b6 y.1 i*x.2 else 0) 0 4++[kB (decide (x.2*y.2<0)),b7 (eL eI) (d6 (x.2*y.2).natAbs)])⟩]) (fun k=>k<=4) (fun k=>k=4) (fun k=>4-k) (0) zi (d7.mk (.i rfl zi<|zk) (.conv (jU (fun _ _ h=>h)) rfl<|zk) rfl) ?_ ?_
 ·intro k hR0
  refine jn ?_
  have h1:=hx k
  have h2:=hy k
  have h3:=w8 (b6 x.1 k) y.2
  have h4:=w8 (b6 y.1 k) x.2
  refine n7 ?_; refine jq ?_ ?_
  ·intro h3
   refine v6 ?_; refine Tr.draw 17 q9 (by kernel_rfl) ?_; refine j9 ?_; refine rO (CF rfl uu rfl uu (fun _=>zo)) rfl rfl ?_; refine rO (IF (k) (fun _=>zo) (fun _=>zo) rfl uu) rfl rfl ?_; refine i2 ?_; refine jd (J7 (b6 x.1 k) y.2 zo zo) ?_; refine i2 ?_; refine rO (CF rfl uu rfl uu (fun _=>zo)) rfl rfl ?_; refine rO (IF (k) (fun _=>zo) (fun _=>zo) rfl uu) rfl rfl ?_; refine i2 ?_; refine jd (J7 (b6 y.1 k) x.2 zo zo) ?_; refine jd (T7 (b6 x.1 k*y.2) (b6 y.1 k*x.2) zo zo) ?_
   refine i2 ?_; refine tO (CF rfl uu rfl uu (fun _=>zo)) rfl rfl ?_; refine d5.stW (k) zo zo rfl rfl rfl ?_; refine l5 ?_
   exact g8.lp (k+1) zi zo (d7.mk (.i rfl zi<|zk) (.conv (cW (fun j _=>by simp only[BL]; by_cases e:j=k; (rw[if_pos e,if_pos zo,e]); (rw[if_neg e]; by_cases e2:j<k; (rw[if_pos e2,if_pos zo]); (rw[if_neg e2,if_neg zo]))) rfl) rfl<|zk) rfl)
  ·intro h3
   replace h3:=Int.not_lt.1 h3
   refine i4 ?_
   exact g8.cut (k) zo (d7.mk (.i rfl zi<|zk) (zk) rfl)
 ·rintro _ rfl
  refine je ?_; refine i4 ?_; refine tO (j7 (fun hp=>SW _ _ (CT fun i hi=>by rw[if_pos hi]; exact Nat.le_trans (pW hx hy hdx hdy i) zo) (by have:=w8 x.2 y.2; omega) (Int.mul_pos hpx hpy)) (.se rfl uu rfl rfl<|.nil)) rfl rfl ?_; refine i4 ?_; exact d9.resC1 (fn:=Tryz.f140) rfl rfl (u8 rfl (by rw[ED (by rw[CA,t7])]; unfold o5; exact congrArg (fun l=>loN l (x.2*y.2)) (z8 fun i hi=>if_pos hi)))

end Go.Fl

/- Numbers of a field: how they are read and handed back; sizes. No program in sight. -/
namespace Go.Fl
open Go
def T8 (d:List Int):Int:=if val d=0 then 1 else val d
theorem NJ {d:List Int}:T8 d≠0:=by unfold T8; split<;>omega
def i8 (p:List Int) (x:List (List Int)×List Int):List Int×Int:=loN (U7 p (x.1.map val)) (T8 x.2)
def m8 (v:List Int×Int):List (List Int)×List Int:=((l7 v.1).map j6,j6 v.2)
def E8 (p:List Int):Prop:=(2<=p.length/\p.length<=5)/\∀i,dl (b6 p i)<=1
structure v7 (k:Nat) (x:List (List Int)×List Int):Prop where
 len:x.1.length<=6
 c:∀i,A5 (b6 x.1 i)/\(b6 x.1 i).length<=k
 d:A5 x.2/\x.2.length<=k
structure E5 (k:Nat) (v:List Int×Int):Prop where
 c:∀i,dl (b6 v.1 i)<=k
 d:dl v.2<=k
 pos:0<v.2
 len:v.1.length=4
theorem OW {α:Type} [Inhabited α] {i:Nat}:b6 ([]:List α) i=default:=rfl
theorem z6 {α:Type} [Inhabited α] {xs:List α} {i:Nat} (h:xs.length<=i):b6 xs i=default:=by simp[b6,List.getD,List.getElem?_eq_none h]
theorem zH:val []=0:=rfl
theorem OU {xs:List (List Int)} {i:Nat}:b6 (xs.map val) i=val (b6 xs i):=by
 by_cases h:i<xs.length
 ·simp[b6,h]
 ·rw[z6 (by simpa using h),z6 zo]; rfl
theorem yS {xs:List (List Int)}:(n6 xs.length fun i=>val (b6 xs i))=xs.map val:=by
 have h:(xs.map val).length=xs.length:=List.length_map ..
 conv=>rhs; rw[V2 h]
 exact z8 fun i _=>OU.symm
theorem bN {d:List Int} {k:Nat} (h:A5 d) (hl:d.length<=k):dl (T8 d)<=k+3:=by
 unfold T8
 split
 ·have:=TI (n:=1) zo; omega
 ·have:=O1 h; omega
theorem bQ {p:List Int} {n:Nat} (hp:∀i,dl (b6 p i)<=1):∀{f B:Nat} {xs:List Int},(∀i,dl (b6 xs i)<=B)->∀i,dl (b6 (CJ p n f xs) i)<=B+2*f
 | 0,B,xs,h,i=>by
  rw[CJ,KY]
  split
  ·have:=h i; omega
  ·rw[F5.2 rfl]; omega
 | f+1,B,xs,h,i=>by
  rw[CJ]
  split
  ·rw[KY]
   split
   ·have:=h i; omega
   ·rw[F5.2 rfl]; omega
  ·have h1:∀j,dl (b6 (ES p n xs) j)<=B+2:=fun j=>by
    unfold ES
    refine CT (fun q _=>?_) j
    split
    ·rw[Int.sub_eq_add_neg]
     have:=bR (h q) (h (xs.length-1)) (hp (q-(xs.length-1-n)))
     omega
    ·rw[Int.sub_zero]; have:=h q; omega
   have:=bQ (n:=n) hp h1 i (f:=f)
   omega
theorem qB {p xs:List Int} {B:Nat} (hp:∀i,dl (b6 p i)<=1) (h:∀i,dl (b6 xs i)<=B) (i:Nat):dl (b6 (U7 p xs) i)<=B+2*xs.length:=by
 unfold U7
 refine CT (fun j _=>?_) i
 unfold red
 have:=bQ hp h j (n:=p.length-1) (f:=xs.length-(p.length-1))
 omega
theorem tT {a g:Int} (hg:g∣a):(a/g).natAbs<=a.natAbs:=by
 obtain ⟨q,rfl⟩:=hg
 by_cases h:g=0
 ·subst h; simp
 ·rw[Int.mul_ediv_cancel_left _ h,Int.natAbs_mul]
  exact Nat.le_mul_of_pos_left _ zo
theorem bO {a g:Int} (hg:g∣a):dl (a/g)<=dl a:=K5 (tT hg)
theorem OV {xs:List Int} {i:Nat} (h:i<xs.length):b6 xs i∈xs:=by simp[b6,h]
theorem VB {cs:List Int} {d:Int} {k:Nat} (hc:∀i,dl (b6 cs i)<=k) (hd:dl d<=k) (h0:d≠0) (hl:cs.length=4):E5 k (loN cs d):=by
 refine ⟨fun i=>?_,?_,FQ h0,by rw[CA,hl]⟩
 ·by_cases h:i<cs.length
  ·have e:b6 (loN cs d).1 i=b6 cs i/w7 d cs:=by simp[loN,b6,h]
   rw[e]
   exact Nat.le_trans (bO (BI (.inr (OV h)))) (hc i)
  ·rw[z6 (by rw[CA]; omega)]
   show dl 0<=k
   rw[F5.2 rfl]; omega
 ·exact Nat.le_trans (bO (BI (.inl rfl))) hd
theorem V3 {p:List Int} {x:List (List Int)×List Int} {k:Nat} (hp:E8 p) (hx:v7 k x):E5 (k+15) (i8 p x):=by
 refine VB (fun i=>?_) ?_ NJ IJ
 ·have:=qB (xs:=x.1.map val) (B:=k+3) hp.2 (fun j=>by rw[OU]; have:=O1 (hx.c j).1; have:=(hx.c j).2; omega) i
  rw[List.length_map] at this
  have:=hx.len
  omega
 ·have:=bN hx.d.1 hx.d.2; omega
theorem MF {x y:List Int×Int} {j k:Nat} (hx:E5 j x) (hy:E5 k y):E5 (j+k+1) (o5 x y):=by
 refine VB (CT fun i _=>?_) ?_ ?_ t7
 ·have h1:=w8 (b6 x.1 i) y.2
  have h2:=w8 (b6 y.1 i) x.2
  have h3:=T9 (b6 x.1 i*y.2) (b6 y.1 i*x.2)
  have:=hx.c i; have:=hy.c i; have:=hx.d; have:=hy.d
  omega
 ·have:=w8 x.2 y.2; have:=hx.d; have:=hy.d; omega
 ·have:=Int.mul_pos hx.pos hy.pos; omega
theorem VP {x:List Int×Int} {k:Nat} (hx:E5 k x):E5 k (x.1.map fun z=>-z,x.2):=by
 refine ⟨fun i=>?_,hx.d,hx.pos,by simp[hx.len]⟩
 rw[eG hx.len]
 exact CT (fun j _=>by rw[K6]; exact hx.c j) i
def N2 (c:List Int):Bool:=!(((n6 4 (b6 c)).take 4).drop 1).any fun z=>decide (u5 z 0≠0)
theorem IL {c:List Int} (h:∀i,1<=i->i<4->b6 c i=0):N2 c=true:=by
 have e:n6 4 (b6 c)=[b6 c 0,b6 c 1,b6 c 2,b6 c 3]:=rfl
 unfold N2
 rw[e,h 1 zo zo,h 2 zo zo,h 3 zo zo]
 rfl
theorem LG {c:List Int}:N2 c=true↔∀i,1<=i->i<4->b6 c i=0:=by
 refine ⟨fun h=>?_,IL⟩
 have e:n6 4 (b6 c)=[b6 c 0,b6 c 1,b6 c 2,b6 c 3]:=rfl
 unfold N2 at h
 rw[e] at h
 simp only[List.take_succ_cons,List.take_zero,List.drop_succ_cons,List.drop_zero,List.any_cons,List.any_nil,Bool.or_false,Bool.not_eq_true',Bool.or_eq_false_iff,decide_eq_false_iff_not,Classical.not_not,ne_eq] at h
 intro i h1 h2
 obtain ⟨q1,q2,q3⟩:=h
 rcases (show i=1\/i=2\/i=3 by omega) with rfl | rfl | rfl
 ·exact W0.1 q1
 ·exact W0.1 q2
 ·exact W0.1 q3
theorem VU {cs:List Int} {d:Int} {i:Nat} (h:i<cs.length):b6 (loN cs d).1 i=b6 cs i/w7 d cs:=by simp[loN,b6,h]
theorem fY {x y:List Int×Int} (hx:N2 x.1=true) (hy:N2 y.1=true):N2 (o5 x y).1=true:=by
 refine IL fun i h1 h2=>?_
 unfold o5
 rw[VU (by rw[t7]; exact h2),s8 h2,LG.1 hx i h1 h2,LG.1 hy i h1 h2]
 simp
theorem fZ {c:List Int} (h:N2 c=true):N2 (c.map fun z=>-z)=true:=by
 refine IL fun i h1 h2=>?_
 by_cases hl:i<c.length
 ·simp only[b6,List.getD,List.getElem?_map,List.getElem?_eq_getElem hl,Option.map_some,Option.getD_some]
  have:=LG.1 h i h1 h2
  simp only[b6,List.getD,List.getElem?_eq_getElem hl,Option.getD_some] at this
  omega
 ·rw[z6 (by rw[List.length_map]; omega)]; rfl
theorem rH {c:List Int} {d:Int} {n:Nat} (h:l7 c=c.take n):(n6 n (fun i=>j6 (b6 c i)),j6 d)=m8 (c,d)\/c.length<n:=by
 by_cases hn:n<=c.length
 ·left
  unfold m8
  rw[h]
  refine Prod.ext ?_ rfl
  have hl:(c.take n).length=n:=by rw[List.length_take]; omega
  show _=(c.take n).map j6
  conv=>rhs; rw[V2 hl]
  simp only[n6,List.map_map]
  refine List.map_congr_left fun i hi=>?_
  have hi:i<n:=List.mem_range.1 hi
  simp[Function.comp,K9 hi]
 ·right; omega
theorem pY {n:Int} {k:Nat} (h:dl n<=3) (i:Nat):dl (b6 [n,0,0,0] i)<=k+3:=by
 match i with
 | 0=>show dl n<=_; omega
 | 1=>show dl 0<=_; rw[F5.2 rfl]; omega
 | 2=>show dl 0<=_; rw[F5.2 rfl]; omega
 | 3=>show dl 0<=_; rw[F5.2 rfl]; omega
 | i+4=>rw[z6 (by simp)]; show dl 0<=_; rw[F5.2 rfl]; omega
theorem PR {p xs:List Int} {d:Int} (hp:p.length=2):N2 (loN (U7 p xs) d).1=true:=by
 refine IL fun i h1 h2=>?_
 have e:b6 (loN (U7 p xs) d).1 i=b6 (U7 p xs) i/w7 d (U7 p xs):=by simp[loN,b6,IJ,h2]
 rw[e,eT h2,z6 (by rw[gJ,hp]; omega)]
 simp
end Go.Fl

/- Contracts: numbers of a field (reading, handing back; sums, differences; signs of fractions). -/
namespace Go.Fl
open Go Go.Proofs
open d5 renaming op->tO
open i6 renaming op->rO
set_option maxRecDepth 100000

theorem mP (xs:List Int) (f:FuncId) (q:Int->Bool) [d8 Tryz.prog f] (hf:∀z,Ct Tryz.prog f [b7 eW (wh z)] (kB (q z))):Ct Tryz.prog 216 [b7 (eL eZ) xs,j8 (.func (.func f) #[] #[])] (kI (EF q xs)):=by
 refine Ct.mk Tryz.func216 rfl Tryz.ntmps216 rfl (fun w J=>?_); refine Tr.fact (s:=0) rfl (fun _ _ h=>S4 h) (fun hb=>?_); refine D3 ?_
 refine Tr.for1 (σ:=Nat) [⟨0,true,_,_⟩,⟨1,true,_,_⟩,⟨7,true,_,_⟩] [] (fun k=>[⟨8,true,[],kI (k:Int)⟩]) (fun k=>[]) (fun k=>k<=xs.length/\∀i,i<k->q (b6 xs i)=false) (fun k=>∀i,i<xs.length->q (b6 xs i)=false) (fun k=>xs.length-k) (0) ⟨by omega,fun i h=>absurd h zo⟩ (d7.mk (.i rfl zi<|zk) (.nil) rfl) ?_ ?_
 ·rintro k ⟨hk,hR⟩
  refine jn ?_; refine n7 ?_; refine jq ?_ ?_
  ·intro h2
   refine U2 ?_; refine tO (IB rfl uu (fun hp=>hf _) (.a rfl uu<|.nil)) rfl rfl ?_; refine i2 ?_; refine Tr.cnd rfl ?_ ?_
   ·intro h4
    refine D3 ?_; exact d9.res1 (fn:=Tryz.f216) rfl (.i rfl (cU zo hR h4)<|.nil)
   ·intro h4
    refine l5 ?_
    exact g8.lp (k+1) ⟨by omega,fun i hi=>by (rcases Nat.lt_succ_iff_lt_or_eq.1 hi with h | h; exact hR i h; subst h; exact h4)⟩ zo (d7.mk (.i rfl zi<|zk) (.nil) rfl)
  ·intro h2
   replace h2:=Int.not_lt.1 h2
   refine i4 ?_
   exact g8.cut (k) (fun i hi=>hR i zo) (d7.mk (.i rfl zi<|zk) (.nil) rfl)
 ·intro k hE
  refine je ?_; refine l5 ?_; exact d9.res1 (fn:=Tryz.f216) rfl (.i rfl (cV hE)<|.nil)

theorem mM (xs:List Int) (f:FuncId) (q:Int->Bool) [d8 Tryz.prog f] (hf:∀z,Ct Tryz.prog f [b7 eW (wh z)] (kB (q z))):Ct Tryz.prog 199 [b7 (eL eZ) xs,j8 (.func (.func f) #[] #[])] (kB (xs.any q)):=by
 refine Ct.mk Tryz.func199 rfl Tryz.ntmps199 rfl (fun w J=>?_); refine o9 ?_; refine tO (j7 (fun hp=>mP _ f q hf) (.a rfl uu<|.a rfl uu<|.nil)) rfl rfl ?_; refine o0 ?_; exact d9.res1 (fn:=Tryz.f199) rfl (.b rfl cX<|.nil)

theorem oQ (z:Int):Ct Tryz.prog 200 [b7 eW (wh z)] (kB (decide (u5 z 0≠0))):=by
 refine Ct.mk Tryz.func200 rfl Tryz.ntmps200 rfl (fun w J=>?_); refine i2 ?_; refine jb 1 rfl ?_; refine n7 ?_; refine jc (AO z) ?_; refine o0 ?_
 exact d9.res1 (fn:=Tryz.f200) rfl (.b rfl zi<|.nil)

theorem aT (c:List Int) (d:Int):Ct Tryz.prog 180 [b7 I5 (c,d)] (kB (N2 c)):=by
 refine Ct.mk Tryz.func180 rfl Tryz.ntmps180 rfl (fun w J=>?_); refine i2 ?_; refine jb 1 rfl ?_; refine i4 ?_; refine Tr.frzB 1 [1] I5 ⟨rfl,trivial⟩ rfl ?_; refine jn ?_; refine i2 ?_; refine tO (vA rfl uu rfl uu rfl rfl (fun _=>zo)) rfl rfl ?_; refine tO (j7 (fun hp=>mM _ 200 (fun z=>decide (u5 z 0≠0)) (fun z=>oQ z)) (.a rfl uu<|.a rfl uu<|.nil)) rfl rfl ?_; refine o0 ?_; exact d9.res1 (fn:=Tryz.f180) rfl (.b rfl (by rfl)<|.nil)

theorem aY (r:y9) (c:List Int) (d:Int) (hq:N2 c=true):Ct Tryz.prog 139 [r5 y1 r,b7 I5 (c,d)] (kI (u5 (b6 c 0) 0)):=by
 refine Ct.mk Tryz.func139 rfl Tryz.ntmps139 rfl (fun w J=>?_); refine Tr.fact (s:=1) rfl (fun _ _ h=>NR h) (fun hl=>?_)
 have hl:c.length=4:=hl
 refine i2 ?_; refine jb 3 rfl ?_; refine l5 ?_; refine tO (j7 (fun hp=>aT c d) (.se rfl uu rfl (ED (v:=(c,d)) hl)<|.nil)) rfl rfl ?_; refine i2 ?_; refine Tr.cnd rfl ?_ ?_
 ·intro h1
  refine j9 ?_; refine tO (CF rfl uu rfl uu (fun _=>by decide)) rfl rfl ?_; refine tO (IF (0) (fun _=>zo) (fun _=>zo) rfl uu) rfl rfl ?_; refine jc (AO (b6 c 0)) ?_; refine o0 ?_; exact d9.res1 (fn:=Tryz.f139) rfl (.i rfl (by rfl)<|.nil)
 ·intro h1
  rw[hq] at h1; cases h1

theorem AN (r:y9) (x:s7) (k:Nat) (hpo:E8 r.2.1) (hx:v7 k x) (hk:k<=500000):Ct Tryz.prog 119 [r5 y1 r,b7 j2 x] (b7 I5 (i8 r.2.1 x)):=by
 have hdx:=O1 hx.d.1
 have hld:=hx.d.2
 have hlx:=hx.len
 have hdd:=bN hx.d.1 hx.d.2
 refine Ct.mk Tryz.func119 rfl Tryz.ntmps119 rfl (fun w J=>?_); refine i2 ?_; refine jb 3 rfl ?_; refine ja 4 ?_; refine AU ?_; refine Tr.grow (s:=5) rfl rfl 55 rfl 160 eZ rfl ?_
 refine Tr.for1 (σ:=Nat) [⟨0,true,_,_⟩,⟨3,true,_,_⟩,⟨4,true,_,_⟩,⟨10,true,_,_⟩,⟨11,true,_,_⟩] [⟨3,_,_⟩,⟨4,_,_⟩] (fun k2=>[⟨5,true,[55],q8 55 k2⟩,⟨12,true,[],kI (k2:Int)⟩]) (fun k2=>[⟨55,[],m9 true 160 eZ (n6 k2 fun i=>val (b6 x.1 i)) k2⟩]) (fun k2=>k2<=x.1.length) (fun k2=>k2=x.1.length) (fun k2=>x.1.length-k2) (0) zi (d7.mk (.o rfl zi rfl<|.i rfl zi<|zk) (.a (by rfl) zi<|zk) rfl) ?_ ?_
 ·intro k2 hR0
  refine jn ?_
  have hck:=hx.c k2
  refine n7 ?_; refine jq ?_ ?_
  ·intro h3
   refine B4 ?_; refine tO (j7 (fun hp=>SU _ hck.1 zo) (.a rfl uu<|.nil)) rfl rfl ?_; refine d5.new (D5 eZ 19 (fun hp=>.cons rfl<|.nil) rfl rfl rfl rfl) rfl rfl rfl rfl ?_; refine i9 ?_; refine jl ?_; refine l6 ?_
   exact g8.lp (k2+1) zi zo (d7.mk (.o rfl zi rfl<|.i rfl zi<|zk) (.a H4.symm zi<|zk) rfl)
  ·intro h3
   replace h3:=Int.not_lt.1 h3
   refine i4 ?_
   exact g8.cut (k2) zo (d7.mk (.o rfl zi rfl<|.i rfl zi<|zk) (zk) rfl)
 ·rintro _ rfl
  refine je ?_
  have hcm:=yS (xs:=x.1)
  refine o0 ?_; refine tO (j7 (fun hp=>SU _ hx.d.1 zo) (.a rfl uu<|.nil)) rfl rfl ?_; refine ja 8 ?_; refine l5 ?_; refine jc (AO (val x.2)) ?_; refine j9 ?_; refine jq ?_ ?_
  ·intro h8
   have hv0:=W0.1 h8
   refine i9 ?_; refine jc (O0 1 zo) ?_; refine l6 ?_; refine d5.frz 55 [5,30] ⟨rfl,rfl,trivial⟩ (by simp only[t6]; omega) rfl ?_; refine jl ?_
   refine tO (j7 (fun hp=>aV r _ (T8 x.2) (k+3) hpo.1 (by rw[t7]; omega) (CT fun i _=>by have:=O1 (hx.c i).1; have:=(hx.c i).2; omega) hpo.2 zo zo NJ) (.a rfl uu<|.a rfl uu<|.se rfl uu rfl (by first | (rw[T8,if_pos hv0]; rfl) | (rw[T8,if_neg hv0]; rfl))<|.nil)) rfl rfl ?_
   refine i4 ?_; exact d9.resC1 (fn:=Tryz.f119) rfl rfl (u8 rfl (by rw[ED (by rw[CA,IJ]),hcm]; rfl))
  ·intro h8
   have hv0:val x.2≠0:=fun e=>h8 (W0.2 e)
   refine l5 ?_; refine d5.frz 55 [5,30] ⟨rfl,rfl,trivial⟩ (by simp only[t6]; omega) rfl ?_; refine jl ?_
   refine tO (j7 (fun hp=>aV r _ (T8 x.2) (k+3) hpo.1 (by rw[t7]; omega) (CT fun i _=>by have:=O1 (hx.c i).1; have:=(hx.c i).2; omega) hpo.2 zo zo NJ) (.a rfl uu<|.a rfl uu<|.se rfl uu rfl (by first | (rw[T8,if_pos hv0]; rfl) | (rw[T8,if_neg hv0]; rfl))<|.nil)) rfl rfl ?_
   refine i4 ?_; exact d9.resC1 (fn:=Tryz.f119) rfl rfl (u8 rfl (by rw[ED (by rw[CA,IJ]),hcm]; rfl))

end Go.Fl

/- Contracts: numbers of a field as the package offers them. -/
namespace Go.Fl
open Go Go.Proofs
open d5 renaming op->tO
open i6 renaming op->rO
set_option maxRecDepth 100000

theorem NC (c:List Int) (d:Int) (hc:∀i,dl (b6 c i)<=900000) (hd:dl d<=900000):Ct Tryz.prog 120 [b7 I5 (c,d)] (b7 j2 (m8 (c,d))):=by
 refine Ct.mk Tryz.func120 rfl Tryz.ntmps120 rfl (fun w J=>?_); refine Tr.fact (s:=0) rfl (fun _ _ h=>NR h) (fun hl=>?_)
 have hl:c.length=4:=hl
 refine i2 ?_; refine jb 1 rfl ?_; refine ja 2 ?_; refine i4 ?_; refine ja 3 ?_; refine l5 ?_
 refine Tr.for (σ:=Nat) [⟨1,true,_,_⟩,⟨2,true,_,_⟩,⟨3,true,_,_⟩] [⟨1,_,_⟩,⟨2,_,_⟩,⟨3,_,_⟩] (fun n=>[⟨4,true,[],kI (n:Int)⟩]) (fun n=>[]) (fun n=>n<=4/\∀i,n<=i->i<c.length->b6 c i=0) (fun n=>n<=4/\l7 c=c.take n) (fun n=>n) (4) ⟨by omega,fun i h1 h2=>absurd h1 zo⟩ (d7.mk (.i rfl zi<|zk) (zk) rfl) ?_ ?_
 ·rintro n ⟨hn,hz⟩
  refine jn ?_; refine l5 ?_; refine d5.gd rfl rfl rfl (BB rfl id rfl uu (fun hp=>by simp at hp; omega)) rfl rfl ?_; refine i9 ?_; refine d5.gd rfl rfl rfl (CF rfl id rfl id (fun hp=>by simp at hp; omega)) rfl rfl ?_; refine d5.gd rfl rfl rfl (IF (n-1) (fun hp=>by simp at hp; omega) (fun _=>zo) rfl id) rfl rfl ?_; refine d5.gd rfl rfl rfl (j7 (fun hp=>AO (b6 c (n-1))) (.a rfl id<|.nil)) rfl rfl ?_; refine i4 ?_; refine Tr.cnd rfl ?_ ?_
  ·intro h3
   try simp only[decide_eq_true_eq,Bool.and_eq_true] at h3
   have h3z:=h3.2
   refine o9 ?_
   exact g8.lp (n-1) ⟨by omega,fun i h2 h3=>by (by_cases e:i=n-1; subst e; exact W0.1 h3z; exact hz i zo h3)⟩ zo (d7.mk (.i rfl zi<|zk) (zk) rfl)
  ·intro h3
   try simp only[decide_eq_true_eq,decide_eq_false_iff_not,Bool.and_eq_false_imp] at h3
   refine i4 ?_
   exact g8.cut (n) ⟨hn,EV zo hz (by by_cases e:n=0; exact .inl e; exact .inr (fun e2=>h3 zo (W0.2 e2)))⟩ (d7.mk (.i rfl zi<|zk) (zk) rfl)
 ·rintro n ⟨hn,ht⟩
  refine jn ?_
  have htk:(List.take (n:Int).toNat (n6 4 (b6 (c,d).1),(c,d).2).1).length=n:=by rw[Int.toNat_natCast,List.length_take]; show min n (n6 4 (b6 c)).length=n; rw[t7]; omega
  have hnt:∀i,i<n->b6 (List.take (n:Int).toNat (n6 4 (b6 (c,d).1),(c,d).2).1) i=b6 c i:=fun i h=>by rw[Int.toNat_natCast]; exact (K9 h).trans (s8 zo)
  refine i2 ?_; refine Tr.frzB 1 [1] I5 ⟨rfl,trivial⟩ rfl ?_; refine jn ?_; refine j9 ?_; refine tO (fI rfl uu rfl uu rfl rfl (fun _=>zo)) rfl rfl ?_; refine i4 ?_; refine Tr.growC 3 0 33 rfl (ks':=[q8 33 0,_]) rfl rfl 22 (eL eI) rfl (.cons inferInstance rfl<|.cons inferInstance rfl<|inferInstance) ?_
  refine Tr.for1 (σ:=Nat) [⟨1,true,_,_⟩,⟨2,true,_,_⟩,⟨3,true,_,_⟩,⟨22,true,_,_⟩,⟨23,true,_,_⟩] [⟨2,_,_⟩] (fun k=>[⟨24,true,[],kI (k:Int)⟩]) (fun k=>[⟨3,[33],j3 [q8 33 k,j8 (.slice none 0 0)]⟩,⟨33,[],m9 true 22 (eL eI) (n6 k fun i=>j6 (b6 c i)) k⟩]) (fun k=>k<=n) (fun k=>k=n) (fun k=>n-k) (0) zi (d7.mk (.i rfl zi<|zk) (.e (by rfl) rfl<|.a (by rfl) zi<|zk) rfl) ?_ ?_
  ·intro k hR1
   refine jn ?_
   have hck:=hc k
   refine n7 ?_; refine jq ?_ ?_
   ·intro h6
    refine l6 ?_; refine ja 6 ?_; refine j9 ?_; refine Tr.draw 5 q9 (by kernel_rfl) ?_; refine j9 ?_; refine rO (j7 (fun hp=>bC _ (by rw[hnt k zo]; omega)) (.se rfl uu rfl rfl<|.nil)) rfl rfl ?_; refine i6.new (D5 (eL eI) 32 (fun hp=>.cons rfl<|.nil) rfl rfl rfl rfl) rfl rfl rfl rfl ?_; refine i9 ?_; refine d5.wkC 3 (.any<|.k<|.nil) rfl ?_; refine i9 ?_; refine jl ?_; refine o9 ?_
    exact g8.lp (k+1) zi zo (d7.mk (.i rfl zi<|zk) (.e (by rfl) rfl<|.a ((congrArg (fun z=>n6 k (fun i=>j6 (b6 c i))++[j6 z]) (hnt k zo)).trans H4.symm) zi<|zk) rfl)
   ·intro h6
    replace h6:=Int.not_lt.1 h6
    refine i4 ?_
    exact g8.cut (k) zo (d7.mk (.i rfl zi<|zk) (zk) rfl)
  ·rintro k hkn
   refine je ?_; refine o0 ?_; refine jc (bC d zo) ?_; refine o0 ?_; refine Tr.frzC 33 3 (by simp only[t6]; omega) rfl rfl ?_; refine n7 ?_; exact d9.resC1 (fn:=Tryz.f120) rfl rfl (u8 rfl (by rw[hkn]; exact (rH ht).resolve_right zo))

theorem nL (n:Int) (hn:-9223372036854775808<=n/\n<=9223372036854775807):Ct Tryz.prog 165 [kI n] (b7 j2 (m8 ([n,0,0,0],1))):=by
 have hd:=TI hn
 refine Ct.mk Tryz.func165 rfl Tryz.ntmps165 rfl (fun w J=>?_); refine i2 ?_; refine ja 2 ?_; refine o0 ?_; refine jc (O0 n hn) ?_; refine tO (uO [(0,2),(2,2),(4,2),(6,2)] rfl (fun hp=>.cons rfl rfl rfl<|.nil)) rfl rfl ?_; refine jc (O0 1 zo) ?_; refine tO (A4 (fun hp=>.cons rfl rfl rfl<|.cons rfl rfl rfl<|.nil)) rfl rfl ?_; refine jc (NC [n,0,0,0] 1 (fun i=>pY (k:=899997) hd i) (by have:=TI (n:=1) zo; omega)) ?_; refine i4 ?_
 exact d9.resC1 (fn:=Tryz.f165) rfl rfl (u8 rfl zi)

theorem ZW (r:y9) (x:s7) (k:Nat) (hpo:E8 r.2.1) (hx:v7 k x) (hk:k<=400000):Ct Tryz.prog 69 [r5 y1 r,b7 j2 x] (b7 j2 (m8 (i8 r.2.1 x))):=by
 have nx:=V3 hpo hx
 refine Ct.mk Tryz.func69 rfl Tryz.ntmps69 rfl (fun w J=>?_); refine i2 ?_; refine jb 3 rfl ?_; refine ja 4 ?_; refine n7 ?_; refine tO (EL rfl uu) rfl rfl ?_; refine i2 ?_; refine Tr.cnd rfl ?_ ?_
 ·intro h1
  cases h1
 ·intro h1
  refine n7 ?_; refine jc (AN r x k hpo hx zo) ?_; refine jc (NC (i8 r.2.1 x).1 (i8 r.2.1 x).2 (fun i=>Nat.le_trans (nx.c i) zo) (Nat.le_trans nx.d zo)) ?_; refine i4 ?_
  exact d9.resC1 (fn:=Tryz.f69) rfl rfl (u8 rfl zi)

theorem ZU (r:y9) (x y:s7) (k:Nat) (hpo:E8 r.2.1) (hx:v7 k x) (hy:v7 k y) (hk:k<=100000):Ct Tryz.prog 118 [r5 y1 r,b7 j2 x,b7 j2 y] (b7 j2 (m8 (o5 (i8 r.2.1 x) (i8 r.2.1 y)))):=by
 have nx:=V3 hpo hx
 have ny:=V3 hpo hy
 have nz:=MF nx ny
 refine Ct.mk Tryz.func118 rfl Tryz.ntmps118 rfl (fun w J=>?_); refine i2 ?_; refine jb 4 rfl ?_; refine jb 5 rfl ?_; refine ja 6 ?_; refine n7 ?_; refine tO (EL rfl uu) rfl rfl ?_; refine i2 ?_; refine Tr.cnd rfl ?_ ?_
 ·intro h1
  cases h1
 ·intro h1
  refine j9 ?_; refine Tr.draw 5 q9 (by kernel_rfl) ?_; refine i2 ?_; refine jd (AN r x k hpo hx zo) ?_; refine j9 ?_; refine jc (AN r y k hpo hy zo) ?_; refine jc (ND (i8 r.2.1 x) (i8 r.2.1 y) (fun i=>Nat.le_trans (nx.c i) zo) (fun i=>Nat.le_trans (ny.c i) zo) (Nat.le_trans nx.d zo) (Nat.le_trans ny.d zo) nx.pos ny.pos) ?_; refine jc (NC (o5 (i8 r.2.1 x) (i8 r.2.1 y)).1 (o5 (i8 r.2.1 x) (i8 r.2.1 y)).2 (fun i=>Nat.le_trans (nz.c i) zo) (Nat.le_trans nz.d zo)) ?_; refine i4 ?_
  exact d9.resC1 (fn:=Tryz.f118) rfl rfl (u8 rfl zi)

theorem ZX (r:y9) (x y:s7) (k:Nat) (hpo:E8 r.2.1) (hx:v7 k x) (hy:v7 k y) (hk:k<=100000):Ct Tryz.prog 116 [r5 y1 r,b7 j2 x,b7 j2 y] (b7 j2 (m8 (o5 (i8 r.2.1 x) ((i8 r.2.1 y).1.map (fun z=>-z),(i8 r.2.1 y).2)))):=by
 have nx:=V3 hpo hx
 have ny:=V3 hpo hy
 have nn:=VP ny
 have nz:=MF nx nn
 refine Ct.mk Tryz.func116 rfl Tryz.ntmps116 rfl (fun w J=>?_); refine i2 ?_; refine jb 4 rfl ?_; refine jb 5 rfl ?_; refine ja 6 ?_; refine n7 ?_; refine tO (EL rfl uu) rfl rfl ?_; refine i2 ?_; refine Tr.cnd rfl ?_ ?_
 ·intro h1
  cases h1
 ·intro h1
  refine j9 ?_; refine Tr.draw 5 q9 (by kernel_rfl) ?_; refine i2 ?_; refine jd (AN r x k hpo hx zo) ?_; refine j9 ?_; refine jc (AN r y k hpo hy zo) ?_; refine jc (SX (i8 r.2.1 y).1 (i8 r.2.1 y).2) ?_; refine jc (ND (i8 r.2.1 x) ((i8 r.2.1 y).1.map (fun z=>-z),(i8 r.2.1 y).2) (fun i=>Nat.le_trans (nx.c i) zo) (fun i=>Nat.le_trans (nn.c i) zo) (Nat.le_trans nx.d zo) (Nat.le_trans nn.d zo) nx.pos nn.pos) ?_; refine jc (NC (o5 (i8 r.2.1 x) ((i8 r.2.1 y).1.map (fun z=>-z),(i8 r.2.1 y).2)).1 (o5 (i8 r.2.1 x) ((i8 r.2.1 y).1.map (fun z=>-z),(i8 r.2.1 y).2)).2 (fun i=>Nat.le_trans (nz.c i) zo) (Nat.le_trans nz.d zo)) ?_
  refine i4 ?_
  exact d9.resC1 (fn:=Tryz.f116) rfl rfl (u8 rfl zi)

theorem nK (r:y9) (x:s7) (k:Nat) (hpo:E8 r.2.1) (h2:r.2.1.length=2) (hx:v7 k x) (hk:k<=400000):Ct Tryz.prog 82 [r5 y1 r,b7 j2 x] (kI (u5 (b6 (i8 r.2.1 x).1 0) 0)):=by
 refine Ct.mk Tryz.func82 rfl Tryz.ntmps82 rfl (fun w J=>?_); refine i2 ?_; refine jb 3 rfl ?_; refine l5 ?_; refine tO (EL rfl uu) rfl rfl ?_; refine i2 ?_; refine Tr.cnd rfl ?_ ?_
 ·intro h1
  cases h1
 ·intro h1
  refine l5 ?_; refine jc (AN r x k hpo hx zo) ?_; refine jc (aY r (i8 r.2.1 x).1 (i8 r.2.1 x).2 (PR h2)) ?_; refine i4 ?_
  exact d9.res1 (fn:=Tryz.f82) rfl (.i rfl zi<|.nil)

theorem nG (r:y9) (x y:s7) (k:Nat) (hpo:E8 r.2.1) (hx:v7 k x) (hy:v7 k y) (hk:k<=100000) (h2:r.2.1.length=2):Ct Tryz.prog 83 [r5 y1 r,b7 j2 x,b7 j2 y] (kI (u5 (b6 (o5 (i8 r.2.1 x) ((i8 r.2.1 y).1.map (fun z=>-z),(i8 r.2.1 y).2)).1 0) 0)):=by
 have nx:=V3 hpo hx
 have ny:=V3 hpo hy
 have nn:=VP ny
 have nz:=MF nx nn
 refine Ct.mk Tryz.func83 rfl Tryz.ntmps83 rfl (fun w J=>?_); refine i2 ?_; refine jb 4 rfl ?_; refine jb 5 rfl ?_; refine l5 ?_; refine tO (EL rfl uu) rfl rfl ?_; refine i2 ?_; refine Tr.cnd rfl ?_ ?_
 ·intro h1
  cases h1
 ·intro h1
  refine j9 ?_; refine Tr.draw 9 q9 (by kernel_rfl) ?_; refine j9 ?_; refine jd (AN r x k hpo hx zo) ?_; refine i2 ?_; refine jd (AN r y k hpo hy zo) ?_; refine jd (SX (i8 r.2.1 y).1 (i8 r.2.1 y).2) ?_; refine jd (ND (i8 r.2.1 x) ((i8 r.2.1 y).1.map (fun z=>-z),(i8 r.2.1 y).2) (fun i=>Nat.le_trans (nx.c i) zo) (fun i=>Nat.le_trans (nn.c i) zo) (Nat.le_trans nx.d zo) (Nat.le_trans nn.d zo) nx.pos nn.pos) ?_; refine i9 ?_; refine jc (aY r (o5 (i8 r.2.1 x) ((i8 r.2.1 y).1.map (fun z=>-z),(i8 r.2.1 y).2)).1 (o5 (i8 r.2.1 x) ((i8 r.2.1 y).1.map (fun z=>-z),(i8 r.2.1 y).2)).2 (fY (PR h2) (fZ (PR h2)))) ?_
  refine i4 ?_
  exact d9.res1 (fn:=Tryz.f83) rfl (.i rfl zi<|.nil)

end Go.Fl

/- Contracts: the rational field is opened. -/
namespace Go.Fl
open Go Go.Proofs
open d5 renaming op->tO
open i6 renaming op->rO
set_option maxRecDepth 100000

theorem aM (f:y8) (hf:∀i,-9223372036854775808<=b6 f.1 i/\b6 f.1 i<=9223372036854775807) (hl:f.1.length<=1000000):Ct Tryz.prog 158 [b7 D1 f] (b7 (eL eZ) f.1):=by
 refine Ct.mk Tryz.func158 rfl Tryz.ntmps158 rfl (fun w J=>?_); refine i2 ?_; refine jb 1 rfl ?_; refine U2 ?_; refine Tr.grow (s:=3) rfl rfl 3 rfl 160 eZ rfl ?_
 refine Tr.for1 (σ:=Nat) [⟨7,true,_,_⟩,⟨8,true,_,_⟩] [] (fun k=>[⟨3,true,[3],q8 3 k⟩,⟨9,true,[],kI (k:Int)⟩]) (fun k=>[⟨3,[],m9 true 160 eZ (f.1.take k) k⟩]) (fun k=>k<=f.1.length) (fun k=>k=f.1.length) (fun k=>f.1.length-k) (0) zi (d7.mk (.o rfl zi rfl<|.i rfl zi<|zk) (.a (by rfl) zi<|.nil) rfl) ?_ ?_
 ·intro k hR0
  refine jn ?_
  have hfk:=hf k
  refine n7 ?_; refine jq ?_ ?_
  ·intro h3
   refine B4 ?_; refine tO (j7 (fun hp=>O0 _ zo) (.a rfl uu<|.nil)) rfl rfl ?_; refine d5.new (D5 eZ 16 (fun hp=>.cons rfl<|.nil) rfl rfl rfl rfl) rfl rfl rfl rfl ?_; refine i9 ?_; refine jl ?_; refine l6 ?_
   exact g8.lp (k+1) zi zo (d7.mk (.o rfl zi rfl<|.i rfl zi<|zk) (.a (by rw[Y1 zo]) zi<|.nil) rfl)
  ·intro h3
   replace h3:=Int.not_lt.1 h3
   refine i4 ?_
   exact g8.cut (k) zo (d7.mk (.o rfl zi rfl<|.i rfl zi<|zk) (zk) rfl)
 ·rintro k hkn
  refine je ?_
  have htk:f.1.take k=f.1:=by rw[hkn,List.take_length]
  refine l5 ?_; refine Tr.frz 3 [2] ⟨rfl,trivial⟩ (by simp only[t6]; omega) rfl ?_; refine i9 ?_; exact d9.res1 (fn:=Tryz.f158) rfl (.r rfl (by rw[htk])<|.nil)

end Go.Fl


/- Texts of origamis, the steps of the code: lines, numerals, cutting, numbers. Plain Lean, no program in sight. -/
namespace Go.Fl
end Go.Fl

/- Reading a text, step by step. Plain Lean, no program in sight. -/
namespace Go.Fl
end Go.Fl

/- Texts of rows, in plain Lean: what is printed is read back, by words and by cutting. No program in sight. -/
namespace Go.Fl
def LJ (ws:List Bt):Bt:=ws.flatMap fun w=>32::w
def r7 (p:List Int) (n:Nat):Prop:=EH p n/\p.Nodup/\p.length=n
instance (p:List Int) (n:Nat):Decidable (r7 p n):=by unfold r7; infer_instance
def H6 (r:p6):Int:=if r.2.length≠r.1.length\/r.1.length<2\/8<r.1.length then 10 else if ¬(r7 r.1 r.1.length/\r7 r.2 r.1.length) then 3 else 0
structure C9 (r:p6):Prop where
 len:r.2.length=r.1.length
 two:2<=r.1.length
 le:r.1.length<=8
 p1:r7 r.1 r.1.length
 p2:r7 r.2 r.1.length
theorem QA {r:p6} (h:H6 r=0):C9 r:=by
 unfold H6 at h
 by_cases h1:r.2.length≠r.1.length\/r.1.length<2\/8<r.1.length
 ·rw[if_pos h1] at h; cases h
 rw[if_neg h1] at h
 by_cases h2:¬(r7 r.1 r.1.length/\r7 r.2 r.1.length)
 ·rw[if_pos h2] at h; cases h
 have h2:=Classical.not_not.1 h2
 exact ⟨by omega,by omega,by omega,h2.1,h2.2⟩
theorem lS {r:p6} (h:C9 r):H6 r=0:=by
 have h1:=h.len; have h2:=h.two; have h3:=h.le
 unfold H6
 rw[if_neg zo,if_neg (fun hh=>hh ⟨h.p1,h.p2⟩)]
theorem C9.b1 {r:p6} (h:C9 r):∀x∈r.1,0<=x/\x<100:=fun x hx=>by have:=UL h.p1.1 hx; have:=h.le; omega
theorem C9.b2 {r:p6} (h:C9 r):∀x∈r.2,0<=x/\x<100:=fun x hx=>by have:=UL h.p2.1 hx; have:=h.le; omega
def kF (r:p6):List Bt:=r.1.map num++[47]::r.2.map num
def WJ (r:p6):Bt:=Lib.join (kF r) [32]
theorem hH {p:List Int}:LJ (p.map num)=GK p:=by unfold LJ GK; rw[List.flatMap_map]
theorem vY {x:Int} {t b:List Int}:WJ (x::t,b)=num x++LJ (t.map num++[47]::b.map num):=by
 unfold WJ kF
 rw[List.map_cons,List.cons_append,Lib.join_cons]
 congr 1
theorem fT {r:p6} (h:C9 r):(WJ r).length<=60:=by
 have h1:=h.len; have h2:=h.two; have h3:=h.le
 obtain ⟨a,b⟩:=r
 cases a with
 | nil=>simp at h2
 | cons x t =>
  have hx:=fC (n:=x)
  have ht:=jV (p:=t)
  have hb:=jV (p:=b)
  rw[vY]
  have e:LJ (t.map num++[47]::b.map num)=GK t++32::47::GK b:=by rw[<- hH,<- hH]; simp[LJ]
  rw[e]
  simp only[List.length_append,List.length_cons] at *
  omega
end Go.Fl

/- Reading rows, as the program and as the reference do: both read just what is printed of rows. Plain Lean, no program in sight. -/
namespace Go.Fl
end Go.Fl

/- Rows: what makes them valid, in the words of both programs; irreducible rows. Plain Lean, no program in sight. -/
namespace Go.Fl
theorem VT:∀{n:Nat} {l:List Int},l.Nodup->(∀x∈l,0<=x/\x<n)->l.length<=n
 | 0,l,_,hb=>by
  cases l with
  | nil=>simp
  | cons a l=>have:=hb a (by simp); omega
 | n+1,l,hd,hb=>by
  by_cases hm:(n:Int)∈l
  ·have h1:=VT (n:=n) (l:=l.erase (n:Int)) (hd.erase _) (fun x hx=>by
    have h2:=hb x (List.mem_of_mem_erase hx)
    have h3:x≠n:=fun e=>by subst e; exact (List.Nodup.not_mem_erase hd) hx
    omega)
   rw[List.length_erase_of_mem hm] at h1
   omega
  ·have:=VT (n:=n) (l:=l) hd (fun x hx=>by
    have h2:=hb x hx
    have h3:x≠n:=fun e=>hm (e▸hx)
    omega)
   omega
theorem rV {p:List Int} {n:Nat} (h:∀x∈p,0<=x/\x<n):EH p n:=fun _ hi=>h _ (F7 hi)
theorem fK:∀{n:Nat} {l:List Int},(∀i:Nat,i<n->(i:Int)∈l)->l.length=n->l.Nodup/\∀x∈l,0<=x/\x<n
 | 0,l,_,hl=>by
  obtain rfl:=List.eq_nil_of_length_eq_zero hl
  simp
 | n+1,l,h,hl=>by
  have hm:(n:Int)∈l:=h n zo
  have ih:=fK (n:=n) (l:=l.erase (n:Int)) (fun i hi=>(List.mem_erase_of_ne zo).2 (h i zo)) (by rw[List.length_erase_of_mem hm]; omega)
  have hp:=List.perm_cons_erase hm
  have hn:(n:Int)∉l.erase (n:Int):=fun hh=>by have:=ih.2 _ hh; omega
  refine ⟨hp.nodup_iff.2 (List.nodup_cons.2 ⟨hn,ih.1⟩),fun x hx=>?_⟩
  rcases List.mem_cons.1 (hp.mem_iff.1 hx) with rfl | hx
  ·omega
  ·have:=ih.2 x hx; omega
theorem fS {l:List Int} {n:Nat}:r7 l n↔(∀i:Nat,i<n->(i:Int)∈l)/\l.length=n:=by
 constructor
 ·rintro ⟨h1,h2,h3⟩
  refine ⟨fun i hi=>Classical.byContradiction fun hn=>?_,h3⟩
  have:=VT (n:=n) (l:=(i:Int)::l) (List.nodup_cons.2 ⟨hn,h2⟩) (fun x hx=>by
   rcases List.mem_cons.1 hx with rfl | hx
   ·omega
   ·exact UL h1 hx)
  rw[List.length_cons] at this; omega
 ·rintro ⟨h1,h2⟩
  obtain ⟨a,b⟩:=fK h1 h2
  exact ⟨rV b,a,h2⟩
theorem iO:∀{l m:List Int},l.Nodup->(∀x∈l,x∈m)->l.length<=m.length
 | [],_,_,_=>Nat.zero_le _
 | a::l,m,hd,h=>by
  have hc:=List.nodup_cons.1 hd
  have ha:a∈m:=h a (by simp)
  have ih:=iO (l:=l) (m:=m.erase a) hc.2 (fun x hx=>(List.mem_erase_of_ne (fun (e:x=a)=>hc.1 (e▸hx))).2 (h x (by simp[hx])))
  rw[List.length_erase_of_mem ha] at ih
  have:0<m.length:=List.length_pos_of_mem ha
  simp only[List.length_cons]; omega
theorem iL {l m:List Int} (hd:l.Nodup) (hl:m.length<=l.length) (h:∀x∈l,x∈m):∀x∈m,x∈l:=fun x hx=>Classical.byContradiction fun hn=>by
 have:=iO (l:=x::l) (m:=m) (List.nodup_cons.2 ⟨hn,hd⟩) (fun y hy=>by
  rcases List.mem_cons.1 hy with rfl | hy
  ·exact hx
  ·exact h y hy)
 rw[List.length_cons] at this; omega
theorem uF {l:List Int} {k:Nat} (hd:l.Nodup) (h:k<l.length):b6 l k∉l.take k:=fun hm=>by
 have h1:(l.take (k+1)).Nodup:=hd.sublist (List.take_sublist _ _)
 rw[Y1 h] at h1
 exact (List.nodup_append.1 h1).2.2 _ hm _ (by simp) rfl
def Q7 (r:p6) (k:Nat):Bool:=(r.1.take k).any fun a=>!decide (a∈r.2.take k)
def B3 (r:p6):Bool:=decide (∀k,k<r.1.length->1<=k->Q7 r k=true)
def CK (r:p6) (k i:Nat):Bool:=(r.2.take i).all fun a=>decide (a∈r.1.take k)
theorem OI {r:p6} (h:C9 r) {k:Nat} (hk:k<=r.1.length):Q7 r k=!CK r k k:=by
 have hl:=h.len
 have d1:(r.1.take k).Nodup:=h.p1.2.1.sublist (List.take_sublist _ _)
 have d2:(r.2.take k).Nodup:=h.p2.2.1.sublist (List.take_sublist _ _)
 have l1:(r.1.take k).length=k:=by rw[List.length_take]; omega
 have l2:(r.2.take k).length=k:=by rw[List.length_take]; omega
 have key:(∀a∈r.1.take k,a∈r.2.take k)↔∀a∈r.2.take k,a∈r.1.take k:=by
  exact ⟨fun hh=>iL d1 zo hh,fun hh=>iL d2 zo hh⟩
 unfold Q7 CK
 rw[Bool.eq_iff_iff]
 simp only[List.any_eq_true,Bool.not_eq_true',decide_eq_false_iff_not,List.all_eq_false,decide_eq_true_eq]
 constructor
 ·rintro ⟨a,ha,hn⟩
  refine Classical.byContradiction fun hc=>hn (key.2 (fun b hb=>Classical.byContradiction fun hb2=>hc ⟨b,hb,hb2⟩) a ha)
 ·rintro ⟨a,ha,hn⟩
  refine Classical.byContradiction fun hc=>hn (key.1 (fun b hb=>Classical.byContradiction fun hb2=>hc ⟨b,hb,hb2⟩) a ha)
end Go.Fl

/- Contracts: the library, the base, rows (chapter 5). -/
namespace Go.Fl
open Go Go.Proofs
open d5 renaming op->tO
open i6 renaming op->rO
set_option maxRecDepth 100000


theorem MX (a b:List Int):Ct Tryz.prog 23 [b7 (eL eI) a,b7 (eL eI) b] (kB (decide (a=b))):=by
 refine Ct.mk Tryz.func23 rfl Tryz.ntmps23 rfl (fun w J=>?_); refine Tr.fact (s:=0) rfl (fun _ _ h=>S4 h) (fun hb=>?_); refine O3 ?_; refine jq ?_ ?_
 ·intro h1
  refine l5 ?_; exact d9.res1 (fn:=Tryz.f23) rfl (.b rfl (by symm; rw[decide_eq_false_iff_not]; intro e; exact h1 (by rw[e]))<|.nil)
 ·intro h1
  replace h1:=Classical.not_not.1 h1
  refine l6 ?_
  refine Tr.for1 (σ:=Nat) [⟨0,true,_,_⟩,⟨1,true,_,_⟩] [] (fun k=>[⟨5,true,[],kI (k:Int)⟩]) (fun k=>[]) (fun k=>k<=a.length/\∀i,i<k->b6 a i=b6 b i) (fun k=>a=b) (fun k=>a.length-k) (0) ⟨Nat.zero_le _,fun i h=>absurd h zo⟩ (d7.mk (.i rfl zi<|zk) (.nil) rfl) ?_ ?_
  ·rintro k ⟨hk0,hR0⟩
   refine jn ?_; refine o9 ?_; refine jq ?_ ?_
   ·intro h4
    refine o0 ?_; refine Tr.draw 8 q9 (by kernel_rfl) ?_; refine z5 ?_; refine jq ?_ ?_
    ·intro h6
     refine z5 ?_; exact d9.res1 (fn:=Tryz.f23) rfl (.b rfl (by symm; rw[decide_eq_false_iff_not]; intro e; exact h6 (by rw[e]))<|.nil)
    ·intro h6
     replace h6:=Classical.not_not.1 h6
     refine l6 ?_
     exact g8.lp (k+1) ⟨by omega,ML hR0 h6⟩ zo (d7.mk (.i rfl zi<|zk) (.nil) rfl)
   ·intro h4
    replace h4:=Int.not_lt.1 h4
    refine i4 ?_
    exact g8.cut (k) (H2 zo (fun i hi=>hR0 i zo)) (d7.mk (.i rfl zi<|zk) (.nil) rfl)
  ·intro k hE0
   refine je ?_; refine l5 ?_; exact d9.res1 (fn:=Tryz.f23) rfl (.b rfl (by symm; rw[decide_eq_true_eq]; exact hE0)<|.nil)

theorem ZN (l:List Int) (x:Int):Ct Tryz.prog 152 [b7 (eL eI) l,kI x] (kB (decide (x∈l))):=by
 refine Ct.mk Tryz.func152 rfl Tryz.ntmps152 rfl (fun w J=>?_); refine Tr.fact (s:=0) rfl (fun _ _ h=>S4 h) (fun hb=>?_); refine C6 ?_
 refine Tr.for1 (σ:=Nat) [⟨0,true,_,_⟩,⟨1,true,_,_⟩] [] (fun k=>[⟨5,true,[],kI (k:Int)⟩]) (fun k=>[]) (fun k=>k<=l.length/\∀i,i<k->b6 l i≠x) (fun k=>∀i,i<l.length->b6 l i≠x) (fun k=>l.length-k) (0) ⟨Nat.zero_le _,fun i h=>absurd h zo⟩ (d7.mk (.i rfl zi<|zk) (.nil) rfl) ?_ ?_
 ·rintro k ⟨hk0,hR0⟩
  refine jn ?_; refine o9 ?_; refine jq ?_ ?_
  ·intro h2
   refine B4 ?_; refine jq ?_ ?_
   ·intro h4
    refine z5 ?_; exact d9.res1 (fn:=Tryz.f152) rfl (.b rfl (by symm; rw[decide_eq_true_eq,<- h4]; exact F7 zo)<|.nil)
   ·intro h4
    refine l6 ?_
    exact g8.lp (k+1) ⟨by omega,ML hR0 h4⟩ zo (d7.mk (.i rfl zi<|zk) (.nil) rfl)
  ·intro h2
   replace h2:=Int.not_lt.1 h2
   refine i4 ?_
   exact g8.cut (k) (fun i hi=>hR0 i zo) (d7.mk (.i rfl zi<|zk) (.nil) rfl)
 ·intro k hE0
  refine je ?_; refine l5 ?_; exact d9.res1 (fn:=Tryz.f152) rfl (.b rfl (by symm; rw[decide_eq_false_iff_not]; intro hm; obtain ⟨i,hi,e⟩:=List.mem_iff_getElem.1 hm; exact hE0 i hi (by rw[AX (List.getElem?_eq_getElem hi),e]))<|.nil)

theorem aQ (l:List Int) (n:Nat) (hn:n<=100):Ct Tryz.prog 121 [b7 (eL eI) l,kI (n:Int)] (kB (decide (r7 l n))):=by
 refine Ct.mk Tryz.func121 rfl Tryz.ntmps121 rfl (fun w J=>?_); refine Tr.fact (s:=0) rfl (fun _ _ h=>S4 h) (fun hb=>?_); refine C6 ?_
 refine Tr.for1 (σ:=Nat) [⟨0,true,_,_⟩,⟨1,true,_,_⟩] [] (fun k=>[⟨5,true,[],kI (k:Int)⟩]) (fun k=>[]) (fun k=>k<=n/\∀i,i<k->(i:Int)∈l) (fun k=>∀i,i<n->(i:Int)∈l) (fun k=>n-k) (0) ⟨Nat.zero_le _,fun i h=>absurd h zo⟩ (d7.mk (.i rfl zi<|zk) (.nil) rfl) ?_ ?_
 ·rintro k ⟨hk0,hR0⟩
  refine jn ?_; refine l6 ?_; refine jq ?_ ?_
  ·intro h2
   refine l6 ?_; refine tO (j7 (fun hp=>ZN _ _) (.a rfl uu<|.a rfl uu<|.nil)) rfl rfl ?_; refine j9 ?_; refine Tr.cnd rfl ?_ ?_
   ·intro h4
    try simp only[decide_eq_false_iff_not,Bool.not_eq_true'] at h4
    refine z5 ?_; exact d9.res1 (fn:=Tryz.f121) rfl (.b rfl (by symm; rw[decide_eq_false_iff_not,fS]; intro hh; exact h4 (hh.1 k zo))<|.nil)
   ·intro h4
    try simp only[decide_eq_true_eq,Bool.not_eq_false'] at h4
    refine l6 ?_
    exact g8.lp (k+1) ⟨by omega,ML hR0 h4⟩ zo (d7.mk (.i rfl zi<|zk) (.nil) rfl)
  ·intro h2
   replace h2:=Int.not_lt.1 h2
   refine i4 ?_
   exact g8.cut (k) (fun i hi=>hR0 i zo) (d7.mk (.i rfl zi<|zk) (.nil) rfl)
 ·intro k hE0
  refine je ?_; refine C6 ?_; exact d9.res1 (fn:=Tryz.f121) rfl (.b rfl (by rw[Bool.eq_iff_iff,decide_eq_true_eq,decide_eq_true_eq,fS]; exact ⟨fun e=>⟨hE0,by omega⟩,fun e=>by have:=e.2; omega⟩)<|.nil)

theorem zV (r:p6):Ct Tryz.prog 70 [b7 eO r] (kI (H6 r)):=by
 refine Ct.mk Tryz.func70 rfl Tryz.ntmps70 rfl (fun w J=>?_); refine i2 ?_; refine jb 1 rfl ?_; refine sG ?_; refine Tr.cnd rfl ?_ ?_
 ·intro h2
  try simp only[decide_eq_true_eq,Bool.or_eq_true,ne_eq] at h2
  refine l5 ?_; exact d9.res1 (fn:=Tryz.f70) rfl (.i rfl (by unfold H6; rw[if_pos zo])<|.nil)
 ·intro h2
  try simp only[decide_eq_false_iff_not,Bool.or_eq_false_iff,Int.not_lt,ne_eq,Classical.not_not] at h2
  refine l6 ?_; refine tO (j7 (fun hp=>aQ _ _ zo) (.a rfl uu<|.a rfl uu<|.nil)) rfl rfl ?_; refine o0 ?_; refine d5.gd rfl rfl rfl (j7 (fun hp=>aQ _ _ zo) (.a rfl id<|.a rfl id<|.nil)) rfl rfl ?_; refine i4 ?_; refine Tr.cnd rfl ?_ ?_
  ·intro h4
   try simp only[decide_eq_false_iff_not,Bool.or_eq_true,Bool.not_eq_true'] at h4
   refine l5 ?_; exact d9.res1 (fn:=Tryz.f70) rfl (.i rfl (by unfold H6; rw[if_neg zo,if_pos (fun hh=>h4.elim (fun h=>h hh.1) (fun h=>h hh.2))])<|.nil)
  ·intro h4
   try simp only[decide_eq_true_eq,Bool.not_eq_false',Bool.or_eq_false_iff] at h4
   refine l6 ?_; exact d9.res1 (fn:=Tryz.f70) rfl (.i rfl (by unfold H6; rw[if_neg zo,if_neg (fun hh=>hh h4)])<|.nil)

theorem aK (l:List Int) (n:Nat) (hn:n<=100):Ct Tryz.prog 153 [b7 (eL eI) l,kI (n:Int)] (kB (decide (r7 l n))):=by
 refine Ct.mk Tryz.func153 rfl Tryz.ntmps153 rfl (fun w J=>?_); refine Tr.fact (s:=0) rfl (fun _ _ h=>S4 h) (fun hb=>?_); refine l6 ?_; refine d5.new (IG AS 9 rfl uu rfl uu rfl rfl rfl (fun _=>zo)) rfl rfl rfl rfl ?_; refine C6 ?_
 refine Tr.for1 (σ:=Nat) [⟨0,true,_,_⟩,⟨1,true,_,_⟩,⟨5,true,_,_⟩,⟨10,true,_,_⟩,⟨11,true,_,_⟩] [] (fun k=>[⟨12,true,[],kI (k:Int)⟩]) (fun k=>[⟨9,[],m9 false 4 AS (BH n (l.take k)) n⟩]) (fun k=>k<=l.length/\(∀i,i<k->0<=b6 l i/\b6 l i<n)/\(l.take k).Nodup) (fun k=>EH l n/\l.Nodup) (fun k=>l.length-k) (0) ⟨by omega,fun i h=>absurd h zo,by simp⟩ (d7.mk (.i rfl zi<|zk) (.a (by simp[xI]) zi<|.nil) rfl) ?_ ?_
 ·rintro k ⟨hk,hR,hD⟩
  refine jn ?_; refine n7 ?_; refine jq ?_ ?_
  ·intro h3
   refine dH ?_
   first | refine d5.gd rfl rfl rfl (IE rfl id rfl id (fun hp=>by simp at hp; omega)) rfl rfl ?_ | refine d5.gd rfl rfl rfl (FV rfl id rfl id (fun hp=>by simp at hp; omega)) rfl rfl ?_
   refine i4 ?_; refine Tr.cnd rfl ?_ ?_
   ·intro h5
    have hbad:¬(0<=b6 l k/\b6 l k<n/\b6 l k∉l.take k):=by (rintro ⟨a,b,c⟩; simp only[Bool.or_eq_true,decide_eq_true_eq,eY a b] at h5; rcases h5 with (h | h) | h; omega; omega; exact c h)
    refine D3 ?_; exact d9.res1 (fn:=Tryz.f153) rfl (.b rfl (by symm; rw[decide_eq_false_iff_not]; rintro ⟨hh1,hh2,_⟩; exact hbad ⟨(hh1 k zo).1,(hh1 k zo).2,uF hh2 zo⟩)<|.nil)
   ·intro h5
    have hgood:0<=b6 l k/\b6 l k<n/\b6 l k∉l.take k:=by (simp only[Bool.or_eq_false_iff,decide_eq_false_iff_not] at h5; obtain ⟨⟨q1,q2⟩,q3⟩:=h5; have a:0<=b6 l k:=zo; have b:b6 l k<n:=zo; rw[eY a b] at q3; exact ⟨a,b,of_decide_eq_false q3⟩)
    refine B4 ?_
    exact g8.lp (k+1) ⟨by omega,ML hR ⟨hgood.1,hgood.2.1⟩,by (rw[Y1 zo]; exact uE hD (decide_eq_false hgood.2.2))⟩ zo (d7.mk (.i rfl zi<|zk) (.a (by rw[Y1 zo,xJ zo]) zi<|.nil) rfl)
  ·intro h3
   replace h3:=Int.not_lt.1 h3
   refine i4 ?_
   exact g8.cut (k) ⟨fun i hi=>hR i zo,by (rw[List.take_of_length_le zo] at hD; exact hD)⟩ (d7.mk (.i rfl zi<|zk) (.a zi zi<|.nil) rfl)
 ·rintro k ⟨hr,hd⟩
  refine je ?_; refine C6 ?_; exact d9.res1 (fn:=Tryz.f153) rfl (.b rfl (by rw[Bool.eq_iff_iff,decide_eq_true_eq,decide_eq_true_eq]; exact ⟨fun e=>⟨hr,hd,by omega⟩,fun e=>by have:=e.2.2; omega⟩)<|.nil)

theorem SS (r:p6):Ct Tryz.prog 108 [b7 eO r] (kI (H6 r)):=by
 refine Ct.mk Tryz.func108 rfl Tryz.ntmps108 rfl (fun w J=>?_); refine i2 ?_; refine jb 1 rfl ?_; refine sH ?_; refine Tr.cnd rfl ?_ ?_
 ·intro h2
  try simp only[decide_eq_true_eq,Bool.or_eq_true,ne_eq] at h2
  refine l6 ?_; exact d9.res1 (fn:=Tryz.f108) rfl (.i rfl (by unfold H6; rw[if_pos zo])<|.nil)
 ·intro h2
  try simp only[decide_eq_false_iff_not,Bool.or_eq_false_iff,Int.not_lt,ne_eq,Classical.not_not] at h2
  refine o0 ?_; refine tO (j7 (fun hp=>aK _ _ zo) (.a rfl uu<|.a rfl uu<|.nil)) rfl rfl ?_; refine o0 ?_; refine d5.gd rfl rfl rfl (j7 (fun hp=>aK _ _ zo) (.a rfl id<|.a rfl id<|.nil)) rfl rfl ?_; refine o0 ?_; refine Tr.cnd rfl ?_ ?_
  ·intro h4
   try simp only[decide_eq_false_iff_not,Bool.or_eq_true,Bool.not_eq_true'] at h4
   refine l6 ?_; exact d9.res1 (fn:=Tryz.f108) rfl (.i rfl (by unfold H6; rw[if_neg zo,if_pos (fun hh=>h4.elim (fun h=>h hh.1) (fun h=>h hh.2))])<|.nil)
  ·intro h4
   try simp only[decide_eq_true_eq,Bool.not_eq_false',Bool.or_eq_false_iff] at h4
   refine o9 ?_; exact d9.res1 (fn:=Tryz.f108) rfl (.i rfl (by unfold H6; rw[if_neg zo,if_neg (fun hh=>hh h4)])<|.nil)

end Go.Fl

/- Numbers of a field: what is handed back is taken as it was. No program in sight. -/
namespace Go.Fl
open Go
theorem cO:∀{cs:List Int} {g:Nat},gL g (cs.map fun z=>-z)=gL g cs
 | [],_=>rfl
 | c::cs,g=>by rw[List.map_cons,gL,gL,Int.natAbs_neg,cO]
theorem qP {a g:Int} (h:g∣a):-a/g=-(a/g):=by
 obtain ⟨q,rfl⟩:=h
 by_cases hg:g=0
 ·subst hg; simp
 ·rw[Int.mul_ediv_cancel_left _ hg,<- Int.mul_neg,Int.mul_ediv_cancel_left _ hg]
theorem VC {cs:List Int} {d:Int}:loN (cs.map fun z=>-z) d=((loN cs d).1.map (fun z=>-z),(loN cs d).2):=by
 have e:w7 d (cs.map fun z=>-z)=w7 d cs:=by unfold w7; rw[cO]
 unfold loN
 rw[e,List.map_map,List.map_map]
 refine Prod.ext (List.map_congr_left fun c hc=>?_) rfl
 exact qP (BI (.inr hc))
theorem sV {cs:List Int} {d:Int} (hd:d≠0):loN (loN cs d).1 (loN cs d).2=loN cs d:=by
 have h2:=FQ (cs:=cs) hd
 refine KR zo hd ?_
 show ((cs.map fun c=>c/w7 d cs).map fun c=>c*d)=cs.map fun c=>c*(d/w7 d cs)
 rw[List.map_map]
 refine List.map_congr_left fun c hc=>?_
 obtain ⟨q,hq⟩:=BI (d:=d) (cs:=cs) (.inr hc)
 obtain ⟨t,ht⟩:=BI (d:=d) (cs:=cs) (.inl rfl)
 have h0:=GG (cs:=cs) hd
 show c/w7 d cs*d=c*(d/w7 d cs)
 have e1:c/w7 d cs=q:=by rw[congrArg (·/w7 d cs) hq]; exact Int.mul_ediv_cancel_left _ h0
 have e2:d/w7 d cs=t:=by rw[congrArg (·/w7 d cs) ht]; exact Int.mul_ediv_cancel_left _ h0
 rw[e1,e2]
 calc q*d=q*(w7 d cs*t):=by rw[<- ht]
  _=w7 d cs*q*t:=by rw[<- Int.mul_assoc,Int.mul_comm q]
  _=c*t:=by rw[<- hq]
abbrev i5:=List Int×Int
structure n8 (p:List Int) (v:i5):Prop where
 len:v.1.length=4
 pos:0<v.2
 hi:∀i,p.length-1<=i->b6 v.1 i=0
 loN:loN v.1 v.2=v
theorem zero_ediv {g:Int}:(0:Int)/g=0:=by simp
theorem sU {cs:List Int} {d:Int} {i:Nat} (h:b6 cs i=0):b6 (loN cs d).1 i=0:=by
 by_cases hl:i<cs.length
 ·rw[VU hl,h,zero_ediv]
 ·rw[z6 (by rw[CA]; omega)]; rfl
theorem dY {p cs:List Int} {d:Int} (hl:cs.length=4) (hd:d≠0) (h:∀i,p.length-1<=i->b6 cs i=0):n8 p (loN cs d):=⟨CA.trans hl,FQ hd,fun i hi=>sU (h i hi),sV hd⟩
theorem DL {p:List Int} {x:List (List Int)×List Int} (_:E8 p):n8 p (i8 p x):=dY IJ NJ fun i hi=>by
 by_cases h:i<4
 ·rw[eT h,z6 (by rw[gJ]; exact hi)]; rfl
 ·rw[z6 (by rw[IJ]; omega)]; rfl
theorem Z0 {p:List Int} {x y:i5} (hx:n8 p x) (hy:n8 p y):n8 p (o5 x y):=dY t7 (by have:=Int.mul_pos hx.pos hy.pos; omega) fun i hi=>by
 by_cases h:i<4
 ·rw[s8 h,hx.hi i hi,hy.hi i hi]; simp
 ·rw[z6 (by rw[t7]; omega)]; rfl
def X2 (v:i5):i5:=(v.1.map (fun z=>-z),v.2)
def j5 (x y:i5):i5:=o5 x (X2 y)
theorem K8 {xs:List Int} {i:Nat}:b6 (xs.map fun z=>-z) i=-b6 xs i:=by
 by_cases h:i<xs.length
 ·simp[b6,h]
 ·rw[z6 (by rw[List.length_map]; omega),z6 zo]; rfl
theorem VQ {p:List Int} {x:i5} (hx:n8 p x):n8 p (X2 x):=by
 refine ⟨by show (x.1.map _).length=4; rw[List.length_map,hx.len],hx.pos,fun i hi=>by show b6 (x.1.map _) i=0; rw[K8,hx.hi i hi]; rfl,?_⟩
 show loN (x.1.map fun z=>-z) x.2=X2 x
 rw[VC,hx.loN]; rfl
theorem P9 {p:List Int} {x y:i5} (hx:n8 p x) (hy:n8 p y):n8 p (j5 x y):=Z0 hx (VQ hy)
theorem E5.mono {j k:Nat} {v:i5} (h:E5 j v) (hjk:j<=k):E5 k v:=⟨fun i=>Nat.le_trans (h.c i) hjk,Nat.le_trans h.d hjk,h.pos,h.len⟩
theorem jB {xs:List Int}:∃k,xs=l7 xs++List.replicate k 0/\xs.length=(l7 xs).length+k:=by
 induction xs with
 | nil=>exact ⟨0,rfl,rfl⟩
 | cons x xs ih =>
  obtain ⟨k,h1,h2⟩:=ih
  simp only[l7]
  split
  ·rename_i h
   obtain ⟨q1,q2⟩:l7 xs=[]/\x=0:=by first | exact h | simpa using h | exact ⟨by assumption,by assumption⟩
   rw[q1] at h1 h2
   refine ⟨k+1,?_,by simp at h2 ⊢; omega⟩
   rw[List.nil_append,List.replicate_succ,q2]
   rw[List.nil_append] at h1
   exact congrArg _ h1
  ·exact ⟨k,by rw[List.cons_append,<- h1],by simp only[List.length_cons]; omega⟩
theorem FT {xs:List Int} {i:Nat}:b6 (l7 xs) i=b6 xs i:=by
 obtain ⟨k,h1,_⟩:=jB (xs:=xs)
 conv=>rhs; rw[h1]
 rw[KY]
 split
 ·rfl
 ·rw[z6 zo]; rfl
theorem jC {xs:List Int} {n:Nat} (h:∀i,n<=i->b6 xs i=0):(l7 xs).length<=n:=by
 refine Classical.byContradiction fun hn=>?_
 have hne:l7 xs≠[]:=fun e=>by rw[e] at hn; simp at hn
 have hl:=JA hne
 have:=h ((l7 xs).length-1) zo
 rw[<- FT] at this
 refine hl ?_
 rw[List.getLast_eq_getElem]
 have hlt:(l7 xs).length-1<(l7 xs).length:=by omega
 simpa [b6,List.getD,List.getElem?_eq_getElem hlt] using this
theorem tF {xs:List Int}:((xs.map j6).map val)=xs:=by
 rw[List.map_map]
 conv=>rhs; rw[<- List.map_id xs]
 exact List.map_congr_left fun c _=>I6 c
theorem K2 {p:List Int} {v:i5} (hv:n8 p v):i8 p (m8 v)=v:=by
 unfold i8 m8
 show loN (U7 p (((l7 v.1).map j6).map val)) (T8 (j6 v.2))=v
 have h0:=hv.pos
 rw[tF,show T8 (j6 v.2)=v.2 by unfold T8; rw[I6,if_neg zo]]
 have e:U7 p (l7 v.1)=v.1:=by
  unfold U7
  rw[PY rfl (jC hv.hi)]
  conv=>rhs; rw[V2 hv.len]
  refine z8 fun i _=>?_
  rw[KY,FT]
  split
  ·rfl
  ·rw[<- FT,z6 zo]; rfl
 rw[e,hv.loN]
theorem M8 {v:i5} {k:Nat} (hv:E5 k v):v7 k (m8 v):=by
 refine ⟨?_,fun i=>?_,U5 _,by show (j6 v.2).length<=k; rw[F0]; exact hv.d⟩
 ·show ((l7 v.1).map j6).length<=6
  have:=T1 (xs:=v.1)
  rw[List.length_map]
  have:=hv.len
  omega
 ·show A5 (b6 ((l7 v.1).map j6) i)/\(b6 ((l7 v.1).map j6) i).length<=k
  have e:b6 ((l7 v.1).map j6) i=j6 (b6 v.1 i):=by
   rw[<- FT]
   by_cases h:i<(l7 v.1).length
   ·simp[b6,h]
   ·rw[z6 (by rw[List.length_map]; omega),z6 zo]; rfl
  rw[e]
  exact ⟨U5 _,by rw[F0]; exact hv.c i⟩
def u9 (n:Int):i5:=([n,0,0,0],1)
theorem xN {cs:List Int}:w7 1 cs=1:=by
 have h1:=UA (c:=cs) (g:=1) zo
 have h2:=NZ (cs:=cs) (g:=1) zo
 unfold w7
 rw[if_neg zo]
 show ((gL 1 cs:Nat):Int)=1
 omega
theorem KS {cs:List Int}:loN cs 1=(cs,1):=by
 unfold loN
 rw[xN]
 simp
theorem KN {p:List Int} (hp:E8 p) (n:Int):n8 p (u9 n):=by
 refine ⟨rfl,by show (0:Int)<1; omega,fun i hi=>?_,KS⟩
 have:=hp.1.1
 show b6 [n,0,0,0] i=0
 match i,hi with
 | 0,h=>omega
 | 1,_=>rfl
 | 2,_=>rfl
 | 3,_=>rfl
 | i+4,_=>rw[z6 (by simp)]; rfl
theorem kP {m n:Int}:o5 (u9 m) (u9 n)=u9 (m+n):=by
 unfold o5 u9
 rw[show (1:Int)*1=1 by rfl,KS]
 simp[n6,List.range,List.range.loop,b6]
theorem iN {m n:Int}:j5 (u9 m) (u9 n)=u9 (m-n):=by
 have e:X2 (u9 n)=u9 (-n):=by simp[X2,u9]
 unfold j5
 rw[e,kP,Int.sub_eq_add_neg]
end Go.Fl

/- Places of intervals, and what is computed of an exchange. No program in sight. -/
namespace Go.Fl
open Go
def j4 (ls:List i5) (row:List Int):Nat->i5
 | 0=>u9 0
 | k+1=>o5 (j4 ls row k) (b6 ls (b6 row k).toNat)
def EQ (ls:List i5) (row:List Int) (k:Nat):List (List (List Int)×List Int):=n6 row.length fun a=>if row.idxOf (a:Int)<k then m8 (j4 ls row (row.idxOf (a:Int))) else ([],[])
def y0 (ls:List i5) (row:List Int):List i5:=n6 row.length fun a=>j4 ls row (row.idxOf (a:Int))
def t8 (ls:List i5) (row:List Int):i5:=j4 ls row row.length
def V9 (r:List Int×List Int) (ls:List i5) (k:Nat):List i5:=n6 k fun a=>j5 (b6 (y0 ls r.2) a) (b6 (y0 ls r.1) a)
theorem vU {ls:List i5} {row:List Int}:EQ ls row 0=List.replicate row.length ([],[]):=by
 unfold EQ
 rw[z8 (G:=fun _=>([],[])) fun a _=>by simp]
 simp[n6,List.map_const']
theorem EG {row:List Int} {n k:Nat} (h:r7 row n) (hk:k<row.length):row.idxOf (b6 row k)=k:=rS hk fun i hi e=>by
 have:=DC h.2.1 zo hk e
 omega
theorem vT {ls:List i5} {row:List Int} {n k:Nat} (h:r7 row n) (hk:k<row.length):(EQ ls row k).set (b6 row k).toNat (m8 (j4 ls row k))=EQ ls row (k+1):=by
 have hr:=h.1 k hk
 have hl:=h.2.2
 unfold EQ
 rw[GJ]
 refine z8 fun a ha=>?_
 by_cases e:a=(b6 row k).toNat
 ·subst e
  have hi:row.idxOf (((b6 row k).toNat:Nat):Int)=k:=by rw[show (((b6 row k).toNat:Nat):Int)=b6 row k by omega]; exact EG h hk
  rw[if_pos rfl,hi,if_pos zo]
 ·have hne:row.idxOf (a:Int)≠k:=fun hi=>e (by
   obtain ⟨j,hj,hja⟩:=GD h.2.1 h.1 h.2.2 (x:=(a:Int)) zo zo
   have:=EG h (k:=j) zo
   rw[hja,hi] at this
   subst this
   omega)
  rw[if_neg e]
  by_cases h1:row.idxOf (a:Int)<k
  ·rw[if_pos h1,if_pos zo]
  ·rw[if_neg h1,if_neg zo]
theorem vS {ls:List i5} {row:List Int} {n:Nat} (h:r7 row n):EQ ls row row.length=(y0 ls row).map m8:=by
 unfold EQ y0
 simp only[n6,List.map_map]
 refine List.map_congr_left fun a ha=>?_
 have ha:a<row.length:=List.mem_range.1 ha
 have hl:=h.2.2
 obtain ⟨j,hj,hja⟩:=GD h.2.1 h.1 h.2.2 (x:=(a:Int)) zo zo
 have hm:(a:Int)∈row:=by rw[<- hja]; exact F7 zo
 show (if _ then _ else _)=m8 (j4 ls row (row.idxOf (a:Int)))
 rw[if_pos (List.idxOf_lt_length_of_mem hm)]
def HB (D:Int) (M:Nat) (v:i5):Prop:=∃cs:List Int,cs.length=4/\v=loN cs D/\∀i,(b6 cs i).natAbs<=M
theorem KQ {cs:List Int} {D:Int} (hD:D≠0) (i:Nat):b6 (loN cs D).1 i*D=b6 cs i*(loN cs D).2:=by
 by_cases h:i<cs.length
 ·rw[VU h]
  obtain ⟨q,hq⟩:=BI (d:=D) (cs:=cs) (.inr (OV h))
  obtain ⟨t,ht⟩:=BI (d:=D) (cs:=cs) (.inl rfl)
  have h0:=GG (cs:=cs) hD
  show b6 cs i/w7 D cs*D=b6 cs i*(D/w7 D cs)
  have e1:b6 cs i/w7 D cs=q:=by rw[congrArg (·/w7 D cs) hq]; exact Int.mul_ediv_cancel_left _ h0
  have e2:D/w7 D cs=t:=by rw[congrArg (·/w7 D cs) ht]; exact Int.mul_ediv_cancel_left _ h0
  rw[e1,e2]
  calc q*D=q*(w7 D cs*t):=by rw[<- ht]
   _=w7 D cs*q*t:=by rw[<- Int.mul_assoc,Int.mul_comm q]
   _=b6 cs i*t:=by rw[<- hq]
 ·rw[z6 (by rw[CA]; omega),z6 zo]
  show (0:Int)*D=0*_
  rw[Int.zero_mul,Int.zero_mul]
theorem QP {F:Nat->Int} {k:Nat} {m:Int}:(n6 k F).map (fun c=>c*m)=n6 k fun i=>F i*m:=by simp[n6]
theorem HB.add {D:Int} {M M':Nat} {x y:i5} (hD:0<D) (hx:HB D M x) (hy:HB D M' y):HB D (M+M') (o5 x y):=by
 obtain ⟨cs,h1,rfl,h3⟩:=hx
 obtain ⟨cs',h1',rfl,h3'⟩:=hy
 have hD0:D≠0:=by omega
 refine ⟨n6 4 fun i=>b6 cs i+b6 cs' i,t7,?_,fun i=>?_⟩
 ·have p1:=FQ (cs:=cs) hD0
  have p2:=FQ (cs:=cs') hD0
  have p3:=Int.mul_pos p1 p2
  refine KR zo hD0 ?_
  rw[QP,QP]
  refine z8 fun i _=>?_
  have e1:=KQ (cs:=cs) hD0 i
  have e2:=KQ (cs:=cs') hD0 i
  generalize b6 (loN cs D).1 i=a at *
  generalize b6 (loN cs' D).1 i=b at *
  generalize (loN cs D).2=c at *
  generalize (loN cs' D).2=d at *
  generalize b6 cs i=u at *
  generalize b6 cs' i=v at *
  calc (a*d+b*c)*D=(a*D)*d+(b*D)*c:=by rw[Int.add_mul,Int.mul_assoc,Int.mul_comm d D,<- Int.mul_assoc,Int.mul_assoc b,Int.mul_comm c D,<- Int.mul_assoc b]
   _=u*c*d+v*d*c:=by rw[e1,e2]
   _=(u+v)*(c*d):=by rw[Int.add_mul,Int.mul_assoc,Int.mul_assoc v,Int.mul_comm d c]
 ·by_cases h:i<4
  ·rw[s8 h]; have:=h3 i; have:=h3' i; omega
  ·rw[z6 (by rw[t7]; omega)]; show (0:Int).natAbs<=_; omega
theorem HB.neg {D:Int} {M:Nat} {x:i5} (hx:HB D M x):HB D M (X2 x):=by
 obtain ⟨cs,h1,rfl,h3⟩:=hx
 refine ⟨cs.map fun z=>-z,by rw[List.length_map,h1],VC.symm,fun i=>?_⟩
 rw[K8,Int.natAbs_neg]
 exact h3 i
theorem HB.sub {D:Int} {M M':Nat} {x y:i5} (hD:0<D) (hx:HB D M x) (hy:HB D M' y):HB D (M+M') (j5 x y):=hx.add hD hy.neg
theorem HB.mono {D:Int} {M M':Nat} {x:i5} (hx:HB D M x) (h:M<=M'):HB D M' x:=let ⟨cs,h1,h2,h3⟩:=hx; ⟨cs,h1,h2,fun i=>Nat.le_trans (h3 i) h⟩
theorem HB.nbd {D:Int} {M k:Nat} {x:i5} (hx:HB D M x) (hD:0<D) (h1:dl D<=k) (h2:dl (M:Int)<=k):E5 k x:=by
 obtain ⟨cs,l,rfl,h3⟩:=hx
 exact VB (fun i=>Nat.le_trans (K5 (h3 i)) h2) h1 zo l
theorem HB.scale {D m:Int} {M:Nat} {x:i5} (hx:HB D M x) (hD:0<D) (hm:0<m):HB (D*m) (M*m.natAbs) x:=by
 obtain ⟨cs,l,rfl,h3⟩:=hx
 refine ⟨cs.map fun c=>c*m,by rw[List.length_map,l],(KT zo zo).symm,fun i=>?_⟩
 by_cases h:i<cs.length
 ·have e:b6 (cs.map fun c=>c*m) i=b6 cs i*m:=by simp[b6,h]
  rw[e,Int.natAbs_mul]
  exact Nat.mul_le_mul_right _ (h3 i)
 ·rw[z6 (by rw[List.length_map]; omega)]; show (0:Int).natAbs<=_; omega
theorem HB.zero {D:Int} (hD:0<D):HB D 0 (u9 0):=by
 refine ⟨[0,0,0,0],rfl,?_,fun i=>?_⟩
 ·have:u9 0=loN [0,0,0,0] 1:=KS.symm
  rw[this]
  refine KR (by decide) zo ?_
  simp
 ·match i with
  | 0=>exact Nat.le_refl _
  | 1=>exact Nat.le_refl _
  | 2=>exact Nat.le_refl _
  | 3=>exact Nat.le_refl _
  | i+4=>rw[z6 (by simp)]; exact Nat.le_refl _
theorem HB.self {p:List Int} {v:i5} {M:Nat} (h:n8 p v) (hM:∀i,(b6 v.1 i).natAbs<=M):HB v.2 M v:=⟨v.1,h.len,h.loN.symm,hM⟩
theorem tS {v:i5} {k:Nat} (h:E5 k v):∃M:Nat,dl (M:Int)<=k/\∀i,(b6 v.1 i).natAbs<=M:=by
 refine ⟨max (max (b6 v.1 0).natAbs (b6 v.1 1).natAbs) (max (b6 v.1 2).natAbs (b6 v.1 3).natAbs),?_,fun i=>?_⟩
 ·have e:∀z:Int,dl ((z.natAbs:Nat):Int)=dl z:=fun z=>by unfold dl; rw[Int.natAbs_natCast]
  have h0:=h.c 0; have h1:=h.c 1; have h2:=h.c 2; have h3:=h.c 3
  rw[<- e] at h0 h1 h2 h3
  rcases Nat.le_total (b6 v.1 0).natAbs (b6 v.1 1).natAbs with q1 | q1<;>rcases Nat.le_total (b6 v.1 2).natAbs (b6 v.1 3).natAbs with q2 | q2<;>simp only[Nat.max_eq_left q1,Nat.max_eq_right q1,Nat.max_eq_left q2,Nat.max_eq_right q2]<;>rw[Nat.max_def]<;>split<;>assumption
 ·by_cases hi:i<4
  ·rcases (show i=0\/i=1\/i=2\/i=3 by omega) with rfl | rfl | rfl | rfl<;>omega
  ·rw[z6 (by rw[h.len]; omega)]; show (0:Int).natAbs<=_; omega
theorem HB.all {p:List Int} {k:Nat}:∀{ls:List i5},(∀v∈ls,n8 p v/\E5 k v)->∃(D:Int) (M:Nat),0<D/\dl D<=ls.length*k+1/\dl (M:Int)<=ls.length*k+1/\∀v∈ls,HB D M v
 | [],_=>⟨1,1,by omega,by rw[List.length_nil,Nat.zero_mul]; exact I4 zo zo,by rw[List.length_nil,Nat.zero_mul]; exact I4 zo zo,fun v h=>by cases h⟩
 | v::ls,h=>by
  obtain ⟨D,M,h1,h2,h3,h4⟩:=HB.all (ls:=ls) fun x hx=>h x (List.mem_cons_of_mem _ hx)
  obtain ⟨hr,hb⟩:=h v List.mem_cons_self
  obtain ⟨Mv,m1,m2⟩:=tS hb
  have hs:=HB.self hr m2
  have e:(v::ls).length*k+1=ls.length*k+1+k:=by rw[List.length_cons,Nat.succ_mul]; omega
  have d1:=w8 D v.2
  have d2:=hb.d
  have d3:=w8 (M:Int) v.2
  have d4:=w8 (Mv:Int) D
  have hv:((v.2.natAbs:Nat):Int)=v.2:=by have:=hb.pos; omega
  have hDa:((D.natAbs:Nat):Int)=D:=by omega
  refine ⟨D*v.2,max (M*v.2.natAbs) (Mv*D.natAbs),Int.mul_pos h1 hb.pos,by omega,?_,fun x hx=>?_⟩
  ·rw[Nat.max_def]
   split
   ·rw[Int.natCast_mul,hDa]; omega
   ·rw[Int.natCast_mul,hv]; omega
  ·rcases List.mem_cons.1 hx with rfl | hx
   ·have:=hs.scale hb.pos h1
    rw[Int.mul_comm] at this
    exact this.mono (Nat.le_max_right _ _)
   ·exact ((h4 x hx).scale h1 hb.pos).mono (Nat.le_max_left _ _)
structure v9 (p:List Int) (D:Int) (M n:Nat) (ls:List i5):Prop where
 len:ls.length=n
 red:∀a,a<n->n8 p (b6 ls a)
 hb:∀a,a<n->HB D M (b6 ls a)
 pos:0<D
 bD:dl D<=200
 bM:dl ((100000*M:Nat):Int)<=200
theorem v9.nbd {p:List Int} {D:Int} {M n m:Nat} {ls:List i5} (h:v9 p D M n ls) {v:i5} (hv:HB D (m*M) v) (hm:m<=100000):E5 200 v :=
 hv.nbd h.pos h.bD (Nat.le_trans (K5 (by rw[Int.natAbs_natCast,Int.natAbs_natCast]; exact Nat.mul_le_mul_right _ hm)) h.bM)
theorem v9.one {p:List Int} {D:Int} {M n a:Nat} {ls:List i5} (h:v9 p D M n ls) (ha:a<n):E5 200 (b6 ls a):=h.nbd (m:=1) (by rw[Nat.one_mul]; exact h.hb a ha) zo
theorem U8 {p:List Int} {D:Int} {M n:Nat} {ls:List i5} {row:List Int} (hp:E8 p) (h:v9 p D M n ls) (hr:r7 row n):∀k,k<=n->n8 p (j4 ls row k)/\HB D (k*M) (j4 ls row k)
 | 0,_=>⟨KN hp 0,by rw[Nat.zero_mul]; exact HB.zero h.pos⟩
 | k+1,hk=>by
  obtain ⟨h1,h2⟩:=U8 hp h hr k zo
  have hrk:=hr.1 k (by have:=hr.2.2; omega)
  refine ⟨Z0 h1 (h.red _ zo),?_⟩
  rw[Nat.succ_mul]
  exact h2.add h.pos (h.hb _ zo)
theorem CB {xs:List i5} {i:Nat} (h:i<xs.length):b6 (xs.map m8) i=m8 (b6 xs i):=by simp[b6,h]
theorem GE {ls:List i5} {row:List Int}:(y0 ls row).length=row.length:=t7
theorem LE {p:List Int} {D:Int} {M n:Nat} {ls:List i5} {row:List Int} (hp:E8 p) (h:v9 p D M n ls) (hr:r7 row n) {a:Nat} (ha:a<n):n8 p (b6 (y0 ls row) a)/\HB D (n*M) (b6 (y0 ls row) a):=by
 have hl:=hr.2.2
 obtain ⟨j,hj,hja⟩:=GD hr.2.1 hr.1 hl (x:=(a:Int)) zo zo
 have hi:row.idxOf (a:Int)=j:=by rw[<- hja]; exact EG hr zo
 unfold y0
 rw[s8 zo,hi]
 obtain ⟨h1,h2⟩:=U8 hp h hr j zo
 exact ⟨h1,h2.mono (Nat.mul_le_mul_right _ zo)⟩
theorem HY {p:List Int} {xs:List (List (List Int)×List Int)} {a:Nat} (h:a<xs.length):b6 (xs.map (i8 p)) a=i8 p (b6 xs a):=by simp[b6,h]
theorem yU {p:List Int} {xs:List (List (List Int)×List Int)} {n:Nat} (hp:E8 p) (hl:xs.length=n) (hn:n<=8) (h:∀a,a<n->v7 2 (b6 xs a)) {more:List i5} (hm:more.length<=2) (hmo:∀v∈more,n8 p v/\E5 17 v):∃(D:Int) (M:Nat),v9 p D M n (xs.map (i8 p))/\∀v∈more,HB D M v:=by
 have key:∀v∈xs.map (i8 p)++more,n8 p v/\E5 17 v:=fun v hv=>by
  rcases List.mem_append.1 hv with hv | hv
  ·obtain ⟨x,hx,rfl⟩:=List.mem_map.1 hv
   obtain ⟨i,hi,rfl⟩:=List.mem_iff_getElem.1 hx
   have e:b6 xs i=xs[i]:=by simp[b6,hi]
   rw[<- e]
   exact ⟨DL hp,V3 hp (h i zo)⟩
  ·exact hmo v hv
 obtain ⟨D,M,h1,h2,h3,h4⟩:=HB.all key
 have hll:(xs.map (i8 p)++more).length<=10:=by rw[List.length_append,List.length_map]; omega
 have hk:=Nat.mul_le_mul_right 17 hll
 have e:∀a,a<n->b6 (xs.map (i8 p)) a∈xs.map (i8 p)++more:=fun a ha=>List.mem_append_left _ (by rw[HY zo]; exact List.mem_map_of_mem (by simp[b6,hl,ha]))
 refine ⟨D,M,⟨by rw[List.length_map,hl],fun a ha=>(key _ (e a ha)).1,fun a ha=>h4 _ (e a ha),h1,by omega,?_⟩,fun v hv=>h4 v (List.mem_append_right _ hv)⟩
 have d1:=w8 (100000:Int) (M:Int)
 have d2:=I4 (F:=100000) zo zo
 rw[show ((100000*M:Nat):Int)=100000*(M:Int) by omega]
 omega
end Go.Fl

/- Contracts: exchanges: places of intervals, the machine. -/
namespace Go.Fl
open Go Go.Proofs
open d5 renaming op->tO
open i6 renaming op->rO
set_option maxRecDepth 100000

abbrev n9:=y8×List Int×List Int×List s7
abbrev Q2:=y9×p6×List s7×List s7×List s7×List s7×s7
def eX:i7 n9:=eC (fun v:n9=>(v.1,v.2.1,v.2.2.1,v.2.2.2,())) (eP D1 (eP (eL eI) (eP (eL eI) (eP (eL j2) eU))))
instance {v:n9}:F3 (b7 eX v) [b7 (eL eI) (v.1.1),kI (v.1.2.1),kI (v.1.2.2.1),kI (v.1.2.2.2),b7 (eL eI) (v.2.1),b7 (eL eI) (v.2.2.1),b7 (eL j2) (v.2.2.2)]:=inferInstanceAs (F3 (b7 (eC (fun v:n9=>(v.1,v.2.1,v.2.2.1,v.2.2.2,())) (eP D1 (eP (eL eI) (eP (eL eI) (eP (eL j2) eU))))) v) _)
instance {v:n9}:P3 eX v (b7 eX v):=⟨fun h=>h⟩
instance {v:n9}:u6 eX v 0 D1 (v.1) 0:=inferInstanceAs (u6 (eC (fun v:n9=>(v.1,v.2.1,v.2.2.1,v.2.2.2,())) (eP D1 (eP (eL eI) (eP (eL eI) (eP (eL j2) eU))))) v 0 _ _ _)
instance {v:n9}:u6 eX v 3 (eL j2) (v.2.2.2) 6:=inferInstanceAs (u6 (eC (fun v:n9=>(v.1,v.2.1,v.2.2.1,v.2.2.2,())) (eP D1 (eP (eL eI) (eP (eL eI) (eP (eL j2) eU))))) v 3 _ _ _)
instance {ks r:List b8} {f:y8} {a b:List Int} {c:List s7} [h:v5 ks (eP D1 (eP (eL eI) (eP (eL eI) (eP (eL j2) eU)))) (f,a,b,c,()) r]:v5 ks eX ((f,a,b,c)) r:=⟨fun h'=>h.imp h'⟩
def E3:i7 Q2:=eC (fun v:Q2=>(v.1,v.2.1,v.2.2.1,v.2.2.2.1,v.2.2.2.2.1,v.2.2.2.2.2.1,v.2.2.2.2.2.2,())) (eP (W7 y1) (eP eO (eP (eL j2) (eP (eL j2) (eP (eL j2) (eP (eL j2) (eP j2 eU)))))))
instance {v:Q2}:u6 E3 v 0 (W7 y1) (v.1) 0:=inferInstanceAs (u6 (eC (fun v:Q2=>(v.1,v.2.1,v.2.2.1,v.2.2.2.1,v.2.2.2.2.1,v.2.2.2.2.2.1,v.2.2.2.2.2.2,())) (eP (W7 y1) (eP eO (eP (eL j2) (eP (eL j2) (eP (eL j2) (eP (eL j2) (eP j2 eU)))))))) v 0 _ _ _)
instance {v:Q2}:u6 E3 v 1 eO (v.2.1) 1:=inferInstanceAs (u6 (eC (fun v:Q2=>(v.1,v.2.1,v.2.2.1,v.2.2.2.1,v.2.2.2.2.1,v.2.2.2.2.2.1,v.2.2.2.2.2.2,())) (eP (W7 y1) (eP eO (eP (eL j2) (eP (eL j2) (eP (eL j2) (eP (eL j2) (eP j2 eU)))))))) v 1 _ _ _)
instance {v:Q2}:u6 E3 v 2 (eL j2) (v.2.2.1) 3:=inferInstanceAs (u6 (eC (fun v:Q2=>(v.1,v.2.1,v.2.2.1,v.2.2.2.1,v.2.2.2.2.1,v.2.2.2.2.2.1,v.2.2.2.2.2.2,())) (eP (W7 y1) (eP eO (eP (eL j2) (eP (eL j2) (eP (eL j2) (eP (eL j2) (eP j2 eU)))))))) v 2 _ _ _)
instance {v:Q2}:u6 E3 v 3 (eL j2) (v.2.2.2.1) 4:=inferInstanceAs (u6 (eC (fun v:Q2=>(v.1,v.2.1,v.2.2.1,v.2.2.2.1,v.2.2.2.2.1,v.2.2.2.2.2.1,v.2.2.2.2.2.2,())) (eP (W7 y1) (eP eO (eP (eL j2) (eP (eL j2) (eP (eL j2) (eP (eL j2) (eP j2 eU)))))))) v 3 _ _ _)
instance {v:Q2}:u6 E3 v 5 (eL j2) (v.2.2.2.2.2.1) 6:=inferInstanceAs (u6 (eC (fun v:Q2=>(v.1,v.2.1,v.2.2.1,v.2.2.2.1,v.2.2.2.2.1,v.2.2.2.2.2.1,v.2.2.2.2.2.2,())) (eP (W7 y1) (eP eO (eP (eL j2) (eP (eL j2) (eP (eL j2) (eP (eL j2) (eP j2 eU)))))))) v 5 _ _ _)
instance {v:Q2}:u6 E3 v 6 j2 (v.2.2.2.2.2.2) 7:=inferInstanceAs (u6 (eC (fun v:Q2=>(v.1,v.2.1,v.2.2.1,v.2.2.2.1,v.2.2.2.2.1,v.2.2.2.2.2.1,v.2.2.2.2.2.2,())) (eP (W7 y1) (eP eO (eP (eL j2) (eP (eL j2) (eP (eL j2) (eP (eL j2) (eP j2 eU)))))))) v 6 _ _ _)
instance {ks r:List b8} {rr:y9} {o:p6} {a b c d:List s7} {t:s7} [h:v5 ks (eP (W7 y1) (eP eO (eP (eL j2) (eP (eL j2) (eP (eL j2) (eP (eL j2) (eP j2 eU))))))) (rr,o,a,b,c,d,t,()) r]:v5 ks E3 ((rr,o,a,b,c,d,t)) r:=⟨fun h'=>h.imp h'⟩
instance:GX j2 (.agg #[.slice none 0 0,.slice none 0 0]) ([],[]):=⟨fun _=>⟨[.slice none 0 0],[.slice none 0 0],rfl,V0,[.slice none 0 0],[],rfl,V0,rfl⟩⟩
def G4 (r:y9) (o:p6) (ls:List i5):Q2:=(r,o,ls.map m8,(y0 ls o.1).map m8,(y0 ls o.2).map m8,(V9 o ls o.1.length).map m8,m8 (t8 ls o.1))
structure DU (r:y9) (sg:i5->Int):Prop where
 sign:∀x,v7 250 x->Ct Tryz.prog 82 [r5 y1 r,b7 j2 x] (kI (sg (i8 r.2.1 x)))
 cmp:∀x y,v7 250 x->v7 250 y->Ct Tryz.prog 83 [r5 y1 r,b7 j2 x,b7 j2 y] (kI (sg (j5 (i8 r.2.1 x) (i8 r.2.1 y))))
theorem pB (r:y9) (u v:i5) (k:Nat) (hpo:E8 r.2.1) (hu:n8 r.2.1 u) (hv:n8 r.2.1 v) (bu:E5 k u) (bv:E5 k v) (hk:k<=100000) {x y:s7} (hx:m8 u=x) (hy:m8 v=y):Ct Tryz.prog 118 [r5 y1 r,b7 j2 x,b7 j2 y] (b7 j2 (m8 (o5 u v))):=by
 have h:=ZU r (m8 u) (m8 v) k hpo (M8 bu) (M8 bv) hk
 rw[K2 hu,K2 hv,hx,hy] at h
 exact h
theorem pC (r:y9) (u v:i5) (k:Nat) (hpo:E8 r.2.1) (hu:n8 r.2.1 u) (hv:n8 r.2.1 v) (bu:E5 k u) (bv:E5 k v) (hk:k<=100000) {x y:s7} (hx:m8 u=x) (hy:m8 v=y):Ct Tryz.prog 116 [r5 y1 r,b7 j2 x,b7 j2 y] (b7 j2 (m8 (j5 u v))):=by
 have h:=ZX r (m8 u) (m8 v) k hpo (M8 bu) (M8 bv) hk
 rw[K2 hu,K2 hv,hx,hy] at h
 exact h
theorem NF (x:n9):Ct Tryz.prog 114 [b7 eX x] (b7 eO (x.2.1,x.2.2.1)):=by
 refine Ct.mk Tryz.func114 rfl Tryz.ntmps114 rfl (fun w J=>?_); refine i2 ?_; refine jb 1 rfl ?_; refine ja 2 ?_; refine l6 ?_; refine tO (A4 (fun hp=>.cons rfl rfl rfl<|.cons rfl rfl rfl<|.nil)) rfl rfl ?_; refine i4 ?_; exact d9.resC1 (fn:=Tryz.f114) rfl rfl (u8 rfl (by rfl))

theorem SQ (r:p6) (h1:r.1.length<=1000) (h2:r.2.length<=1000):Ct Tryz.prog 101 [b7 eO r] (b7 eO r):=by
 refine Ct.mk Tryz.func101 rfl Tryz.ntmps101 rfl (fun w J=>?_); refine i2 ?_; refine jb 1 rfl ?_; refine ja 2 ?_; refine j9 ?_; refine Tr.draw 5 q9 (by kernel_rfl) ?_; refine i2 ?_; refine rO (j7 (fun hp=>BU _ zo) (.a rfl uu<|.nil)) rfl rfl ?_; refine j9 ?_; refine tO (j7 (fun hp=>BU _ zo) (.a rfl uu<|.nil)) rfl rfl ?_; refine tO (A4 (fun hp=>.cons rfl rfl rfl<|.cons rfl rfl rfl<|.nil)) rfl rfl ?_; refine i4 ?_; exact d9.resC1 (fn:=Tryz.f101) rfl rfl (u8 rfl (by rfl))

theorem aL (r:y9) (ra rb:List Int) (ls:List i5) (k1 k2 k3 k4 k5:b8) [o4 k1 []] [o4 k2 []] [o4 k3 []] [o4 k4 []] [o4 k5 []] (row:List Int) (D:Int) (M n:Nat) (hpo:E8 r.2.1) (hls:v9 r.2.1 D M n ls) (hn:n<=8) (hpm:r7 row n):DQ Tryz.prog 115 (w6 0 0) [b7 (eL eI) row] (j3 [r5 y1 r,b7 (eL eI) ra,b7 (eL eI) rb,b7 (eL j2) (ls.map m8),k1,k2,k3,k4,k5]) (j3 [r5 y1 r,b7 (eL eI) ra,b7 (eL eI) rb,b7 (eL j2) (ls.map m8),k1,k2,k3,k4,k5]) (y4 [b7 (eL j2) ((y0 ls row).map m8),b7 j2 (m8 (t8 ls row))]):=by
 have hrl:=hpm.2.2
 have hll:=hls.len
 have hrk:=hpm.1
 have hml:(ls.map m8).length=n:=by rw[List.length_map,hll]
 refine DQ.mk Tryz.func115 rfl Tryz.ntmps115 rfl (fun w J bb cap=>?_); refine j9 ?_; refine ja 5 ?_; refine j9 ?_; refine Tr.draw 5 q9 (by kernel_rfl) ?_; refine i2 ?_; refine i6.new (IG j2 12 rfl uu rfl uu rfl rfl rfl (fun _=>zo)) rfl rfl rfl rfl ?_; refine jd (nL 0 zo) ?_; refine i6.new (IA 7) rfl rfl rfl rfl ?_; refine D3 ?_
 refine Tr.for1 (σ:=Nat) [⟨0,true,_,_⟩,⟨5,true,_,_⟩,⟨7,true,_,_⟩,⟨14,true,_,_⟩,⟨15,true,_,_⟩] [⟨0,_,_⟩,⟨5,_,_⟩] (fun k=>[⟨6,true,[12],q8 12 row.length⟩,⟨16,true,[],kI (k:Int)⟩]) (fun k=>[⟨12,[],m9 false 30 j2 (EQ ls row k) row.length⟩,⟨7,[],j3 [b7 (eL (eL eI)) (m8 (j4 ls row k)).1,b7 (eL eI) (m8 (j4 ls row k)).2]⟩]) (fun k=>k<=row.length) (fun k=>k=row.length) (fun k=>row.length-k) (0) zi (d7.mk (.o rfl zi rfl<|.i rfl zi<|zk) (.a vU.symm zi<|.e (by rfl) rfl<|zk) rfl) ?_ ?_
 ·intro k hR0
  refine jn ?_
  have hrk2:=hrk k
  have hpk:=U8 hpo hls hpm k zo
  refine n7 ?_; refine jq ?_ ?_
  ·intro h3
   refine KP ?_; refine Tr.draw 12 q9 (by kernel_rfl) ?_; refine i9 ?_; refine rO (L4 rfl uu) rfl rfl ?_; refine i4 ?_; refine rO (L4 rfl uu) rfl rfl ?_; refine n7 ?_; refine tO (j7 (fun hp=>pB r (j4 ls row k) (b6 ls (b6 row k).toNat) 200 hpo hpk.1 (hls.red _ zo) (hls.nbd hpk.2 zo) (hls.one zo) zo rfl (CB zo).symm) (.a rfl uu<|.se rfl uu rfl rfl<|.a rfl uu<|.nil)) rfl rfl ?_; refine l6 ?_
   exact g8.lp (k+1) zi zo (d7.mk (.o rfl zi rfl<|.i rfl zi<|zk) (.a (by rw[<- vT hpm zo]) zi<|.e (by rfl) rfl<|zk) rfl)
  ·intro h3
   replace h3:=Int.not_lt.1 h3
   refine i4 ?_
   exact g8.cut (k) zo (d7.mk (.o rfl zi rfl<|.i rfl zi<|zk) (zk) rfl)
 ·rintro k hkn
  refine je ?_; refine i2 ?_; refine Tr.frzBo 12 [6] rfl rfl ⟨rfl,trivial⟩ (by simp only[t6]; omega) rfl ?_; refine Tr.draw 3 q9 (by kernel_rfl) ?_; refine l6 ?_; exact d9.mutTC (fn:=Tryz.f115) (t:=4) (a:=5) rfl rfl (.r rfl (by rw[hkn,vS hpm])<|.nil) rfl rfl (u8 rfl (by rw[hkn]; rfl))

end Go.Fl

/- Contracts: exchanges are opened; points of the interval. -/
namespace Go.Fl
open Go Go.Proofs
open d5 renaming op->tO
open i6 renaming op->rO
set_option maxRecDepth 100000

set_option maxHeartbeats 1000000 in
theorem bE (x:n9) (r:y9) (sg:i5->Int) (D:Int) (M:Nat) (hop:Ct Tryz.prog 113 [b7 D1 x.1] (y4 [r5 y1 r,kI 0])) (hpo:E8 r.2.1) (hs:DU r sg) (v:C9 (x.2.1,x.2.2.1)) (hl:x.2.2.2.length=x.2.1.length) (hnm:∀a,a<x.2.1.length->v7 250 (b6 x.2.2.2 a)) (hlo:v9 r.2.1 D M x.2.1.length (x.2.2.2.map (i8 r.2.1))) (hpos:∀a,a<x.2.1.length->0<sg (i8 r.2.1 (b6 x.2.2.2 a))):Ct Tryz.prog 66 [b7 eX x] (y4 [r5 E3 (G4 r (x.2.1,x.2.2.1) (x.2.2.2.map (i8 r.2.1))),kI 0]):=by
 obtain ⟨ls,hls⟩:∃ls,ls=x.2.2.2.map (i8 r.2.1):=⟨_,rfl⟩
 rw[<- hls] at hlo
 have hll:=hlo.len
 have hle:x.2.1.length<=8:=v.le
 have hle2:x.2.2.1.length=x.2.1.length:=v.len
 have hp1:r7 x.2.1 x.2.1.length:=v.p1
 have hp2:r7 x.2.2.1 x.2.1.length:=v.p2
 have hpl1:((y0 ls x.2.1).map m8).length=x.2.1.length:=by rw[List.length_map,GE]
 have hpl2:((y0 ls x.2.2.1).map m8).length=x.2.1.length:=by rw[List.length_map,GE,hle2]
 rw[<- hls]
 have hnk:∀k,k<x.2.1.length->b6 ls k=i8 r.2.1 (b6 x.2.2.2 k):=fun k hk=>by rw[hls]; simp[b6,hl,hk]
 refine Ct.mk Tryz.func66 rfl Tryz.ntmps66 rfl (fun w J=>?_); refine i2 ?_; refine jb 1 rfl ?_; refine l6 ?_; refine jc hop ?_; refine B4 ?_; refine Tr.cnd rfl ?_ ?_
 ·intro h2
  exact absurd h2 (by decide)
 ·intro h2
  refine n7 ?_; refine tO (j7 (fun hp=>NF _) (.s rfl uu rfl<|.nil)) rfl rfl ?_; refine tO (j7 (fun hp=>SS _) (.a rfl uu<|.nil)) rfl rfl ?_; refine o9 ?_; refine Tr.cnd rfl ?_ ?_
  ·intro h5
   rw[lS v] at h5; exact absurd h5 (by decide)
  ·intro h5
   refine B4 ?_; refine jq ?_ ?_
   ·intro h7
    omega
   ·intro h7
    replace h7:=Classical.not_not.1 h7
    refine n7 ?_; refine tO (j7 (fun hp=>NF _) (.s rfl uu rfl<|.nil)) rfl rfl ?_; refine tO (j7 (fun hp=>SQ _ (by show x.2.1.length<=1000; omega) (by show x.2.2.1.length<=1000; omega)) (.a rfl uu<|.nil)) rfl rfl ?_; refine tO (A4 (fun hp=>.cons rfl rfl rfl<|.cons rfl rfl rfl<|.nil)) rfl rfl ?_; refine jb 38 rfl ?_; refine z5 ?_; refine Tr.growC 38 3 139 rfl (ks':=[_,_,_,q8 139 0,_,_,_,_,_]) rfl rfl 30 j2 rfl (.cons inferInstance rfl<|.cons inferInstance rfl<|.cons inferInstance rfl<|.cons inferInstance rfl<|.cons inferInstance rfl<|.cons inferInstance rfl<|.cons inferInstance rfl<|.cons inferInstance rfl<|.cons inferInstance rfl<|inferInstance) ?_
    refine Tr.for1 (σ:=Nat) [⟨1,true,_,_⟩,⟨4,true,_,_⟩,⟨7,true,_,_⟩,⟨40,true,_,_⟩,⟨41,true,_,_⟩] [⟨1,_,_⟩] (fun k=>[⟨42,true,[],kI (k:Int)⟩]) (fun k=>[⟨38,[139],j3 [r5 y1 r,b7 (eL eI) x.2.1,b7 (eL eI) x.2.2.1,q8 139 k,j8 (.slice none 0 0),j8 (.slice none 0 0),j8 (.slice none 0 0),j8 (.slice none 0 0),j8 (.slice none 0 0)]⟩,⟨139,[],m9 true 30 j2 ((ls.take k).map m8) k⟩]) (fun k=>k<=x.2.1.length) (fun k=>k=x.2.1.length) (fun k=>x.2.1.length-k) (0) zi (d7.mk (.i rfl zi<|zk) (.e (by rfl) rfl<|.a (by rfl) zi<|zk) rfl) ?_ ?_
    ·intro k hR0
     refine jn ?_; refine n7 ?_; refine jq ?_ ?_
     ·intro h11
      refine l6 ?_; refine ja 9 ?_; refine l6 ?_; refine tO (j7 (fun hp=>hs.sign _ (hnm k zo)) (.a rfl uu<|.s rfl uu rfl<|.nil)) rfl rfl ?_; refine j9 ?_; refine jq ?_ ?_
      ·intro h13
       have:=hpos k zo; omega
      ·intro h13
       replace h13:=Int.not_le.1 h13
       refine i2 ?_; refine Tr.drawM (m:=9) q9 (by kernel_rfl) rfl (by kernel_rfl) (by kernel_rfl) (by kernel_rfl) ?_; refine i2 ?_; refine rO (O7 rfl uu) rfl rfl ?_; refine i4 ?_; refine rO (j7 (fun hp=>ZW r _ _ hpo (hnm k zo) zo) (.a rfl uu<|.s rfl uu rfl<|.nil)) rfl rfl ?_; refine i6.new (D5 j2 58 (fun hp=>.cons rfl<|.nil) rfl rfl rfl rfl) rfl rfl rfl rfl ?_; refine i9 ?_; refine d5.wkC 38 (.k<|.k<|.k<|.any<|.k<|.k<|.k<|.k<|.k<|.nil) rfl ?_; refine i9 ?_; refine jl ?_; refine tO (O7 rfl uu) rfl rfl ?_
       refine i2 ?_; refine d5.finN ?_; refine n7 ?_
       exact g8.lp (k+1) zi zo (d7.mk (.i rfl zi<|zk) (.e (by rfl) rfl<|.a (by rw[Y1 zo,List.map_append,hnk k zo]; rfl) zi<|zk) rfl)
     ·intro h11
      replace h11:=Int.not_lt.1 h11
      refine i4 ?_
      exact g8.cut (k) zo (d7.mk (.i rfl zi<|zk) (zk) rfl)
    ·rintro k hkn
     refine je ?_
     have htk:ls.take k=ls:=by rw[hkn,<- hll,List.take_length]
     rw[htk]
     refine i2 ?_; refine Tr.frzC 139 38 (by simp only[t6]; omega) rfl rfl ?_; refine jn ?_; refine n7 ?_; refine d5.mutQ (aL r _ _ ls _ _ _ _ _ x.2.1 D M x.2.1.length hpo hlo zo hp1) rfl (.a rfl uu<|.nil) rfl rfl ?_; refine j9 ?_; refine tO (O7 rfl uu) rfl rfl ?_; refine i2 ?_; refine tO (O7 rfl uu) rfl rfl ?_; refine v6 ?_; refine d5.mutQ (aL r _ _ ls _ _ _ _ _ x.2.2.1 D M x.2.1.length hpo hlo zo hp2) rfl (.a rfl uu<|.nil) rfl rfl ?_; refine j9 ?_; refine tO (O7 rfl uu) rfl rfl ?_; refine l6 ?_; refine tO (O7 rfl uu) rfl rfl ?_
     refine n7 ?_; refine Tr.growC 38 6 140 rfl (ks':=[_,_,_,_,_,_,q8 140 0,_,_]) rfl rfl 30 j2 rfl (.cons inferInstance rfl<|.cons inferInstance rfl<|.cons inferInstance rfl<|.cons inferInstance rfl<|.cons inferInstance rfl<|.cons inferInstance rfl<|.cons inferInstance rfl<|.cons inferInstance rfl<|.cons inferInstance rfl<|inferInstance) ?_
     refine Tr.for1 (σ:=Nat) [⟨4,true,_,_⟩,⟨7,true,_,_⟩,⟨90,true,_,_⟩] [] (fun k=>[⟨91,true,[],kI (k:Int)⟩]) (fun k=>[⟨38,[140],j3 [r5 y1 r,b7 (eL eI) x.2.1,b7 (eL eI) x.2.2.1,b7 (eL j2) (ls.map m8),b7 (eL j2) ((y0 ls x.2.1).map m8),b7 (eL j2) ((y0 ls x.2.2.1).map m8),q8 140 k,b7 (eL (eL eI)) (m8 (t8 ls x.2.1)).1,b7 (eL eI) (m8 (t8 ls x.2.1)).2]⟩,⟨140,[],m9 true 30 j2 (n6 k fun a=>m8 (j5 (b6 (y0 ls x.2.2.1) a) (b6 (y0 ls x.2.1) a))) k⟩]) (fun k=>k<=x.2.1.length) (fun k=>k=x.2.1.length) (fun k=>x.2.1.length-k) (0) zi (d7.mk (.i rfl zi<|zk) (.e (by rfl) rfl<|.a (by rfl) zi<|.nil) rfl) ?_ ?_
     ·intro k hR1
      refine jn ?_; refine n7 ?_; refine jq ?_ ?_
      ·intro h20
       refine v6 ?_; refine Tr.drawM (m:=22) q9 (by kernel_rfl) rfl (by kernel_rfl) (by kernel_rfl) (by kernel_rfl) ?_
       have hq1:=LE hpo hlo hp1 (a:=k) zo
       have hq2:=LE hpo hlo hp2 (a:=k) zo
       refine i2 ?_; refine rO (O7 rfl uu) rfl rfl ?_; refine i4 ?_; refine rO (O7 rfl uu) rfl rfl ?_; refine n7 ?_; refine rO (O7 rfl uu) rfl rfl ?_; refine o0 ?_; refine jd (pC r (b6 (y0 ls x.2.2.1) k) (b6 (y0 ls x.2.1) k) 200 hpo hq2.1 hq1.1 (hlo.nbd hq2.2 zo) (hlo.nbd hq1.2 zo) zo (CB (by rw[GE]; omega)).symm (CB (by rw[GE]; omega)).symm) ?_; refine i6.new (D5 j2 115 (fun hp=>.cons rfl<|.nil) rfl rfl rfl rfl) rfl rfl rfl rfl ?_; refine i9 ?_; refine d5.wkC 38 (.k<|.k<|.k<|.k<|.k<|.k<|.any<|.k<|.k<|.nil) rfl ?_
       refine i9 ?_; refine jl ?_; refine tO (O7 rfl uu) rfl rfl ?_; refine i2 ?_; refine d5.finN ?_; refine n7 ?_
       exact g8.lp (k+1) zi zo (d7.mk (.i rfl zi<|zk) (.e (by rfl) rfl<|.a (by rw[H4]) zi<|.nil) rfl)
      ·intro h20
       replace h20:=Int.not_lt.1 h20
       refine i4 ?_
       exact g8.cut (k) zo (d7.mk (.i rfl zi<|zk) (zk) rfl)
     ·rintro k hkn
      refine je ?_; refine i2 ?_; refine Tr.frzC 140 38 (by simp only[t6]; omega) rfl rfl ?_; refine jn ?_; refine Tr.frzB 38 [7] E3 ⟨rfl,trivial⟩ rfl ?_; refine jn ?_; refine l5 ?_; exact d9.res (fn:=Tryz.f66) (ts:=[2,3]) rfl rfl (.p rfl (by rw[hkn]; simp only[G4,V9,n6,List.map_map]; rfl)<|.i rfl (by rfl)<|.nil)

end Go.Fl

/- What the walks of iterators lean on. -/

/- The letter of a point. No program in sight. -/
namespace Go.Fl
open Go
theorem uH {xs:List Int} {i:Nat}:b6 (xs.drop 1) i=b6 xs (i+1):=by simp[b6]
theorem v7.mono {j k:Nat} {x:List (List Int)×List Int} (h:v7 j x) (hjk:j<=k):v7 k x:=⟨h.len,fun i=>⟨(h.c i).1,Nat.le_trans (h.c i).2 hjk⟩,h.d.1,Nat.le_trans h.d.2 hjk⟩
def F6 (sg:i5->Int) (tops:List i5) (row:List Int) (pv:i5):Nat->Int
 | 0=>b6 row 0
 | k+1=>if sg (j5 (b6 tops (b6 row (k+1)).toNat) pv)<=0 then b6 row (k+1) else F6 sg tops row pv k
theorem dQ {sg:i5->Int} {tops:List i5} {row:List Int} {pv:i5}:∀k,∃j,j<=k/\F6 sg tops row pv k=b6 row j
 | 0=>⟨0,Nat.le_refl _,rfl⟩
 | k+1=>by
  rw[F6]
  split
  ·exact ⟨k+1,Nat.le_refl _,rfl⟩
  ·obtain ⟨j,h1,h2⟩:=dQ (sg:=sg) (tops:=tops) (row:=row) (pv:=pv) k
   exact ⟨j,by omega,h2⟩
theorem dR {sg:i5->Int} {tops:List i5} {row:List Int} {pv:i5} {n k:Nat} (h:r7 row n) (hk:k<n):0<=F6 sg tops row pv k/\F6 sg tops row pv k<n:=by
 obtain ⟨j,h1,h2⟩:=dQ (sg:=sg) (tops:=tops) (row:=row) (pv:=pv) k
 rw[h2]
 exact h.1 j (by have:=h.2.2; omega)
theorem YO {o:List Int×List Int} {ls:List i5} {n:Nat}:(V9 o ls n).length=n:=t7
theorem YP {p:List Int} {D:Int} {M n:Nat} {ls:List i5} {o:List Int×List Int} (hp:E8 p) (h:v9 p D M n ls) (h1:r7 o.1 n) (h2:r7 o.2 n) {a:Nat} (ha:a<n):n8 p (b6 (V9 o ls n) a)/\HB D (2*n*M) (b6 (V9 o ls n) a):=by
 unfold V9
 rw[s8 ha]
 obtain ⟨a1,a2⟩:=LE hp h h1 ha
 obtain ⟨b1,b2⟩:=LE hp h h2 ha
 refine ⟨P9 b1 a1,?_⟩
 rw[show 2*n*M=n*M+n*M by rw[Nat.mul_assoc,Nat.two_mul]]
 exact b2.sub h.pos a2
def E4 (o:List Int×List Int) (ls:List i5) (pv:i5) (a:Int):i5:=o5 pv (b6 (V9 o ls o.1.length) a.toNat)
theorem vW:E8 [0,1]:=by
 refine ⟨by decide,fun i=>?_⟩
 match i with
 | 0=>show dl 0<=1; rw[F5.2 rfl]; omega
 | 1=>show dl 1<=1; exact I4 zo zo
 | i+2=>rw[z6 (by simp)]; show dl 0<=1; rw[F5.2 rfl]; omega
end Go.Fl

/- Contracts: loops over slices.Backward; points, their letters and images. -/
namespace Go.Fl
open Go Go.Proofs
open d5 renaming op->tO
open i6 renaming op->rO
set_option maxRecDepth 100000

instance {r:y9} {o:p6} {ls:List i5}:u6 E3 (G4 r o ls) 0 (W7 y1) (r) 0:=inferInstanceAs (u6 E3 (G4 r o ls) 0 (W7 y1) ((G4 r o ls).1) _)
instance {r:y9} {o:p6} {ls:List i5}:u6 E3 (G4 r o ls) 1 eO (o) 1:=inferInstanceAs (u6 E3 (G4 r o ls) 1 eO ((G4 r o ls).2.1) _)
instance {r:y9} {o:p6} {ls:List i5}:u6 E3 (G4 r o ls) 2 (eL j2) (ls.map m8) 3:=inferInstanceAs (u6 E3 (G4 r o ls) 2 (eL j2) ((G4 r o ls).2.2.1) _)
instance {r:y9} {o:p6} {ls:List i5}:u6 E3 (G4 r o ls) 3 (eL j2) ((y0 ls o.1).map m8) 4:=inferInstanceAs (u6 E3 (G4 r o ls) 3 (eL j2) ((G4 r o ls).2.2.2.1) _)
instance {r:y9} {o:p6} {ls:List i5}:u6 E3 (G4 r o ls) 5 (eL j2) ((V9 o ls o.1.length).map m8) 6:=inferInstanceAs (u6 E3 (G4 r o ls) 5 (eL j2) ((G4 r o ls).2.2.2.2.2.1) _)
instance {r:y9} {o:p6} {ls:List i5}:u6 E3 (G4 r o ls) 6 j2 (m8 (t8 ls o.1)) 7:=inferInstanceAs (u6 E3 (G4 r o ls) 6 j2 ((G4 r o ls).2.2.2.2.2.2) _)
section
open Go Go.RowKit Go.Proofs
attribute [local go_sem] Oper.semAt_some
set_option maxHeartbeats 2000000 in
theorem YQ:LS Tryz.prog 194 eI:=by
 intro J W xs ptr him hp
 obtain ⟨bx,ox,ds,rfl,hrd,hcell⟩:=hp
 obtain ⟨ad,cap,rfl,⟨hlen,hcap⟩,hrow⟩:=hrd
 refine ⟨fun i=>.int .i64 (b6 xs i),fun i _=>⟨[.int .i64 (b6 xs i)],rfl,rfl⟩,?_⟩
 intro l Iv Ix hY h0
 have hbox:∀W',Im J W'->W'.cell? ⟨bx,ox,none⟩=some (.slice ad xs.length cap):=fun W' h=>h _ _ _ (by have:=hcell 0 _ rfl; simpa using this)
 simp only[t6] at hlen
 have hb0:=hbox W him
 refine (callsIn_wide (n:=3)).1 ?_; refine callsIn_of_wp Tryz.func194 rfl trivial ?_
 simp only[Tryz.ntmps194,List.size_toArray,List.length_cons,List.length_nil,Nat.reduceAdd,Nat.reduceSub,Array.replicate_succ,Array.replicate_zero,List.push_toArray,List.append_toArray,List.nil_append,List.cons_append]
 gi_wp2
 gi_loopw [3] (fun i wr=>∃k:Nat,k<=xs.length/\i=.int .i64 ((xs.length:Int)-1-k)/\Iv k wr/\Im J wr)
  (fun i _=>(intOf i+1).toNat)
 case atStart=>exact ⟨0,Nat.zero_le _,by simp,h0,him⟩
 case round =>
  obtain ⟨k,hk,rfl,hJs,himr⟩:=hrel
  have hbr:=hbox wr himr
  by_cases hlt:k<xs.length
  ·obtain ⟨fn,tmps,assign,body,hy,hR⟩:=hY k wr hlt himr hJs
   rw[show ((xs.length-1-k:Nat):Int)=(xs.length:Int)-1-k by omega] at hy
   obtain ⟨b,o,rfl,hrw⟩:=hrow.resolve_left (fun e=>by subst e; simp at hlt)
   have hcx:wr.cell? ⟨b,o+(xs.length-1-k),none⟩=some (.int .i64 (b6 xs (xs.length-1-k))):=by
    obtain ⟨ds,q1,q2⟩:=hrw (xs.length-1-k) _ (G0 zo)
    have q1:ds=[.int .i64 (b6 xs (xs.length-1-k))]:=q1
    subst q1
    have:=himr _ _ _ (q2 0 _ rfl)
    simpa [eI,EC] using this
   gi_wp2
   refine hR.mono ?_
   rintro e W3 (⟨rfl,hJ3,hk3⟩ | ⟨rfl,hJx3⟩)
   ·gi_wp2
    go_roundw
    case rel=>exact ⟨k+1,by omega,by congr 1; omega,hJ3,hk3⟩
    case measure=>simp[intOf]; omega
   ·gi_wp2
    refine bodyPost_ret (results_none rfl _ _ _) rfl ?_; exact ⟨⟨_,rfl⟩,.inr ⟨k,hlt,hJx3⟩⟩
  ·obtain rfl:k=xs.length:=by omega
   gi_wp2
   go_end0
   exact ⟨⟨_,rfl⟩,.inl hJs⟩
end
theorem ZQ (xs:List Int):Ct Tryz.prog 166 [b7 (eL eI) xs] (Z8 194 [r5 (eL eI) xs]):=by
 refine Ct.mk Tryz.func166 rfl Tryz.ntmps166 rfl (fun w J=>?_); refine i2 ?_; refine jb 1 rfl ?_; refine i4 ?_; refine Tr.frzB 1 [1] (eL eI) ⟨rfl,trivial⟩ rfl ?_; refine jn ?_; refine i9 ?_; refine tO (EK (.cons rfl uu<|.nil)) rfl rfl ?_; refine i4 ?_; exact d9.res1 (fn:=Tryz.f166) rfl (zk)

theorem aD (r:y9) (o:p6) (ls:List i5) (sg:i5->Int) (p q:s7) (hs:DU r sg) (hpn:v7 250 p) (hq:v7 250 q):Ct Tryz.prog 67 [r5 E3 (G4 r o ls),b7 j2 p,b7 j2 q] (kB (decide (0<=sg (i8 r.2.1 p))&&decide (sg (j5 (i8 r.2.1 p) (i8 r.2.1 q))<0))):=by
 refine Ct.mk Tryz.func67 rfl Tryz.ntmps67 rfl (fun w J=>?_); refine i2 ?_; refine jb 4 rfl ?_; refine jb 5 rfl ?_; refine i4 ?_; refine Tr.draw 14 q9 (by kernel_rfl) ?_; refine i9 ?_; refine rO (G7 rfl uu) rfl rfl ?_; refine j9 ?_; refine rO (j7 (fun hp=>hs.sign _ hpn) (.a rfl uu<|.s rfl uu rfl<|.nil)) rfl rfl ?_; refine j9 ?_; refine i6.gd rfl rfl rfl (G7 rfl id) rfl rfl ?_; refine o0 ?_; refine d5.gd rfl rfl rfl (j7 (fun hp=>hs.cmp _ _ hpn hq) (.a rfl id<|.s rfl id rfl<|.s rfl id rfl<|.nil)) rfl rfl ?_; refine n7 ?_
 exact d9.res1 (fn:=Tryz.f67) rfl (.b rfl zi<|.nil)

theorem oG (r:y9) (o:p6) (ls:List i5) (sg:i5->Int) (D:Int) (M:Nat) (p:s7) (hpo:E8 r.2.1) (hs:DU r sg) (v:C9 o) (hlo:v9 r.2.1 D M o.1.length ls) (hpn:v7 250 p):Ct Tryz.prog 117 [r5 E3 (G4 r o ls),b7 j2 p] (kI (F6 sg (y0 ls o.1) o.1 (i8 r.2.1 p) (o.1.length-1))):=by
 have hle:o.1.length<=8:=v.le
 have htwo:2<=o.1.length:=v.two
 have hp1:r7 o.1 o.1.length:=v.p1
 have hrr:=hp1.1
 have hpl1:((y0 ls o.1).map m8).length=o.1.length:=by rw[List.length_map,GE]
 have hdl:(o.1.drop 1).length=o.1.length-1:=List.length_drop
 have hdn:∀i,b6 (o.1.drop 1) i=b6 o.1 (i+1):=fun i=>uH
 refine CtM.mk Tryz.func117 rfl Tryz.ntmps117 rfl (fun w J=>?_); refine i2 ?_; refine jb 2 rfl ?_; refine jb 3 rfl ?_; refine ja 4 ?_; refine o0 ?_; refine tO (G7 rfl uu) rfl rfl ?_; refine v6 ?_; refine tO (vB rfl uu rfl uu (fun _=>zo) rfl) rfl rfl ?_; refine tO (j7 (fun hp=>ZQ _) (.a rfl uu<|.nil)) rfl rfl ?_; refine j9 ?_; refine Tr.back (e:=eI) (xs:=(o.1.drop 1)) YQ [⟨2,true,_,_⟩,⟨3,true,_,_⟩,⟨4,true,_,_⟩,⟨5,true,_,_⟩,⟨15,true,_,_⟩] [2,3,4] (fun k=>[⟨2,[],j3 [r5 E3 (G4 r o ls)]⟩,⟨3,[],j3 [b7 (eL (eL eI)) p.1,b7 (eL eI) p.2]⟩,⟨4,[],j3 [kI 0]⟩]) (fun k=>[⟨2,[],j3 [r5 E3 (G4 r o ls)]⟩,⟨3,[],j3 [b7 (eL (eL eI)) p.1,b7 (eL eI) p.2]⟩,⟨4,[],j3 [kI (b6 (o.1.drop 1) ((o.1.drop 1).length-k))]⟩]) (fun k=>F6 sg (y0 ls o.1) o.1 (i8 r.2.1 p) (o.1.length-1)=F6 sg (y0 ls o.1) o.1 (i8 r.2.1 p) (o.1.length-1-k)) (fun k=>F6 sg (y0 ls o.1) o.1 (i8 r.2.1 p) (o.1.length-1)=b6 (o.1.drop 1) ((o.1.drop 1).length-k)) (d7.mk (.k rfl rfl<|.k rfl rfl<|.k rfl rfl<|.k rfl rfl<|.k rfl rfl<|.nil) (.k rfl<|.k rfl<|.k rfl<|.nil) rfl) rfl rfl (fun _=>rfl) (fun _=>rfl) (fun _=>inferInstance) (fun _=>inferInstance) rfl rfl ?_ ?_ ?_
 ·intro k hk15 hR15 l15 w15 J15 b15 bks15
  refine jn ?_
  have hix:(o.1.drop 1).length-1-k+1=o.1.length-1-k:=by omega
  have hio:=hrr (o.1.length-1-k) zo
  have hni:=hdn ((o.1.drop 1).length-1-k)
  rw[hix] at hni
  have hq:=LE hpo hlo hp1 (a:=(b6 o.1 (o.1.length-1-k)).toNat) zo
  have hmg:b6 ((y0 ls o.1).map m8) (b6 (o.1.drop 1) ((o.1.drop 1).length-1-k)).toNat=m8 (b6 (y0 ls o.1) (b6 o.1 (o.1.length-1-k)).toNat):=by rw[hni]; exact CB (by rw[GE]; omega)
  obtain ⟨m,hm⟩:∃m,o.1.length-1-k=m+1:=⟨o.1.length-1-(k+1),by omega⟩
  refine j9 ?_; refine g8.asg (fun w1015 J1015 b1015=>?_); refine jn ?_; refine i2 ?_; refine Tr.draw 12 q9 (by kernel_rfl) ?_; refine i9 ?_; refine rO (G7 rfl uu) rfl rfl ?_; refine j9 ?_; refine rO (G7 rfl uu) rfl rfl ?_; refine l5 ?_; refine tO (j7 (fun hp=>hs.cmp _ _ (by rw[hmg]; exact (M8 (hlo.nbd hq.2 zo)).mono zo) hpn) (.a rfl uu<|.a rfl uu<|.s rfl uu rfl<|.nil)) rfl rfl ?_; refine j9 ?_; refine jq ?_ ?_
  ·intro h4
   rw[hmg,K2 hq.1] at h4
   refine l6 ?_; exact d9.rnd (by rw[hR15,show (o.1.drop 1).length-(k+1)=(o.1.drop 1).length-1-k by omega,hni,hm,F6,if_pos (by rw[<- hm]; omega)]) (d7.mk (zk) (.k rfl<|.k rfl<|.e (by rw[show (o.1.drop 1).length-(k+1)=(o.1.drop 1).length-1-k by omega]) rfl<|.nil) rfl)
  ·intro h4
   replace h4:=Int.not_le.1 h4
   rw[hmg,K2 hq.1] at h4
   refine i2 ?_; exact g8.rnd (by rw[hR15,hm,F6,if_neg (by rw[<- hm]; omega),show o.1.length-1-(k+1)=m by omega]) (d7.mk (zk) (zk) rfl)
 ·intro hE15
  refine je ?_; refine C6 ?_; refine d9.mk ?_; exact d9.resL1 (fn:=Tryz.f117) rfl rfl rfl (dK (by rw[hE15,show o.1.length-1-(o.1.drop 1).length=0 by omega]; rfl))
 ·intro k hk15 hX15
  refine d9.norm (S':=[⟨2,true,_,_⟩,⟨3,true,_,_⟩,⟨4,true,_,_⟩,⟨5,true,_,_⟩,⟨15,true,_,_⟩]) (M':=[⟨2,_,_⟩,⟨3,_,_⟩,⟨4,_,_⟩]) rfl rfl ?_; refine i2 ?_; refine d9.mk ?_; exact d9.resL1 (fn:=Tryz.f117) rfl rfl rfl (dK hX15.symm)

end Go.Fl

/- Contracts: the image of a point. -/
namespace Go.Fl
open Go Go.Proofs
open d5 renaming op->tO
open i6 renaming op->rO
set_option maxRecDepth 100000

theorem aC (r:y9) (o:p6) (ls:List i5) (sg:i5->Int) (D:Int) (M:Nat) (p:s7) (hpo:E8 r.2.1) (hs:DU r sg) (v:C9 o) (hlo:v9 r.2.1 D M o.1.length ls) (hpn:v7 250 p):Ct Tryz.prog 68 [r5 E3 (G4 r o ls),b7 j2 p] (y4 [b7 j2 (m8 (E4 o ls (i8 r.2.1 p) (F6 sg (y0 ls o.1) o.1 (i8 r.2.1 p) (o.1.length-1)))),kI (F6 sg (y0 ls o.1) o.1 (i8 r.2.1 p) (o.1.length-1))]):=by
 have hle:o.1.length<=8:=v.le
 have htwo:2<=o.1.length:=v.two
 have hp1:r7 o.1 o.1.length:=v.p1
 have hrr:=hp1.1
 have hpl1:((y0 ls o.1).map m8).length=o.1.length:=by rw[List.length_map,GE]
 have hp2:=v.p2
 have hlt:=dR (sg:=sg) (tops:=y0 ls o.1) (pv:=i8 r.2.1 p) hp1 (show o.1.length-1<o.1.length by omega)
 have hq:=YP hpo hlo hp1 hp2 (a:=(F6 sg (y0 ls o.1) o.1 (i8 r.2.1 p) (o.1.length-1)).toNat) zo
 have hmg:b6 ((V9 o ls o.1.length).map m8) (F6 sg (y0 ls o.1) o.1 (i8 r.2.1 p) (o.1.length-1)).toNat=m8 (b6 (V9 o ls o.1.length) (F6 sg (y0 ls o.1) o.1 (i8 r.2.1 p) (o.1.length-1)).toNat):=CB (by rw[YO]; omega)
 have hal:((V9 o ls o.1.length).map m8).length=o.1.length:=by rw[List.length_map,YO]
 refine Ct.mk Tryz.func68 rfl Tryz.ntmps68 rfl (fun w J=>?_); refine i2 ?_; refine jb 3 rfl ?_; refine ja 4 ?_; refine l5 ?_; refine jc (oG r o ls sg D M p hpo hs v hlo hpn) ?_; refine i4 ?_; refine Tr.drawS 14 4 q9 (by kernel_rfl) ?_; refine o7.opA (H3 rfl uu) (by kernel_rfl) rfl rfl ?_; refine o7.opA (G7 rfl uu) (by kernel_rfl) rfl rfl ?_; refine o7.opA (ID rfl uu rfl) (by kernel_rfl) rfl rfl ?_; refine o7.opA (K1 rfl uu rfl) (by kernel_rfl) rfl rfl ?_; refine o7.opA (O6 rfl uu) (by kernel_rfl) rfl rfl ?_; refine o7.opA (H3 rfl uu) (by kernel_rfl) rfl rfl ?_
 refine o7.opA (G7 rfl uu) (by kernel_rfl) rfl rfl ?_; refine o7.opA (ID rfl uu rfl) (by kernel_rfl) rfl rfl ?_; refine o7.opA (K1 rfl uu rfl) (by kernel_rfl) rfl rfl ?_; refine o7.opA (H3 rfl uu) (by kernel_rfl) rfl rfl ?_
 first | refine o7.opA (I0 rfl uu rfl uu rfl (fun _=>zo)) (by kernel_rfl) rfl rfl ?_ | refine o7.opA (AY rfl uu rfl uu rfl (fun _=>zo)) (by kernel_rfl) rfl rfl ?_
 refine o7.opA (S7 rfl uu rfl rfl) (by kernel_rfl) rfl rfl ?_; refine o7.opA (j7 (fun hp=>ZU r p _ 250 hpo hpn (by rw[hmg]; exact (M8 (hlo.nbd hq.2 zo)).mono zo) zo) (.a rfl uu<|.s rfl uu rfl<|.a rfl uu<|.nil)) (by kernel_rfl) rfl rfl ?_; refine o7.op (H3 rfl uu) rfl rfl ?_; refine o7.z (EU rfl rfl rfl) rfl rfl rfl ?_; refine i4 ?_; exact d9.resC (fn:=Tryz.f68) (ts:=[5]) rfl rfl rfl (u8 rfl (by rw[hmg,K2 hq.1]; rfl)) (.i rfl (by rfl)<|.nil)

theorem pG (x:n9) (r:y9) (sg:i5->Int) (D:Int) (M:Nat) (p:s7) (hop:Ct Tryz.prog 113 [b7 D1 x.1] (y4 [r5 y1 r,kI 0])) (hpo:E8 r.2.1) (hs:DU r sg) (v:C9 (x.2.1,x.2.2.1)) (hl:x.2.2.2.length=x.2.1.length) (hnm:∀a,a<x.2.1.length->v7 250 (b6 x.2.2.2 a)) (hlo:v9 r.2.1 D M x.2.1.length (x.2.2.2.map (i8 r.2.1))) (hpos:∀a,a<x.2.1.length->0<sg (i8 r.2.1 (b6 x.2.2.2 a))) (hpn:v7 250 p) (hin:0<=sg (i8 r.2.1 p)/\sg (j5 (i8 r.2.1 p) (t8 (x.2.2.2.map (i8 r.2.1)) x.2.1))<0):Ct Tryz.prog 15 [b7 eX x,b7 j2 p] (y4 [b7 j2 (m8 (E4 (x.2.1,x.2.2.1) (x.2.2.2.map (i8 r.2.1)) (i8 r.2.1 p) (F6 sg (y0 (x.2.2.2.map (i8 r.2.1)) x.2.1) x.2.1 (i8 r.2.1 p) (x.2.1.length-1)))),kI (F6 sg (y0 (x.2.2.2.map (i8 r.2.1)) x.2.1) x.2.1 (i8 r.2.1 p) (x.2.1.length-1)),kI 0]):=by
 have hle:x.2.1.length<=8:=v.le
 have hp1:r7 x.2.1 x.2.1.length:=v.p1
 have htt:=U8 hpo hlo hp1 x.2.1.length (Nat.le_refl _)
 have htg:i8 r.2.1 (m8 (t8 (x.2.2.2.map (i8 r.2.1)) x.2.1))=t8 (x.2.2.2.map (i8 r.2.1)) x.2.1:=K2 htt.1
 refine Ct.mk Tryz.func15 rfl Tryz.ntmps15 rfl (fun w J=>?_); refine i2 ?_; refine jb 2 rfl ?_; refine jb 3 rfl ?_; refine ja 4 ?_; refine l5 ?_; refine jc (bE x r sg D M hop hpo hs v hl hnm hlo hpos) ?_; refine B4 ?_; refine Tr.cnd rfl ?_ ?_
 ·intro h2
  exact absurd h2 (by decide)
 ·intro h2
  refine i4 ?_; refine Tr.draw 6 q9 (by kernel_rfl) ?_; refine j9 ?_; refine rO (G7 rfl uu) rfl rfl ?_; refine j9 ?_; refine jc (aD r (x.2.1,x.2.2.1) (x.2.2.2.map (i8 r.2.1)) sg p (m8 (t8 (x.2.2.2.map (i8 r.2.1)) x.2.1)) hs hpn ((M8 (hlo.nbd htt.2 zo)).mono zo)) ?_; refine j9 ?_; refine Tr.cnd rfl ?_ ?_
  ·intro h4
   rw[htg] at h4; simp[hin.1,hin.2] at h4
  ·intro h4
   refine n7 ?_; refine jc (aC r (x.2.1,x.2.2.1) (x.2.2.2.map (i8 r.2.1)) sg D M p hpo hs v hlo hpn) ?_; refine j9 ?_; refine ja 9 ?_; refine B4 ?_
   exact d9.resC (fn:=Tryz.f15) (ts:=[5,6]) rfl rfl rfl (u8 rfl zi) (.i rfl zi<|.i rfl zi<|.nil)

end Go.Fl

/- Lowest terms, as the reference of chapter 1 finds them. No program in sight. -/
namespace Go.Fl
open Go
theorem XJ {xs:List Int} {x:Int} (hx:x≠0):l7 (xs++[x])=xs++[x]:=by
 have:=EV (xs:=xs++[x]) (m:=xs.length+1) (by simp) (fun i h1 h2=>by simp at h2; omega) (.inr (by simpa [b6] using hx))
 rw[this,List.take_of_length_le (by simp)]
theorem zA {xs:List Int}:l7 (xs++[0])=l7 xs:=QT (k:=1)
theorem jG {xs:List Int} {k:Nat} (hk:k<xs.length):(l7 (xs.take (k+1))).length=if b6 xs k=0 then (l7 (xs.take k)).length else k+1:=by
 rw[Y1 hk]
 split
 ·rename_i h; rw[h,zA]
 ·rename_i h; rw[XJ h,List.length_append,List.length_take]; simp; omega
theorem qQ {a g:Int} (hg:g≠0) (h:g∣a):a/g=0↔a=0:=by
 obtain ⟨q,rfl⟩:=h
 rw[Int.mul_ediv_cancel_left _ hg]
 constructor
 ·intro e; rw[e]; simp
 ·intro e; exact (Int.mul_eq_zero.1 e).resolve_left hg
theorem yZ {g:Int} (hg:g≠0):∀{cs:List Int},(∀c∈cs,g∣c)->l7 (cs.map fun c=>c/g)=(l7 cs).map fun c=>c/g:=by
 intro cs h
 obtain ⟨k,h1,_⟩:=jB (xs:=cs)
 have hz:(cs.map fun c=>c/g)=((l7 cs).map fun c=>c/g)++List.replicate k 0:=by
  conv=>lhs; rw[h1]
  rw[List.map_append,List.map_replicate]
  simp
 rw[hz,QT]
 by_cases hn:l7 cs=[]
 ·rw[hn]; rfl
 ·obtain ⟨xs,x,hx⟩:∃xs x,l7 cs=xs++[x]:=⟨_,_,(List.dropLast_concat_getLast hn).symm⟩
  have hl:=JA hn
  have hx0:x≠0:=by
   have e:(l7 cs).getLast hn=x:=by simp[hx]
   rw[<- e]; exact hl
  rw[hx,List.map_append]
  exact XJ fun e=>hx0 ((qQ hg (h x (QS (by rw[hx]; simp)))).1 e)
theorem sS {cs:List Int} {d:Int} (hd:d≠0):m8 (loN cs d)=(n6 (l7 cs).length (fun i=>j6 (b6 cs i/w7 d cs)),j6 (d/w7 d cs)):=by
 unfold m8 loN
 refine Prod.ext ?_ rfl
 show (l7 (cs.map fun c=>c/w7 d cs)).map j6=_
 rw[yZ (GG hd) fun c hc=>BI (.inr hc)]
 refine H2 (by simp[n6]) fun i hi=>?_
 rw[List.length_map,List.length_map] at hi
 rw[s8 hi,<- FT]
 simp[b6,hi]
end Go.Fl

/- Contracts: numbers of the reference of chapter 1 in lowest terms. -/
namespace Go.Fl
open Go Go.Proofs
open d5 renaming op->tO
open i6 renaming op->rO
set_option maxRecDepth 100000

set_option maxHeartbeats 1000000 in
theorem oS (c:List (List Int)) (d:List Int) (hc:∀i,A5 (b6 c i)/\(b6 c i).length<=100000) (hd:A5 d/\d.length<=100000) (h0:val d≠0) (hcl:c.length<=1000):Ct Tryz.prog 81 [b7 (eL (eL eI)) c,b7 (eL eI) d] (b7 j2 (m8 (loN (c.map val) (val d)))):=by
 have hdd:dl (val d)<=100003:=by have:=O1 hd.1; have:=hd.2; omega
 have hgl:∀k,dl (gL (val d).natAbs ((c.map val).take k):Int)<=100003:=fun k=>Nat.le_trans (K5 (UA zo)) hdd
 have hvl:(c.map val).length=c.length:=List.length_map ..
 have hnv:∀k,b6 (c.map val) k=val (b6 c k):=fun k=>OU
 have hg0:(w7 (val d) (c.map val))≠0:=GG h0
 have hgd:dl (w7 (val d) (c.map val))<=100003:=by have:=hgl c.length; rw[List.take_of_length_le zo] at this; unfold w7; split; (rw[K6]; exact this); exact this
 have hgz:val []=0:=rfl
 have htl:(l7 (c.map val)).length<=c.length:=by have:=T1 (xs:=(c.map val)); omega
 refine Ct.mk Tryz.func81 rfl Tryz.ntmps81 rfl (fun w J=>?_); refine i2 ?_; refine ja 4 ?_; refine o0 ?_; refine tO (j7 (fun hp=>aO d [] hd.1 (fun _ h=>absurd h (Nat.not_lt_zero _)) (by have:=hd.2; omega) (by simp)) (.a rfl uu<|.n rfl uu<|.nil)) rfl rfl ?_; refine B4 ?_
 refine Tr.for1 (σ:=Nat) [⟨0,true,_,_⟩,⟨1,true,_,_⟩,⟨4,true,_,_⟩] [⟨4,_,_⟩] (fun k=>[⟨5,true,[],b7 (eL eI) (d6 (gL (val d).natAbs ((c.map val).take k)))⟩,⟨6,true,[],kI ((l7 ((c.map val).take k)).length:Int)⟩,⟨7,true,[],kI (k:Int)⟩]) (fun k=>[]) (fun k=>k<=c.length) (fun k=>k=c.length) (fun k=>c.length-k) (0) zi (d7.mk (.r rfl (by rw[hgz]; simp[gL])<|.i rfl (by rfl)<|.i rfl zi<|zk) (zk) rfl) ?_ ?_
 ·intro k hR0
  refine jn ?_
  have hck:=hc k
  refine o9 ?_; refine jq ?_ ?_
  ·intro h4
   refine C6 ?_; refine tO (j7 (fun hp=>aO (d6 (gL (val d).natAbs ((c.map val).take k))) (b6 c k) (w3 _).inI hck.1 (by have:=hgl k; unfold dl at this; simp only[Int.natAbs_natCast] at this; omega) (by have:=hck.2; omega)) (.a rfl uu<|.a rfl uu<|.nil)) rfl rfl ?_; refine o9 ?_; refine jc (aR (b6 c k) hck.1 (by have:=hck.2; omega)) ?_; refine j9 ?_; refine jq ?_ ?_
   ·intro h7
    have hnz:b6 (c.map val) k≠0:=fun e=>h7 (W0.2 (by rw[<- hnv]; exact e))
    refine z5 ?_
    exact g8.lp (k+1) zi zo (d7.mk (.r rfl (by rw[w5]; refine congrArg d6 ?_; have:=UB (c:=(c.map val)) (g:=(val d).natAbs) (k:=k) zo; rw[hnv] at this; simp only[Int.gcd,Int.natAbs_natCast] at this ⊢; omega)<|.i rfl (by rw[jG zo,if_neg hnz]; rfl)<|.i rfl zi<|zk) (zk) rfl)
   ·intro h7
    replace h7:=Classical.not_not.1 h7
    have hnz:b6 (c.map val) k=0:=by rw[hnv]; exact W0.1 h7
    refine l6 ?_
    exact g8.lp (k+1) zi zo (d7.mk (.r rfl (by rw[w5]; refine congrArg d6 ?_; have:=UB (c:=(c.map val)) (g:=(val d).natAbs) (k:=k) zo; rw[hnv] at this; simp only[Int.gcd,Int.natAbs_natCast] at this ⊢; omega)<|.i rfl (by rw[jG zo,if_pos hnz])<|.i rfl zi<|zk) (zk) rfl)
  ·intro h4
   replace h4:=Int.not_lt.1 h4
   refine i4 ?_
   exact g8.cut (k) zo (d7.mk (.r rfl zi<|.i rfl zi<|.i rfl zi<|zk) (zk) rfl)
 ·rintro _ rfl
  refine je ?_
  rw[show (c.map val).take c.length=(c.map val) from List.take_of_length_le zo]
  refine i9 ?_; refine Tr.meet2 (σ:=Unit) [⟨0,true,_,_⟩,⟨1,true,_,_⟩,⟨4,true,_,_⟩,⟨6,true,_,_⟩] [⟨4,_,_⟩] (zk) (zk) (fun _=>[⟨5,true,[],b7 (eL eI) (j6 (w7 (val d) (c.map val)))⟩]) (fun _=>[]) (fun _=>True) ?_ ?_
  ·skip
   refine j9 ?_; refine jc (aR d hd.1 (by have:=hd.2; omega)) ?_; refine j9 ?_; refine jq ?_ ?_
   ·intro h9
    have h9l:val d<0:=by unfold u5 at h9; split at h9; assumption; split at h9<;>omega
    refine i2 ?_; refine tO (j7 (fun hp=>FN (d6 (gL (val d).natAbs (c.map val))) (w3 _).inI (by have:=hgl c.length; rw[List.take_of_length_le zo] at this; unfold dl at this; simp only[Int.natAbs_natCast] at this; omega)) (.a rfl uu<|.nil)) rfl rfl ?_; refine i2 ?_
    exact g8.cut (()) zi (d7.mk (.r rfl (by rw[w5]; unfold w7; rw[if_pos h9l])<|zk) (zk) rfl)
   ·intro h9
    replace h9:=Int.not_lt.1 h9
    have h9l:¬val d<0:=fun e=>by unfold u5 at h9; rw[if_pos e] at h9; omega
    refine i9 ?_
    exact g8.cut (()) zi (d7.mk (.r rfl (by unfold w7; rw[if_neg h9l,OR])<|zk) (zk) rfl)
  ·intro _ hM
   refine jn ?_; refine i2 ?_; refine tO (A4 (fun hp=>.nil)) rfl rfl ?_; refine ja 8 ?_; refine o9 ?_; refine Tr.growC 8 0 108 rfl (ks':=[q8 108 0,_]) rfl rfl 22 (eL eI) rfl (.cons inferInstance rfl<|.cons inferInstance rfl<|inferInstance) ?_
   refine Tr.for1 (σ:=Nat) [⟨0,true,_,_⟩,⟨1,true,_,_⟩,⟨4,true,_,_⟩,⟨5,true,_,_⟩,⟨6,true,_,_⟩,⟨8,true,_,_⟩] [⟨4,_,_⟩] (fun k=>[⟨9,true,[],kI (k:Int)⟩]) (fun k=>[⟨8,[108],j3 [q8 108 k,j8 (.slice none 0 0)]⟩,⟨108,[],m9 true 22 (eL eI) (n6 k fun i=>j6 (b6 (c.map val) i/(w7 (val d) (c.map val)))) k⟩]) (fun k=>k<=(l7 (c.map val)).length) (fun k=>k=(l7 (c.map val)).length) (fun k=>(l7 (c.map val)).length-k) (0) zi (d7.mk (.i rfl zi<|zk) (.e (by rfl) rfl<|.a (by rfl) zi<|zk) rfl) ?_ ?_
   ·intro k hR1
    refine jn ?_
    have hck:=hc k
    refine l6 ?_; refine jq ?_ ?_
    ·intro h13
     refine C6 ?_; refine tO (j7 (fun hp=>(by have h:=aN (b6 c k) (j6 (w7 (val d) (c.map val))) hck.1 (U5 _) (by have:=hck.2; omega) (by rw[F0]; omega); simp only[I6,if_neg hg0] at h; exact h)) (.a rfl uu<|.a rfl uu<|.nil)) rfl rfl ?_; refine D3 ?_; refine d5.new (D5 (eL eI) 59 (fun hp=>.cons rfl<|.nil) rfl rfl rfl rfl) rfl rfl rfl rfl ?_; refine d5.wkC 8 (.any<|.k<|.nil) rfl ?_; refine i9 ?_; refine jl ?_; refine v6 ?_
     exact g8.lp (k+1) zi zo (d7.mk (.i rfl zi<|zk) (.e (by rfl) rfl<|.a (by rw[H4,hnv]) zi<|zk) rfl)
    ·intro h13
     replace h13:=Int.not_lt.1 h13
     refine i4 ?_
     exact g8.cut (k) zo (d7.mk (.i rfl zi<|zk) (zk) rfl)
   ·rintro k hkn
    refine je ?_; refine i2 ?_; refine Tr.frzC 108 8 (by simp only[t6]; omega) rfl rfl ?_; refine jn ?_; refine j9 ?_; refine tO (j7 (fun hp=>(by have h:=aN (d) (j6 (w7 (val d) (c.map val))) hd.1 (U5 _) (by have:=hd.2; omega) (by rw[F0]; omega); simp only[I6,if_neg hg0] at h; exact h)) (.a rfl uu<|.a rfl uu<|.nil)) rfl rfl ?_; refine O3 ?_; exact d9.resC1 (fn:=Tryz.f81) rfl rfl (u8 rfl (by rw[sS h0,hkn]))

theorem KA (n:Int) (hn:-9223372036854775808<=n/\n<=9223372036854775807):Ct Tryz.prog 28 [kI n] (b7 j2 (m8 (loN [n] 1))):=by
 refine Ct.mk Tryz.func28 rfl Tryz.ntmps28 rfl (fun w J=>?_); refine i2 ?_; refine ja 2 ?_; refine o0 ?_; refine d5.new (D5 eI 4 (fun hp=>.cons rfl<|.nil) rfl rfl rfl rfl) rfl rfl rfl rfl ?_; refine d5.frz 4 [4] ⟨rfl,trivial⟩ (by decide) rfl ?_; refine jl ?_; refine tO (CC (eL eI) (fun hp=>.cons rfl<|.nil) rfl rfl rfl rfl) rfl rfl ?_; refine tO (CC eI (fun hp=>.cons rfl<|.nil) rfl rfl rfl rfl) rfl rfl ?_; refine tO (j7 (fun hp=>oS [[n]] [1] (fun i=>by match i with | 0=>exact ⟨KM zo,by show 1<=100000; omega⟩ | i+1=>exact ⟨fun _ h=>absurd h (Nat.not_lt_zero _),by show 0<=100000; omega⟩) ⟨KM zo,by show 1<=100000; omega⟩ (by decide) (by simp)) (.a rfl uu<|.a rfl uu<|.nil)) rfl rfl ?_
 refine i4 ?_; exact d9.resC1 (fn:=Tryz.f28) rfl rfl (u8 rfl (by rw[show [[n]].map val=[n] by simp[val],BM]))

end Go.Fl

/- The exchange of two intervals, of lengths 3 and 2. No program in sight. -/
namespace Go.Fl
open Go
theorem UF {n:Int}:m8 (loN [n] 1)=m8 (u9 n):=by
 rw[KS]
 unfold m8 u9
 have:l7 [n,0,0,0]=l7 [n]:=QT (xs:=[n]) (k:=3)
 simp only[this]
theorem XE {n:Int}:i8 [0,1] (m8 (u9 n))=u9 n:=K2 (KN vW n)
abbrev XG:List i5:=[u9 3,u9 2]
theorem zE:([m8 (u9 3),m8 (u9 2)]:List (List (List Int)×List Int)).map (i8 [0,1])=XG:=by simp[XE]
end Go.Fl

/- Contracts: the exchange that the laws of chapter 5 begin with is mapped as it should. -/
namespace Go.Fl
open Go Go.Proofs
open d5 renaming op->tO
open i6 renaming op->rO
set_option maxRecDepth 100000

abbrev C2:n9:=(IM,[0,1],[1,0],[m8 (u9 3),m8 (u9 2)])
theorem mS (a b:List (List Int)):Ct Tryz.prog 51 [b7 (eL (eL eI)) a,b7 (eL (eL eI)) b] (kB (decide (a=b))):=by
 refine Ct.mk Tryz.func51 rfl Tryz.ntmps51 rfl (fun w J=>?_); refine Tr.fact (s:=0) rfl (fun _ _ h=>S4 h) (fun hb=>?_); refine O3 ?_; refine jq ?_ ?_
 ·intro h1
  have hne:a≠b:=fun e=>h1 (by rw[e])
  refine l5 ?_; exact d9.res1 (fn:=Tryz.f51) rfl (.b rfl (by symm; rw[decide_eq_false_iff_not]; exact hne)<|.nil)
 ·intro h1
  replace h1:=Classical.not_not.1 h1
  have hll:a.length=b.length:=by omega
  refine l6 ?_
  refine Tr.for1 (σ:=Nat) [⟨0,true,_,_⟩,⟨1,true,_,_⟩] [] (fun k=>[⟨5,true,[],kI (k:Int)⟩]) (fun k=>[]) (fun k=>k<=a.length/\∀i,i<k->b6 a i=b6 b i) (fun k=>∀i,i<a.length->b6 a i=b6 b i) (fun k=>a.length-k) (0) ⟨Nat.zero_le _,fun i h=>absurd h (Nat.not_lt_zero _)⟩ (d7.mk (.i rfl zi<|zk) (.nil) rfl) ?_ ?_
  ·rintro k ⟨hk,hR⟩
   refine jn ?_; refine o9 ?_; refine jq ?_ ?_
   ·intro h4
    refine o0 ?_; refine Tr.draw 8 q9 (by kernel_rfl) ?_; refine o9 ?_; refine jc (MX (b6 a k) (b6 b k)) ?_; refine j9 ?_; refine Tr.cnd rfl ?_ ?_
    ·intro h6
     have hne:a≠b:=fun e=>by subst e; simp at h6
     refine z5 ?_; exact d9.res1 (fn:=Tryz.f51) rfl (.b rfl (by symm; rw[decide_eq_false_iff_not]; exact hne)<|.nil)
    ·intro h6
     have hkk:b6 a k=b6 b k:=by simpa using h6
     refine l6 ?_
     exact g8.lp (k+1) ⟨by omega,fun i hi=>by by_cases e:i=k; (rw[e]; exact hkk); exact hR i zo⟩ zo (d7.mk (.i rfl zi<|zk) (.nil) rfl)
   ·intro h4
    replace h4:=Int.not_lt.1 h4
    refine i4 ?_
    exact g8.cut (k) (fun i hi=>hR i zo) (d7.mk (.i rfl zi<|zk) (.nil) rfl)
  ·rintro k hE
   refine je ?_; refine l5 ?_; exact d9.res1 (fn:=Tryz.f51) rfl (.b rfl (by symm; rw[decide_eq_true_eq]; exact H2 hll hE)<|.nil)

theorem ZO (a b:s7):Ct Tryz.prog 18 [b7 j2 a,b7 j2 b] (kB (decide (a=b))):=by
 refine Ct.mk Tryz.func18 rfl Tryz.ntmps18 rfl (fun w J=>?_); refine i2 ?_; refine jb 2 rfl ?_; refine jb 3 rfl ?_; refine o9 ?_; refine tO (j7 (fun hp=>mS _ _) (.a rfl uu<|.a rfl uu<|.nil)) rfl rfl ?_; refine o0 ?_; refine d5.gd rfl rfl rfl (j7 (fun hp=>MX a.2 b.2) (.a rfl id<|.a rfl id<|.nil)) rfl rfl ?_; refine o0 ?_; exact d9.res1 (fn:=Tryz.f18) rfl (.b rfl (by rw[<- Bool.decide_and]; exact decide_eq_decide.2 (Prod.ext_iff).symm)<|.nil)

theorem pA  : Ct Tryz.prog 64 [] (b7 eX C2):=by
 refine Ct.mk Tryz.func64 rfl Tryz.ntmps64 rfl (fun w J=>?_); refine i2 ?_; refine ja 0 ?_; refine i4 ?_; refine jc oO ?_; refine d5.new (D5 eI 2 (fun hp=>.cons rfl<|.cons rfl<|.nil) rfl rfl rfl rfl) rfl rfl rfl rfl ?_; refine d5.frz 2 [2] ⟨rfl,trivial⟩ (by decide) rfl ?_; refine jl ?_; refine d5.new (D5 eI 3 (fun hp=>.cons rfl<|.cons rfl<|.nil) rfl rfl rfl rfl) rfl rfl rfl rfl ?_; refine d5.frz 3 [3] ⟨rfl,trivial⟩ (by decide) rfl ?_; refine jl ?_; refine jc (KA 3 zo) ?_; refine jc (KA 2 zo) ?_; refine d5.new (D5 j2 6 (fun hp=>.cons rfl<|.cons rfl<|.nil) rfl rfl rfl rfl) rfl rfl rfl rfl ?_
 refine d5.frz 6 [6] ⟨rfl,trivial⟩ (by decide) rfl ?_; refine jl ?_; refine tO (A4 (fun hp=>.cons rfl rfl rfl<|.cons rfl rfl rfl<|.cons rfl rfl rfl<|.cons rfl rfl rfl<|.nil)) rfl rfl ?_; refine i4 ?_; exact d9.resC1 (fn:=Tryz.f64) rfl rfl (u8 rfl (by rw[UF,UF]))

end Go.Fl

/- Intervals of a number: Horner's rule with ends, halving. Plain Lean, no program in sight. -/
namespace Go.Fl
def I8 (a b c d:Int):Int:=min (min a b) (min c d)
def I7 (a b c d:Int):Int:=max (max a b) (max c d)
theorem UY {A B x y:Int} (h1:A<=x) (h2:x<=B):min (A*y) (B*y)<=x*y/\x*y<=max (A*y) (B*y):=by
 rcases Int.le_total 0 y with hy | hy
 ·have e1:=Int.mul_le_mul_of_nonneg_right h1 hy
  have e2:=Int.mul_le_mul_of_nonneg_right h2 hy
  omega
 ·have e1:=Int.mul_le_mul_of_nonpos_right h1 hy
  have e2:=Int.mul_le_mul_of_nonpos_right h2 hy
  omega
theorem OC {A B L H x y:Int} (h1:A<=x) (h2:x<=B) (h3:L<=y) (h4:y<=H):I8 (A*L) (A*H) (B*L) (B*H)<=x*y/\x*y<=I7 (A*L) (A*H) (B*L) (B*H):=by
 have e1:=UY (y:=y) h1 h2
 have e2:=UY (y:=A) h3 h4
 have e3:=UY (y:=B) h3 h4
 rw[Int.mul_comm L,Int.mul_comm H,Int.mul_comm y] at e2 e3
 unfold I8 I7
 omega
theorem VH {A B L H:Int}:∃x y,(x=A\/x=B)/\(y=L\/y=H)/\I8 (A*L) (A*H) (B*L) (B*H)=x*y:=by
 unfold I8
 have h:min (min (A*L) (A*H)) (min (B*L) (B*H))=A*L\/min (min (A*L) (A*H)) (min (B*L) (B*H))=A*H\/min (min (A*L) (A*H)) (min (B*L) (B*H))=B*L\/min (min (A*L) (A*H)) (min (B*L) (B*H))=B*H:=by omega
 rcases h with h | h | h | h
 ·exact ⟨A,L,.inl rfl,.inl rfl,h⟩
 ·exact ⟨A,H,.inl rfl,.inr rfl,h⟩
 ·exact ⟨B,L,.inr rfl,.inl rfl,h⟩
 ·exact ⟨B,H,.inr rfl,.inr rfl,h⟩
theorem VF {A B L H:Int}:∃x y,(x=A\/x=B)/\(y=L\/y=H)/\I7 (A*L) (A*H) (B*L) (B*H)=x*y:=by
 unfold I7
 have h:max (max (A*L) (A*H)) (max (B*L) (B*H))=A*L\/max (max (A*L) (A*H)) (max (B*L) (B*H))=A*H\/max (max (A*L) (A*H)) (max (B*L) (B*H))=B*L\/max (max (A*L) (A*H)) (max (B*L) (B*H))=B*H:=by omega
 rcases h with h | h | h | h
 ·exact ⟨A,L,.inl rfl,.inl rfl,h⟩
 ·exact ⟨A,H,.inl rfl,.inr rfl,h⟩
 ·exact ⟨B,L,.inr rfl,.inl rfl,h⟩
 ·exact ⟨B,H,.inr rfl,.inr rfl,h⟩
theorem VN {Q a b:Int} (h:0<=Q):min (Q*a) (Q*b)=Q*min a b:=by
 rcases Int.le_total a b with h1 | h1
 ·have:=Int.mul_le_mul_of_nonneg_left h1 h
  rw[Int.min_eq_left h1,Int.min_eq_left this]
 ·have:=Int.mul_le_mul_of_nonneg_left h1 h
  rw[Int.min_eq_right h1,Int.min_eq_right this]
theorem VM {Q a b:Int} (h:0<=Q):max (Q*a) (Q*b)=Q*max a b:=by
 rcases Int.le_total a b with h1 | h1
 ·have:=Int.mul_le_mul_of_nonneg_left h1 h
  rw[Int.max_eq_right h1,Int.max_eq_right this]
 ·have:=Int.mul_le_mul_of_nonneg_left h1 h
  rw[Int.max_eq_left h1,Int.max_eq_left this]
theorem VI {Q a b c d:Int} (h:0<=Q):I8 (Q*a) (Q*b) (Q*c) (Q*d)=Q*I8 a b c d:=by
 unfold I8; rw[VN h,VN h,VN h]
theorem VG {Q a b c d:Int} (h:0<=Q):I7 (Q*a) (Q*b) (Q*c) (Q*d)=Q*I7 a b c d:=by
 unfold I7; rw[VM h,VM h,VM h]
structure Iv where
 lo:Int
 hi:Int
 den:Int
def enc (I:Iv):List Int->Int×Int×Int
 | []=>(0,0,1)
 | c::cs =>
  let e:=enc I cs
  (I8 (e.1*I.lo) (e.1*I.hi) (e.2.1*I.lo) (e.2.1*I.hi)+c*(e.2.2*I.den),I7 (e.1*I.lo) (e.1*I.hi) (e.2.1*I.lo) (e.2.1*I.hi)+c*(e.2.2*I.den),e.2.2*I.den)
structure Iv.Ok (I:Iv):Prop where
 le:I.lo<=I.hi
 pos:0<I.den
theorem TQ {I:Iv}:∀{cs:List Int},(enc I cs).2.2=I.den ^ cs.length
 | []=>by simp[enc]
 | c::cs=>by rw[enc,List.length_cons,Int.pow_succ,<- TQ]
theorem KE {I:Iv}:∀{cs:List Int},(enc I cs).1<=(enc I cs).2.1
 | []=>Int.le_refl _
 | c::cs=>by
  rw[enc]
  simp only
  have:I8 ((enc I cs).1*I.lo) ((enc I cs).1*I.hi) ((enc I cs).2.1*I.lo) ((enc I cs).2.1*I.hi)<=I7 ((enc I cs).1*I.lo) ((enc I cs).1*I.hi) ((enc I cs).2.1*I.lo) ((enc I cs).2.1*I.hi):=by unfold I8 I7; omega
  omega
structure Iv.In (I' I:Iv) (m:Int):Prop where
 m0:0<m
 den:I'.den=m*I.den
 lo:m*I.lo<=I'.lo
 hi:I'.hi<=m*I.hi
theorem TR {I' I:Iv} {m:Int} (h:I'.In I m) (h':I'.lo<=I'.hi):∀{cs:List Int},m ^ cs.length*(enc I cs).1<=(enc I' cs).1/\(enc I' cs).2.1<=m ^ cs.length*(enc I cs).2.1/\(enc I' cs).2.2=m ^ cs.length*(enc I cs).2.2
 | []=>by simp[enc]
 | c::cs=>by
  obtain ⟨h1,h2,h3⟩:=TR h h' (cs:=cs)
  have hle:=KE (I:=I') (cs:=cs)
  have hm:=h.m0
  rw[enc,enc,List.length_cons,Int.pow_succ]
  simp only
  generalize (enc I cs).1=A at *
  generalize (enc I cs).2.1=B at *
  generalize (enc I cs).2.2=D at *
  generalize (enc I' cs).1=A' at *
  generalize (enc I' cs).2.1=B' at *
  generalize (enc I' cs).2.2=D' at *
  have hq:0<m ^ cs.length:=Int.pow_pos hm
  have hQ:=Int.mul_pos hq hm
  generalize m ^ cs.length=q at *
  have hd:D'*I'.den=q*m*(D*I.den):=by rw[h3,h.den]; simp only[Int.mul_left_comm,Int.mul_comm]
  have hc:c*(D'*I'.den)=q*m*(c*(D*I.den)):=by rw[hd]; simp only[Int.mul_left_comm,Int.mul_comm]
  have e:∀x y:Int,q*x*(m*y)=q*m*(x*y):=fun x y=>by simp only[Int.mul_left_comm,Int.mul_comm]
  have key:∀x y,(x=A'\/x=B')->(y=I'.lo\/y=I'.hi)->I8 (q*A*(m*I.lo)) (q*A*(m*I.hi)) (q*B*(m*I.lo)) (q*B*(m*I.hi))<=x*y/\x*y<=I7 (q*A*(m*I.lo)) (q*A*(m*I.hi)) (q*B*(m*I.lo)) (q*B*(m*I.hi)):=fun x y hx hy=>by
   have b1:q*A<=x/\x<=q*B:=by rcases hx with rfl | rfl<;>omega
   have b2:m*I.lo<=y/\y<=m*I.hi:=by have:=h.lo; have:=h.hi; rcases hy with rfl | rfl<;>omega
   exact OC b1.1 b1.2 b2.1 b2.2
  simp only[e,VI (Int.le_of_lt hQ),VG (Int.le_of_lt hQ)] at key
  refine ⟨?_,?_,hd⟩
  ·obtain ⟨x,y,hx,hy,hxy⟩:=VH (A:=A') (B:=B') (L:=I'.lo) (H:=I'.hi)
   have:=(key x y hx hy).1
   rw[hxy,Int.mul_add,hc]; omega
  ·obtain ⟨x,y,hx,hy,hxy⟩:=VF (A:=A') (B:=B') (L:=I'.lo) (H:=I'.hi)
   have:=(key x y hx hy).2
   rw[hxy,Int.mul_add,hc]; omega
end Go.Fl

/- Signs of numbers: the intervals are halved until one decides. Plain Lean, no program in sight. -/
namespace Go.Fl
def E7 (a b:Int):List Int->Int×Int
 | []=>(0,1)
 | c::cs=>((E7 a b cs).1*a+c*(E7 a b cs).2,(E7 a b cs).2*b)
def y6 (z:Int):Int:=u5 z 0
def O2 (p:List Int) (I:Iv):Iv :=
 if y6 (E7 I.lo I.den p).1*y6 (E7 (I.lo+I.hi) (I.den+I.den) p).1<0 then ⟨I.lo+I.lo,I.lo+I.hi,I.den+I.den⟩ else ⟨I.lo+I.hi,I.hi+I.hi,I.den+I.den⟩
theorem rM {p:List Int} {I:Iv} (h:I.Ok):(O2 p I).Ok:=by
 have h1:=h.le; have h2:=h.pos
 unfold O2
 split
 ·exact ⟨by simp only; omega,by simp only; omega⟩
 ·exact ⟨by simp only; omega,by simp only; omega⟩
theorem rL {p:List Int} {I:Iv} (h:I.Ok):(O2 p I).In I 2:=by
 have h1:=h.le
 unfold O2
 split
 ·exact ⟨by omega,by simp only; omega,by simp only; omega,by simp only; omega⟩
 ·exact ⟨by omega,by simp only; omega,by simp only; omega,by simp only; omega⟩
theorem Iv.In.trans {A B C:Iv} {m n:Int} (h1:A.In B m) (h2:B.In C n):A.In C (m*n):=by
 have a1:=h1.m0; have a2:=h2.m0
 refine ⟨Int.mul_pos a1 a2,by rw[h1.den,h2.den,Int.mul_assoc],?_,?_⟩
 ·have:=Int.mul_le_mul_of_nonneg_left h2.lo (Int.le_of_lt a1)
  have:=h1.lo
  rw[Int.mul_assoc]; omega
 ·have:=Int.mul_le_mul_of_nonneg_left h2.hi (Int.le_of_lt a1)
  have:=h1.hi
  rw[Int.mul_assoc]; omega
def i1 (p:List Int) (I:Iv):Nat->Iv
 | 0=>I
 | k+1=>O2 p (i1 p I k)
theorem X1 {p:List Int} {I:Iv} (h:I.Ok):∀{k:Nat},(i1 p I k).Ok
 | 0=>h
 | _+1=>rM (X1 h)
theorem UP {p:List Int} {I:Iv} (h:I.Ok) {j:Nat}:∀{n:Nat},∃m,(i1 p I (j+n)).In (i1 p I j) m
 | 0=>⟨1,by omega,by rw[Nat.add_zero]; omega,by rw[Nat.add_zero]; omega,by rw[Nat.add_zero]; omega⟩
 | n+1=>by
  obtain ⟨m,hm⟩:=UP h (j:=j) (n:=n)
  exact ⟨2*m,(rL (X1 h)).trans hm⟩
section
variable {p:List Int} {I:Iv} {cs:List Int} {j k:Nat}
theorem NS (h:I.Ok) (hjk:j<=k) (hp:0<(enc (i1 p I j) cs).1):0<(enc (i1 p I k) cs).1:=by
 obtain ⟨n,rfl⟩:=Nat.exists_eq_add_of_le hjk
 obtain ⟨m,hm⟩:=UP (p:=p) h (j:=j) (n:=n)
 have h1:=(TR hm (X1 h).le (cs:=cs)).1
 have h2:=Int.mul_pos (show 0<m ^ cs.length from Int.pow_pos hm.m0) hp
 omega
theorem bZ (h:I.Ok) (hjk:j<=k) (hp:(enc (i1 p I j) cs).2.1<0):(enc (i1 p I k) cs).2.1<0:=by
 obtain ⟨n,rfl⟩:=Nat.exists_eq_add_of_le hjk
 obtain ⟨m,hm⟩:=UP (p:=p) h (j:=j) (n:=n)
 have h1:=(TR hm (X1 h).le (cs:=cs)).2.1
 have h2:=Int.mul_neg_of_pos_of_neg (show 0<m ^ cs.length from Int.pow_pos hm.m0) hp
 omega
theorem qR (h:I.Ok) (hp:0<(enc (i1 p I j) cs).1) (hn:(enc (i1 p I k) cs).2.1<0):False:=by
 have h1:=NS h (Nat.le_max_left j k) hp
 have h2:=bZ h (Nat.le_max_right j k) hn
 have h3:=KE (I:=i1 p I (max j k)) (cs:=cs)
 omega
end
open Classical in
noncomputable def D7 (p:List Int) (I:Iv) (cs:List Int):Int:=if ∃k,0<(enc (i1 p I k) cs).1 then 1 else if ∃k,(enc (i1 p I k) cs).2.1<0 then -1 else 0
theorem IX {p:List Int} {I:Iv} {cs:List Int} {k:Nat} (h:0<(enc (i1 p I k) cs).1):D7 p I cs=1:=if_pos ⟨k,h⟩
theorem LL {p:List Int} {I:Iv} {cs:List Int} {k:Nat} (hI:I.Ok) (h:(enc (i1 p I k) cs).2.1<0):D7 p I cs=-1:=by
 unfold D7
 rw[if_neg (fun ⟨j,hj⟩=>qR hI hj h),if_pos ⟨k,h⟩]
theorem KF {I:Iv} {m:Int} (hm:0<=m):∀{cs:List Int},enc I (cs.map fun c=>c*m)=(m*(enc I cs).1,m*(enc I cs).2.1,(enc I cs).2.2)
 | []=>by simp[enc]
 | c::cs=>by
  rw[List.map_cons,enc,KF hm,enc]
  simp only[Int.mul_assoc,VI hm,VG hm]
  refine Prod.ext ?_ (Prod.ext ?_ rfl)
  ·simp only
   rw[Int.mul_add,Int.mul_left_comm]
  ·simp only
   rw[Int.mul_add,Int.mul_left_comm]
theorem KG {I:Iv}:∀{cs:List Int},enc I (cs.map fun c=>-c)=(-(enc I cs).2.1,-(enc I cs).1,(enc I cs).2.2)
 | []=>by simp[enc]
 | c::cs=>by
  rw[List.map_cons,enc,KG,enc]
  simp only[Int.neg_mul]
  refine Prod.ext ?_ (Prod.ext ?_ rfl)
  ·simp only[I8,I7]; omega
  ·simp only[I8,I7]; omega
theorem cA {I:Iv} (hI:I.lo<=I.hi):∀{xs ys:List Int},xs.length=ys.length->(enc I xs).1+(enc I ys).1<=(enc I (List.zipWith (·+·) xs ys)).1/\(enc I (List.zipWith (·+·) xs ys)).2.1<=(enc I xs).2.1+(enc I ys).2.1/\(enc I (List.zipWith (·+·) xs ys)).2.2=(enc I xs).2.2/\(enc I ys).2.2=(enc I xs).2.2
 | [],[],_=>by simp[enc]
 | [],_::_,h=>by simp at h
 | _::_,[],h=>by simp at h
 | x::xs,y::ys,h=>by
  obtain ⟨h1,h2,h3,h4⟩:=cA hI (xs:=xs) (ys:=ys) (by simpa using h)
  have hx:=KE (I:=I) (cs:=xs); have hy:=KE (I:=I) (cs:=ys); have hz:=KE (I:=I) (cs:=List.zipWith (·+·) xs ys)
  rw[List.zipWith_cons_cons,enc,enc,enc]
  simp only
  rw[h3,h4]
  generalize (enc I xs).1=A at *
  generalize (enc I xs).2.1=B at *
  generalize (enc I ys).1=A' at *
  generalize (enc I ys).2.1=B' at *
  generalize (enc I (List.zipWith (·+·) xs ys)).1=A2 at *
  generalize (enc I (List.zipWith (·+·) xs ys)).2.1=B2 at *
  generalize (enc I xs).2.2*I.den=D at *
  rw[Int.add_mul]
  have key:∀u v,A+A'<=u->u<=B+B'->(v=I.lo\/v=I.hi)->I8 (A*I.lo) (A*I.hi) (B*I.lo) (B*I.hi)+I8 (A'*I.lo) (A'*I.hi) (B'*I.lo) (B'*I.hi)<=u*v/\u*v<=I7 (A*I.lo) (A*I.hi) (B*I.lo) (B*I.hi)+I7 (A'*I.lo) (A'*I.hi) (B'*I.lo) (B'*I.hi):=fun u v e1 e2 hv=>by
   obtain ⟨s,hs⟩:∃s,s=min B (u-A'):=⟨_,rfl⟩
   have b1:A<=s/\s<=B:=by omega
   have b2:A'<=u-s/\u-s<=B':=by omega
   have b3:I.lo<=v/\v<=I.hi:=by rcases hv with rfl | rfl<;>omega
   have c1:=OC b1.1 b1.2 b3.1 b3.2
   have c2:=OC b2.1 b2.2 b3.1 b3.2
   rw[Int.sub_mul] at c2
   omega
  refine ⟨?_,?_,rfl,rfl⟩
  ·obtain ⟨u,v,hu,hv,huv⟩:=VH (A:=A2) (B:=B2) (L:=I.lo) (H:=I.hi)
   have:=(key u v (by rcases hu with rfl | rfl<;>omega) (by rcases hu with rfl | rfl<;>omega) hv).1
   rw[huv]; omega
  ·obtain ⟨u,v,hu,hv,huv⟩:=VF (A:=A2) (B:=B2) (L:=I.lo) (H:=I.hi)
   have:=(key u v (by rcases hu with rfl | rfl<;>omega) (by rcases hu with rfl | rfl<;>omega) hv).2
   rw[huv]; omega
theorem xV {p:List Int} {I:Iv} {xs ys:List Int} (hI:I.Ok) (hl:xs.length=ys.length) (hx:D7 p I xs=1) (hy:D7 p I ys=1):D7 p I (List.zipWith (·+·) xs ys)=1:=by
 have f:∀cs,D7 p I cs=1->∃k,0<(enc (i1 p I k) cs).1:=fun cs h=>by
  unfold D7 at h
  split at h
  ·assumption
  ·split at h<;>omega
 obtain ⟨j,hj⟩:=f xs hx
 obtain ⟨k,hk⟩:=f ys hy
 have h1:=NS hI (Nat.le_max_left j k) hj
 have h2:=NS hI (Nat.le_max_right j k) hk
 have h3:=(cA (X1 hI (p:=p) (k:=max j k)).le hl).1
 exact IX (k:=max j k) zo
theorem QG {p:List Int} {I:Iv} {cs:List Int} {m:Int} (hm:0<m):D7 p I (cs.map fun c=>c*m)=D7 p I cs:=by
 unfold D7
 have e1:(∃k,0<(enc (i1 p I k) (cs.map fun c=>c*m)).1)↔∃k,0<(enc (i1 p I k) cs).1:=by
  refine exists_congr fun k=>?_
  rw[KF (Int.le_of_lt hm)]
  exact ⟨fun h=>Classical.byContradiction fun hn=>by have:=Int.mul_nonneg (Int.le_of_lt hm) (show 0<=-(enc (i1 p I k) cs).1 by omega); rw[Int.mul_neg] at this; simp only at h; omega,fun h=>Int.mul_pos hm h⟩
 have e2:(∃k,(enc (i1 p I k) (cs.map fun c=>c*m)).2.1<0)↔∃k,(enc (i1 p I k) cs).2.1<0:=by
  refine exists_congr fun k=>?_
  rw[KF (Int.le_of_lt hm)]
  exact ⟨fun h=>Classical.byContradiction fun hn=>by have:=Int.mul_nonneg (Int.le_of_lt hm) (show 0<=(enc (i1 p I k) cs).2.1 by omega); simp only at h; omega,fun h=>Int.mul_neg_of_pos_of_neg hm h⟩
 by_cases a1:∃k,0<(enc (i1 p I k) cs).1
 ·rw[if_pos a1,if_pos (e1.2 a1)]
 ·rw[if_neg a1,if_neg (fun h=>a1 (e1.1 h))]
  by_cases a2:∃k,(enc (i1 p I k) cs).2.1<0
  ·rw[if_pos a2,if_pos (e2.2 a2)]
  ·rw[if_neg a2,if_neg (fun h=>a2 (e2.1 h))]
end Go.Fl

/- Polynomials with integer coefficients (by coefficient functions): Gauss' lemma, common divisors and combinations. Plain Lean, no program in sight. -/
namespace Go.Fl
abbrev t9:=Nat->Int
def y7 (f:t9) (d:Nat):Prop:=∀i,d<i->f i=0
def o8 (f g:t9):t9:=fun k=>s6 (fun i=>f i*g (k-i)) (k+1)
theorem GI {f:Nat->Int}:∀{k:Nat},(∀i,i<k->f i=0)->s6 f k=0
 | 0,_=>rfl
 | k+1,h=>by rw[J4,GI fun i hi=>h i zo,h k zo]; rfl
theorem GH {f:Nat->Int} {m:Int}:∀{k:Nat},s6 (fun i=>m*f i) k=m*s6 f k
 | 0=>by simp[s6]
 | k+1=>by rw[J4,J4,GH,Int.mul_add]
theorem iQ {f:Nat->Int} {m:Int}:∀{k:Nat},(∀i,i<k->m∣f i)->m∣s6 f k
 | 0,_=>⟨0,by simp[s6]⟩
 | k+1,h=>by rw[J4]; exact Int.dvd_add (iQ fun i hi=>h i zo) (h k zo)
theorem iP {f:Nat->Int} {m:Int} {j:Nat}:∀{k:Nat},j<k->(∀i,i<k->i≠j->m∣f i)->∃q,s6 f k=f j+m*q
 | 0,h,_=>absurd h zo
 | k+1,h,hd=>by
  by_cases e:j=k
  ·subst e
   obtain ⟨q,hq⟩:=iQ (f:=f) (m:=m) (k:=j) fun i hi=>hd i zo zo
   exact ⟨q,by rw[J4,hq]; omega⟩
  ·obtain ⟨q,hq⟩:=iP (f:=f) (m:=m) (k:=k) zo fun i hi hne=>hd i zo hne
   obtain ⟨r,hr⟩:=hd k zo (fun e'=>e e'.symm)
   exact ⟨q+r,by rw[J4,hq,hr,Int.mul_add]; omega⟩
theorem XA {f:Nat->Int} {j:Nat}:∀{k:Nat},j<k->(∀i,i<k->i≠j->f i=0)->s6 f k=f j
 | 0,h,_=>absurd h zo
 | k+1,h,hd=>by
  by_cases e:j=k
  ·subst e; rw[J4,GI fun i hi=>hd i zo zo]; omega
  ·rw[J4,XA zo fun i hi hne=>hd i zo hne,hd k zo (fun e'=>e e'.symm)]; omega
theorem mK {f g:t9} {a b:Nat} (hf:y7 f a) (hg:y7 g b):o8 f g (a+b)=f a*g b:=by
 unfold o8
 rw[XA (j:=a) zo]
 ·rw[Nat.add_sub_cancel_left]
 ·intro i hi hne
  by_cases h:a<i
  ·rw[hf i h,Int.zero_mul]
  ·rw[hg (a+b-i) zo,Int.mul_zero]
theorem ZJ {f g:t9} {a b:Nat} (hf:y7 f a) (hg:y7 g b):y7 (o8 f g) (a+b):=fun k hk=>by
 unfold o8
 refine GI fun i _=>?_
 by_cases h:a<i
 ·rw[hf i h,Int.zero_mul]
 ·rw[hg (k-i) zo,Int.mul_zero]
theorem HF {f g:t9} {m:Int}:o8 (fun i=>m*f i) g=fun k=>m*o8 f g k:=by
 funext k; unfold o8
 rw[<- GH]
 exact Q0 fun i _=>by rw[Int.mul_assoc]
theorem JZ {f g:t9} {m:Int}:o8 f (fun i=>m*g i)=fun k=>m*o8 f g k:=by
 funext k; unfold o8
 rw[<- GH]
 exact Q0 fun i _=>by rw[Int.mul_left_comm]
theorem vZ {s:Nat} (h:1<s):∃q,1<q/\q∣s/\∀a b:Int,(q:Int)∣a*b->(q:Int)∣a\/(q:Int)∣b:=by
 have key:∀k,∀j,j+k=s->1<j->(∀i,1<i->i<j->¬i∣s)->∃q,1<q/\q∣s/\∀i,1<i->i<q->¬i∣s:=by
  intro k
  induction k with
  | zero=>intro j h1 h2 h3; exact ⟨s,h,Nat.dvd_refl _,fun i a b=>h3 i a zo⟩
  | succ k ih =>
   intro j h1 h2 h3
   by_cases hd:j∣s
   ·exact ⟨j,h2,hd,h3⟩
   ·refine ih (j+1) zo zo fun i a b=>?_
    by_cases e:i=j
    ·subst e; exact hd
    ·exact h3 i a zo
 obtain ⟨q,h1,h2,h3⟩:=key (s-2) 2 zo zo fun i a b=>by omega
 refine ⟨q,h1,h2,fun a b hab=>?_⟩
 have hab':q∣a.natAbs*b.natAbs:=by
  have:=Int.natAbs_dvd_natAbs.2 hab
  rwa [Int.natAbs_natCast,Int.natAbs_mul] at this
 have hg:Nat.gcd q a.natAbs∣q:=Nat.gcd_dvd_left _ _
 by_cases e:Nat.gcd q a.natAbs=1
 ·exact .inr (Int.ofNat_dvd_left.2 (Nat.Coprime.dvd_of_dvd_mul_left e hab'))
 ·have hpos:0<Nat.gcd q a.natAbs:=Nat.gcd_pos_of_pos_left _ zo
  have hle:=Nat.le_of_dvd zo hg
  have heq:Nat.gcd q a.natAbs=q:=Classical.byContradiction fun hne=>h3 _ zo zo (Nat.dvd_trans hg h2)
  exact .inl (Int.ofNat_dvd_left.2 (by rw[<- heq]; exact Nat.gcd_dvd_right _ _))
theorem dP {P:Nat->Prop} (h:∃i,P i):∃i,P i/\∀j,j<i->¬P j:=by
 obtain ⟨i,hi⟩:=h
 induction i using Nat.strongRecOn with
 | _ i ih =>
  by_cases e:∃j,j<i/\P j
  ·obtain ⟨j,h1,h2⟩:=e; exact ih j h1 h2
  ·exact ⟨i,hi,fun j hj hp=>e ⟨j,hj,hp⟩⟩
theorem rC {q:Int} (hp:∀a b:Int,q∣a*b->q∣a\/q∣b) {r t:t9} (h:∀k,q∣o8 r t k):(∀k,q∣r k)\/∀k,q∣t k:=by
 refine Classical.byContradiction fun hn=>?_
 rw[not_or] at hn
 obtain ⟨i,hi,hi'⟩:=dP (Classical.not_forall.1 hn.1)
 obtain ⟨j,hj,hj'⟩:=dP (Classical.not_forall.1 hn.2)
 obtain ⟨m,hm⟩:=iP (f:=fun k=>r k*t (i+j-k)) (m:=q) (j:=i) (k:=i+j+1) zo fun k hk hne=>by
  by_cases hlt:k<i
  ·exact Int.dvd_trans (Classical.not_not.1 (hi' k hlt)) (Int.dvd_mul_right _ _)
  ·exact Int.dvd_trans (Classical.not_not.1 (hj' (i+j-k) zo)) (Int.dvd_mul_left _ _)
 have h1:q∣o8 r t (i+j):=h _
 have h2:o8 r t (i+j)=r i*t (i+j-i)+q*m:=hm
 rw[h2,Nat.add_sub_cancel_left] at h1
 have h3:q∣r i*t j:=(Int.dvd_add_left (Int.dvd_mul_right q m)).1 h1
 rcases hp _ _ h3 with h | h
 ·exact hi h
 ·exact hj h
theorem rD {p:t9} {a b:Nat}:∀(n:Nat) {s:Int} {r t:t9},s.natAbs=n->s≠0->y7 r a->r a≠0->y7 t b->(∀k,s*p k=o8 r t k)->∃r' t',y7 r' a/\r' a≠0/\y7 t' b/\((∀k,p k=o8 r' t' k)\/∀k,-p k=o8 r' t' k):=by
 intro n
 induction n using Nat.strongRecOn with
 | _ n ih =>
  intro s r t hn hs hr hra ht h
  by_cases h1:n=1
  ·rcases (show s=1\/s=-1 by omega) with rfl | rfl
   ·exact ⟨r,t,hr,hra,ht,.inl fun k=>by rw[<- h k,Int.one_mul]⟩
   ·exact ⟨r,t,hr,hra,ht,.inr fun k=>by rw[<- h k,Int.neg_mul,Int.one_mul]⟩
  ·obtain ⟨q,q1,q2,q3⟩:=vZ (s:=n) zo
   have hqs:(q:Int)∣s:=Int.ofNat_dvd_left.2 (by rw[hn]; exact q2)
   obtain ⟨s',hs'⟩:=hqs
   have hq0:(q:Int)≠0:=by omega
   have hlt:s'.natAbs<n:=by
    rw[<- hn,hs',Int.natAbs_mul,Int.natAbs_natCast]
    have h0:0<s'.natAbs:=by
     refine Nat.pos_of_ne_zero fun e=>hs ?_
     rw[hs',show s'=0 by omega,Int.mul_zero]
    have:=Nat.mul_lt_mul_of_pos_right q1 h0
    omega
   have hs0:s'≠0:=fun e=>hs (by rw[hs',e,Int.mul_zero])
   have hall:∀k,(q:Int)∣o8 r t k:=fun k=>⟨s'*p k,by rw[<- h k,hs',Int.mul_assoc]⟩
   rcases rC q3 hall with hd | hd
   ·have e:∀k,r k=(q:Int)*(r k/q):=fun k=>(Int.mul_ediv_cancel' (hd k)).symm
    refine ih _ hlt (r:=fun k=>r k/q) (t:=t) rfl hs0 (fun i hi=>by show r i/_=0; rw[hr i hi,Int.zero_ediv]) (fun e0=>hra (by rw[e a,show r a/(q:Int)=0 from e0,Int.mul_zero])) ht fun k=>?_
    have h2:o8 r t k=(q:Int)*o8 (fun k=>r k/q) t k:=by
     have:r=fun k=>(q:Int)*(r k/q):=funext e
     conv=>lhs; rw[this,HF]
    have h3:(q:Int)*(s'*p k)=q*o8 (fun k=>r k/q) t k:=by rw[<- h2,<- h k,hs',Int.mul_assoc]
    exact Int.eq_of_mul_eq_mul_left hq0 h3
   ·have e:∀k,t k=(q:Int)*(t k/q):=fun k=>(Int.mul_ediv_cancel' (hd k)).symm
    refine ih _ hlt (r:=r) (t:=fun k=>t k/q) rfl hs0 hr hra (fun i hi=>by show t i/_=0; rw[ht i hi,Int.zero_ediv]) fun k=>?_
    have h2:o8 r t k=(q:Int)*o8 r (fun k=>t k/q) k:=by
     have:t=fun k=>(q:Int)*(t k/q):=funext e
     conv=>lhs; rw[this,JZ]
    have h3:(q:Int)*(s'*p k)=q*o8 r (fun k=>t k/q) k:=by rw[<- h2,<- h k,hs',Int.mul_assoc]
    exact Int.eq_of_mul_eq_mul_left hq0 h3
end Go.Fl

/- Euclid's algorithm on polynomials, with multiples instead of fractions: a common divisor, or a combination that is a number. Plain Lean, no program in sight. -/
namespace Go.Fl
def F2 (k:Nat) (g:t9):t9:=fun i=>if k<=i then g (i-k) else 0
def L8 (a b:Int) (k:Nat) (f g:t9):t9:=fun i=>a*f i-b*F2 k g i
theorem XC {f:Nat->Int} {m:Nat}:∀{j:Nat},(∀i,m<=i->i<m+j->f i=0)->s6 f (m+j)=s6 f m
 | 0,_=>rfl
 | j+1,h=>by rw[show m+(j+1)=m+j+1 by omega,J4,XC fun i h1 h2=>h i h1 zo,h (m+j) zo zo]; omega
theorem XB {f:Nat->Int} {k:Nat}:∀{j:Nat},(∀i,i<k->f i=0)->s6 f (k+j)=s6 (fun i=>f (k+i)) j
 | 0,h=>by rw[Nat.add_zero,GI h]; rfl
 | j+1,h=>by rw[show k+(j+1)=k+j+1 by omega,J4,J4,XB h]
theorem ZK {f g:t9} {k:Nat}:o8 (F2 k f) g=F2 k (o8 f g):=by
 funext i
 unfold o8 F2
 by_cases h:k<=i
 ·rw[if_pos h,show i+1=k+(i-k+1) by omega,XB]
  ·refine Q0 fun j hj=>?_
   rw[if_pos zo,Nat.add_sub_cancel_left,show i-(k+j)=i-k-j by omega]
  ·intro j hj; rw[if_neg zo,Int.zero_mul]
 ·rw[if_neg h]
  exact GI fun j hj=>by rw[if_neg zo,Int.zero_mul]
theorem mI {f g:t9} {k:Nat}:o8 f (F2 k g)=F2 k (o8 f g):=by
 funext i
 unfold o8 F2
 by_cases h:k<=i
 ·rw[if_pos h,show i+1=(i-k+1)+k by omega,XC]
  ·refine Q0 fun j hj=>?_
   rw[if_pos zo,show i-j-k=i-k-j by omega]
  ·intro j h1 h2; rw[if_neg zo,Int.mul_zero]
 ·rw[if_neg h]
  exact GI fun j hj=>by rw[if_neg zo,Int.mul_zero]
theorem mJ {f g h:t9}:o8 (fun i=>f i-g i) h=fun i=>o8 f h i-o8 g h i:=by
 funext i; unfold o8
 rw[<- iR]
 exact Q0 fun j _=>by rw[Int.sub_mul]
theorem mG {f g h:t9}:o8 (fun i=>f i+g i) h=fun i=>o8 f h i+o8 g h i:=by
 funext i; unfold o8
 rw[<- QO]
 exact Q0 fun j _=>by rw[Int.add_mul]
theorem mH {f g h:t9}:o8 h (fun i=>f i+g i)=fun i=>o8 h f i+o8 h g i:=by
 funext i; unfold o8
 rw[<- QO]
 exact Q0 fun j _=>by rw[Int.mul_add]
theorem yC {g:t9} {k:Nat} {b:Int}:(fun i=>b*F2 k g i)=F2 k fun i=>b*g i:=by
 funext i; unfold F2
 split
 ·rfl
 ·rw[Int.mul_zero]
theorem ZL {a b:Int} {k:Nat} {f g h:t9}:o8 (L8 a b k f g) h=L8 a b k (o8 f h) (o8 g h):=by
 unfold L8
 rw[mJ,HF,HF,ZK]
def AA:t9:=fun i=>if i=0 then 1 else 0
def O5:t9:=fun _=>0
theorem MW {f:t9}:o8 AA f=f:=by
 funext k; unfold o8
 rw[XA (j:=0) zo]
 ·unfold AA; rw[if_pos rfl,Int.one_mul]; rfl
 ·intro i _ hne; unfold AA; rw[if_neg hne,Int.zero_mul]
theorem EA {f:t9}:o8 O5 f=O5:=by
 funext k; unfold o8
 exact GI fun i _=>by unfold O5; rw[Int.zero_mul]
structure AI (p c:t9) (X E:Nat) (f u v:t9):Prop where
 eq:∀k,f k=o8 u p k+o8 v c k
 du:y7 u E
 dv:y7 v E
 bf:∀k,(f k).natAbs<=X
 bu:∀k,(u k).natAbs<=X
 bv:∀k,(v k).natAbs<=X
theorem WY {a b:Int} {k X:Nat} {f g:t9} (ha:a.natAbs<=X) (hb:b.natAbs<=X) (hf:∀i,(f i).natAbs<=X) (hg:∀i,(g i).natAbs<=X) (i:Nat):(L8 a b k f g i).natAbs<=2*X*X:=by
 have h1:(a*f i).natAbs<=X*X:=by rw[Int.natAbs_mul]; exact Nat.mul_le_mul ha (hf i)
 have h2:(b*F2 k g i).natAbs<=X*X:=by
  rw[Int.natAbs_mul]
  refine Nat.mul_le_mul hb ?_
  unfold F2; split
  ·exact hg _
  ·exact Nat.zero_le _
 unfold L8
 rw[show 2*X*X=X*X+X*X by rw[Nat.mul_assoc,Nat.two_mul]]
 omega
theorem iJ {a b:Int} {k d e:Nat} {f g:t9} (hf:y7 f d) (hg:y7 g e) (h1:d<=e+k):y7 (L8 a b k f g) (e+k):=fun i hi=>by
 unfold L8 F2
 rw[hf i zo,if_pos zo,hg (i-k) zo]; omega
theorem AI.stp {p c:t9} {X E k:Nat} {f u v g u' v':t9} {a b:Int} (h:AI p c X E f u v) (h':AI p c X E g u' v') (ha:a.natAbs<=X) (hb:b.natAbs<=X):AI p c (2*X*X) (E+k) (L8 a b k f g) (L8 a b k u u') (L8 a b k v v'):=by
 refine ⟨fun i=>?_,iJ h.du h'.du zo,iJ h.dv h'.dv zo,WY ha hb h.bf h'.bf,WY ha hb h.bu h'.bu,WY ha hb h.bv h'.bv⟩
 rw[ZL,ZL]
 unfold L8 F2
 rw[h.eq i]
 split
 ·rw[h'.eq (i-k)]; simp only[Int.mul_add]; omega
 ·simp only[Int.mul_add,Int.mul_zero]; omega
def N3 (p f g:t9):Prop:=∃s q1 q2 d,s≠0/\y7 q1 d/\y7 q2 d/\∀k,s*p k=o8 q1 f k+o8 q2 g k
theorem N3.swap {p f g:t9} (h:N3 p f g):N3 p g f:=by
 obtain ⟨s,q1,q2,d,h1,h2,h3,h4⟩:=h
 exact ⟨s,q2,q1,d,h1,h3,h2,fun k=>by rw[h4 k,Int.add_comm]⟩
theorem N3.stp {p f g:t9} (h:N3 p f g) {a b:Int} {k:Nat} (ha:a≠0):N3 p (L8 a b k f g) g:=by
 obtain ⟨s,q1,q2,d,h1,h2,h3,h4⟩:=h
 refine ⟨a*s,q1,fun i=>F2 k (fun i=>b*q1 i) i+a*q2 i,d+k,Int.mul_ne_zero ha h1,fun i hi=>h2 i zo,fun i hi=>?_,fun i=>?_⟩
 ·show (if k<=i then b*q1 (i-k) else 0)+a*q2 i=0
  rw[if_pos zo,h2 (i-k) zo,h3 i zo]; omega
 ·have e1:o8 q1 (L8 a b k f g)=fun i=>a*o8 q1 f i-b*F2 k (o8 q1 g) i:=by
   have hs:L8 a b k f g=fun i=>a*f i+(-b)*F2 k g i:=by funext i; unfold L8; rw[Int.neg_mul]; omega
   rw[hs,mH,JZ,JZ,mI]
   funext i
   show a*o8 q1 f i+-b*F2 k (o8 q1 g) i=_
   rw[Int.neg_mul]; omega
  have e2:o8 (fun i=>F2 k (fun i=>b*q1 i) i+a*q2 i) g=fun i=>b*F2 k (o8 q1 g) i+a*o8 q2 g i:=by
   rw[mG,HF]
   funext i
   congr 1
   rw[ZK,HF,<- yC]
  rw[e1,e2,Int.mul_assoc,h4 i,Int.mul_add]
  simp only
  omega
theorem NK {f:t9}:∀{d:Nat},y7 f d->(∀i,f i=0)\/∃e,e<=d/\y7 f e/\f e≠0
 | 0,h=>by
  by_cases e:f 0=0
  ·exact .inl fun i=>by
    rcases Nat.eq_zero_or_pos i with rfl | hi
    ·exact e
    ·exact h i hi
  ·exact .inr ⟨0,Nat.le_refl _,h,e⟩
 | d+1,h=>by
  by_cases e:f (d+1)=0
  ·rcases NK (d:=d) (fun i hi=>by
    by_cases e2:i=d+1
    ·subst e2; exact e
    ·exact h i zo) with h1 | ⟨q,h1,h2,h3⟩
   ·exact .inl h1
   ·exact .inr ⟨q,by omega,h2,h3⟩
  ·exact .inr ⟨d+1,Nat.le_refl _,h,e⟩
def XI (X:Nat):Nat->Nat
 | 0=>X
 | m+1=>XI (2*X*X) m
theorem YE {X:Nat} (h:1<=X):∀{m:Nat},X<=XI X m
 | 0=>Nat.le_refl _
 | m+1=>by
  have h1:X*1<=X*X:=Nat.mul_le_mul_left _ h
  have h2:X<=2*X*X:=by rw[Nat.mul_assoc]; omega
  exact Nat.le_trans h2 (YE zo)
def EZ (p c:t9) (X E:Nat):Prop:=∃D u v,D≠0/\(∀k,o8 u p k+o8 v c k=if k=0 then D else 0)/\y7 u E/\y7 v E/\(∀k,(u k).natAbs<=X)/\∀k,(v k).natAbs<=X
theorem EZ.mono {p c:t9} {X Y E F:Nat} (h:EZ p c X E) (h1:X<=Y) (h2:E<=F):EZ p c Y F:=by
 obtain ⟨D,u,v,a1,a2,a3,a4,a5,a6⟩:=h
 exact ⟨D,u,v,a1,a2,fun i hi=>a3 i zo,fun i hi=>a4 i zo,fun k=>Nat.le_trans (a5 k) h1,fun k=>Nat.le_trans (a6 k) h1⟩
theorem AI.bez {p c:t9} {X E:Nat} {f u v:t9} (h:AI p c X E f u v) (hd:y7 f 0) (h0:f 0≠0):EZ p c X E :=
 ⟨f 0,u,v,h0,fun k=>by
  rw[<- h.eq k]
  split
  ·rename_i e; rw[e]
  ·exact hd k zo,h.du,h.dv,h.bu,h.bv⟩
def LU (p:t9) (n:Nat):Prop:=∃s r t a b,s≠0/\1<=a/\a<=n-1/\y7 r a/\r a≠0/\y7 t b/\∀k,s*p k=o8 r t k
theorem HE {f g:t9}:o8 f g=o8 g f:=by
 funext k; unfold o8
 have key:∀(h:Nat->Int) (m:Nat),s6 h m=s6 (fun i=>h (m-1-i)) m:=fun h m=>by
  induction m generalizing h with
  | zero=>rfl
  | succ m ih =>
   rw[J4]
   have e:=XB (f:=fun i=>h (m-i)) (k:=1) (j:=m)
   have e2:s6 (fun i=>h (m-i)) (m+1)=h m+s6 (fun i=>h (m-(1+i))) m:=by
    clear ih e
    have:∀j,s6 (fun i=>h (m-i)) (j+1)=h m+s6 (fun i=>h (m-(1+i))) j:=by
     intro j
     induction j with
     | zero=>show 0+h (m-0)=h m+0; rw[Nat.sub_zero]; omega
     | succ j ihj=>rw[J4,ihj,J4,show 1+j=j+1 by omega]; omega
    exact this m
   show s6 h m+h m=s6 (fun i=>h (m+1-1-i)) (m+1)
   rw[Nat.add_sub_cancel,e2,ih h,Int.add_comm]
   congr 1
   exact Q0 fun i hi=>by rw[show m-1-i=m-(1+i) by omega]
 rw[key]
 refine Q0 fun i hi=>?_
 rw[Nat.add_sub_cancel,show k-(k-i)=i by omega,Int.mul_comm]
theorem TT {p c:t9} {n:Nat}:∀(m:Nat) {f g:t9} {u v u' v':t9} {df dg X E:Nat},1<=X->df+dg<=m->dg<=df->df<=4->dg<=n-1->y7 f df->f df≠0->y7 g dg->g dg≠0->AI p c X E f u v->AI p c X E g u' v'->N3 p f g->LU p n\/EZ p c (XI X m) (E+4*m)
 | m,f,g,u,v,u',v',df,dg,X,E,hX,hm,hd,h4,hn,hf,hf0,hg,hg0,cf,cg,bk=>by
  rcases Nat.eq_zero_or_pos dg with rfl | hpos
  ·exact .inr ((cg.bez hg hg0).mono (YE hX) zo)
  ·obtain ⟨m,rfl⟩:∃q,m=q+1:=⟨m-1,by omega⟩
   have c2:=cf.stp (k:=df-dg) cg (a:=g dg) (b:=f df) (cg.bf _) (cf.bf _)
   have b2:=bk.stp (a:=g dg) (b:=f df) (k:=df-dg) hg0
   have hX2:1<=2*X*X:=by
    have:X*1<=X*X:=Nat.mul_le_mul_left _ hX
    rw[Nat.mul_assoc]; omega
   have hXX:X<=2*X*X:=by
    have:X*1<=X*X:=Nat.mul_le_mul_left _ hX
    rw[Nat.mul_assoc]; omega
   have cg2:AI p c (2*X*X) (E+(df-dg)) g u' v':=⟨cg.eq,fun i hi=>cg.du i zo,fun i hi=>cg.dv i zo,fun k=>Nat.le_trans (cg.bf k) hXX,fun k=>Nat.le_trans (cg.bu k) hXX,fun k=>Nat.le_trans (cg.bv k) hXX⟩
   have hdg:y7 (L8 (g dg) (f df) (df-dg) f g) (df-1):=fun i hi=>by
    unfold L8 F2
    by_cases e:i=df
    ·subst e
     rw[if_pos zo,show i-(i-dg)=dg by omega,Int.mul_comm]; omega
    ·rw[hf i zo,if_pos (show df-dg<=i by omega),hg (i-(df-dg)) zo]; omega
   rcases NK hdg with hz | ⟨e,e1,e2,e3⟩
   ·-- nothing is left: g divides
    obtain ⟨s,q1,q2,d,s1,s2,s3,s4⟩:=b2
    refine .inl ⟨s,g,q2,dg,d,s1,hpos,hn,hg,hg0,s3,fun k=>?_⟩
    rw[s4 k,HE (f:=q1),show L8 (g dg) (f df) (df-dg) f g=O5 from funext hz,EA,HE]
    show 0+_=_; omega
   ·have hfin:LU p n\/EZ p c (XI (2*X*X) m) (E+(df-dg)+4*m):=by
     by_cases hle:dg<=e
     ·exact TT m hX2 zo hle zo hn e2 e3 hg hg0 c2 cg2 b2
     ·exact TT m hX2 zo zo zo zo hg hg0 e2 e3 cg2 c2 b2.swap
    exact hfin.imp id fun h=>h.mono (Nat.le_refl _) zo
theorem YR {p c:t9} {n X:Nat} (hn:1<=n) (h4:n<=4) (hX:1<=X) (hp:y7 p n) (hp1:p n=1) (hc:y7 c (n-1)) (hc0:¬∀i,c i=0) (bp:∀k,(p k).natAbs<=X) (bc:∀k,(c k).natAbs<=X):LU p n\/EZ p c (XI X 7) 28:=by
 obtain ⟨e,e1,e2,e3⟩:=(NK hc).resolve_left hc0
 have h1:∀k,(AA k).natAbs<=X:=fun k=>by unfold AA; split<;>simp<;>omega
 have h2:∀k,(O5 k).natAbs<=X:=fun k=>by unfold O5; simp
 have o1:y7 AA 0:=fun i hi=>by unfold AA; rw[if_neg zo]
 have o2:y7 O5 0:=fun i _=>rfl
 have cp:AI p c X 0 p AA O5:=⟨fun k=>by rw[MW,EA]; show p k=p k+0; omega,o1,o2,bp,h1,h2⟩
 have cc:AI p c X 0 c O5 AA:=⟨fun k=>by rw[MW,EA]; show c k=0+c k; omega,o2,o1,bc,h2,h1⟩
 have bk:N3 p p c:=⟨1,AA,O5,0,by omega,o1,o2,fun k=>by rw[MW,EA]; show 1*p k=p k+0; omega⟩
 have:=TT 7 (n:=n) hX (show n+e<=7 by omega) zo h4 e1 hp (by rw[hp1]; omega) e2 e3 cp cc bk
 simpa using this
end Go.Fl

/- Divisors of small degrees; homogeneous values. Plain Lean, no program in sight. -/
namespace Go.Fl
def EE (p:t9) (n:Nat) (x:Int):Int:=s6 (fun i=>p i*x ^ i) (n+1)
def FE (p:t9) (n:Nat):Prop:=(∃x,EE p n x=0)\/(n=4/\∃a b c d:Int,p 3=a+c/\p 2=b+d+a*c/\p 1=a*d+b*c/\p 0=b*d)
theorem dV {p r t:t9} {n:Nat} (hn:1<=n) (hn4:n<=4) (hr:y7 r 1) (ht:y7 t (n-1)) (h:∀k,p k=o8 r t k) (he:r 1*r 1=1):∃x,EE p n x=0:=by
 refine ⟨-(r 0*r 1),?_⟩
 have e0:p 0=r 0*t 0:=by rw[h]; simp[o8,s6]
 have e1:p 1=r 0*t 1+r 1*t 0:=by rw[h]; simp[o8,s6]
 have h2:r 2=0:=hr 2 zo
 have h3:r 3=0:=hr 3 zo
 have h4:r 4=0:=hr 4 zo
 have e2:p 2=r 0*t 2+r 1*t 1:=by rw[h]; simp[o8,s6,h2]
 have e3:p 3=r 0*t 3+r 1*t 2:=by rw[h]; simp[o8,s6,h2,h3]
 have e4:p 4=r 0*t 4+r 1*t 3:=by rw[h]; simp[o8,s6,h2,h3,h4]
 rcases (show n=1\/n=2\/n=3\/n=4 by omega) with rfl | rfl | rfl | rfl
 ·have z1:t 1=0:=ht 1 zo
  simp only[EE,s6,e0,e1,z1]; grind
 ·have z2:t 2=0:=ht 2 zo
  simp only[EE,s6,e0,e1,e2,z2]; grind
 ·have z3:t 3=0:=ht 3 zo
  simp only[EE,s6,e0,e1,e2,e3,z3]; grind
 ·have z4:t 4=0:=ht 4 zo
  simp only[EE,s6,e0,e1,e2,e3,e4,z4]; grind
theorem XN {a b:Int} (h:a*b=1):a*a=1/\a=b:=by
 have h1:a.natAbs*b.natAbs=1:=by rw[<- Int.natAbs_mul,h]; rfl
 have h2:a.natAbs=1:=Nat.eq_one_of_mul_eq_one_right h1
 rcases (show a=1\/a=-1 by omega) with rfl | rfl
 ·exact ⟨rfl,by omega⟩
 ·exact ⟨rfl,by omega⟩
theorem wH {p r t:t9} (hr:y7 r 2) (ht:y7 t 2) (h:∀k,p k=o8 r t k) (he:r 2*t 2=1):∃a b c d:Int,p 3=a+c/\p 2=b+d+a*c/\p 1=a*d+b*c/\p 0=b*d:=by
 obtain ⟨u1,u2⟩:=XN he
 have h3:r 3=0:=hr 3 zo
 have g3:t 3=0:=ht 3 zo
 have e0:p 0=r 0*t 0:=by rw[h]; simp[o8,s6]
 have e1:p 1=r 0*t 1+r 1*t 0:=by rw[h]; simp[o8,s6]
 have e2:p 2=r 0*t 2+r 1*t 1+r 2*t 0:=by rw[h]; simp[o8,s6]
 have e3:p 3=r 1*t 2+r 2*t 1:=by rw[h]; simp[o8,s6,h3,g3]
 refine ⟨r 1*r 2,r 0*r 2,t 1*r 2,t 0*r 2,?_,?_,?_,?_⟩<;>grind
theorem TH {p:t9} {n:Nat} (h2:2<=n) (h4:n<=4) (hp:y7 p n) (hp1:p n=1) (h:LU p n):FE p n:=by
 obtain ⟨s,r,t,a,b,h1,a1,a2,hr,hra,ht,hst⟩:=h
 obtain ⟨r',t',d1,d0,d2,d3⟩:=rD _ rfl h1 hr hra ht hst
 obtain ⟨t2,f2,f3⟩:∃t2,y7 t2 b/\∀k,p k=o8 r' t2 k:=by
  rcases d3 with d3 | d3
  ·exact ⟨t',d2,d3⟩
  ·refine ⟨fun i=>-1*t' i,fun i hi=>by show -1*t' i=0; rw[d2 i hi]; rfl,fun k=>?_⟩
   rw[JZ]
   show p k=-1*o8 r' t' k
   rw[<- d3 k]; omega
 obtain ⟨e,e1,e2,e3⟩:=(NK f2).resolve_left fun hz=>by
  have:p n=0:=by rw[f3 n,show t2=O5 from funext hz,HE,EA]; rfl
  omega
 have htop:p (a+e)=r' a*t2 e:=by rw[f3,mK d1 e2]
 have hne:p (a+e)≠0:=by rw[htop]; exact Int.mul_ne_zero d0 e3
 have hle:a+e<=n:=Nat.le_of_not_lt fun hh=>hne (hp _ hh)
 have heq:a+e=n:=Classical.byContradiction fun hh=>by
  have:p n=0:=by rw[f3]; exact ZJ d1 e2 n zo
  omega
 have hu:r' a*t2 e=1:=by rw[<- htop,heq,hp1]
 have hu':=XN hu
 have hv':=XN ((Int.mul_comm _ _).trans hu)
 by_cases c1:a=1
 ·subst c1
  exact .inl (dV zo h4 d1 (by rw[show n-1=e by omega]; exact e2) f3 hu'.1)
 ·by_cases c2:e=1
  ·subst c2
   exact .inl (dV zo h4 e2 (by rw[show n-1=a by omega]; exact d1) (fun k=>by rw[f3,HE]) hv'.1)
  ·obtain rfl:a=2:=by omega
   obtain rfl:e=2:=by omega
   exact .inr ⟨by omega,wH d1 e2 f3 hu⟩
def hm (f:t9) (m:Nat) (a b:Int):Int:=s6 (fun i=>f i*a ^ i*b ^ (m-i)) (m+1)
theorem UG {f g:t9} {m:Nat} {a b:Int}:hm (fun i=>f i+g i) m a b=hm f m a b+hm g m a b:=by
 unfold hm; rw[<- QO]
 exact Q0 fun i _=>by rw[Int.add_mul,Int.add_mul]
theorem cS {f:t9} {m:Nat} {a b c:Int}:hm (fun i=>c*f i) m a b=c*hm f m a b:=by
 unfold hm; rw[<- GH]
 exact Q0 fun i _=>by rw[Int.mul_assoc,Int.mul_assoc,Int.mul_assoc]
theorem KK {f:t9} {m j:Nat} {a b:Int} (h:y7 f m):hm f (m+j) a b=b ^ j*hm f m a b:=by
 unfold hm
 rw[show m+j+1=m+1+j by omega,XC fun i h1 _=>by rw[h i zo,Int.zero_mul,Int.zero_mul],<- GH]
 refine Q0 fun i hi=>?_
 rw[show m+j-i=j+(m-i) by omega,Int.pow_add]
 simp only[Int.mul_assoc,Int.mul_left_comm]
def Y2 (f:t9):t9:=fun i=>f (i+1)
theorem OB {f:t9} {m:Nat} {a b:Int}:hm f (m+1) a b=f 0*b ^ (m+1)+a*hm (Y2 f) m a b:=by
 unfold hm
 rw[show m+1+1=1+(m+1) by omega]
 have key:∀(g:Nat->Int) (k:Nat),s6 g (1+k)=g 0+s6 (fun i=>g (1+i)) k:=fun g k=>by
  induction k with
  | zero=>show 0+g 0=g 0+0; omega
  | succ k ih=>rw[show 1+(k+1)=1+k+1 by omega,J4,ih,J4]; omega
 rw[key,<- GH]
 congr 1
 ·rw[Int.pow_zero,Int.mul_one,Nat.sub_zero]
 ·refine Q0 fun i hi=>?_
  rw[show m+1-(1+i)=m-i by omega,show 1+i=i+1 by omega,Int.pow_succ]
  unfold Y2
  simp only[Int.mul_assoc,Int.mul_left_comm,Int.mul_comm]
theorem ZI {f g:t9}:o8 f g=fun k=>f 0*g k+F2 1 (o8 (Y2 f) g) k:=by
 funext k
 unfold o8 F2
 have key:∀(h:Nat->Int) (k:Nat),s6 h (1+k)=h 0+s6 (fun i=>h (1+i)) k:=fun h k=>by
  induction k with
  | zero=>show 0+h 0=h 0+0; omega
  | succ k ih=>rw[show 1+(k+1)=1+k+1 by omega,J4,ih,J4]; omega
 rw[show k+1=1+k by omega,key,Nat.sub_zero]
 congr 1
 by_cases h:1<=k
 ·rw[if_pos h]
  show _=s6 (fun i=>Y2 f i*g (k-1-i)) (k-1+1)
  rw[show k-1+1=k by omega]
  refine Q0 fun i hi=>?_
  unfold Y2
  rw[show 1+i=i+1 by omega,show k-(i+1)=k-1-i by omega]
 ·rw[if_neg h,show k=0 by omega]; rfl
theorem rQ {f:t9} {m:Nat} {a b:Int}:hm (F2 1 f) (m+1) a b=a*hm f m a b:=by
 rw[OB]
 have e:Y2 (F2 1 f)=f:=by funext i; unfold Y2 F2; rw[if_pos zo,Nat.add_sub_cancel]
 rw[e]
 unfold F2
 rw[if_neg zo]; omega
theorem yW {f:t9} {m:Nat} (h:y7 f (m+1)):y7 (Y2 f) m:=fun i hi=>h (i+1) zo
theorem KJ {g:t9} {l:Nat} {a b:Int} (hg:y7 g l):∀{m:Nat} {f:t9},y7 f m->hm (o8 f g) (m+l) a b=hm f m a b*hm g l a b
 | 0,f,hf=>by
  have e:o8 f g=fun k=>f 0*g k:=by
   rw[ZI]
   funext k
   have:Y2 f=O5:=funext fun i=>hf (i+1) zo
   rw[this,EA]
   unfold F2 O5
   split<;>omega
  rw[e,Nat.zero_add,cS]
  congr 1
  unfold hm; simp[s6]
 | m+1,f,hf=>by
  rw[ZI,show m+1+l=m+l+1 by omega]
  have e1:hm (fun k=>f 0*g k+F2 1 (o8 (Y2 f) g) k) (m+l+1) a b=f 0*hm g (m+l+1) a b+a*hm (o8 (Y2 f) g) (m+l) a b:=by
   rw[UG,cS,rQ]
  rw[e1,KJ hg (yW hf),show m+l+1=l+(m+1) by omega,KK hg,OB]
  rw[Int.add_mul]
  simp only[Int.mul_assoc,Int.mul_left_comm,Int.mul_comm]
def lP (cs:List Int):t9:=fun i=>if i<cs.length then b6 cs i else 0
theorem HU {cs:List Int}:y7 (lP cs) (cs.length-1):=fun i hi=>by unfold lP; rw[if_neg zo]
theorem dO {c:Int} {cs:List Int}:Y2 (lP (c::cs))=lP cs:=by
 funext i; unfold Y2 lP
 by_cases h:i<cs.length
 ·rw[if_pos (by simpa using h),if_pos h]; rfl
 ·rw[if_neg (by simpa using h),if_neg h]
theorem OD {a b:Int}:∀{cs:List Int},(E7 a b cs).2=b ^ cs.length/\(E7 a b cs).1=hm (lP cs) (cs.length-1) a b
 | []=>⟨by simp[E7],by simp[E7,hm,s6,lP]⟩
 | [c]=>⟨by simp[E7,Int.pow_succ],by simp[E7,hm,s6,lP,b6]⟩
 | c::d::cs=>by
  obtain ⟨h1,h2⟩:=OD (a:=a) (b:=b) (cs:=d::cs)
  rw[E7]
  refine ⟨by simp only; rw[h1,List.length_cons (a:=c),Int.pow_succ],?_⟩
  simp only
  rw[h1,h2,List.length_cons (a:=c),Nat.add_sub_cancel,show (d::cs).length=(d::cs).length-1+1 by simp,OB,dO,Nat.add_sub_cancel]
  have e0:lP (c::d::cs) 0=c:=by unfold lP; simp[b6]
  rw[e0,Int.mul_comm a]; omega
theorem eQ {p:t9} {n:Nat} (h2:2<=n) (h4:n<=4) (hp:y7 p n) (hp1:p n=1) (hred:¬FE p n) {a b:Int} (hb:0<b):hm p n a b≠0:=fun h0=>by
 have hc:y7 (fun i=>if i=0 then -a else if i=1 then b else 0) (n-1):=fun i hi=>by
  show (if i=0 then -a else if i=1 then b else 0)=0
  rw[if_neg zo,if_neg zo]
 obtain ⟨X,hX,hbp,hbc⟩:∃X:Nat,1<=X/\(∀k,(p k).natAbs<=X)/\∀k,((fun i=>if i=0 then -a else if i=1 then b else 0:t9) k).natAbs<=X:=by
  refine ⟨1+(p 0).natAbs+(p 1).natAbs+(p 2).natAbs+(p 3).natAbs+(p 4).natAbs+a.natAbs+b.natAbs,by omega,fun k=>?_,fun k=>?_⟩
  ·by_cases h:k<=4
   ·rcases (show k=0\/k=1\/k=2\/k=3\/k=4 by omega) with rfl | rfl | rfl | rfl | rfl<;>omega
   ·rw[hp k zo]; simp
  ·show (if k=0 then -a else if k=1 then b else 0:Int).natAbs<=_
   split
   ·omega
   ·split
    ·omega
    ·simp
 rcases YR zo h4 hX hp hp1 hc (fun hz=>by have:=hz 1; simp at this; omega) hbp hbc with h | ⟨D,u,v,d0,h1,hu,hv,_,_⟩
 ·exact hred (TH h2 h4 hp hp1 h)
 ·have e1:=KJ (a:=a) (b:=b) hp hu
  have e2:=KJ (a:=a) (b:=b) (l:=n) (fun i hi=>hc i zo) hv
  have e3:hm (fun i=>if i=0 then -a else if i=1 then b else 0) n a b=0:=by
   obtain ⟨q,rfl⟩:∃q,n=q+1:=⟨n-1,by omega⟩
   rw[show q+1=1+q by omega,KK (m:=1) (fun i hi=>by show (if i=0 then -a else if i=1 then b else 0)=0; rw[if_neg zo,if_neg zo])]
   have:hm (fun i=>if i=0 then -a else if i=1 then b else 0) 1 a b=0:=by
    simp[hm,s6,Int.pow_succ]; rw[Int.neg_mul,Int.mul_comm a]; omega
   rw[this,Int.mul_zero]
  rw[h0,Int.mul_zero] at e1
  rw[e3,Int.mul_zero] at e2
  have e4:hm (fun k=>o8 u p k+o8 v (fun i=>if i=0 then -a else if i=1 then b else 0) k) (28+n) a b=0:=by rw[UG,e1,e2]; rfl
  rw[show (fun k=>o8 u p k+o8 v (fun i=>if i=0 then -a else if i=1 then b else 0) k)=fun k=>if k=0 then D else 0 from funext h1] at e4
  have e5:hm (fun k=>if k=0 then D else 0) (28+n) a b=D*b ^ (28+n):=by
   have:=KK (f:=fun k=>if k=0 then D else 0) (m:=0) (j:=28+n) (a:=a) (b:=b) (fun i hi=>by show (if i=0 then D else 0)=0; rw[if_neg zo])
   rw[Nat.zero_add] at this
   rw[this,Int.mul_comm]
   congr 1
   simp[hm,s6]
  rw[e5] at e4
  have:=Int.pow_pos (n:=b) (m:=28+n) hb
  exact absurd e4 (Int.mul_ne_zero d0 zo)
end Go.Fl

/- Halving ends: a number other than a fraction is told from 0 after so many halvings. Plain Lean, no program in sight. -/
namespace Go.Fl
theorem NV {I:Iv} {a:Int} (h1:I.lo<=a) (h2:a<=I.hi):∀{cs:List Int},(enc I cs).1<=(if cs.length=0 then 0 else I.den*hm (lP cs) (cs.length-1) a I.den)/\(if cs.length=0 then 0 else I.den*hm (lP cs) (cs.length-1) a I.den)<=(enc I cs).2.1
 | []=>by simp[enc]
 | c::cs=>by
  obtain ⟨e1,e2⟩:=NV h1 h2 (cs:=cs)
  have e0:lP (c::cs) 0=c:=by unfold lP; simp[b6]
  have hv:I.den*hm (lP (c::cs)) cs.length a I.den=(if cs.length=0 then 0 else I.den*hm (lP cs) (cs.length-1) a I.den)*a+c*(I.den ^ cs.length*I.den):=by
   by_cases h:cs.length=0
   ·rw[if_pos h,h]
    simp[hm,s6,e0,Int.mul_comm]
   ·rw[if_neg h]
    have e:cs.length=cs.length-1+1:=by omega
    conv=>lhs; rw[e,OB,dO,e0,<- e]
    rw[Int.mul_add,Int.add_comm]
    congr 1
    ·simp only[Int.mul_left_comm,Int.mul_comm]
    ·simp only[Int.mul_left_comm,Int.mul_comm]
  rw[if_neg (by simp),List.length_cons,Nat.add_sub_cancel,hv,enc]
  simp only
  rw[TQ]
  have:=OC e1 e2 h1 h2
  omega
theorem U6 {x y:Int} {m n:Nat} (h1:x.natAbs<=m) (h2:y.natAbs<=n):(x*y).natAbs<=m*n:=by rw[Int.natAbs_mul]; exact Nat.mul_le_mul h1 h2
set_option maxHeartbeats 2000000 in
theorem TP {I:Iv} {A F W:Nat} (hlo:I.lo.natAbs<=A) (hhi:I.hi.natAbs<=A) (hden:I.den.natAbs<=A) (hw:(I.hi-I.lo).natAbs<=W):∀{cs:List Int},(∀c∈cs,c.natAbs<=F)->(enc I cs).1.natAbs<=cs.length*F*A ^ cs.length/\(enc I cs).2.1.natAbs<=cs.length*F*A ^ cs.length/\((enc I cs).2.1-(enc I cs).1).natAbs*A<=cs.length*cs.length*F*W*A ^ cs.length
 | [],_=>by simp[enc]
 | c::cs,h=>by
  obtain ⟨b1,b2,b3⟩:=TP hlo hhi hden hw (cs:=cs) fun x hx=>h x (List.mem_cons_of_mem _ hx)
  have hc:=h c List.mem_cons_self
  have hd:(c*((enc I cs).2.2*I.den)).natAbs<=F*A ^ (cs.length+1):=by
   rw[TQ]
   refine U6 hc ?_
   rw[Nat.pow_succ]
   refine U6 ?_ hden
   rw[Int.natAbs_pow]
   exact Nat.pow_le_pow_left hden _
  rw[enc]
  simp only[List.length_cons]
  generalize hX:(enc I cs).1=X at *
  generalize hY:(enc I cs).2.1=Y at *
  generalize c*((enc I cs).2.2*I.den)=D at *
  generalize hL:cs.length=L at *
  have hpw:A ^ (L+1)=A ^ L*A:=Nat.pow_succ ..
  generalize hM:L*F*A ^ L=M at *
  have hMA:(L+1)*F*A ^ (L+1)=M*A+F*A ^ (L+1):=by
   rw[<- hM,hpw]; simp only[Nat.add_mul,Nat.one_mul,Nat.mul_assoc]
  have corner:∀x y,(x=X\/x=Y)->(y=I.lo\/y=I.hi)->(x*y).natAbs<=M*A:=fun x y hx hy=>by
   refine U6 ?_ ?_
   ·rcases hx with rfl | rfl<;>assumption
   ·rcases hy with rfl | rfl<;>assumption
  have diff:∀x y x' y',(x=X\/x=Y)->(y=I.lo\/y=I.hi)->(x'=X\/x'=Y)->(y'=I.lo\/y'=I.hi)->(x*y-x'*y').natAbs<=M*W+(Y-X).natAbs*A:=fun x y x' y' hx hy hx' hy'=>by
   have e:x*y-x'*y'=x*(y-y')+(x-x')*y':=by rw[Int.mul_sub,Int.sub_mul]; omega
   have h1:(x*(y-y')).natAbs<=M*W:=by
    refine U6 ?_ ?_
    ·rcases hx with rfl | rfl<;>assumption
    ·rcases hy with rfl | rfl<;>rcases hy' with rfl | rfl<;>omega
   have h2:((x-x')*y').natAbs<=(Y-X).natAbs*A:=by
    refine U6 ?_ ?_
    ·rcases hx with rfl | rfl<;>rcases hx' with rfl | rfl<;>omega
    ·rcases hy' with rfl | rfl<;>assumption
   rw[e]; omega
  obtain ⟨x,y,hx,hy,e1⟩:=VH (A:=X) (B:=Y) (L:=I.lo) (H:=I.hi)
  obtain ⟨x',y',hx',hy',e2⟩:=VF (A:=X) (B:=Y) (L:=I.lo) (H:=I.hi)
  have k1:=corner x y hx hy
  have k2:=corner x' y' hx' hy'
  have k3:=diff x' y' x y hx' hy' hx hy
  rw[e1,e2,hMA]
  refine ⟨by omega,by omega,?_⟩
  rw[show x'*y'+D-(x*y+D)=x'*y'-x*y by omega]
  refine Nat.le_trans (Nat.mul_le_mul_right A k3) ?_
  rw[Nat.add_mul]
  have k4:(Y-X).natAbs*A*A<=L*L*F*W*A ^ L*A:=Nat.mul_le_mul_right _ b3
  have e5:M*W*A=L*F*W*A ^ (L+1):=by
   rw[<- hM,hpw]; simp only[Nat.mul_assoc,Nat.mul_left_comm,Nat.mul_comm]
  have e6:L*L*F*W*A ^ L*A=L*L*F*W*A ^ (L+1):=by rw[hpw]; simp only[Nat.mul_assoc]
  have e7:(L+1)*(L+1)*F*W*A ^ (L+1)=L*L*F*W*A ^ (L+1)+L*F*W*A ^ (L+1)+(L+1)*F*W*A ^ (L+1):=by
   have:(L+1)*(L+1)=L*L+L+(L+1):=by simp only[Nat.add_mul,Nat.mul_add,Nat.one_mul,Nat.mul_one]
   rw[this]; simp only[Nat.add_mul]
  rw[e5]; rw[e6] at k4
  omega
theorem cR {f:t9} {m A F:Nat} {a b:Int} (ha:a.natAbs<=A) (hb:b.natAbs<=A) (hf:∀i,(f i).natAbs<=F):(hm f m a b).natAbs<=(m+1)*(F*A ^ m):=by
 unfold hm
 have key:∀k,k<=m+1->(s6 (fun i=>f i*a ^ i*b ^ (m-i)) k).natAbs<=k*(F*A ^ m):=by
  intro k
  induction k with
  | zero=>intro _; simp[s6]
  | succ k ih =>
   intro hk
   have h1:=ih zo
   have h2:(f k*a ^ k*b ^ (m-k)).natAbs<=F*A ^ m:=by
    have e:A ^ m=A ^ k*A ^ (m-k):=by rw[<- Nat.pow_add]; congr 1; omega
    rw[e,<- Nat.mul_assoc]
    refine U6 (U6 (hf k) ?_) ?_
    ·rw[Int.natAbs_pow]; exact Nat.pow_le_pow_left ha _
    ·rw[Int.natAbs_pow]; exact Nat.pow_le_pow_left hb _
   rw[J4,Nat.add_mul,Nat.one_mul]
   omega
 exact key _ (Nat.le_refl _)
end Go.Fl

/- Halving ends: so often, and a number other than 0 is told from 0. Plain Lean, no program in sight. -/
namespace Go.Fl
theorem UO {p:List Int} {I:Iv}:∀{k:Nat},(i1 p I k).den=I.den*2 ^ k
 | 0=>by simp[i1]
 | k+1=>by
  have ih:=UO (p:=p) (I:=I) (k:=k)
  have:(O2 p (i1 p I k)).den=(i1 p I k).den+(i1 p I k).den:=by unfold O2; split<;>rfl
  rw[i1,this,ih,Int.pow_succ,<- Int.mul_assoc]; omega
theorem dF {p:List Int} {I:Iv}:∀{k:Nat},(i1 p I k).hi-(i1 p I k).lo=I.hi-I.lo
 | 0=>rfl
 | k+1=>by
  have ih:=dF (p:=p) (I:=I) (k:=k)
  rw[i1]
  unfold O2
  split<;>simp only<;>omega
theorem UN {p:List Int} {I:Iv} (hI:I.Ok) {R:Int} (h1:-(R*I.den)<=I.lo) (h2:I.hi<=R*I.den):∀{k:Nat},-(R*(i1 p I k).den)<=(i1 p I k).lo/\(i1 p I k).hi<=R*(i1 p I k).den
 | 0=>⟨h1,h2⟩
 | k+1=>by
  have ih:=UN hI h1 h2 (p:=p) (k:=k)
  have hle:=(X1 hI (p:=p) (k:=k)).le
  rw[i1]
  unfold O2
  split<;>simp only<;>rw[Int.mul_add]<;>omega
def B1 (p:List Int) (a b:Int):Int:=hm (lP p) (p.length-1) a b
theorem CL (z:Int):(z<0/\y6 z=-1)\/(z=0/\y6 z=0)\/(0<z/\y6 z=1):=by
 unfold y6 u5
 rcases Int.lt_trichotomy z 0 with h | h | h
 ·exact .inl ⟨h,by simp[h]⟩
 ·exact .inr (.inl ⟨h,by simp[h]⟩)
 ·exact .inr (.inr ⟨h,by rw[if_neg zo,if_pos h]⟩)
theorem dE {p:List Int} {I:Iv} (hI:I.Ok) (hnr:∀a b:Int,0<b->B1 p a b≠0) (h:y6 (B1 p I.lo I.den)*y6 (B1 p I.hi I.den)<0):∀{k:Nat},y6 (B1 p (i1 p I k).lo (i1 p I k).den)*y6 (B1 p (i1 p I k).hi (i1 p I k).den)<0
 | 0=>h
 | k+1=>by
  have ih:=dE hI hnr h (k:=k)
  have hpos:=(X1 hI (p:=p) (k:=k)).pos
  have dbl:∀a b:Int,0<b->y6 (B1 p (a+a) (b+b))=y6 (B1 p a b):=fun a b hb=>by
   have e:B1 p (a+a) (b+b)=2 ^ (p.length-1)*B1 p a b:=by
    unfold B1 hm
    rw[<- GH]
    refine Q0 fun i hi=>?_
    rw[<- Int.two_mul,<- Int.two_mul,Int.mul_pow,Int.mul_pow]
    have:(2:Int) ^ (p.length-1)=2 ^ i*2 ^ (p.length-1-i):=by rw[<- Int.pow_add]; congr 1; omega
    rw[this]
    simp only[Int.mul_assoc,Int.mul_left_comm,Int.mul_comm]
   have h2:(0:Int)<2 ^ (p.length-1):=Int.pow_pos zo
   rw[e]
   generalize (2:Int) ^ (p.length-1)=q at *
   rcases CL (B1 p a b) with ⟨h1,h3⟩ | ⟨h1,h3⟩ | ⟨h1,h3⟩
   ·have:=Int.mul_neg_of_pos_of_neg h2 h1
    rcases CL (q*B1 p a b) with ⟨h4,h5⟩ | ⟨h4,h5⟩ | ⟨h4,h5⟩<;>omega
   ·rw[h1,Int.mul_zero]
   ·have:=Int.mul_pos h2 h1
    rcases CL (q*B1 p a b) with ⟨h4,h5⟩ | ⟨h4,h5⟩ | ⟨h4,h5⟩<;>omega
  have hv:∀a b,(E7 a b p).1=B1 p a b:=fun a b=>OD.2
  have hm0:=hnr ((i1 p I k).lo+(i1 p I k).hi) ((i1 p I k).den+(i1 p I k).den) zo
  rw[i1]
  unfold O2
  rw[hv,hv]
  split
  ·rename_i hc
   simp only
   rw[dbl _ _ hpos]; exact hc
  ·rename_i hc
   simp only
   rw[dbl _ _ hpos]
   have a1:=CL (B1 p (i1 p I k).lo (i1 p I k).den)
   have a2:=CL (B1 p (i1 p I k).hi (i1 p I k).den)
   have a3:=CL (B1 p ((i1 p I k).lo+(i1 p I k).hi) ((i1 p I k).den+(i1 p I k).den))
   rcases a1 with ⟨_,q1⟩ | ⟨_,q1⟩ | ⟨_,q1⟩<;>rcases a2 with ⟨_,q2⟩ | ⟨_,q2⟩ | ⟨_,q2⟩<;>rcases a3 with ⟨_,q3⟩ | ⟨q4,q3⟩ | ⟨_,q3⟩<;>rw[q1,q3] at hc<;>rw[q1,q2] at ih<;>rw[q2,q3]<;>omega
def EB (n F R W:Nat):Nat:=2*(29*XI F 7*((n+1)*(n+1)*F)*W*R ^ (28+n))+1
theorem yX {n R B F W X7:Nat} {den D U V P C e1 e2:Int} {wp:Nat} (hn:2<=n) (hR:1<=R) (hB:den=B) (hden:((2*(29*X7*((n+1)*(n+1)*F)*W*R ^ (28+n))+1:Nat):Int)<=den) (hT:0<R*B)
  (e4:U*P+den*(V*C)=D*den ^ (28+n)) (d0:D≠0) (hub:U.natAbs<=(28+1)*(X7*(R*B) ^ 28)) (hvb:V.natAbs<=(28+1)*(X7*(R*B) ^ 28))
  (hwp:wp<=(n+1)*(n+1)*F*W*(R*B) ^ n) (hwc:(e2-e1).natAbs<=n*n*F*W*(R*B) ^ (n-1)) (hsm:(den*P).natAbs<=wp) (cl1:e1<=den*C) (cl2:den*C<=e2):0<e1\/e2<0:=by
 subst hB
 have hB0:0<B:=Nat.pos_of_ne_zero fun e=>by subst e; simp at hT
 have hK:2*(29*X7*((n+1)*(n+1)*F)*W*R ^ (28+n))+1<=B:=by omega
 have hpw:∀k,(R*B) ^ k=R ^ k*B ^ k:=fun k=>Nat.mul_pow ..
 have h1:(U*(B*P)).natAbs<=29*X7*((n+1)*(n+1)*F)*W*R ^ (28+n)*B ^ (28+n):=by
  rw[Int.natAbs_mul]
  refine Nat.le_trans (Nat.mul_le_mul hub (Nat.le_trans hsm hwp)) (Nat.le_of_eq ?_)
  rw[hpw,hpw,Nat.pow_add,Nat.pow_add]
  simp only[Nat.mul_assoc,Nat.mul_left_comm,Nat.mul_comm,Nat.reduceAdd]
 have h2:2*(U*(B*P)).natAbs<B ^ (28+n)*B:=by
  have hp:=Nat.pow_pos (n:=28+n) hB0
  have:(2*(29*X7*((n+1)*(n+1)*F)*W*R ^ (28+n))+1)*B ^ (28+n)<=B*B ^ (28+n):=Nat.mul_le_mul_right _ hK
  rw[Nat.add_mul,Nat.one_mul,Nat.mul_assoc,Nat.mul_comm B] at this
  omega
 have h3:U*(B*P)+V*(B*C)*B=D*(B ^ (28+n)*B):=by
  have e:(U*P+B*(V*C))*B=D*B ^ (28+n)*B:=by rw[e4]
  rw[Int.add_mul] at e
  have q1:U*P*B=U*(B*P):=by rw[Int.mul_assoc,Int.mul_comm P]
  have q2:(B:Int)*(V*C)=V*(B*C):=by rw[Int.mul_left_comm]
  rw[q1,q2,Int.mul_assoc D] at e
  exact e
 have h4:B ^ (28+n)*B<=(U*(B*P)).natAbs+(V*(B*C)).natAbs*B:=by
  have e:(D*((B:Int) ^ (28+n)*B)).natAbs=D.natAbs*(B ^ (28+n)*B):=by
   rw[Int.natAbs_mul,Int.natAbs_mul,Int.natAbs_pow,Int.natAbs_natCast]
  have h5:1*(B ^ (28+n)*B)<=D.natAbs*(B ^ (28+n)*B):=Nat.mul_le_mul_right _ zo
  have h6:(U*(B*P)+V*(B*C)*B).natAbs<=(U*(B*P)).natAbs+(V*(B*C)*B).natAbs:=Int.natAbs_add_le _ _
  rw[h3,e,Int.natAbs_mul (V*(B*C)),Int.natAbs_natCast] at h6
  omega
 have h7:B ^ (28+n)<2*(V*(B*C)).natAbs:=by
  refine Nat.lt_of_mul_lt_mul_right (a:=B) ?_
  rw[Nat.mul_assoc]
  omega
 have h8:B ^ n<2*(29*X7*R ^ 28)*(B*C).natAbs:=by
  rw[Int.natAbs_mul] at h7
  have h9:V.natAbs*(B*C).natAbs<=(28+1)*(X7*(R*B) ^ 28)*(B*C).natAbs:=Nat.mul_le_mul_right _ hvb
  refine Nat.lt_of_mul_lt_mul_left (a:=B ^ 28) ?_
  rw[<- Nat.pow_add]
  refine Nat.lt_of_lt_of_le h7 (Nat.le_trans (Nat.mul_le_mul_left 2 h9) (Nat.le_of_eq ?_))
  rw[hpw]
  simp only[Nat.mul_assoc,Nat.mul_left_comm,Nat.mul_comm,Nat.reduceAdd]
 have h9:(e2-e1).natAbs<(B*C).natAbs:=by
  refine Nat.lt_of_not_le fun hle=>?_
  have h10:(B*C).natAbs<=n*n*F*W*(R*B) ^ (n-1):=Nat.le_trans hle hwc
  have h11:B ^ n<2*(29*X7*R ^ 28)*(n*n*F*W*(R*B) ^ (n-1)):=Nat.lt_of_lt_of_le h8 (Nat.mul_le_mul_left _ h10)
  have e:B ^ n=B ^ (n-1)*B:=by rw[<- Nat.pow_succ]; congr 1; omega
  have e5:2*(29*X7*R ^ 28)*(n*n*F*W*(R*B) ^ (n-1))=B ^ (n-1)*(2*(29*X7*(n*n*F)*W*(R ^ 28*R ^ (n-1)))):=by
   rw[hpw]; simp only[Nat.mul_assoc,Nat.mul_left_comm,Nat.mul_comm]
  rw[e,e5] at h11
  have h12:=Nat.lt_of_mul_lt_mul_left h11
  have h13:29*X7*(n*n*F)*W*(R ^ 28*R ^ (n-1))<=29*X7*((n+1)*(n+1)*F)*W*R ^ (28+n):=by
   rw[<- Nat.pow_add]
   refine Nat.mul_le_mul (Nat.mul_le_mul_right _ (Nat.mul_le_mul_left _ (Nat.mul_le_mul_right _ (Nat.mul_le_mul zo zo)))) (Nat.pow_le_pow_right hR zo)
  omega
 omega
theorem told {p cs:List Int} {I:Iv} {n F R W:Nat} (hn:2<=n) (h4:n<=4) (hpl:p.length=n+1) (hp1:b6 p n=1) (hred:¬FE (lP p) n) (hcl:cs.length=n) (hc0:∃c∈cs,c≠0)
  (hF:1<=F) (hpF:∀c∈p,c.natAbs<=F) (hcF:∀c∈cs,c.natAbs<=F) (hR:1<=R) (hI:I.Ok) (hlo:-((R:Int)*I.den)<=I.lo) (hhi:I.hi<=R*I.den) (hW:(I.hi-I.lo).natAbs<=W) (hsg:y6 (B1 p I.lo I.den)*y6 (B1 p I.hi I.den)<0)
  (hden:(EB n F R W:Int)<=I.den):0<(enc I cs).1\/(enc I cs).2.1<0:=by
 have hb:=hI.pos
 have hle:=hI.le
 obtain ⟨B,hB⟩:∃B:Nat,I.den=B:=⟨I.den.toNat,by omega⟩
 have hPd:y7 (lP p) n:=by have:=HU (cs:=p); rwa [hpl,Nat.add_sub_cancel] at this
 have hCd:y7 (lP cs) (n-1):=by have:=HU (cs:=cs); rwa [hcl] at this
 have hPF:∀k,(lP p k).natAbs<=F:=fun k=>by
  unfold lP; split
  ·exact hpF _ (F7 zo)
  ·simp
 have hCF:∀k,(lP cs k).natAbs<=F:=fun k=>by
  unfold lP; split
  ·exact hcF _ (F7 zo)
  ·simp
 have hP1:lP p n=1:=by unfold lP; rw[if_pos zo,hp1]
 have hC0:¬∀i,lP cs i=0:=fun hz=>by
  obtain ⟨c,hc,hne⟩:=hc0
  obtain ⟨i,hi,rfl⟩:=AW hc
  have:=hz i
  unfold lP at this
  rw[if_pos hi] at this
  exact hne this
 rcases YR zo h4 hF hPd hP1 hCd hC0 hPF hCF with h | ⟨D,u,v,d0,hbz,hu,hv,bu,bv⟩
 ·exact absurd (TH hn h4 hPd hP1 h) hred
 have hA1:I.lo.natAbs<=R*B:=by rw[hB] at hlo hhi; have:((R*B:Nat):Int)=R*B:=Int.natCast_mul .. ; omega
 have hA2:I.hi.natAbs<=R*B:=by rw[hB] at hlo hhi; have:((R*B:Nat):Int)=R*B:=Int.natCast_mul .. ; omega
 have hA3:I.den.natAbs<=R*B:=by
  have:1*B<=R*B:=Nat.mul_le_mul_right _ hR
  rw[hB,Int.natAbs_natCast]; omega
 obtain ⟨p1,p2,p3⟩:=TP hA1 hA2 hA3 hW (cs:=p) hpF
 obtain ⟨c1,c2,c3⟩:=TP hA1 hA2 hA3 hW (cs:=cs) hcF
 have pl:=NV (I:=I) (a:=I.lo) (Int.le_refl _) hle (cs:=p)
 have ph:=NV (I:=I) (a:=I.hi) hle (Int.le_refl _) (cs:=p)
 have cl:=NV (I:=I) (a:=I.lo) (Int.le_refl _) hle (cs:=cs)
 rw[if_neg zo] at pl ph cl
 rw[hpl] at pl ph p3
 rw[hcl] at cl c3
 rw[Nat.add_sub_cancel] at pl ph
 have hpe:p.length-1=n:=by omega
 unfold B1 at hsg
 rw[hpe] at hsg
 have hsm:(I.den*hm (lP p) n I.lo I.den).natAbs<=((enc I p).2.1-(enc I p).1).natAbs:=by
  have s1:=CL (hm (lP p) n I.lo I.den)
  have s2:=CL (hm (lP p) n I.hi I.den)
  rcases s1 with ⟨q1,r1⟩ | ⟨q1,r1⟩ | ⟨q1,r1⟩<;>rcases s2 with ⟨q2,r2⟩ | ⟨q2,r2⟩ | ⟨q2,r2⟩<;>rw[r1,r2] at hsg<;>try omega
  ·have:=Int.mul_neg_of_pos_of_neg hb q1
   have:=Int.mul_pos hb q2
   omega
  ·have:=Int.mul_pos hb q1
   have:=Int.mul_neg_of_pos_of_neg hb q2
   omega
 have hT:0<R*B:=Nat.mul_pos zo zo
 have hwp:((enc I p).2.1-(enc I p).1).natAbs<=(n+1)*(n+1)*F*W*(R*B) ^ n:=by
  have e:(n+1)*(n+1)*F*W*(R*B) ^ (n+1)=(n+1)*(n+1)*F*W*(R*B) ^ n*(R*B):=by rw[Nat.pow_succ,<- Nat.mul_assoc ((n+1)*(n+1)*F*W)]
  rw[e] at p3
  exact Nat.le_of_mul_le_mul_right p3 hT
 have hwc:((enc I cs).2.1-(enc I cs).1).natAbs<=n*n*F*W*(R*B) ^ (n-1):=by
  have e:(R*B) ^ n=(R*B) ^ (n-1)*(R*B):=by rw[<- Nat.pow_succ]; congr 1; omega
  rw[e,<- Nat.mul_assoc (n*n*F*W)] at c3
  exact Nat.le_of_mul_le_mul_right c3 hT
 have hub:=cR (m:=28) hA1 hA3 bu
 have hvb:=cR (m:=28) hA1 hA3 bv
 have e1:=KJ (a:=I.lo) (b:=I.den) hPd hu
 have e2:=KJ (a:=I.lo) (b:=I.den) hCd hv
 have e3:=KK (j:=1) (a:=I.lo) (b:=I.den) (ZJ hv hCd)
 have e4:hm (fun k=>o8 u (lP p) k+o8 v (lP cs) k) (28+n) I.lo I.den=D*I.den ^ (28+n):=by
  rw[show (fun k=>o8 u (lP p) k+o8 v (lP cs) k)=fun k=>if k=0 then D else 0 from funext hbz]
  have:=KK (f:=fun k=>if k=0 then D else 0) (m:=0) (j:=28+n) (a:=I.lo) (b:=I.den) (fun i hi=>by show (if i=0 then D else 0)=0; rw[if_neg zo])
  rw[Nat.zero_add] at this
  rw[this,Int.mul_comm]
  congr 1
  simp[hm,s6]
 rw[UG,e1,show 28+n=28+(n-1)+1 by omega,e3,e2,show 28+(n-1)+1=28+n by omega,Int.pow_one] at e4
 exact yX (n:=n) (F:=F) (W:=W) (X7:=XI F 7) hn hR hB hden hT e4 d0 hub hvb hwp hwc hsm cl.1 cl.2
end Go.Fl

/- Values of polynomials at fractions, from the last coefficient on: sizes. No program in sight. -/
namespace Go.Fl
open Go
def D2 (a d:Int) (p:List Int) (k:Nat):Int×Int:=E7 a d (p.drop (p.length-k))
theorem TM {p:List Int} {k:Nat} (hk:k<p.length):p.drop (p.length-(k+1))=b6 p (p.length-1-k)::p.drop (p.length-k):=by
 have h:=List.drop_eq_getElem_cons (l:=p) (i:=p.length-(k+1)) zo
 rw[h,show p.length-(k+1)+1=p.length-k by omega]
 refine congrArg (·::_) ?_
 rw[AX (List.getElem?_eq_getElem (show p.length-1-k<p.length by omega))]
 congr 1
 omega
theorem UH {a d:Int} {p:List Int} {k:Nat} (hk:k<p.length):D2 a d p (k+1)=((D2 a d p k).1*a+b6 p (p.length-1-k)*(D2 a d p k).2,(D2 a d p k).2*d):=by
 unfold D2
 rw[TM hk]
 rfl
theorem UI {a d:Int} {p:List Int}:D2 a d p 0=(0,1):=by
 unfold D2
 rw[Nat.sub_zero,List.drop_length]
 rfl
theorem rR {a d:Int} {p:List Int}:D2 a d p p.length=E7 a d p:=by
 unfold D2
 rw[Nat.sub_self,List.drop_zero]
theorem cT {a d:Int} {p:List Int} {B C:Nat} (hp:∀i,dl (b6 p i)<=C) (ha:dl a<=B) (hd:dl d<=B):∀{k:Nat},k<=p.length->dl (D2 a d p k).1<=k*(B+1)+C+1/\dl (D2 a d p k).2<=k*B+1
 | 0,_=>by
  rw[UI]
  have h0:dl (0:Int)=0:=F5.2 rfl
  have h1:=I4 (F:=1) zo zo
  exact ⟨by show dl 0<=_; omega,by show dl 1<=_; omega⟩
 | k+1,hk=>by
  obtain ⟨h1,h2⟩:=cT (p:=p) hp ha hd (k:=k) zo
  rw[UH zo]
  have q1:=w8 (D2 a d p k).1 a
  have q2:=w8 (b6 p (p.length-1-k)) (D2 a d p k).2
  have q3:=T9 ((D2 a d p k).1*a) (b6 p (p.length-1-k)*(D2 a d p k).2)
  have q4:=w8 (D2 a d p k).2 d
  have q5:=hp (p.length-1-k)
  have e1:(k+1)*(B+1)=k*(B+1)+B+1:=by rw[Nat.succ_mul]; omega
  have e2:(k+1)*B=k*B+B:=Nat.succ_mul _ _
  have e3:k*(B+1)=k*B+k:=by rw[Nat.mul_add,Nat.mul_one]
  exact ⟨by show dl ((D2 a d p k).1*a+_)<=_; omega,by show dl ((D2 a d p k).2*d)<=_; omega⟩
end Go.Fl

/- Contracts: signs of polynomials, enclosures, halving. -/
namespace Go.Fl
open Go Go.Proofs
open d5 renaming op->tO
open i6 renaming op->rO
set_option maxRecDepth 100000

section
open Go Go.RowKit Go.Proofs
attribute [local go_sem] Oper.semAt_some
set_option maxHeartbeats 2000000 in
theorem lD:LS Tryz.prog 225 eZ:=by
 intro J W xs ptr him hp
 obtain ⟨bx,ox,ds,rfl,hrd,hcell⟩:=hp
 obtain ⟨ad,cap,rfl,⟨hlen,hcap⟩,hrow⟩:=hrd
 obtain ⟨cv,hcv⟩:∃cv:Nat->List Value,∀i,i<xs.length->eZ.rd J (cv i) (b6 xs i)/\∃b o,ad=some ⟨b,o,none⟩/\∀j v,(cv i)[j]?=some v->J b (o+i*2+j)=some v:=by
  have:∀i,∃l:List Value,i<xs.length->eZ.rd J l (b6 xs i)/\∃b o,ad=some ⟨b,o,none⟩/\∀j v,l[j]?=some v->J b (o+i*2+j)=some v:=fun i=>by
   by_cases hi:i<xs.length
   ·obtain ⟨b,o,rfl,hrw⟩:=hrow.resolve_left (fun e=>by subst e; simp at hi)
    obtain ⟨l,q1,q2⟩:=hrw i _ (G0 hi)
    exact ⟨l,fun _=>⟨q1,b,o,rfl,q2⟩⟩
   ·exact ⟨[],fun h=>absurd h hi⟩
  exact ⟨fun i=>(this i).choose,fun i hi=>(this i).choose_spec hi⟩
 refine ⟨fun i=>.agg (cv i).toArray,fun i hi=>⟨cv i,(hcv i hi).1,rfl⟩,?_⟩
 intro l Iv Ix hY h0
 have hbox:∀W',Im J W'->W'.cell? ⟨bx,ox,none⟩=some (.slice ad xs.length cap):=fun W' h=>h _ _ _ (by have:=hcell 0 _ rfl; simpa using this)
 simp only[t6] at hlen
 have hb0:=hbox W him
 refine (callsIn_wide (n:=3)).1 ?_; refine callsIn_of_wp Tryz.func225 rfl trivial ?_
 simp only[Tryz.ntmps225,List.size_toArray,List.length_cons,List.length_nil,Nat.reduceAdd,Nat.reduceSub,Array.replicate_succ,Array.replicate_zero,List.push_toArray,List.append_toArray,List.nil_append,List.cons_append]
 gi_wp2
 gi_loopw [3] (fun i wr=>∃k:Nat,k<=xs.length/\i=.int .i64 ((xs.length:Int)-1-k)/\Iv k wr/\Im J wr)
  (fun i _=>(intOf i+1).toNat)
 case atStart=>exact ⟨0,Nat.zero_le _,by simp,h0,him⟩
 case round =>
  obtain ⟨k,hk,rfl,hJs,himr⟩:=hrel
  have hbr:=hbox wr himr
  by_cases hlt:k<xs.length
  ·obtain ⟨fn,tmps,assign,body,hy,hR⟩:=hY k wr hlt himr hJs
   rw[show ((xs.length-1-k:Nat):Int)=(xs.length:Int)-1-k by omega] at hy
   obtain ⟨q1,b,o,rfl,q2⟩:=hcv (xs.length-1-k) zo
   obtain ⟨c1,c2,hc12⟩:∃c1 c2,cv (xs.length-1-k)=[c1,c2]:=by
    have hl2:(cv (xs.length-1-k)).length=2:=eZ.len q1
    match hcc:cv (xs.length-1-k),hl2 with
    | [c1,c2],_=>exact ⟨c1,c2,rfl⟩
   rw[hc12] at q2
   simp only[hc12] at hy
   have hx1:wr.cell? ⟨b,o+(xs.length-1-k)*2,none⟩=some c1:=himr _ _ _ (by have:=q2 0 c1 rfl; simpa using this)
   have hx2:wr.cell? ⟨b,o+(xs.length-1-k)*2+1,none⟩=some c2:=himr _ _ _ (q2 1 c2 rfl)
   gi_wp2
   refine hR.mono ?_
   rintro e W3 (⟨rfl,hJ3,hk3⟩ | ⟨rfl,hJx3⟩)
   ·gi_wp2
    go_roundw
    case rel=>exact ⟨k+1,by omega,by congr 1; omega,hJ3,hk3⟩
    case measure=>simp[intOf]; omega
   ·gi_wp2
    refine bodyPost_ret (results_none rfl _ _ _) rfl ?_; exact ⟨⟨_,rfl⟩,.inr ⟨k,hlt,hJx3⟩⟩
  ·obtain rfl:k=xs.length:=by omega
   gi_wp2
   go_end0
   exact ⟨⟨_,rfl⟩,.inl hJs⟩
end
theorem SG {z:Int} (h:0=z):∀g b o,j3 [j8 (.bool false),j8 (.slice none 0 0)] g b o->j3 [kB (decide (z<0)),b7 (eL eI) (d6 z.natAbs)] g b o:=fun g b o h'=>by
 subst h
 obtain ⟨cs,ty,h1,h2⟩:=h'
 refine ⟨cs,ty,h1,?_⟩
 match hcs:cs.toList,h2 with
 | [c1,c2],⟨k1,k2,_⟩=>exact ⟨k1,⟨_,V0 (c:=0),k2⟩,trivial⟩
theorem mU (xs:List Int):Ct Tryz.prog 215 [b7 (eL eZ) xs] (Z8 225 [r5 (eL eZ) xs]):=by
 refine Ct.mk Tryz.func215 rfl Tryz.ntmps215 rfl (fun w J=>?_); refine i2 ?_; refine jb 1 rfl ?_; refine i4 ?_; refine Tr.frzB 1 [1] (eL eZ) ⟨rfl,trivial⟩ rfl ?_; refine jn ?_; refine i9 ?_; refine tO (EK (.cons rfl uu<|.nil)) rfl rfl ?_; refine i4 ?_; exact d9.res1 (fn:=Tryz.f215) rfl (zk)

theorem TD (p:List Int) (a d:Int) (B C:Nat) (hl:p.length<=6) (hpp:∀i,dl (b6 p i)<=C) (ha:dl a<=B) (hd:dl d<=B) (hB:B<=100000) (hC:C<=100000):Ct Tryz.prog 193 [b7 (eL eZ) p,b7 eW (wh a),b7 eW (wh d)] (kI (y6 (E7 a d p).1)):=by
 refine CtM.mk Tryz.func193 rfl Tryz.ntmps193 rfl (fun w J=>?_); refine i2 ?_; refine jb 4 rfl ?_; refine jb 5 rfl ?_; refine o0 ?_; refine tO (A4 (fun hp=>.nil)) rfl rfl ?_; refine jc (O0 1 zo) ?_; refine ja 7 ?_; refine ja 8 ?_; refine l6 ?_; refine tO (j7 (fun hp=>mU _) (.a rfl uu<|.nil)) rfl rfl ?_; refine j9 ?_
 refine Tr.back (e:=eZ) (xs:=p) lD [⟨4,true,_,_⟩,⟨5,true,_,_⟩,⟨6,true,_,_⟩,⟨7,true,_,_⟩,⟨8,true,_,_⟩,⟨14,true,_,_⟩] [4,5,7,8] (fun k=>[⟨4,[],j3 [kB (decide (a<0)),b7 (eL eI) (d6 (a).natAbs)]⟩,⟨5,[],j3 [kB (decide (d<0)),b7 (eL eI) (d6 (d).natAbs)]⟩,⟨7,[],j3 [kB (decide ((D2 a d p k).1<0)),b7 (eL eI) (d6 ((D2 a d p k).1).natAbs)]⟩,⟨8,[],j3 [kB (decide ((D2 a d p k).2<0)),b7 (eL eI) (d6 ((D2 a d p k).2).natAbs)]⟩]) (fun k=>[⟨4,[],j3 [kB (decide (a<0)),b7 (eL eI) (d6 (a).natAbs)]⟩,⟨5,[],j3 [kB (decide (d<0)),b7 (eL eI) (d6 (d).natAbs)]⟩,⟨7,[],j3 [kB (decide ((D2 a d p k).1<0)),b7 (eL eI) (d6 ((D2 a d p k).1).natAbs)]⟩,⟨8,[],j3 [kB (decide ((D2 a d p k).2<0)),b7 (eL eI) (d6 ((D2 a d p k).2).natAbs)]⟩]) (fun k=>True) (fun k=>False) (d7.mk (.k rfl rfl<|.k rfl rfl<|.k rfl rfl<|.k rfl rfl<|.k rfl rfl<|.k rfl rfl<|.nil) (.k rfl<|.k rfl<|.conv (SG (by rw[UI])) rfl<|.conv (Z2 (AP (by rw[UI]))) rfl<|.nil) rfl) rfl rfl (fun _=>rfl) (fun _=>rfl) (fun _=>inferInstance) (fun _=>inferInstance) rfl zi ?_ ?_ ?_
 ·intro k hk14 hR14 l14 w14 J14 b14 bks14
  refine jn ?_
  have hb:=cT hpp ha hd (k:=k) zo
  have hk5:k*(B+1)<=5*100001:=Nat.mul_le_mul zo zo
  have hk6:k*B<=5*100000:=Nat.mul_le_mul zo zo
  have hcp:=hpp (p.length-1-k)
  have hm1:=w8 (D2 a d p k).1 a
  have hm2:=w8 (b6 p (p.length-1-k)) (D2 a d p k).2
  refine i9 ?_; refine ja 10 ?_; refine i2 ?_; refine g8.asg (fun w1014 J1014 b1014=>?_); refine jn ?_; refine i2 ?_; refine Tr.draw 5 q9 (by kernel_rfl) ?_; refine i2 ?_; refine jd (J7 (D2 a d p k).1 a zo zo) ?_; refine j9 ?_; refine jc (J7 (b6 p (p.length-1-k)) (D2 a d p k).2 zo zo) ?_; refine jc (T7 ((D2 a d p k).1*a) (b6 p (p.length-1-k)*(D2 a d p k).2) zo zo) ?_; refine n7 ?_; refine jc (J7 (D2 a d p k).2 d zo zo) ?_; refine j9 ?_; exact g8.rnd trivial (d7.mk (zk) (.k rfl<|.k rfl<|.conv (Z2 (AP (by rw[UH zo]))) rfl<|.conv (Z2 (AP (by rw[UH zo]))) rfl<|.nil) rfl)
 ·intro hE14
  refine je ?_; refine o0 ?_; refine jc (AO (D2 a d p p.length).1) ?_; refine i4 ?_; refine d9.mk ?_; exact d9.res1 (fn:=Tryz.f193) rfl (.i rfl (by rw[rR]; rfl)<|.nil)
 ·intro k hk14 hX14
  exact absurd hX14 id

end Go.Fl

/- Contracts: halving. -/
namespace Go.Fl
open Go Go.Proofs
open d5 renaming op->tO
open i6 renaming op->rO
set_option maxRecDepth 100000

theorem YT {ks:List b8} {dep:List Nat} [hd:A6 ks dep] [hn:H5 dep] {g:Gh} {bk:Bk} {o:Option Obj} {b cap:Nat} (h:j3 ks g bk o):j3 ks (g1 g.J b cap) (.blk b cap) o :=
 let ⟨cs,ty,h1,h2⟩:=h; ⟨cs,ty,h1,hd.dep (g:=g) (g':=g1 g.J b cap) (JV.le_refl _) (fun t ht=>by rw[hn.eq] at ht; cases ht) h2⟩
theorem QH (z:Int):-1<=y6 z/\y6 z<=1:=by unfold y6 u5; split; omega; split<;>omega
theorem yA (y z:Int):-1<=y6 y*y6 z/\y6 y*y6 z<=1:=by
 obtain ⟨h1,h2⟩:=QH y
 obtain ⟨h3,h4⟩:=QH z
 rcases (show y6 y=-1\/y6 y=0\/y6 y=1 by omega) with h | h | h<;>rw[h]<;>omega
theorem aB (k1 k2 k3 k4 k5:b8) [o4 k1 []] [o4 k2 []] [o4 k3 []] [o4 k4 []] [o4 k5 []] (p:List Int) (I:Iv) (B:Nat) (hl:p.length<=6) (hpp:∀i,dl (b6 p i)<=1) (h1:dl I.lo<=B) (h2:dl I.hi<=B) (h3:dl I.den<=B) (hB:B<=90000):DQ Tryz.prog 164 (w6 0 0) [] (j3 [k1,k2,k3,k4,b7 (eL eZ) p,k5,kB (decide (I.lo<0)),b7 (eL eI) (d6 (I.lo).natAbs),kB (decide (I.hi<0)),b7 (eL eI) (d6 (I.hi).natAbs),kB (decide (I.den<0)),b7 (eL eI) (d6 (I.den).natAbs)]) (j3 [k1,k2,k3,k4,b7 (eL eZ) p,k5,kB (decide ((O2 p I).lo<0)),b7 (eL eI) (d6 ((O2 p I).lo).natAbs),kB (decide ((O2 p I).hi<0)),b7 (eL eI) (d6 ((O2 p I).hi).natAbs),kB (decide ((O2 p I).den<0)),b7 (eL eI) (d6 ((O2 p I).den).natAbs)]) (j8 (.tuple #[])):=by
 have a1:=T9 I.lo I.hi
 have a2:=T9 I.den I.den
 have a3:=T9 I.lo I.lo
 have a4:=T9 I.hi I.hi
 refine DQ.mk Tryz.func164 rfl Tryz.ntmps164 rfl (fun w J bb cap=>?_); refine i9 ?_; refine Tr.draw 20 q9 (by kernel_rfl) ?_; refine i9 ?_; refine rO (L4 rfl uu) rfl rfl ?_; refine j9 ?_; refine rO (L4 rfl uu) rfl rfl ?_; refine i2 ?_; refine jd (T7 I.lo I.hi zo zo) ?_; refine i9 ?_; refine rO (L4 rfl uu) rfl rfl ?_; refine j9 ?_; refine rO (L4 rfl uu) rfl rfl ?_; refine i2 ?_; refine jd (T7 I.den I.den zo zo) ?_; refine i6.new (IA 2) rfl rfl rfl rfl ?_; refine i6.new (IA 3) rfl rfl rfl rfl ?_
 refine l5 ?_; refine Tr.draw 19 q9 (by kernel_rfl) ?_; refine i9 ?_; refine rO (L4 rfl uu) rfl rfl ?_; refine j9 ?_; refine rO (L4 rfl uu) rfl rfl ?_; refine j9 ?_; refine rO (L4 rfl uu) rfl rfl ?_; refine i2 ?_; refine jd (TD p I.lo I.den 100000 1 hl hpp zo zo zo zo) ?_; refine i9 ?_; refine rO (L4 rfl uu) rfl rfl ?_; refine o0 ?_; refine jc (TD p (I.lo+I.hi) (I.den+I.den) 100000 1 hl hpp zo zo zo zo) ?_; refine tO (II rfl uu rfl uu (fun _=>by have:=yA (E7 I.lo I.den p).1 (E7 (I.lo+I.hi) (I.den+I.den) p).1; omega)) rfl rfl ?_
 refine j9 ?_; refine jq ?_ ?_
 ·intro h1
  have hi:O2 p I=⟨I.lo+I.lo,I.lo+I.hi,I.den+I.den⟩:=if_pos h1
  rw[hi]
  refine Tr.drawS 14 0 q9 (by kernel_rfl) ?_; refine o7.opA (H3 rfl uu) (by kernel_rfl) rfl rfl ?_; refine o7.op (H3 rfl uu) rfl rfl ?_; refine o7.opA (H3 rfl uu) (by kernel_rfl) rfl rfl ?_; refine o7.opA (L4 rfl uu) (by kernel_rfl) rfl rfl ?_; refine o7.opA (X5 rfl uu) (by kernel_rfl) rfl rfl ?_; refine o7.opA (O6 rfl uu) (by kernel_rfl) rfl rfl ?_; refine o7.opA (H3 rfl uu) (by kernel_rfl) rfl rfl ?_; refine o7.opA (L4 rfl uu) (by kernel_rfl) rfl rfl ?_; refine o7.opA (X5 rfl uu) (by kernel_rfl) rfl rfl ?_; refine o7.opA (O6 rfl uu) (by kernel_rfl) rfl rfl ?_
  refine o7.opA (j7 (fun hp=>T7 I.lo I.lo zo zo) (.se rfl uu rfl rfl<|.se rfl uu rfl rfl<|.nil)) (by kernel_rfl) rfl rfl ?_; refine o7.op (O6 rfl uu) rfl rfl ?_; refine o7.opA (L4 rfl uu) (by kernel_rfl) rfl rfl ?_; refine o7.opA (X5 rfl uu) (by kernel_rfl) rfl rfl ?_; refine o7.z (EU rfl rfl rfl) rfl rfl rfl ?_; refine tO (L4 rfl uu) rfl rfl ?_; refine l5 ?_; refine tO (L4 rfl uu) rfl rfl ?_; refine j9 ?_; exact g8.mutB (t:=0) rfl rfl (fun _ _ _ h=>YT h)
 ·intro h1
  replace h1:=Int.not_lt.1 h1
  have hi:O2 p I=⟨I.lo+I.hi,I.hi+I.hi,I.den+I.den⟩:=if_neg zo
  rw[hi]
  refine Tr.drawS 14 0 q9 (by kernel_rfl) ?_; refine o7.opA (H3 rfl uu) (by kernel_rfl) rfl rfl ?_; refine o7.op (H3 rfl uu) rfl rfl ?_; refine o7.opA (O6 rfl uu) (by kernel_rfl) rfl rfl ?_; refine o7.opA (H3 rfl uu) (by kernel_rfl) rfl rfl ?_; refine o7.opA (L4 rfl uu) (by kernel_rfl) rfl rfl ?_; refine o7.opA (X5 rfl uu) (by kernel_rfl) rfl rfl ?_; refine o7.opA (O6 rfl uu) (by kernel_rfl) rfl rfl ?_; refine o7.opA (H3 rfl uu) (by kernel_rfl) rfl rfl ?_; refine o7.opA (L4 rfl uu) (by kernel_rfl) rfl rfl ?_; refine o7.opA (X5 rfl uu) (by kernel_rfl) rfl rfl ?_
  refine o7.opA (O6 rfl uu) (by kernel_rfl) rfl rfl ?_; refine o7.opA (j7 (fun hp=>T7 I.hi I.hi zo zo) (.se rfl uu rfl rfl<|.se rfl uu rfl rfl<|.nil)) (by kernel_rfl) rfl rfl ?_; refine o7.opA (L4 rfl uu) (by kernel_rfl) rfl rfl ?_; refine o7.opA (X5 rfl uu) (by kernel_rfl) rfl rfl ?_; refine o7.z (EU rfl rfl rfl) rfl rfl rfl ?_; refine tO (L4 rfl uu) rfl rfl ?_; refine l5 ?_; refine tO (L4 rfl uu) rfl rfl ?_; refine j9 ?_; exact g8.mutB (t:=0) rfl rfl (fun _ _ _ h=>YT h)

end Go.Fl

/- Contracts: loops over lists of integers of any size. -/
namespace Go.Fl
open Go Go.Proofs
open d5 renaming op->tO
open i6 renaming op->rO
set_option maxRecDepth 100000

section
open Go Go.RowKit Go.Proofs
attribute [local go_sem] Oper.semAt_some
set_option maxHeartbeats 2000000 in
theorem lE:LS Tryz.prog 217 eZ:=by
 intro J W xs ptr him hp
 obtain ⟨bx,ox,ds,rfl,hrd,hcell⟩:=hp
 obtain ⟨ad,cap,rfl,⟨hlen,hcap⟩,hrow⟩:=hrd
 obtain ⟨cv,hcv⟩:∃cv:Nat->List Value,∀i,i<xs.length->eZ.rd J (cv i) (b6 xs i)/\∃b o,ad=some ⟨b,o,none⟩/\∀j v,(cv i)[j]?=some v->J b (o+i*2+j)=some v:=by
  have:∀i,∃l:List Value,i<xs.length->eZ.rd J l (b6 xs i)/\∃b o,ad=some ⟨b,o,none⟩/\∀j v,l[j]?=some v->J b (o+i*2+j)=some v:=fun i=>by
   by_cases hi:i<xs.length
   ·obtain ⟨b,o,rfl,hrw⟩:=hrow.resolve_left (fun e=>by subst e; simp at hi)
    obtain ⟨l,q1,q2⟩:=hrw i _ (G0 hi)
    exact ⟨l,fun _=>⟨q1,b,o,rfl,q2⟩⟩
   ·exact ⟨[],fun h=>absurd h hi⟩
  exact ⟨fun i=>(this i).choose,fun i hi=>(this i).choose_spec hi⟩
 refine ⟨fun i=>.agg (cv i).toArray,fun i hi=>⟨cv i,(hcv i hi).1,rfl⟩,?_⟩
 intro l Iv Ix hY h0
 have hbox:∀W',Im J W'->W'.cell? ⟨bx,ox,none⟩=some (.slice ad xs.length cap):=fun W' h=>h _ _ _ (by have:=hcell 0 _ rfl; simpa using this)
 simp only[t6] at hlen
 have hb0:=hbox W him
 refine (callsIn_wide (n:=3)).1 ?_; refine callsIn_of_wp Tryz.func217 rfl trivial ?_
 simp only[Tryz.ntmps217,List.size_toArray,List.length_cons,List.length_nil,Nat.reduceAdd,Nat.reduceSub,Array.replicate_succ,Array.replicate_zero,List.push_toArray,List.append_toArray,List.nil_append,List.cons_append]
 gi_wp2
 gi_loopw [3] (fun i wr=>∃k:Nat,k<=xs.length/\i=.int .i64 ((xs.length:Int)-1-k)/\Iv k wr/\Im J wr)
  (fun i _=>(intOf i+1).toNat)
 case atStart=>exact ⟨0,Nat.zero_le _,by simp,h0,him⟩
 case round =>
  obtain ⟨k,hk,rfl,hJs,himr⟩:=hrel
  have hbr:=hbox wr himr
  by_cases hlt:k<xs.length
  ·obtain ⟨fn,tmps,assign,body,hy,hR⟩:=hY k wr hlt himr hJs
   rw[show ((xs.length-1-k:Nat):Int)=(xs.length:Int)-1-k by omega] at hy
   obtain ⟨q1,b,o,rfl,q2⟩:=hcv (xs.length-1-k) zo
   obtain ⟨c1,c2,hc12⟩:∃c1 c2,cv (xs.length-1-k)=[c1,c2]:=by
    have hl2:(cv (xs.length-1-k)).length=2:=eZ.len q1
    match hcc:cv (xs.length-1-k),hl2 with
    | [c1,c2],_=>exact ⟨c1,c2,rfl⟩
   rw[hc12] at q2
   simp only[hc12] at hy
   have hx1:wr.cell? ⟨b,o+(xs.length-1-k)*2,none⟩=some c1:=himr _ _ _ (by have:=q2 0 c1 rfl; simpa using this)
   have hx2:wr.cell? ⟨b,o+(xs.length-1-k)*2+1,none⟩=some c2:=himr _ _ _ (q2 1 c2 rfl)
   gi_wp2
   refine hR.mono ?_
   rintro e W3 (⟨rfl,hJ3,hk3⟩ | ⟨rfl,hJx3⟩)
   ·gi_wp2
    go_roundw
    case rel=>exact ⟨k+1,by omega,by congr 1; omega,hJ3,hk3⟩
    case measure=>simp[intOf]; omega
   ·gi_wp2
    refine bodyPost_ret (results_none rfl _ _ _) rfl ?_; exact ⟨⟨_,rfl⟩,.inr ⟨k,hlt,hJx3⟩⟩
  ·obtain rfl:k=xs.length:=by omega
   gi_wp2
   go_end0
   exact ⟨⟨_,rfl⟩,.inl hJs⟩
end
theorem mV (xs:List Int):Ct Tryz.prog 201 [b7 (eL eZ) xs] (Z8 217 [r5 (eL eZ) xs]):=by
 refine Ct.mk Tryz.func201 rfl Tryz.ntmps201 rfl (fun w J=>?_); refine i2 ?_; refine jb 1 rfl ?_; refine i4 ?_; refine Tr.frzB 1 [1] (eL eZ) ⟨rfl,trivial⟩ rfl ?_; refine jn ?_; refine i9 ?_; refine tO (EK (.cons rfl uu<|.nil)) rfl rfl ?_; refine i4 ?_; exact d9.res1 (fn:=Tryz.f201) rfl (zk)

end Go.Fl

/- Contracts: signs of numbers. -/
namespace Go.Fl
open Go Go.Proofs
open d5 renaming op->tO
open i6 renaming op->rO
set_option maxRecDepth 100000

def O9 (a b o:Int):Int:=if 0<u5 a 0 then 1 else if u5 b 0<0 then -1 else o
theorem oW (a b c o:Int):BO Tryz.prog 182 [b7 eW (wh a),b7 eW (wh b),b7 eW (wh c),w6 0 0] (j3 [kI o]) (j3 [kI (O9 a b o)]) (kB (decide (O9 a b o≠0))):=by
 refine BO.mk Tryz.func182 rfl Tryz.ntmps182 rfl rfl (fun w J bb cap=>?_); refine jn ?_; refine i2 ?_; refine jb 4 rfl ?_; refine jb 5 rfl ?_; refine jb 6 rfl ?_; refine l5 ?_; refine jc (AO a) ?_; refine j9 ?_; refine jq ?_ ?_
 ·intro h1
  refine z5 ?_
  have e:O9 a b o=1:=if_pos zo
  exact d9.loan1 (fn:=Tryz.f182) (s:=516) rfl rfl (.b rfl (by rw[e])<|.nil) (by rw[e])
 ·intro h1
  replace h1:=Int.not_lt.1 h1
  refine j9 ?_; refine jc (AO b) ?_; refine j9 ?_; refine jq ?_ ?_
  ·intro h3
   refine z5 ?_
   have e:O9 a b o=-1:=by unfold O9; rw[if_neg zo,if_pos zo]
   exact d9.loan1 (fn:=Tryz.f182) (s:=516) rfl rfl (.b rfl (by rw[e])<|.nil) (by rw[e])
  ·intro h3
   replace h3:=Int.not_lt.1 h3
   refine v6 ?_
   have e:O9 a b o=o:=by unfold O9; rw[if_neg zo,if_neg zo]
   exact d9.loan1 (fn:=Tryz.f182) (s:=516) rfl rfl (.b rfl (by rw[e])<|.nil) (by rw[e])

end Go.Fl

/- How long it takes until the sign of a number of a field is told. No program in sight. -/
namespace Go.Fl
open Go
structure T3 (p:List Int) (I:Iv):Prop where
 pol:E8 p
 three:3<=p.length
 top:b6 p (p.length-1)=1
 small:∀c∈p,c.natAbs<=1000
 iv:I.Ok
 lo:-(1000000*I.den)<=I.lo
 hi:I.hi<=1000000*I.den
 wid:I.hi-I.lo<=2000000
 den:I.den<=1000000
 red:¬FE (lP p) (p.length-1)
 sg:y6 (B1 p I.lo I.den)*y6 (B1 p I.hi I.den)<0
theorem qD {x:Nat}:dl ((x:Nat):Int)=(d6 x).length:=by unfold dl; rw[Int.natAbs_natCast]
theorem BV (x y:Nat):dl ((x*y:Nat):Int)<=dl (x:Int)+dl (y:Int):=by rw[Int.natCast_mul]; exact w8 _ _
theorem bJ {x y:Nat} (h:x<=y):dl (x:Int)<=dl (y:Int):=K5 (by rw[Int.natAbs_natCast,Int.natAbs_natCast]; exact h)
theorem BW {x:Nat} (h:x<100000000):dl (x:Int)<=1:=I4 zo zo
theorem bK {x k:Nat} (h:dl (x:Int)<=1):dl ((x ^ k:Nat):Int)<=k+1:=by
 induction k with
 | zero=>rw[Nat.pow_zero]; exact Nat.le_trans (BW zo) zo
 | succ k ih=>rw[Nat.pow_succ]; have:=BV (x ^ k) x; omega
theorem bL:∀{m X:Nat},dl ((XI X m:Nat):Int)<=2 ^ m*dl (X:Int)+2 ^ m
 | 0,X=>by rw[XI]; omega
 | m+1,X=>by
  have h1:=bL (m:=m) (X:=2*X*X)
  have h2:=BV (2*X) X
  have h3:=BV 2 X
  have h4:=BW (x:=2) zo
  rw[XI,Nat.pow_succ]
  have h5:2 ^ m*dl ((2*X*X:Nat):Int)<=2 ^ m*(1+2*dl (X:Int)):=Nat.mul_le_mul_left _ zo
  rw[Nat.mul_add,Nat.mul_one,<- Nat.mul_assoc] at h5
  omega
theorem pX {n F:Nat} (hn:n<=4):dl ((EB n F 1000000 2000000:Nat):Int)<=129*dl (F:Int)+180:=by
 unfold EB
 have a1:=bL (m:=7) (X:=F)
 have a2:=BV 29 (XI F 7)
 have a3:=BV (29*XI F 7) ((n+1)*(n+1)*F)
 have a4:=BV ((n+1)*(n+1)) F
 have a5:=BV (29*XI F 7*((n+1)*(n+1)*F)) 2000000
 have a6:=BV (29*XI F 7*((n+1)*(n+1)*F)*2000000) (1000000 ^ (28+n))
 have a7:=BV 2 (29*XI F 7*((n+1)*(n+1)*F)*2000000*1000000 ^ (28+n))
 have a8:=bK (x:=1000000) (k:=28+n) (BW zo)
 have b1:=BW (x:=29) zo
 have b2:=BW (x:=2) zo
 have b3:=BW (x:=2000000) zo
 have b4:dl (((n+1)*(n+1):Nat):Int)<=1:=BW (Nat.lt_of_le_of_lt (Nat.mul_le_mul (show n+1<=5 by omega) (show n+1<=5 by omega)) zo)
 have a9:=T9 ((2*(29*XI F 7*((n+1)*(n+1)*F)*2000000*1000000 ^ (28+n)):Nat):Int) 1
 have b5:=I4 (F:=1) zo zo
 rw[show ((2*(29*XI F 7*((n+1)*(n+1)*F)*2000000*1000000 ^ (28+n))+1:Nat):Int)=((2*(29*XI F 7*((n+1)*(n+1)*F)*2000000*1000000 ^ (28+n)):Nat):Int)+1 from rfl]
 have e:(2:Nat) ^ 7=128:=by decide
 rw[e] at a1
 generalize dl ((XI F 7:Nat):Int)=x1 at *
 generalize dl ((29*XI F 7:Nat):Int)=x2 at *
 generalize dl ((29*XI F 7*((n+1)*(n+1)*F):Nat):Int)=x3 at *
 generalize dl (((n+1)*(n+1)*F:Nat):Int)=x4 at *
 generalize dl ((29*XI F 7*((n+1)*(n+1)*F)*2000000:Nat):Int)=x5 at *
 generalize dl ((29*XI F 7*((n+1)*(n+1)*F)*2000000*1000000 ^ (28+n):Nat):Int)=x6 at *
 generalize dl ((2*(29*XI F 7*((n+1)*(n+1)*F)*2000000*1000000 ^ (28+n)):Nat):Int)=x7 at *
 generalize dl ((1000000 ^ (28+n):Nat):Int)=x8 at *
 omega
theorem pT {n F R W:Nat}:EB n F R W≠0:=by unfold EB; omega
section
variable {p:List Int} {I:Iv} (h:T3 p I)
include h
theorem T3.len4:p.length<=5:=h.pol.1.2
theorem T3.noroot (a b:Int) (hb:0<b):B1 p a b≠0:=by
 have h3:=h.three
 have h5:=h.pol.1.2
 refine eQ (n:=p.length-1) zo zo HU ?_ h.red hb
 show (if p.length-1<p.length then b6 p (p.length-1) else 0)=1
 rw[if_pos zo,h.top]
theorem T3.told {cs:List Int} {F k:Nat} (hcl:cs.length=p.length-1) (hc0:∃c∈cs,c≠0) (hF:1000<=F) (hcF:∀c∈cs,c.natAbs<=F) (hk:(EB (p.length-1) F 1000000 2000000:Int)<=I.den*2 ^ k):0<(enc (i1 p I k) cs).1\/(enc (i1 p I k) cs).2.1<0:=by
 have h3:=h.three
 have h5:=h.pol.1.2
 obtain ⟨b1,b2⟩:=UN h.iv (R:=1000000) h.lo h.hi (p:=p) (k:=k)
 have hw:=dF (p:=p) (I:=I) (k:=k)
 have hle:=(X1 h.iv (p:=p) (k:=k)).le
 have h6:=h.wid
 exact Go.Fl.told (n:=p.length-1) (F:=F) (R:=1000000) (W:=2000000) zo zo zo h.top h.red hcl hc0 zo (fun c hc=>Nat.le_trans (h.small c hc) hF) hcF zo (X1 h.iv) b1 b2 zo (dE h.iv (h.noroot) h.sg) (by rw[UO]; exact hk)
theorem T3.bound {cs:List Int} {M:Nat} (hcl:cs.length=p.length-1) (hc0:∃c∈cs,c≠0) (hM:∀c∈cs,dl c<=M) (hM1:1<=M) (hM2:M<=560):∃K,64<=K/\(∀k,K<=k->0<(enc (i1 p I k) cs).1\/(enc (i1 p I k) cs).2.1<0)/\∀k,k<=K->dl (i1 p I k).lo<=73000/\dl (i1 p I k).hi<=73000/\dl (i1 p I k).den<=73000:=by
 have h3:=h.three
 have h5:=h.pol.1.2
 have hpos:=h.iv.pos
 obtain ⟨F,hF1,hF2,hF3⟩:∃F:Nat,1000<=F/\dl (F:Int)<=M/\∀c∈cs,c.natAbs<=F:=by
  have key:∀l:List Int,(∀c∈l,dl c<=M)->∃F:Nat,1000<=F/\dl (F:Int)<=M/\∀c∈l,c.natAbs<=F:=by
   intro l
   induction l with
   | nil=>intro _; exact ⟨1000,Nat.le_refl _,Nat.le_trans (BW zo) hM1,fun c hc=>by cases hc⟩
   | cons x l ih =>
    intro hl
    obtain ⟨F,q1,q2,q3⟩:=ih fun c hc=>hl c (List.mem_cons_of_mem _ hc)
    refine ⟨max F x.natAbs,by omega,?_,fun c hc=>?_⟩
    ·rw[Nat.max_def]
     split
     ·have:=hl x List.mem_cons_self
      rw[qD]; exact this
     ·exact q2
    ·rcases List.mem_cons.1 hc with rfl | hc
     ·omega
     ·have:=q3 c hc; omega
  exact key cs hM
 obtain ⟨d,hd⟩:∃d,d=EB (p.length-1) F 1000000 2000000:=⟨_,rfl⟩
 have hd0:d≠0:=hd▸pT
 have hdl:dl (d:Int)<=129*560+180:=by
  rw[hd]
  have:=pX (n:=p.length-1) (F:=F) zo
  have:129*dl (F:Int)<=129*560:=Nat.mul_le_mul_left _ zo
  omega
 have hden:((I.den.natAbs:Nat):Int)=I.den:=by omega
 have size:∀k:Nat,dl ((2 ^ k:Nat):Int)<=72422->dl (i1 p I k).lo<=73000/\dl (i1 p I k).hi<=73000/\dl (i1 p I k).den<=73000:=fun k hk=>by
  obtain ⟨b1,b2⟩:=UN h.iv (R:=1000000) h.lo h.hi (p:=p) (k:=k)
  have hle:=(X1 h.iv (p:=p) (k:=k)).le
  have hp:=(X1 h.iv (p:=p) (k:=k)).pos
  have hdk:dl (i1 p I k).den<=72423:=by
   rw[UO]
   have q1:=w8 I.den (2 ^ k)
   have q2:dl I.den<=1:=I4 zo (by have:=h.den; omega)
   have q3:dl ((2:Int) ^ k)<=72422:=by rw[show ((2:Int) ^ k)=((2 ^ k:Nat):Int) by rw[Int.natCast_pow]; rfl]; exact hk
   omega
  have q4:=w8 1000000 (i1 p I k).den
  have q5:=I4 (F:=1000000) zo zo
  have mono:∀z:Int,z.natAbs<=(1000000*(i1 p I k).den).natAbs->dl z<=73000:=fun z hz=>Nat.le_trans (K5 hz) (by show dl (1000000*(i1 p I k).den)<=73000; omega)
  exact ⟨mono _ zo,mono _ zo,by omega⟩
 have hK:(d:Int)<=I.den*2 ^ (d.log2+1):=by
  have q1:=Nat.lt_log2_self (n:=d)
  have q2:((d:Nat):Int)<((2 ^ (d.log2+1):Nat):Int):=Int.ofNat_lt.2 q1
  rw[Int.natCast_pow] at q2
  have q3:=Int.mul_le_mul_of_nonneg_right (show 1<=I.den by omega) (show (0:Int)<=2 ^ (d.log2+1) from Int.le_of_lt (Int.pow_pos zo))
  rw[Int.one_mul] at q3
  have q4:((2:Nat):Int)=2:=rfl
  rw[q4] at q2
  omega
 refine ⟨max 64 (d.log2+1),Nat.le_max_left _ _,fun k hk=>?_,fun k hk=>?_⟩
 ·refine h.told hcl hc0 hF1 hF3 ?_
  rw[<- hd]
  refine Int.le_trans hK (Int.mul_le_mul_of_nonneg_left ?_ zo)
  have:(2:Nat) ^ (d.log2+1)<=2 ^ k:=Nat.pow_le_pow_right zo zo
  have:=Int.ofNat_le.2 this
  rw[Int.natCast_pow,Int.natCast_pow] at this
  exact this
 ·refine size k ?_
  have hm:dl ((2 ^ k:Nat):Int)<=dl ((2 ^ (max 64 (d.log2+1)):Nat):Int):=bJ (Nat.pow_le_pow_right zo hk)
  refine Nat.le_trans hm ?_
  rcases Nat.le_total 64 (d.log2+1) with q | q
  ·rw[Nat.max_eq_right q]
   have q1:=Nat.log2_self_le hd0
   have q2:2 ^ (d.log2+1)<=2*d:=by rw[Nat.pow_succ]; omega
   have q3:=bJ q2
   have q4:=BV 2 d
   have q5:=BW (x:=2) zo
   omega
  ·rw[Nat.max_eq_left q]
   exact Nat.le_trans (bK (x:=2) (k:=64) (BW zo)) zo
end
theorem FP {p:List Int} {I:Iv} {j:Nat}:∀{k:Nat},i1 p (i1 p I j) k=i1 p I (j+k)
 | 0=>rfl
 | k+1=>by rw[i1,FP]; rfl
theorem xW {p:List Int} {I:Iv} {cs:List Int} {j:Nat} (hI:I.Ok):D7 p (i1 p I j) cs=D7 p I cs:=by
 unfold D7
 have e1:(∃k,0<(enc (i1 p (i1 p I j) k) cs).1)↔∃k,0<(enc (i1 p I k) cs).1 :=
  ⟨fun ⟨k,hk⟩=>⟨j+k,by rw[<- FP]; exact hk⟩,fun ⟨k,hk⟩=>⟨k,by rw[FP]; exact NS hI (Nat.le_add_left k j) hk⟩⟩
 have e2:(∃k,(enc (i1 p (i1 p I j) k) cs).2.1<0)↔∃k,(enc (i1 p I k) cs).2.1<0 :=
  ⟨fun ⟨k,hk⟩=>⟨j+k,by rw[<- FP]; exact hk⟩,fun ⟨k,hk⟩=>⟨k,by rw[FP]; exact bZ hI (Nat.le_add_left k j) hk⟩⟩
 by_cases h1:∃k,0<(enc (i1 p I k) cs).1
 ·rw[if_pos (e1.2 h1),if_pos h1]
 ·rw[if_neg (fun h=>h1 (e1.1 h)),if_neg h1]
  by_cases h2:∃k,(enc (i1 p I k) cs).2.1<0
  ·rw[if_pos (e2.2 h2),if_pos h2]
  ·rw[if_neg (fun h=>h2 (e2.1 h)),if_neg h2]
noncomputable def D6 (p:List Int) (I:Iv) (v:i5):Int:=if N2 v.1=true then u5 (b6 v.1 0) 0 else D7 p I (v.1.take (p.length-1))
theorem wI {p:List Int} {v:i5} (_:3<=p.length) (hv:n8 p v) (h:N2 v.1≠true):(v.1.take (p.length-1)).length=min (p.length-1) 4/\∃c∈v.1.take (p.length-1),c≠0:=by
 have hl:=hv.len
 refine ⟨by rw[List.length_take,hl],?_⟩
 refine Classical.byContradiction fun hn=>h (IL fun i h1 h2=>?_)
 by_cases hi:i<p.length-1
 ·refine Classical.byContradiction fun h0=>hn ⟨b6 v.1 i,?_,h0⟩
  rw[<- K9 hi]
  exact OV (by rw[List.length_take,hl]; omega)
 ·exact hv.hi i zo
theorem pZ {a b c d:Int} {n:Nat} (h1:dl a<=n) (h2:dl b<=n) (h3:dl c<=n) (h4:dl d<=n):dl (I8 a b c d)<=n/\dl (I7 a b c d)<=n:=by
 have key:∀x:Int,x=a\/x=b\/x=c\/x=d->dl x<=n:=fun x hx=>by rcases hx with rfl | rfl | rfl | rfl<;>assumption
 exact ⟨key _ (by unfold I8; omega),key _ (by unfold I7; omega)⟩
def p9 (I:Iv) (cs:List Int) (k:Nat):Int×Int×Int:=enc I (cs.drop (cs.length-k))
theorem NU {I:Iv} {cs:List Int}:p9 I cs 0=(0,0,1):=by unfold p9; rw[Nat.sub_zero,List.drop_length]; rfl
theorem bY {I:Iv} {cs:List Int}:p9 I cs cs.length=enc I cs:=by unfold p9; rw[Nat.sub_self,List.drop_zero]
theorem NT {I:Iv} {cs:List Int} {k:Nat} (hk:k<cs.length):p9 I cs (k+1)=(I8 ((p9 I cs k).1*I.lo) ((p9 I cs k).1*I.hi) ((p9 I cs k).2.1*I.lo) ((p9 I cs k).2.1*I.hi)+b6 cs (cs.length-1-k)*((p9 I cs k).2.2*I.den),I7 ((p9 I cs k).1*I.lo) ((p9 I cs k).1*I.hi) ((p9 I cs k).2.1*I.lo) ((p9 I cs k).2.1*I.hi)+b6 cs (cs.length-1-k)*((p9 I cs k).2.2*I.den),(p9 I cs k).2.2*I.den):=by
 unfold p9
 rw[TM hk]
 rfl
theorem TO {I:Iv} {cs:List Int} {A C:Nat} (h1:dl I.lo<=A) (h2:dl I.hi<=A) (h3:dl I.den<=A) (hc:∀i,dl (b6 cs i)<=C):∀{k:Nat},k<=cs.length->dl (p9 I cs k).1<=k*(A+1)+C+1/\dl (p9 I cs k).2.1<=k*(A+1)+C+1/\dl (p9 I cs k).2.2<=k*A+1
 | 0,_=>by
  rw[NU]
  have h0:dl (0:Int)=0:=F5.2 rfl
  have h1:=I4 (F:=1) zo zo
  exact ⟨by show dl 0<=_; omega,by show dl 0<=_; omega,by show dl 1<=_; omega⟩
 | k+1,hk=>by
  obtain ⟨q1,q2,q3⟩:=TO h1 h2 h3 hc (k:=k) zo
  rw[NT zo]
  have m1:=w8 (p9 I cs k).1 I.lo
  have m2:=w8 (p9 I cs k).1 I.hi
  have m3:=w8 (p9 I cs k).2.1 I.lo
  have m4:=w8 (p9 I cs k).2.1 I.hi
  have m5:=w8 (p9 I cs k).2.2 I.den
  have m6:=w8 (b6 cs (cs.length-1-k)) ((p9 I cs k).2.2*I.den)
  have m7:=hc (cs.length-1-k)
  have e1:(k+1)*(A+1)=k*(A+1)+A+1:=by rw[Nat.succ_mul]; omega
  have e2:(k+1)*A=k*A+A:=Nat.succ_mul _ _
  have e3:k*(A+1)=k*A+k:=by rw[Nat.mul_add,Nat.mul_one]
  obtain ⟨u1,u2⟩:=pZ (n:=k*(A+1)+C+1+A) (a:=(p9 I cs k).1*I.lo) (b:=(p9 I cs k).1*I.hi) (c:=(p9 I cs k).2.1*I.lo) (d:=(p9 I cs k).2.1*I.hi) zo zo zo zo
  have s1:=T9 (I8 ((p9 I cs k).1*I.lo) ((p9 I cs k).1*I.hi) ((p9 I cs k).2.1*I.lo) ((p9 I cs k).2.1*I.hi)) (b6 cs (cs.length-1-k)*((p9 I cs k).2.2*I.den))
  have s2:=T9 (I7 ((p9 I cs k).1*I.lo) ((p9 I cs k).1*I.hi) ((p9 I cs k).2.1*I.lo) ((p9 I cs k).2.1*I.hi)) (b6 cs (cs.length-1-k)*((p9 I cs k).2.2*I.den))
  refine ⟨?_,?_,?_⟩
  ·show dl (_+_)<=_; omega
  ·show dl (_+_)<=_; omega
  ·show dl (_*_)<=_; omega
end Go.Fl

/- Contracts: enclosures are halved until the sign is told. -/
namespace Go.Fl
open Go Go.Proofs
open d5 renaming op->tO
open i6 renaming op->rO
set_option maxRecDepth 100000

def S5 (xs:List Int):Nat->Int
 | 0=>b6 xs 0
 | k+1=>if b6 xs (k+1)<S5 xs k then b6 xs (k+1) else S5 xs k
def S6 (xs:List Int):Nat->Int
 | 0=>b6 xs 0
 | k+1=>if S6 xs k<b6 xs (k+1) then b6 xs (k+1) else S6 xs k
theorem KV {xs:List Int}:∀{k:Nat},k<xs.length->S5 xs k∈xs/\S6 xs k∈xs
 | 0,h=>⟨F7 h,F7 h⟩
 | k+1,h=>by
  obtain ⟨h1,h2⟩:=KV (xs:=xs) (k:=k) zo
  rw[S5,S6]
  constructor
  ·split; exact F7 h; exact h1
  ·split; exact F7 h; exact h2
theorem eA {a b c d:Int}:S5 [a,b,c,d] 3=I8 a b c d/\S6 [a,b,c,d] 3=I7 a b c d:=by
 simp only[S5,S6,I8,I7,b6,List.getD_cons_succ,List.getD_cons_zero]
 constructor<;>(repeat' split)<;>omega
theorem MR {a b:Int}:u5 a b<0↔a<b:=by unfold u5; split<;>(try split)<;>omega
theorem MQ {a b:Int}:0<u5 a b↔b<a:=by unfold u5; split<;>(try split)<;>omega
theorem xK {p cs:List Int} {I:Iv} {k:Nat} (hI:I.Ok) (h:O9 (enc (i1 p I k) cs).1 (enc (i1 p I k) cs).2.1 0≠0):O9 (enc (i1 p I k) cs).1 (enc (i1 p I k) cs).2.1 0=D7 p I cs:=by
 unfold O9 at h ⊢
 by_cases h1:0<u5 (enc (i1 p I k) cs).1 0
 ·rw[if_pos h1,IX (MQ.1 h1)]
 ·rw[if_neg h1] at h ⊢
  by_cases h2:u5 (enc (i1 p I k) cs).2.1 0<0
  ·rw[if_pos h2,LL hI (MR.1 h2)]
  ·rw[if_neg h2] at h; exact absurd rfl h
theorem xL {a b:Int} (h:0<a\/b<0):O9 a b 0≠0:=by
 unfold O9
 by_cases h1:0<u5 a 0
 ·rw[if_pos h1]; decide
 ·rw[if_neg h1,if_pos (MR.2 (h.resolve_left fun e=>h1 (MQ.2 e)))]; decide
theorem mR (xs:List Int) (f:FuncId) [d8 Tryz.prog f] (hl:1<=xs.length) (hf:∀a b,a∈xs->b∈xs->Ct Tryz.prog f [b7 eW (wh a),b7 eW (wh b)] (kI (u5 a b))):Ct Tryz.prog 202 [b7 (eL eZ) xs,j8 (.func (.func f) #[] #[])] (b7 eW (wh (S5 xs (xs.length-1)))):=by
 refine Ct.mk Tryz.func202 rfl Tryz.ntmps202 rfl (fun w J=>?_); refine Tr.fact (s:=0) rfl (fun _ _ h=>S4 h) (fun hb=>?_); refine i2 ?_; refine ja 4 ?_; refine v6 ?_; refine jq ?_ ?_
 ·intro h1
  omega
 ·intro h1
  replace h1:=Int.not_lt.1 h1
  refine l5 ?_; refine ja 5 ?_; refine o9 ?_
  refine Tr.for1 (σ:=Nat) [⟨0,true,_,_⟩,⟨1,true,_,_⟩,⟨4,true,_,_⟩,⟨5,true,_,_⟩] [⟨4,_,_⟩] (fun j=>[⟨6,true,[],kI ((j:Int)+1)⟩]) (fun j=>[⟨5,[],j3 [kB (decide ((S5 xs j)<0)),b7 (eL eI) (d6 ((S5 xs j)).natAbs)]⟩]) (fun j=>j+1<=xs.length) (fun j=>j+1=xs.length) (fun j=>xs.length-j) (0) zi (d7.mk (.i rfl zi<|zk) (zk) rfl) ?_ ?_
  ·intro j hR0
   refine jn ?_
   have hjn:((j:Int)+1).toNat=j+1:=by omega
   refine o9 ?_; refine jq ?_ ?_
   ·intro h5
    refine o0 ?_; refine Tr.draw 6 q9 (by kernel_rfl) ?_; refine l5 ?_; refine tO (IB rfl uu (fun hp=>hf _ _ (F7 (i:=j+1) zo) (KV zo).1) (.a rfl uu<|.se rfl uu rfl rfl<|.nil)) rfl rfl ?_; refine j9 ?_; refine jq ?_ ?_
    ·intro h7
     have hK:S5 xs (j+1)=b6 xs (j+1):=by rw[S5,if_pos (MR.1 h7)]
     refine B4 ?_
     exact g8.lp (j+1) zi zo (d7.mk (.i rfl zi<|zk) (.e (by rw[hK,hjn]) rfl<|zk) rfl)
    ·intro h7
     replace h7:=Int.not_lt.1 h7
     have hK:S5 xs (j+1)=S5 xs j:=by rw[S5,if_neg (fun e=>absurd (MR.2 e) zo)]
     refine l6 ?_
     exact g8.lp (j+1) zi zo (d7.mk (.i rfl zi<|zk) (.e (by rw[hK]) rfl<|zk) rfl)
   ·intro h5
    replace h5:=Int.not_lt.1 h5
    refine i4 ?_
    exact g8.cut (j) zo (d7.mk (.i rfl zi<|zk) (zk) rfl)
  ·intro j hE0
   refine je ?_; refine l6 ?_; exact d9.resC1 (fn:=Tryz.f202) rfl rfl (u8 rfl (by rw[show xs.length-1=j by omega]; rfl))

theorem mQ (xs:List Int) (f:FuncId) [d8 Tryz.prog f] (hl:1<=xs.length) (hf:∀a b,a∈xs->b∈xs->Ct Tryz.prog f [b7 eW (wh a),b7 eW (wh b)] (kI (u5 a b))):Ct Tryz.prog 204 [b7 (eL eZ) xs,j8 (.func (.func f) #[] #[])] (b7 eW (wh (S6 xs (xs.length-1)))):=by
 refine Ct.mk Tryz.func204 rfl Tryz.ntmps204 rfl (fun w J=>?_); refine Tr.fact (s:=0) rfl (fun _ _ h=>S4 h) (fun hb=>?_); refine i2 ?_; refine ja 4 ?_; refine v6 ?_; refine jq ?_ ?_
 ·intro h1
  omega
 ·intro h1
  replace h1:=Int.not_lt.1 h1
  refine l5 ?_; refine ja 5 ?_; refine o9 ?_
  refine Tr.for1 (σ:=Nat) [⟨0,true,_,_⟩,⟨1,true,_,_⟩,⟨4,true,_,_⟩,⟨5,true,_,_⟩] [⟨4,_,_⟩] (fun j=>[⟨6,true,[],kI ((j:Int)+1)⟩]) (fun j=>[⟨5,[],j3 [kB (decide ((S6 xs j)<0)),b7 (eL eI) (d6 ((S6 xs j)).natAbs)]⟩]) (fun j=>j+1<=xs.length) (fun j=>j+1=xs.length) (fun j=>xs.length-j) (0) zi (d7.mk (.i rfl zi<|zk) (zk) rfl) ?_ ?_
  ·intro j hR0
   refine jn ?_
   have hjn:((j:Int)+1).toNat=j+1:=by omega
   refine o9 ?_; refine jq ?_ ?_
   ·intro h5
    refine o0 ?_; refine Tr.draw 6 q9 (by kernel_rfl) ?_; refine l5 ?_; refine tO (IB rfl uu (fun hp=>hf _ _ (F7 (i:=j+1) zo) (KV zo).2) (.a rfl uu<|.se rfl uu rfl rfl<|.nil)) rfl rfl ?_; refine j9 ?_; refine jq ?_ ?_
    ·intro h7
     have hK:S6 xs (j+1)=b6 xs (j+1):=by rw[S6,if_pos (MQ.1 h7)]
     refine B4 ?_
     exact g8.lp (j+1) zi zo (d7.mk (.i rfl zi<|zk) (.e (by rw[hK,hjn]) rfl<|zk) rfl)
    ·intro h7
     replace h7:=Int.not_lt.1 h7
     have hK:S6 xs (j+1)=S6 xs j:=by rw[S6,if_neg (fun e=>absurd (MQ.2 e) zo)]
     refine l6 ?_
     exact g8.lp (j+1) zi zo (d7.mk (.i rfl zi<|zk) (.e (by rw[hK]) rfl<|zk) rfl)
   ·intro h5
    replace h5:=Int.not_lt.1 h5
    refine i4 ?_
    exact g8.cut (j) zo (d7.mk (.i rfl zi<|zk) (zk) rfl)
  ·intro j hE0
   refine je ?_; refine l6 ?_; exact d9.resC1 (fn:=Tryz.f204) rfl rfl (u8 rfl (by rw[show xs.length-1=j by omega]; rfl))

set_option maxHeartbeats 2000000 in
theorem mZ (r:y9) (v:i5) (I:Iv) (cs:List Int) (K:Nat) (sg:Int) (hpo:E8 r.2.1) (hI:I=⟨r.2.2.2.1,r.2.2.2.2.1,r.2.2.2.2.2⟩) (hcs:cs=v.1.take (r.2.1.length-1)) (hvl:v.1.length=4) (hvb:E5 540 v) (hsz:∀k,k<=K->dl (i1 r.2.1 I k).lo<=73000/\dl (i1 r.2.1 I k).hi<=73000/\dl (i1 r.2.1 I k).den<=73000) (htl:∀k,K<=k->O9 (enc (i1 r.2.1 I k) cs).1 (enc (i1 r.2.1 I k) cs).2.1 0≠0) (hsg:∀k,O9 (enc (i1 r.2.1 I k) cs).1 (enc (i1 r.2.1 I k) cs).2.1 0≠0->O9 (enc (i1 r.2.1 I k) cs).1 (enc (i1 r.2.1 I k) cs).2.1 0=sg):BO Tryz.prog 181 [r5 y1 r,b7 I5 v,Z8 182 [w6 0 0]] (j3 [kI 0]) (j3 [kI sg]) (j8 (.tuple #[])):=by
 have hp5:=hpo.1.2
 have hp2:=hpo.1.1
 have hcl:cs.length=r.2.1.length-1:=by rw[hcs,List.length_take,hvl]; omega
 have hcx:List.take ((r.2.1.length:Int)-1).toNat (n6 4 (b6 v.1),v.2).1=cs:=by rw[hcs]; show List.take _ (n6 4 (b6 v.1))=_; rw[<- V2 hvl]; congr 1; omega
 have hcd:∀i,dl (b6 cs i)<=540:=fun i=>by rw[hcs]; by_cases h:i<r.2.1.length-1; (rw[K9 h]; exact hvb.c i); (rw[z6 (by rw[List.length_take]; omega)]; show dl 0<=540; rw[F5.2 rfl]; omega)
 have hI0:i1 r.2.1 I 0=I:=rfl
 refine BO.mkM Tryz.func181 rfl Tryz.ntmps181 rfl rfl (fun w J bb cap=>?_); refine jn ?_; refine i2 ?_; refine jb 4 rfl ?_; refine j9 ?_; refine Tr.frzBL 4 [4] I5 (s:=568) rfl rfl ⟨rfl,trivial⟩ rfl ?_; refine jn ?_; refine i2 ?_; refine tO (G7 rfl uu) rfl rfl ?_; refine i9 ?_; refine ja 6 ?_; refine j9 ?_
 refine Tr.for1 (σ:=Nat) [⟨0,true,_,_⟩,⟨2,true,_,_⟩,⟨4,true,_,_⟩,⟨568,true,_,_⟩] [] (fun k=>[⟨6,true,[6],w6 6 0⟩]) (fun k=>[⟨6,[],j3 [b7 (eL eI) r.1.1,kI r.1.2.1,kI r.1.2.2.1,kI r.1.2.2.2,b7 (eL eZ) r.2.1,b7 (eL eZ) r.2.2.1,kB (decide ((i1 r.2.1 I k).lo<0)),b7 (eL eI) (d6 ((i1 r.2.1 I k).lo).natAbs),kB (decide ((i1 r.2.1 I k).hi<0)),b7 (eL eI) (d6 ((i1 r.2.1 I k).hi).natAbs),kB (decide ((i1 r.2.1 I k).den<0)),b7 (eL eI) (d6 ((i1 r.2.1 I k).den).natAbs)]⟩,⟨0,[],j3 [kI 0]⟩]) (fun k=>k<=K) (fun k=>False) (fun k=>K-k) (0) zi (d7.mk (zk) (.e (by rw[hI0,hI]) rfl<|zk) rfl) ?_ ?_
 ·intro k hR0
  refine jn ?_
  have hz:=hsz k hR0
  refine i4 ?_; refine tO (A4 (fun hp=>.nil)) rfl rfl ?_; refine tO (A4 (fun hp=>.nil)) rfl rfl ?_; refine jc (O0 1 zo) ?_; refine ja 7 ?_; refine ja 8 ?_; refine ja 9 ?_; refine v6 ?_; refine jc (SR r hpo.1) ?_; refine tO (fI rfl uu rfl uu rfl rfl (fun _=>zo)) rfl rfl ?_; refine tO (j7 (fun hp=>mV _) (.a rfl uu<|.nil)) rfl rfl ?_
  rw[hcx]
  refine j9 ?_
  refine Tr.back (e:=eZ) (xs:=cs) lE [⟨0,true,_,_⟩,⟨2,true,_,_⟩,⟨4,true,_,_⟩,⟨6,true,_,_⟩,⟨7,true,_,_⟩,⟨8,true,_,_⟩,⟨9,true,_,_⟩,⟨24,true,_,_⟩,⟨568,true,_,_⟩] [6,7,8,9,0] (fun j=>[⟨6,[],j3 [b7 (eL eI) r.1.1,kI r.1.2.1,kI r.1.2.2.1,kI r.1.2.2.2,b7 (eL eZ) r.2.1,b7 (eL eZ) r.2.2.1,kB (decide ((i1 r.2.1 I k).lo<0)),b7 (eL eI) (d6 ((i1 r.2.1 I k).lo).natAbs),kB (decide ((i1 r.2.1 I k).hi<0)),b7 (eL eI) (d6 ((i1 r.2.1 I k).hi).natAbs),kB (decide ((i1 r.2.1 I k).den<0)),b7 (eL eI) (d6 ((i1 r.2.1 I k).den).natAbs)]⟩,⟨7,[],j3 [kB (decide ((p9 (i1 r.2.1 I k) cs j).1<0)),b7 (eL eI) (d6 ((p9 (i1 r.2.1 I k) cs j).1).natAbs)]⟩,⟨8,[],j3 [kB (decide ((p9 (i1 r.2.1 I k) cs j).2.1<0)),b7 (eL eI) (d6 ((p9 (i1 r.2.1 I k) cs j).2.1).natAbs)]⟩,⟨9,[],j3 [kB (decide ((p9 (i1 r.2.1 I k) cs j).2.2<0)),b7 (eL eI) (d6 ((p9 (i1 r.2.1 I k) cs j).2.2).natAbs)]⟩,⟨0,[],j3 [kI 0]⟩]) (fun j=>[⟨6,[],j3 [b7 (eL eI) r.1.1,kI r.1.2.1,kI r.1.2.2.1,kI r.1.2.2.2,b7 (eL eZ) r.2.1,b7 (eL eZ) r.2.2.1,kB (decide ((i1 r.2.1 I k).lo<0)),b7 (eL eI) (d6 ((i1 r.2.1 I k).lo).natAbs),kB (decide ((i1 r.2.1 I k).hi<0)),b7 (eL eI) (d6 ((i1 r.2.1 I k).hi).natAbs),kB (decide ((i1 r.2.1 I k).den<0)),b7 (eL eI) (d6 ((i1 r.2.1 I k).den).natAbs)]⟩,⟨7,[],j3 [kB (decide ((p9 (i1 r.2.1 I k) cs j).1<0)),b7 (eL eI) (d6 ((p9 (i1 r.2.1 I k) cs j).1).natAbs)]⟩,⟨8,[],j3 [kB (decide ((p9 (i1 r.2.1 I k) cs j).2.1<0)),b7 (eL eI) (d6 ((p9 (i1 r.2.1 I k) cs j).2.1).natAbs)]⟩,⟨9,[],j3 [kB (decide ((p9 (i1 r.2.1 I k) cs j).2.2<0)),b7 (eL eI) (d6 ((p9 (i1 r.2.1 I k) cs j).2.2).natAbs)]⟩,⟨0,[],j3 [kI 0]⟩]) (fun j=>True) (fun j=>False) (d7.mk (.k rfl rfl<|.k rfl rfl<|.k rfl rfl<|.k rfl rfl<|.k rfl rfl<|.k rfl rfl<|.k rfl rfl<|.k rfl rfl<|.k rfl rfl<|.nil) (.k rfl<|.conv (SG (by rw[NU])) rfl<|.conv (SG (by rw[NU])) rfl<|.conv (Z2 (AP (by rw[NU]))) rfl<|.k rfl<|.nil) rfl) rfl rfl (fun _=>rfl) (fun _=>rfl) (fun _=>inferInstance) (fun _=>inferInstance) rfl zi ?_ ?_ ?_
  ·intro j hk24 hR24 l24 w24 J24 b24 bks24
   refine jn ?_
   have hb:=TO (A:=73000) (C:=540) hz.1 hz.2.1 hz.2.2 hcd (k:=j) zo
   have hj5:j*(73000+1)<=4*73001:=Nat.mul_le_mul zo zo
   have hj6:j*73000<=4*73000:=Nat.mul_le_mul zo zo
   have hcj:=hcd (cs.length-1-j)
   have hm1:=w8 (p9 (i1 r.2.1 I k) cs j).1 (i1 r.2.1 I k).lo
   have hm2:=w8 (p9 (i1 r.2.1 I k) cs j).1 (i1 r.2.1 I k).hi
   have hm3:=w8 (p9 (i1 r.2.1 I k) cs j).2.1 (i1 r.2.1 I k).lo
   have hm4:=w8 (p9 (i1 r.2.1 I k) cs j).2.1 (i1 r.2.1 I k).hi
   have hm5:=w8 (p9 (i1 r.2.1 I k) cs j).2.2 (i1 r.2.1 I k).den
   have hm6:=w8 (b6 cs (cs.length-1-j)) ((p9 (i1 r.2.1 I k) cs j).2.2*(i1 r.2.1 I k).den)
   have hco:∀x∈([(p9 (i1 r.2.1 I k) cs j).1*(i1 r.2.1 I k).lo,(p9 (i1 r.2.1 I k) cs j).1*(i1 r.2.1 I k).hi,(p9 (i1 r.2.1 I k) cs j).2.1*(i1 r.2.1 I k).lo,(p9 (i1 r.2.1 I k) cs j).2.1*(i1 r.2.1 I k).hi]:List Int),dl x<=800000:=fun x hx=>by simp only[List.mem_cons,List.not_mem_nil,or_false] at hx; rcases hx with rfl | rfl | rfl | rfl<;>omega
   refine i9 ?_; refine ja 11 ?_; refine i2 ?_; refine g8.asg (fun w1024 J1024 b1024=>?_); refine jn ?_; refine i2 ?_; refine Tr.draw 15 q9 (by kernel_rfl) ?_; refine j9 ?_; refine jd (J7 (p9 (i1 r.2.1 I k) cs j).1 (i1 r.2.1 I k).lo zo zo) ?_; refine j9 ?_; refine jd (J7 (p9 (i1 r.2.1 I k) cs j).1 (i1 r.2.1 I k).hi zo zo) ?_; refine j9 ?_; refine jd (J7 (p9 (i1 r.2.1 I k) cs j).2.1 (i1 r.2.1 I k).lo zo zo) ?_; refine i4 ?_; refine jc (J7 (p9 (i1 r.2.1 I k) cs j).2.1 (i1 r.2.1 I k).hi zo zo) ?_
   refine tO (CC eZ (fun hp=>.cons rfl<|.cons rfl<|.cons rfl<|.cons rfl<|.nil) rfl rfl rfl rfl) rfl rfl ?_; refine l6 ?_; refine jc (J7 (p9 (i1 r.2.1 I k) cs j).2.2 (i1 r.2.1 I k).den zo zo) ?_; refine l5 ?_; refine jc (J7 (b6 cs (cs.length-1-j)) ((p9 (i1 r.2.1 I k) cs j).2.2*(i1 r.2.1 I k).den) zo zo) ?_; refine j9 ?_; refine Tr.draw 7 q9 (by kernel_rfl) ?_; refine i9 ?_; refine jd (mR [(p9 (i1 r.2.1 I k) cs j).1*(i1 r.2.1 I k).lo,(p9 (i1 r.2.1 I k) cs j).1*(i1 r.2.1 I k).hi,(p9 (i1 r.2.1 I k) cs j).2.1*(i1 r.2.1 I k).lo,(p9 (i1 r.2.1 I k) cs j).2.1*(i1 r.2.1 I k).hi] 203 (by simp) (fun x y hx hy=>ZY x y (hco x hx) (hco y hy))) ?_
   refine i9 ?_; refine rO (j7 (fun hp=>T7 (S5 [(p9 (i1 r.2.1 I k) cs j).1*(i1 r.2.1 I k).lo,(p9 (i1 r.2.1 I k) cs j).1*(i1 r.2.1 I k).hi,(p9 (i1 r.2.1 I k) cs j).2.1*(i1 r.2.1 I k).lo,(p9 (i1 r.2.1 I k) cs j).2.1*(i1 r.2.1 I k).hi] 3) ((b6 cs (cs.length-1-j))*((p9 (i1 r.2.1 I k) cs j).2.2*(i1 r.2.1 I k).den)) (Nat.le_trans (hco _ (KV (by simp)).1) zo) zo) (.a rfl uu<|.se rfl uu rfl rfl<|.nil)) rfl rfl ?_; refine i9 ?_; refine jd (mQ [(p9 (i1 r.2.1 I k) cs j).1*(i1 r.2.1 I k).lo,(p9 (i1 r.2.1 I k) cs j).1*(i1 r.2.1 I k).hi,(p9 (i1 r.2.1 I k) cs j).2.1*(i1 r.2.1 I k).lo,(p9 (i1 r.2.1 I k) cs j).2.1*(i1 r.2.1 I k).hi] 203 (by simp) (fun x y hx hy=>ZY x y (hco x hx) (hco y hy))) ?_
   refine i2 ?_; refine tO (j7 (fun hp=>T7 (S6 [(p9 (i1 r.2.1 I k) cs j).1*(i1 r.2.1 I k).lo,(p9 (i1 r.2.1 I k) cs j).1*(i1 r.2.1 I k).hi,(p9 (i1 r.2.1 I k) cs j).2.1*(i1 r.2.1 I k).lo,(p9 (i1 r.2.1 I k) cs j).2.1*(i1 r.2.1 I k).hi] 3) ((b6 cs (cs.length-1-j))*((p9 (i1 r.2.1 I k) cs j).2.2*(i1 r.2.1 I k).den)) (Nat.le_trans (hco _ (KV (by simp)).2) zo) zo) (.a rfl uu<|.se rfl uu rfl rfl<|.nil)) rfl rfl ?_; refine i4 ?_; exact g8.rnd trivial (d7.mk (zk) (.k rfl<|.conv (Z2 (AP (by rw[NT zo,eA.1]))) rfl<|.conv (Z2 (AP (by rw[NT zo,eA.2]))) rfl<|.conv (Z2 (AP (by rw[NT zo]))) rfl<|zk) rfl)
  ·intro hE24
   refine je ?_
   have hbe:=TO (A:=73000) (C:=540) hz.1 hz.2.1 hz.2.2 hcd (k:=cs.length) (Nat.le_refl _)
   have hj7:cs.length*(73000+1)<=4*73001:=Nat.mul_le_mul zo zo
   have hj8:cs.length*73000<=4*73000:=Nat.mul_le_mul zo zo
   have hvd:=hvb.d
   refine j9 ?_; refine Tr.draw 7 q9 (by kernel_rfl) ?_; refine n7 ?_; refine jd (J7 (p9 (i1 r.2.1 I k) cs cs.length).2.2 v.2 zo zo) ?_; refine i9 ?_; refine d5.loanLK (u:=0) (oW (enc (i1 r.2.1 I k) cs).1 (enc (i1 r.2.1 I k) cs).2.1 ((p9 (i1 r.2.1 I k) cs cs.length).2.2*v.2) 0) rfl (.se rfl rfl (by rw[bY]; rfl)<|.se rfl rfl (by rw[bY]; rfl)<|.a rfl<|.nil) rfl rfl rfl ?_; refine i2 ?_; refine Tr.cnd rfl ?_ ?_
   ·intro h10
    try simp only[decide_eq_true_eq,ne_eq] at h10
    have hsk:=hsg k h10
    refine n7 ?_; refine d9.mk ?_; exact d9.loan0 (fn:=Tryz.f181) (s:=568) rfl rfl (by rw[hsk])
   ·intro h10
    try simp only[decide_eq_false_iff_not,ne_eq,Classical.not_not] at h10
    refine o9 ?_; refine Tr.ent (S':=[⟨0,true,_,_⟩,⟨2,true,_,_⟩,⟨4,true,_,_⟩,⟨7,true,_,_⟩,⟨8,true,_,_⟩,⟨9,true,_,_⟩,⟨24,true,_,_⟩,⟨568,true,_,_⟩,⟨59,true,_,_⟩,⟨60,true,_,_⟩,⟨61,true,_,_⟩,⟨62,true,_,_⟩,⟨63,true,_,_⟩,⟨64,true,_,_⟩,⟨65,true,_,_⟩,⟨66,true,_,_⟩,⟨67,true,_,_⟩]) (M':=[⟨7,_,_⟩,⟨8,_,_⟩,⟨9,_,_⟩,⟨0,_,_⟩]) (d7.mk (zk) (zk) rfl) ?_; refine i9 ?_; refine ja 6 ?_; refine i4 ?_; refine d5.mutP (aB (b7 (eL eI) r.1.1) (kI r.1.2.1) (kI r.1.2.2.1) (kI r.1.2.2.2) (b7 (eL eZ) r.2.2.1) r.2.1 (i1 r.2.1 I k) 73000 zo hpo.2 hz.1 hz.2.1 hz.2.2 zo) rfl (.nil) (fun g b cap o h=>Z3 (g:=g) (g':=g1 g.J b cap) rfl h) (fun {J b cap o g} h=>Z3 (g:=g1 J b cap) (g':=⟨J,g.M⟩) rfl h) rfl ?_
    refine i9 ?_; exact g8.lp (k+1) (by have:k≠K:=fun e=>htl k zo h10; omega) (by have:k≠K:=fun e=>htl k zo h10; omega) (d7.mk (zk) (.e (by rfl) rfl<|.e (by rw[h10]) rfl<|.nil) rfl)
  ·intro j hk24 hX24
   exact absurd hX24 id
 ·intro k hE0
  exact hE0.elim

end Go.Fl

/- Contracts: signs and comparisons of numbers of any field. -/
namespace Go.Fl
open Go Go.Proofs
open d5 renaming op->tO
open i6 renaming op->rO
set_option maxRecDepth 100000

theorem yD {p:List Int} {I:Iv} {v:i5} (hf:T3 p I) (hv:n8 p v) (hb:E5 540 v) (h:N2 v.1≠true):∃K,(∀k,k<=K->dl (i1 p (i1 p I 64) k).lo<=73000/\dl (i1 p (i1 p I 64) k).hi<=73000/\dl (i1 p (i1 p I 64) k).den<=73000)/\(∀k,K<=k->O9 (enc (i1 p (i1 p I 64) k) (v.1.take (p.length-1))).1 (enc (i1 p (i1 p I 64) k) (v.1.take (p.length-1))).2.1 0≠0)/\∀k,O9 (enc (i1 p (i1 p I 64) k) (v.1.take (p.length-1))).1 (enc (i1 p (i1 p I 64) k) (v.1.take (p.length-1))).2.1 0≠0->O9 (enc (i1 p (i1 p I 64) k) (v.1.take (p.length-1))).1 (enc (i1 p (i1 p I 64) k) (v.1.take (p.length-1))).2.1 0=D6 p I v:=by
 obtain ⟨h1,h2⟩:=wI hf.three hv h
 have h5:=hf.len4
 obtain ⟨K,q1,q2,q3⟩:=hf.bound (M:=540) zo h2 (fun c hc=>by
  obtain ⟨i,hi,rfl⟩:=List.mem_iff_getElem.1 hc
  have e:(v.1.take (p.length-1))[i]=b6 v.1 i:=by
   rw[List.length_take] at hi
   rw[List.getElem_take]
   have:i<v.1.length:=by omega
   simp[b6,this]
  rw[e]; exact hb.c i) zo zo
 refine ⟨K-64,fun k hk=>?_,fun k hk=>?_,fun k hk=>?_⟩
 ·rw[FP]; exact q3 (64+k) zo
 ·rw[FP]; exact xL (q2 (64+k) zo)
 ·rw[xK (X1 hf.iv) hk,xW hf.iv]
  unfold D6
  rw[if_neg h]
theorem aA (r:y9) (I:Iv) (v:i5) (hf:T3 r.2.1 I) (hI:i1 r.2.1 I 64=⟨r.2.2.2.1,r.2.2.2.2.1,r.2.2.2.2.2⟩) (hv:n8 r.2.1 v) (hb:E5 540 v):Ct Tryz.prog 139 [r5 y1 r,b7 I5 v] (kI (D6 r.2.1 I v)):=by
 have hl:v.1.length=4:=hv.len
 refine Ct.mk Tryz.func139 rfl Tryz.ntmps139 rfl (fun w J=>?_); refine i2 ?_; refine jb 3 rfl ?_; refine l5 ?_; refine tO (j7 (fun hp=>aT v.1 v.2) (.se rfl uu rfl (ED hl)<|.nil)) rfl rfl ?_; refine i2 ?_; refine Tr.cnd rfl ?_ ?_
 ·intro h1
  have hs:D6 r.2.1 I v=u5 (b6 v.1 0) 0:=if_pos h1
  refine j9 ?_; refine tO (CF rfl uu rfl uu (fun _=>by decide)) rfl rfl ?_; refine tO (IF (0) (fun _=>zo) (fun _=>zo) rfl uu) rfl rfl ?_; refine jc (AO (b6 v.1 0)) ?_; refine o0 ?_; exact d9.res1 (fn:=Tryz.f139) rfl (.i rfl (by rw[hs])<|.nil)
 ·intro h1
  obtain ⟨K,k1,k2,k3⟩:=yD hf hv hb (by rw[h1]; decide)
  refine i4 ?_; refine ja 5 ?_; refine l5 ?_; refine tO (EK (.cons rfl uu<|.nil)) rfl rfl ?_; refine d5.loanL (u:=5) (mZ r v (i1 r.2.1 I 64) (v.1.take (r.2.1.length-1)) K (D6 r.2.1 I v) hf.pol hI rfl hl hb k1 k2 k3) (.a rfl<|.se rfl rfl (ED hl)<|.a rfl<|.nil) rfl rfl ?_; refine o9 ?_; exact d9.res1 (fn:=Tryz.f139) rfl (.i rfl (by rfl)<|.nil)

theorem nJ (r:y9) (I:Iv) (x:s7) (hf:T3 r.2.1 I) (hI:i1 r.2.1 I 64=⟨r.2.2.2.1,r.2.2.2.2.1,r.2.2.2.2.2⟩) (hx:v7 250 x):Ct Tryz.prog 82 [r5 y1 r,b7 j2 x] (kI (D6 r.2.1 I (i8 r.2.1 x))):=by
 have hpo:=hf.pol
 have nx:=V3 hpo hx
 have rx:=DL (p:=r.2.1) (x:=x) hpo
 refine Ct.mk Tryz.func82 rfl Tryz.ntmps82 rfl (fun w J=>?_); refine i2 ?_; refine jb 3 rfl ?_; refine l5 ?_; refine tO (EL rfl uu) rfl rfl ?_; refine i2 ?_; refine Tr.cnd rfl ?_ ?_
 ·intro h1
  cases h1
 ·intro h1
  refine l5 ?_; refine jc (AN r x 250 hpo hx zo) ?_; refine jc (aA r I (i8 r.2.1 x) hf hI rx (nx.mono zo)) ?_; refine i4 ?_
  exact d9.res1 (fn:=Tryz.f82) rfl (.i rfl zi<|.nil)

theorem nF (r:y9) (I:Iv) (x y:s7) (hf:T3 r.2.1 I) (hI:i1 r.2.1 I 64=⟨r.2.2.2.1,r.2.2.2.2.1,r.2.2.2.2.2⟩) (hx:v7 250 x) (hy:v7 250 y):Ct Tryz.prog 83 [r5 y1 r,b7 j2 x,b7 j2 y] (kI (D6 r.2.1 I (j5 (i8 r.2.1 x) (i8 r.2.1 y)))):=by
 have hpo:=hf.pol
 have hk:250<=100000:=by omega
 have nx:=V3 hpo hx
 have ny:=V3 hpo hy
 have nn:=VP ny
 have nz:=MF nx nn
 have rx:=DL (p:=r.2.1) (x:=x) hpo
 have ry:=DL (p:=r.2.1) (x:=y) hpo
 have rz:=P9 rx ry
 refine Ct.mk Tryz.func83 rfl Tryz.ntmps83 rfl (fun w J=>?_); refine i2 ?_; refine jb 4 rfl ?_; refine jb 5 rfl ?_; refine l5 ?_; refine tO (EL rfl uu) rfl rfl ?_; refine i2 ?_; refine Tr.cnd rfl ?_ ?_
 ·intro h1
  cases h1
 ·intro h1
  refine j9 ?_; refine Tr.draw 9 q9 (by kernel_rfl) ?_; refine j9 ?_; refine jd (AN r x 250 hpo hx zo) ?_; refine i2 ?_; refine jd (AN r y 250 hpo hy zo) ?_; refine jd (SX (i8 r.2.1 y).1 (i8 r.2.1 y).2) ?_; refine jd (ND (i8 r.2.1 x) ((i8 r.2.1 y).1.map (fun z=>-z),(i8 r.2.1 y).2) (fun i=>Nat.le_trans (nx.c i) zo) (fun i=>Nat.le_trans (nn.c i) zo) (Nat.le_trans nx.d zo) (Nat.le_trans nn.d zo) nx.pos nn.pos) ?_; refine i9 ?_; refine jc (aA r I (o5 (i8 r.2.1 x) ((i8 r.2.1 y).1.map (fun z=>-z),(i8 r.2.1 y).2)) hf hI rz (nz.mono zo)) ?_
  refine i4 ?_
  exact d9.res1 (fn:=Tryz.f83) rfl (.i rfl zi<|.nil)

end Go.Fl

/- Divisors of polynomials with the leading coefficient 1, as the program and the reference look for them. No program in sight. -/
namespace Go.Fl
open Go
def P5 (p:List Int) (x:Int):Int:=p.foldr (fun c v=>v*x+c) 0
theorem TU {c x:Int} {p:List Int}:P5 (c::p) x=P5 p x*x+c:=rfl
def W8 (p:List Int) (x:Int) (k:Nat):Int:=P5 (p.drop (p.length-k)) x
theorem TW {p:List Int} {x:Int}:W8 p x 0=0:=by unfold W8; rw[Nat.sub_zero,List.drop_length]; rfl
theorem TV {p:List Int} {x:Int} {k:Nat} (hk:k<p.length):W8 p x (k+1)=W8 p x k*x+b6 p (p.length-1-k):=by unfold W8; rw[TM hk]; rfl
theorem qT {p:List Int} {x:Int}:W8 p x p.length=P5 p x:=by unfold W8; rw[Nat.sub_self,List.drop_zero]
theorem cE {p:List Int} {x:Int} (hp:∀i,(b6 p i).natAbs<=1000) (hx:x.natAbs<=1001):∀{k:Nat},k<=p.length->(W8 p x k).natAbs<=1002 ^ k
 | 0,_=>by rw[TW]; decide
 | k+1,hk=>by
  have h1:=cE hp hx (k:=k) zo
  rw[TV zo]
  have h2:=hp (p.length-1-k)
  have h3:(W8 p x k*x).natAbs<=1002 ^ k*1001:=U6 h1 hx
  have h4:1002 ^ (k+1)=1002 ^ k*1001+1002 ^ k:=by rw[Nat.pow_succ]; omega
  by_cases h:k=0
  ·subst h
   rw[TW,Int.zero_mul,Int.zero_add]
   omega
  ·have h5:1002<=1002 ^ k:=Nat.le_self_pow h 1002
   omega
theorem cD {x:Int}:∀{p:List Int},E7 x 1 p=(P5 p x,1)
 | []=>rfl
 | c::p=>by rw[E7,cD (p:=p),TU]; simp
theorem qS {p:List Int} {x:Int} (_:1<=p.length):P5 p x=EE (lP p) (p.length-1) x:=by
 have h1:=(OD (a:=x) (b:=1) (cs:=p)).2
 rw[cD] at h1
 simp only at h1
 rw[h1]
 unfold hm EE
 refine Q0 fun i _=>?_
 rw[Int.one_pow,Int.mul_one]
def FD (p:List Int):Prop:=p.length≠2/\((∃x,P5 p x=0)\/(p.length=5/\∃a b c d:Int,b6 p 3=a+c/\b6 p 2=b+d+a*c/\b6 p 1=a*d+b*c/\b6 p 0=b*d))
open Classical in
noncomputable def DJ (p:List Int):Bool:=if FD p then true else false
theorem PX {p:List Int} (h:FD p):DJ p=true:=if_pos h
theorem PW {p:List Int} (h:¬FD p):DJ p=false:=if_neg h
theorem wK {p:List Int} (h3:3<=p.length) (h:¬FD p):¬FE (lP p) (p.length-1):=by
 have e:∀i,i<p.length->lP p i=b6 p i:=fun i hi=>if_pos hi
 rintro (⟨x,hx⟩ | ⟨h4,a,b,c,d,q3,q2,q1,q0⟩)
 ·exact h ⟨by omega,.inl ⟨x,by rw[qS zo]; exact hx⟩⟩
 ·exact h ⟨by omega,.inr ⟨by omega,a,b,c,d,by rw[<- e 3 zo]; exact q3,by rw[<- e 2 zo]; exact q2,by rw[<- e 1 zo]; exact q1,by rw[<- e 0 zo]; exact q0⟩⟩
theorem wU {p:List Int} {x:Int} (hp:1<=p.length) (h:P5 p x=0):x∣b6 p 0:=by
 match p,hp with
 | c::p,_ =>
  rw[TU] at h
  show x∣c
  exact ⟨-P5 p x,by rw[Int.mul_neg,Int.mul_comm]; omega⟩
theorem wV {p:List Int} (hp:1<=p.length):P5 p 0=b6 p 0:=by
 match p,hp with
 | c::p,_=>rw[TU,Int.mul_zero,Int.zero_add]; rfl
theorem NQ {x y:Int} (h:x∣y) (hy:y≠0):x≠0/\x.natAbs<=y.natAbs:=by
 obtain ⟨q,rfl⟩:=h
 refine ⟨fun e=>hy (by rw[e,Int.zero_mul]),?_⟩
 rw[Int.natAbs_mul]
 exact Nat.le_mul_of_pos_right _ (by have:q≠0:=fun e=>hy (by rw[e,Int.mul_zero]); omega)
def Y5 (n:Int) (q:Int->Bool) (m:Nat):Prop:=∃d:Nat,1<=d/\d<m/\(d:Int)∣n/\(q d=true\/q (-(d:Int))=true)
theorem bW {n:Int} {q:Int->Bool} (hn:n≠0):Y5 n q (n.natAbs+1)↔∃x:Int,x∣n/\q x=true:=by
 constructor
 ·rintro ⟨d,h1,h2,h3,h4 | h4⟩
  ·exact ⟨d,h3,h4⟩
  ·exact ⟨-d,Int.neg_dvd.2 h3,h4⟩
 ·rintro ⟨x,h1,h2⟩
  obtain ⟨h3,h4⟩:=NQ h1 hn
  refine ⟨x.natAbs,by omega,by omega,Int.ofNat_dvd_left.2 (Int.natAbs_dvd_natAbs.2 h1),?_⟩
  rcases Int.natAbs_eq x with e | e
  ·left; rw[<- e]; exact h2
  ·right; rw[<- e]; exact h2
theorem yO {b d:Int} (hb:b≠0) (hd:d≠0):b.natAbs+d.natAbs<=(b*d).natAbs+1:=by
 rw[Int.natAbs_mul]
 obtain ⟨m,hm⟩:∃m,b.natAbs=m+1:=⟨b.natAbs-1,by omega⟩
 obtain ⟨n,hn⟩:∃n,d.natAbs=n+1:=⟨d.natAbs-1,by omega⟩
 rw[hm,hn,Nat.succ_mul,Nat.mul_succ]
 omega
theorem wA {p2 p3 a b d:Int} (h2:p2.natAbs<=1000) (h3:p3.natAbs<=1000) (hb:b≠0) (hd:d≠0) (h0:(b*d).natAbs<=1000) (h:b+d+a*(p3-a)=p2):a.natAbs<=2001:=by
 have h1:=yO hb hd
 by_cases e:p3-a=0
 ·omega
 ·have h4:(a*(p3-a)).natAbs<=2001:=by omega
  rw[Int.natAbs_mul] at h4
  have:=Nat.le_mul_of_pos_right a.natAbs (show 0<(p3-a).natAbs by omega)
  omega
def GU (p:List Int) (b:Int):Prop:=∃a d:Int,b6 p 0=b*d/\a*(d-b)=b6 p 1-b*b6 p 3/\b+d+a*(b6 p 3-a)=b6 p 2
theorem wE {p:List Int} (_:b6 p 0≠0):(∃b,b∣b6 p 0/\GU p b)↔∃a b c d:Int,b6 p 3=a+c/\b6 p 2=b+d+a*c/\b6 p 1=a*d+b*c/\b6 p 0=b*d:=by
 constructor
 ·rintro ⟨b,_,a,d,h1,h2,h3⟩
  refine ⟨a,b,b6 p 3-a,d,by omega,h3.symm,?_,h1⟩
  rw[Int.mul_sub] at h2 ⊢
  rw[Int.mul_comm b a]
  omega
 ·rintro ⟨a,b,c,d,h3,h2,h1,h0'⟩
  refine ⟨b,⟨d,h0'⟩,a,d,h0',?_,?_⟩
  ·rw[h1,h3,Int.mul_sub,Int.mul_add,Int.mul_comm b a]; omega
  ·rw[h2,h3,show a+c-a=c by omega]
open Classical in
noncomputable def BD (p:List Int) (b:Int):Bool:=if GU p b then true else false
theorem WO {p:List Int} {b:Int}:BD p b=true↔GU p b:=by unfold BD; split<;>simp_all
theorem fX {p:List Int} {b:Int} (h:¬GU p b):BD p b=false:=if_neg h
section
variable {p:List Int} {b d:Int}
theorem wF (hb:b≠0) (hd:b6 p 0=b*d) (hne:d-b≠0):BD p b=(decide ((b6 p 1-b*b6 p 3).tmod (d-b)=0)&&decide (b+d+(b6 p 1-b*b6 p 3).tdiv (d-b)*(b6 p 3-(b6 p 1-b*b6 p 3).tdiv (d-b))=b6 p 2)):=by
 have key:GU p b↔((b6 p 1-b*b6 p 3).tmod (d-b)=0/\b+d+(b6 p 1-b*b6 p 3).tdiv (d-b)*(b6 p 3-(b6 p 1-b*b6 p 3).tdiv (d-b))=b6 p 2):=by
  constructor
  ·rintro ⟨a,d',h1,h2,h3⟩
   have e:d'=d:=by
    have:b*d'=b*d:=by rw[<- h1,<- hd]
    exact Int.eq_of_mul_eq_mul_left hb this
   subst e
   rw[<- h2,Int.mul_tmod_left,Int.mul_tdiv_cancel _ hne]
   exact ⟨rfl,h3⟩
  ·rintro ⟨h1,h2⟩
   refine ⟨_,d,hd,?_,h2⟩
   have:=Int.mul_tdiv_add_tmod (b6 p 1-b*b6 p 3) (d-b)
   rw[h1,Int.add_zero,Int.mul_comm] at this
   exact this
 rw[<- Bool.decide_and,Bool.eq_iff_iff,WO,decide_eq_true_eq]
 exact key
theorem wB (hb:b≠0) (hd:b6 p 0=b*b) (h:b6 p 1≠b*b6 p 3):BD p b=false:=by
 refine fX ?_
 rintro ⟨a,d',h1,h2,h3⟩
 have e:d'=b:=Int.eq_of_mul_eq_mul_left hb (by rw[<- h1,<- hd])
 subst e
 rw[Int.sub_self,Int.mul_zero] at h2
 omega
theorem wD {a:Int} (hd:b6 p 0=b*b) (h:b6 p 1=b*b6 p 3) (ha:a*a-b6 p 3*a+b6 p 2-2*b=0):BD p b=true:=by
 refine WO.2 ⟨a,b,hd,by rw[Int.sub_self,Int.mul_zero]; omega,?_⟩
 rw[Int.mul_sub,Int.mul_comm a (b6 p 3)]
 omega
theorem wG (hb:b≠0) (hd:b6 p 0=b*b) (h0:(b6 p 0).natAbs<=1000) (h2:(b6 p 2).natAbs<=1000) (h3:(b6 p 3).natAbs<=1000) (h:∀a:Int,-3000<=a->a<=3000->a*a-b6 p 3*a+b6 p 2-2*b≠0):BD p b=false:=by
 refine fX ?_
 rintro ⟨a,d',h1,_,q3⟩
 have e:d'=b:=Int.eq_of_mul_eq_mul_left hb (by rw[<- h1,<- hd])
 subst e
 have hbd:=wA h2 h3 hb hb (by rw[<- h1]; exact h0) q3
 refine h a zo zo ?_
 rw[Int.mul_sub,Int.mul_comm a (b6 p 3)] at q3
 omega
end
theorem wM {p:List Int} (hl:3<=p.length) (h0:b6 p 0≠0):FD p↔Y5 (b6 p 0) (fun d=>decide (P5 p d=0)) ((b6 p 0).natAbs+1)\/(p.length=5/\Y5 (b6 p 0) (BD p) ((b6 p 0).natAbs+1)):=by
 rw[bW h0,bW h0]
 have e1:(∃x,x∣b6 p 0/\decide (P5 p x=0)=true)↔∃x,P5 p x=0:=⟨fun ⟨x,_,h⟩=>⟨x,of_decide_eq_true h⟩,fun ⟨x,h⟩=>⟨x,wU zo h,decide_eq_true h⟩⟩
 have e2:(∃x,x∣b6 p 0/\BD p x=true)↔∃b,b∣b6 p 0/\GU p b:=exists_congr fun x=>and_congr_right fun _=>WO
 rw[e1,e2,wE h0]
 unfold FD
 constructor
 ·rintro ⟨_,h⟩; exact h
 ·intro h; exact ⟨by omega,h⟩
end Go.Fl

/- Chains of remainders (Sturm), as the program and the reference compute them: one root between two fractions means different signs. No program in sight. -/
namespace Go.Fl
open Go
theorem EI {xs:List Int} {i:Nat}:lP xs i=b6 xs i:=by
 unfold lP
 split
 ·rfl
 ·rename_i h; rw[z6 zo]; rfl
def G9 (xs:List Int):Prop:=l7 xs=xs
theorem zB {xs:List Int}:G9 (l7 xs):=by
 by_cases h:l7 xs=[]
 ·unfold G9; rw[h]; rfl
 ·obtain ⟨ys,y,hy⟩:∃ys y,l7 xs=ys++[y]:=⟨_,_,(List.dropLast_concat_getLast h).symm⟩
  have hl:=JA h
  have hy0:y≠0:=by
   have e:(l7 xs).getLast h=y:=by simp[hy]
   rw[<- e]; exact hl
  unfold G9
  rw[hy]; exact XJ hy0
theorem G9.top {xs:List Int} (h:G9 xs) (h0:xs≠[]):1<=xs.length/\b6 xs (xs.length-1)≠0:=by
 have hl:1<=xs.length:=List.length_pos_iff.2 h0
 refine ⟨hl,?_⟩
 have h1:l7 xs≠[]:=by rw[h]; exact h0
 have h2:=JA h1
 have e:(l7 xs).getLast h1=b6 xs (xs.length-1):=by
  simp only[show l7 xs=xs from h]
  rw[List.getLast_eq_getElem]
  have:xs.length-1<xs.length:=by omega
  simp[b6,this]
 rw[<- e]; exact h2
theorem G9.neg {xs:List Int} (h:G9 xs):G9 (xs.map fun z=>-z):=by unfold G9; rw[XH,h]
theorem iY {xs:List Int} (h:b6 xs (xs.length-1)≠0):G9 xs:=by
 unfold G9
 have:=EV (xs:=xs) (m:=xs.length) (Nat.le_refl _) (fun i h1 h2=>by omega) (.inr h)
 rw[this,List.take_length]
def N8 (q r:List Int):List Int:=n6 r.length fun i=>b6 r i*(b6 q (q.length-1)*b6 q (q.length-1))+(if r.length-q.length<=i then -(b6 r (r.length-1)*b6 q (q.length-1)*b6 q (i-(r.length-q.length))) else 0)
def M5 (q r:List Int):List Int:=l7 (N8 q r)
theorem JR {q r:List Int}:(N8 q r).length=r.length:=t7
theorem kX {q r:List Int} {i:Nat} (hq:1<=q.length) (hr:q.length<=r.length) (hi:r.length-1<=i):b6 (N8 q r) i=0:=by
 by_cases h:i<r.length
 ·have e:i=r.length-1:=by omega
  subst e
  unfold N8
  rw[s8 h,if_pos zo,show r.length-1-(r.length-q.length)=q.length-1 by omega,Int.mul_assoc]; omega
 ·rw[z6 (by rw[JR]; omega)]; rfl
theorem HA {q r:List Int} (hq:1<=q.length) (hr:q.length<=r.length):(M5 q r).length<=r.length-1:=jC fun _ hi=>kX hq hr hi
def G2 (q:List Int):Nat->List Int->List Int
 | 0,r=>r
 | f+1,r=>if r.length<q.length then r else G2 q f (M5 q r)
theorem RS {q:List Int} (hq:1<=q.length):∀{f:Nat} {r:List Int},r.length<=f->G2 q f r=G2 q r.length r
 | 0,r,h=>by rw[show r.length=0 by omega]
 | f+1,r,h=>by
  by_cases hl:r.length<q.length
  ·rw[G2,if_pos hl]
   cases e:r.length with
   | zero=>rfl
   | succ m=>rw[G2,if_pos hl]
  ·have h1:=HA hq (r:=r) zo
   obtain ⟨m,hm⟩:∃m,r.length=m+1:=⟨r.length-1,by omega⟩
   rw[hm,G2,G2,if_neg hl,if_neg hl,RS hq (f:=f) zo,RS hq (f:=m) zo]
theorem kR {q r:List Int} (h:r.length<q.length):G2 q r.length r=r:=by
 cases e:r.length with
 | zero=>rfl
 | succ m=>rw[G2,if_pos h]
theorem kS {q r:List Int} (hq:1<=q.length) (h:q.length<=r.length):G2 q r.length r=G2 q (M5 q r).length (M5 q r):=by
 have h1:=HA hq h
 obtain ⟨m,hm⟩:∃m,r.length=m+1:=⟨r.length-1,by omega⟩
 rw[hm,G2,if_neg zo,RS hq zo]
theorem RR {q:List Int} (hq:1<=q.length) (P:List Int->Prop) (hP:∀r,q.length<=r.length->P r->P (M5 q r)):∀{f:Nat} {r:List Int},r.length<=f->P r->P (G2 q f r)/\(G2 q f r).length<q.length
 | 0,r,h,hr=>⟨hr,by rw[G2]; omega⟩
 | f+1,r,h,hr=>by
  by_cases hl:r.length<q.length
  ·rw[G2,if_pos hl]; exact ⟨hr,hl⟩
  ·have h1:=HA hq (r:=r) zo
   rw[G2,if_neg hl]
   exact RR hq P hP zo (hP r zo hr)
def against (p q:List Int):List Int:=(G2 q p.length p).map fun z=>-z
theorem YI {q r:List Int} {X B:Nat} (hr:∀i,dl (b6 r i)<=X) (hq:∀i,dl (b6 q i)<=B) (i:Nat):dl (b6 (N8 q r) i)<=X+(2*B+1):=by
 by_cases hi:i<r.length
 ·unfold N8
  rw[s8 hi]
  have h1:=hr i
  have h2:=hr (r.length-1)
  have h3:=hq (q.length-1)
  have h4:=hq (i-(r.length-q.length))
  have m1:=w8 (b6 q (q.length-1)) (b6 q (q.length-1))
  have m2:=w8 (b6 r i) (b6 q (q.length-1)*b6 q (q.length-1))
  have m3:=w8 (b6 r (r.length-1)) (b6 q (q.length-1))
  have m4:=w8 (b6 r (r.length-1)*b6 q (q.length-1)) (b6 q (i-(r.length-q.length)))
  split
  ·have:=T9 (b6 r i*(b6 q (q.length-1)*b6 q (q.length-1))) (-(b6 r (r.length-1)*b6 q (q.length-1)*b6 q (i-(r.length-q.length))))
   rw[K6] at this
   omega
  ·rw[Int.add_zero]; omega
 ·rw[z6 (by rw[JR]; omega)]
  show dl 0<=_
  rw[F5.2 rfl]; omega
theorem RT {p q:List Int} {A B:Nat} (hq:1<=q.length) (hp:G9 p) (hA:∀i,dl (b6 p i)<=A) (hB:∀i,dl (b6 q i)<=B) (h5:p.length<=5):G9 (against p q)/\(against p q).length<q.length/\∀i,dl (b6 (against p q) i)<=A+5*(2*B+1):=by
 obtain ⟨⟨h1,h2⟩,h3⟩:=RR hq (fun r=>G9 r/\r.length<=p.length/\∀i,dl (b6 r i)<=A+(p.length-r.length)*(2*B+1)) (fun r hl ⟨_,hn,hr⟩=>by
  have e:=HA hq hl
  refine ⟨zB,by omega,fun i=>?_⟩
  unfold M5 at e ⊢
  rw[FT]
  have:=YI hr hB i
  have k:=Nat.mul_le_mul_right (2*B+1) (show p.length-r.length+1<=p.length-(l7 (N8 q r)).length by omega)
  rw[Nat.succ_mul] at k
  omega) (f:=p.length) (r:=p) (Nat.le_refl _) ⟨hp,Nat.le_refl _,fun i=>by have:=hA i; omega⟩
 refine ⟨h1.neg,by unfold against; rw[List.length_map]; exact h3,fun i=>?_⟩
 unfold against
 rw[K8,K6]
 have k:=Nat.mul_le_mul_right (2*B+1) (show p.length-(G2 q p.length p).length<=5 by omega)
 have:=h2.2 i
 omega
theorem kW {q r:List Int} (hr:q.length<=r.length):lP (M5 q r)=L8 (b6 q (q.length-1)*b6 q (q.length-1)) (b6 r (r.length-1)*b6 q (q.length-1)) (r.length-q.length) (lP r) (lP q):=by
 funext i
 unfold L8 F2
 rw[EI,EI,EI]
 unfold M5
 rw[FT]
 by_cases hi:i<r.length
 ·unfold N8
  rw[s8 hi,Int.mul_comm (b6 r i)]
  split
  ·rw[Int.sub_eq_add_neg]
  ·rw[Int.mul_zero,Int.sub_zero,Int.add_zero]
 ·rw[z6 (by rw[JR]; omega),z6 (xs:=r) zo]
  have e:b6 q (i-(r.length-q.length))=0:=z6 zo
  rw[e]
  show (0:Int)=_*0-_
  split<;>simp
theorem N3.neg {p f g:t9} (h:N3 p f g):N3 p (fun i=>-f i) g:=by
 obtain ⟨s,q1,q2,d,h1,h2,h3,h4⟩:=h
 refine ⟨s,fun i=>-1*q1 i,q2,d,h1,fun i hi=>by show -1*q1 i=0; rw[h2 i hi]; rfl,h3,fun k=>?_⟩
 have e1:(fun i=>-f i)=fun i=>-1*f i:=by funext i; omega
 rw[e1,HF,JZ,h4 k]
 show _=-1*(-1*o8 q1 f k)+_
 omega
theorem N3.against {p:t9} {a b:List Int} (hb:1<=b.length) (h0:b6 b (b.length-1)≠0) (h:N3 p (lP a) (lP b)):N3 p (lP (Go.Fl.against a b)) (lP b):=by
 have:=(RR hb (fun r=>N3 p (lP r) (lP b)) (fun r hl hr=>by rw[kW hl]; exact hr.stp (Int.mul_ne_zero h0 h0)) (f:=a.length) (r:=a) (Nat.le_refl _) h).1.neg
 have e:lP (Go.Fl.against a b)=fun i=>-lP (G2 b a.length a) i:=by
  funext i
  rw[EI,EI]
  unfold Go.Fl.against
  exact K8
 rw[e]; exact this
theorem MO (l:List Int):∃B:Nat,∀i,dl (b6 l i)<=B:=by
 induction l with
 | nil=>exact ⟨0,fun i=>by rw[OW]; show dl 0<=0; rw[F5.2 rfl]; omega⟩
 | cons x l ih =>
  obtain ⟨B,hB⟩:=ih
  refine ⟨max (dl x) B,fun i=>?_⟩
  match i with
  | 0=>exact Nat.le_max_left _ _
  | i+1=>exact Nat.le_trans (hB i) (Nat.le_max_right _ _)
def I3:Nat->List Int->List Int->List (List Int)
 | 0,_,_=>[]
 | f+1,a,b=>if against a b=[] then [] else against a b::I3 f b (against a b)
def J8 (p:List Int):List Int:=n6 (p.length-1) fun i=>b6 p (i+1)*((i:Int)+1)
def B6 (p:List Int):List (List Int):=p::J8 p::I3 5 p (J8 p)
theorem SK:∀{f:Nat} {a b:List Int} {m:Nat},b.length<=f->G9 a->G9 b->b≠[]->a.length<=5->b.length<=5->2<=m->m<=(a::b::I3 f a b).length ->
  against (b6 (a::b::I3 f a b) (m-2)) (b6 (a::b::I3 f a b) (m-1))=(if m<(a::b::I3 f a b).length then b6 (a::b::I3 f a b) m else [])/\(m<(a::b::I3 f a b).length->b6 (a::b::I3 f a b) m≠[])
 | 0,a,b,m,h,_,_,h0,_,_,_,_=>absurd (List.length_eq_zero_iff.1 zo) h0
 | f+1,a,b,m,h,ta,tb,h0,ha,hb,h2,hm=>by
  obtain ⟨B,hB⟩:∃B:Nat,∀i,dl (b6 b i)<=B:=MO b
  obtain ⟨A,hA⟩:∃A:Nat,∀i,dl (b6 a i)<=A:=MO a
  obtain ⟨r1,r2,_⟩:=RT (List.length_pos_iff.2 h0) ta hA hB ha
  rw[I3] at hm ⊢
  by_cases e:against a b=[]
  ·rw[if_pos e] at hm ⊢
   have:m=2:=by simp at hm; omega
   subst this
   exact ⟨by rw[if_neg (by simp)]; exact e,fun h=>by simp at h⟩
  ·rw[if_neg e] at hm ⊢
   by_cases h3:m=2
   ·subst h3
    exact ⟨by rw[if_pos (by simp)]; rfl,fun _=>e⟩
   ·have ih:=SK (f:=f) (a:=b) (b:=against a b) (m:=m-1) zo tb r1 e hb zo zo (by simp at hm ⊢; omega)
    obtain ⟨n,rfl⟩:∃n,m=n+3:=⟨m-3,by omega⟩
    simp only[show n+3-1=n+2 by omega,show n+2-2=n by omega,show n+2-1=n+1 by omega,show n+3-2=n+1 by omega] at ih ⊢
    have s:∀(x:List Int) (l:List (List Int)) (k:Nat),b6 (x::l) (k+1)=b6 l k:=fun _ _ _=>rfl
    have hl:(n+3<(a::b::against a b::I3 f b (against a b)).length)=(n+2<(b::against a b::I3 f b (against a b)).length):=propext ⟨fun h=>by simp at h ⊢; omega,fun h=>by simp at h ⊢; omega⟩
    rw[s a,s a,s a]
    simp only[hl]
    exact ih
def YS (A B:Nat):Nat->Nat
 | 0=>A
 | j+1=>YS B (A+5*(2*B+1)) j
theorem lN:∀{f:Nat} {a b:List Int} {A B:Nat} {j:Nat},G9 a->G9 b->b≠[]->a.length<=5->b.length<a.length->(∀i,dl (b6 a i)<=A)->(∀i,dl (b6 b i)<=B)->j<(a::b::I3 f a b).length ->
  G9 (b6 (a::b::I3 f a b) j)/\(b6 (a::b::I3 f a b) j).length+j<=a.length/\∀i,dl (b6 (b6 (a::b::I3 f a b) j) i)<=YS A B j:=by
 intro f
 induction f with
 | zero =>
  intro a b A B j ta tb h0 ha hb hA hB hj
  rw[I3] at hj ⊢
  match j,hj with
  | 0,_=>exact ⟨ta,by show a.length+0<=_; omega,hA⟩
  | 1,_=>exact ⟨tb,by show b.length+1<=_; omega,hB⟩
  | j+2,hj=>exact absurd hj (by show ¬j+2<2; omega)
 | succ f ih =>
  intro a b A B j ta tb h0 ha hb hA hB hj
  obtain ⟨r1,r2,r3⟩:=RT (List.length_pos_iff.2 h0) ta hA hB ha
  match j,hj with
  | 0,_=>exact ⟨ta,by show a.length+0<=_; omega,hA⟩
  | 1,_=>exact ⟨tb,by show b.length+1<=_; omega,hB⟩
  | j+2,hj =>
   rw[I3] at hj ⊢
   by_cases e:against a b=[]
   ·rw[if_pos e] at hj
    exact absurd (show j+2<2 from hj) zo
   ·rw[if_neg e] at hj ⊢
    have s:∀(x:List Int) (l:List (List Int)) (k:Nat),b6 (x::l) (k+1)=b6 l k:=fun _ _ _=>rfl
    have q:=ih (a:=b) (b:=against a b) (A:=B) (B:=A+5*(2*B+1)) (j:=j+1) tb r1 e zo r2 hB r3 (by simp at hj ⊢; omega)
    rw[s a]
    obtain ⟨q1,q2,q3⟩:=q
    exact ⟨q1,by omega,q3⟩
theorem YY:∀{f:Nat} {a b:List Int} {p:t9},b.length<=f->G9 a->G9 b->b≠[]->a.length<=5->b.length<=5->N3 p (lP a) (lP b)->∃e l,a::b::I3 f a b=l++[e]/\G9 e/\e≠[]/\e.length<=b.length/\N3 p (lP []) (lP e)
 | 0,a,b,p,h,_,_,h0,_,_,_=>absurd (List.length_eq_zero_iff.1 zo) h0
 | f+1,a,b,p,h,ta,tb,h0,ha,hb,hk=>by
  obtain ⟨B,hB⟩:=MO b
  obtain ⟨A,hA⟩:=MO a
  obtain ⟨t1,t2⟩:=tb.top h0
  obtain ⟨r1,r2,_⟩:=RT t1 ta hA hB ha
  have hk2:=hk.against t1 t2
  rw[I3]
  by_cases e:against a b=[]
  ·rw[if_pos e]
   rw[e] at hk2
   exact ⟨b,[a],rfl,tb,h0,Nat.le_refl _,hk2⟩
  ·rw[if_neg e]
   obtain ⟨x,l,q1,q2,q3,q4,q5⟩:=YY (f:=f) (a:=b) (b:=against a b) (p:=p) zo tb r1 e hb zo hk2.swap
   exact ⟨x,a::l,by rw[q1]; rfl,q2,q3,by omega,q5⟩
def B0 (st:Nat×Int) (s:Int):Nat×Int:=(if s*st.2<0 then st.1+1 else st.1,if s≠0 then s else st.2)
def G5 (l:List Int):Nat×Int:=l.foldl B0 (0,0)
theorem lR {l:List Int} {k:Nat} (hk:k<l.length):G5 (l.take (k+1))=B0 (G5 (l.take k)) (b6 l k):=by
 unfold G5
 rw[Y1 hk,List.foldl_append]; rfl
theorem YZ {l:List Int}:(G5 l).1<=l.length:=by
 have key:∀(l:List Int) (st:Nat×Int),(l.foldl B0 st).1<=st.1+l.length:=by
  intro l
  induction l with
  | nil=>intro st; exact Nat.le_refl _
  | cons s l ih =>
   intro st
   rw[List.foldl_cons]
   have:=ih (B0 st s)
   have h1:(B0 st s).1<=st.1+1:=by unfold B0; simp only; split<;>omega
   rw[List.length_cons]; omega
 have:=key l (0,0)
 unfold G5
 omega
theorem ZA:∀{l:List Int} {st:Nat×Int},(∀s∈l,s=-1\/s=0\/s=1)->(st.2=-1\/st.2=1)->((l.foldl B0 st).2=-1\/(l.foldl B0 st).2=1)/\(((l.foldl B0 st).1+st.1)%2=0↔(l.foldl B0 st).2=st.2)
 | [],st,_,h=>⟨h,⟨fun _=>rfl,fun _=>by simp only[List.foldl_nil]; omega⟩⟩
 | s::l,st,hs,h=>by
  rw[List.foldl_cons]
  have hs1:=hs s List.mem_cons_self
  have h2:(B0 st s).2=-1\/(B0 st s).2=1:=by unfold B0; simp only; split<;>omega
  obtain ⟨q1,q2⟩:=ZA (l:=l) (st:=B0 st s) (fun x hx=>hs x (List.mem_cons_of_mem _ hx)) h2
  refine ⟨q1,?_⟩
  have h3:((B0 st s).1=st.1/\(B0 st s).2=st.2)\/((B0 st s).1=st.1+1/\(B0 st s).2=-st.2):=by
   unfold B0; simp only
   rcases hs1 with rfl | rfl | rfl
   ·rcases h with e | e
    ·rw[e]; left; simp
    ·rw[e]; right; simp
   ·left; simp
   ·rcases h with e | e
    ·rw[e]; right; simp
    ·rw[e]; left; simp
  generalize (List.foldl B0 (B0 st s) l).1=n at *
  generalize (List.foldl B0 (B0 st s) l).2=v at *
  rcases h3 with ⟨e1,e2⟩ | ⟨e1,e2⟩<;>rw[e1,e2] at q2<;>omega
theorem lO {s e:Int} {l:List Int} (hs:s=-1\/s=1) (he:e=-1\/e=1) (hl:∀x∈l,x=-1\/x=0\/x=1) (hlast:s::l=[s]/\e=s\/∃l',s::l=l'++[e]):(G5 (s::l)).1%2=0↔e=s:=by
 have h0:B0 (0,0) s=(0,s):=by unfold B0; simp only[Int.mul_zero]; rcases hs with rfl | rfl<;>rfl
 unfold G5
 rw[List.foldl_cons,h0]
 obtain ⟨q1,q2⟩:=ZA (st:=(0,s)) hl hs
 have hv:(l.foldl B0 (0,s)).2=e:=by
  rcases hlast with ⟨h1,h2⟩ | ⟨l',h1⟩
  ·have:l=[]:=by simpa using h1
   subst this; exact h2.symm
  ·rcases List.eq_nil_or_concat l with rfl | ⟨l2,x,rfl⟩
   ·have:l'=[]/\s=e:=by
     have hlen:=congrArg List.length h1
     simp at hlen
     subst hlen
     simp at h1
     exact ⟨rfl,h1⟩
    exact this.2
   ·rw[List.concat_eq_append] at h1 ⊢
    have hx:x=e:=by
     have h2:(s::l2++[x]).getLast?=(l'++[e]).getLast?:=congrArg List.getLast? h1
     rw[List.getLast?_concat,List.getLast?_concat] at h2
     exact Option.some.inj h2
    subst hx
    rw[List.foldl_append]
    show (B0 _ x).2=x
    unfold B0
    simp only
    rw[if_pos zo]
 rw[hv] at q2
 simpa using q2
def R1 (p:List Int) (a b:Int):List Int:=(B6 p).map fun q=>y6 (E7 a b q).1
theorem W6 {p:List Int}:(J8 p).length=p.length-1:=t7
theorem TN {p:List Int} {i:Nat} (h:i<p.length-1):b6 (J8 p) i=b6 p (i+1)*((i:Int)+1):=s8 h
section
variable {p:List Int} (h3:3<=p.length) (h5:p.length<=5) (h1:b6 p (p.length-1)=1) (hs:∀i,(b6 p i).natAbs<=1000)
include h3 h5 h1
theorem NN:G9 p/\G9 (J8 p)/\J8 p≠[]:=by
 refine ⟨iY zo,iY ?_,fun e=>?_⟩
 ·rw[W6,TN zo,show p.length-1-1+1=p.length-1 by omega,h1]; omega
 ·have:=congrArg List.length e
  rw[W6] at this
  simp at this; omega
include hs
theorem bU:(∀i,dl (b6 p i)<=1)/\∀i,dl (b6 (J8 p) i)<=1:=by
 refine ⟨fun i=>U0 (by have:=hs i; have:=h3; have:=h1; simp[BP]; omega),fun i=>?_⟩
 by_cases hi:i<p.length-1
 ·rw[TN hi]
  have h2:(b6 p (i+1)*((i:Int)+1)).natAbs<=1000*5:=U6 (hs _) zo
  exact U0 (by simp[BP]; omega)
 ·rw[z6 (by rw[W6]; omega)]; show dl 0<=1; rw[F5.2 rfl]; omega
theorem YW {j:Nat} (hj:j<(B6 p).length):G9 (b6 (B6 p) j)/\(b6 (B6 p) j).length+j<=p.length/\∀i,dl (b6 (b6 (B6 p) j) i)<=1681:=by
 obtain ⟨t1,t2,t3⟩:=NN h3 h5 h1
 obtain ⟨d1,d2⟩:=bU h3 h5 h1 hs
 have hj':j<(p::J8 p::I3 5 p (J8 p)).length:=hj
 obtain ⟨q1,q2,q3⟩:=lN (f:=5) (A:=1) (B:=1) t1 t2 t3 h5 (by rw[W6]; omega) d1 d2 hj'
 refine ⟨q1,q2,fun i=>Nat.le_trans (q3 i) ?_⟩
 have:j<=5:=by omega
 by_cases h:j=5
 ·have hl:(b6 (p::J8 p::I3 5 p (J8 p)) j)=[]:=List.length_eq_zero_iff.1 zo
  exfalso
  have hn:=(SK (f:=5) (a:=p) (b:=J8 p) (m:=j) (by rw[W6]; omega) t1 t2 t3 h5 (by rw[W6]; omega) zo zo).2 hj'
  exact hn hl
 ·rcases (show j=0\/j=1\/j=2\/j=3\/j=4 by omega) with rfl | rfl | rfl | rfl | rfl<;>decide
omit hs in
theorem SJ {m:Nat} (h2:2<=m) (hm:m<=(B6 p).length):against (b6 (B6 p) (m-2)) (b6 (B6 p) (m-1))=(if m<(B6 p).length then b6 (B6 p) m else [])/\(m<(B6 p).length->b6 (B6 p) m≠[]):=by
 obtain ⟨t1,t2,t3⟩:=NN h3 h5 h1
 exact SK (f:=5) (by rw[W6]; omega) t1 t2 t3 h5 (by rw[W6]; omega) h2 hm
omit hs in
theorem YX {m:Nat} (hm:m<(B6 p).length):b6 (B6 p) m≠[]:=by
 obtain ⟨t1,t2,t3⟩:=NN h3 h5 h1
 match m,hm with
 | 0,_=>show p≠[]; intro e; rw[e] at h3; simp at h3
 | 1,_=>exact t3
 | m+2,hm=>exact (SJ h3 h5 h1 zo zo).2 hm
theorem lM:(B6 p).length<=5:=by
 refine Classical.byContradiction fun hn=>?_
 have q:=(YW h3 h5 h1 hs (j:=5) zo).2.1
 exact YX h3 h5 h1 (m:=5) zo (List.length_eq_zero_iff.1 zo)
omit hs in
theorem yL (hred:¬FE (lP p) (p.length-1)) {lo hi den:Int} (hd:0<den) (hr:((G5 (R1 p lo den)).1:Int)-(G5 (R1 p hi den)).1=1):y6 (B1 p lo den)*y6 (B1 p hi den)<0:=by
 obtain ⟨t1,t2,t3⟩:=NN h3 h5 h1
 have hP1:lP p (p.length-1)=1:=by rw[EI,h1]
 have hbk:N3 (lP p) (lP p) (lP (J8 p)):=by
  refine ⟨1,AA,O5,0,by decide,fun i hi=>by unfold AA; rw[if_neg zo],fun i hi=>rfl,fun k=>?_⟩
  rw[MW,EA]; unfold O5; omega
 obtain ⟨e,l,q1,q2,q3,q4,q5⟩:=YY (f:=5) (by rw[W6]; omega) t1 t2 t3 h5 (by rw[W6]; omega) hbk
 obtain ⟨e1,e2⟩:=q2.top q3
 rw[W6] at q4
 have hel:e.length=1:=by
  refine Classical.byContradiction fun hn=>hred (TH zo zo HU hP1 ?_)
  obtain ⟨s,g1,g2,d,s0,dg1,dg2,hs⟩:=q5
  refine ⟨s,lP e,g2,e.length-1,d,s0,by omega,by omega,HU,by rw[EI]; exact e2,dg2,fun k=>?_⟩
  have hn:o8 g1 (lP [])=O5:=by
   have:lP []=O5:=by funext i; rw[EI]; rfl
   rw[this,HE,EA]
  rw[hs k,hn,HE (f:=lP e)]
  unfold O5; omega
 obtain ⟨c,rfl⟩:∃c,e=[c]:=List.length_eq_one_iff.1 hel
 have hc:c≠0:=e2
 have hcv:∀a b:Int,(E7 a b [c]).1=c:=fun a b=>by simp[E7]
 have hhv:∀a:Int,B1 p a den=(E7 a den p).1:=fun a=>(OD (a:=a) (b:=den) (cs:=p)).2.symm
 have hnr:∀a:Int,B1 p a den≠0:=fun a=>eQ zo zo HU hP1 hred hd
 have sg1:∀z:Int,y6 z=-1\/y6 z=0\/y6 z=1:=fun z=>by rcases CL z with h | h | h<;>omega
 have sg2:∀z:Int,z≠0->y6 z=-1\/y6 z=1:=fun z hz=>by rcases CL z with h | h | h<;>omega
 have key:∀a:Int,(G5 (R1 p a den)).1%2=0↔y6 c=y6 (B1 p a den):=fun a=>by
  have hsl:R1 p a den=y6 (B1 p a den)::((J8 p::I3 5 p (J8 p)).map fun q=>y6 (E7 a den q).1):=by rw[hhv]; rfl
  rw[hsl]
  refine lO (sg2 _ (hnr a)) (sg2 _ hc) (fun x hx=>?_) (.inr ⟨l.map fun q=>y6 (E7 a den q).1,?_⟩)
  ·obtain ⟨q,_,rfl⟩:=List.mem_map.1 hx
   exact sg1 _
  ·rw[<- hsl]
   unfold R1 B6
   rw[q1,List.map_append,List.map_cons,List.map_nil,hcv]
 have k1:=key lo
 have k2:=key hi
 have a1:=sg2 _ (hnr lo)
 have a2:=sg2 _ (hnr hi)
 have a3:=sg2 _ hc
 have hne:y6 (B1 p lo den)≠y6 (B1 p hi den):=fun e=>by
  rw[e] at k1
  by_cases q:y6 c=y6 (B1 p hi den)
  ·have:=k1.2 q; have:=k2.2 q; omega
  ·have u1:¬(G5 (R1 p lo den)).1%2=0:=fun h=>q (k1.1 h)
   have u2:¬(G5 (R1 p hi den)).1%2=0:=fun h=>q (k2.1 h)
   omega
 rcases a1 with e1 | e1<;>rcases a2 with e2 | e2<;>rw[e1,e2]<;>first | decide | exact absurd (e1.trans e2.symm) hne
end
end Go.Fl

/- Contracts: values of polynomials, divisors. -/
namespace Go.Fl
open Go Go.Proofs
open d5 renaming op->tO
open i6 renaming op->rO
set_option maxRecDepth 100000

open Classical in
noncomputable def NO (n:Int) (q:Int->Bool) (m:Nat):Bool:=if Y5 n q m then true else false
theorem NP {n:Int} {q:Int->Bool} {m:Nat}:NO n q m=true↔Y5 n q m:=by unfold NO; split<;>simp_all
theorem qG {n:Int} {q:Int->Bool} {m:Nat} (h:¬Y5 n q m):NO n q m=false:=if_neg h
theorem qO {n:Int} {q:Int->Bool} {m:Nat} (h:¬Y5 n q m) (h2:¬((m:Int)∣n/\(q m=true\/q (-(m:Int))=true))):¬Y5 n q (m+1):=fun ⟨d,h3,h4,h5,h6⟩=>by
 by_cases e:d=m
 ·subst e; exact h2 ⟨h5,h6⟩
 ·exact h ⟨d,h3,by omega,h5,h6⟩
theorem cF {p:List Int} {x:Int} (hp:∀i,(b6 p i).natAbs<=1000) (hx:x.natAbs<=1001) (h5:p.length<=5) {k:Nat} (hk:k<=p.length):-1020000000000000<=W8 p x k/\W8 p x k<=1020000000000000:=by
 have h1:=cE hp hx hk
 have h2:1002 ^ k<=1002 ^ 5:=Nat.pow_le_pow_right zo zo
 have h3:(1002:Nat) ^ 5=1010040080080032:=by decide
 omega
theorem nX (p:List Int) (x:Int) (h5:p.length<=5) (hs:∀i,(b6 p i).natAbs<=1000) (hx:x.natAbs<=1001):Ct Tryz.prog 211 [b7 (eL eI) p,kI x] (kI (P5 p x)):=by
 refine CtM.mk Tryz.func211 rfl Tryz.ntmps211 rfl (fun w J=>?_); refine i2 ?_; refine jb 3 rfl ?_; refine o0 ?_; refine ja 5 ?_; refine l5 ?_; refine tO (j7 (fun hp=>ZQ _) (.a rfl uu<|.nil)) rfl rfl ?_; refine j9 ?_
 refine Tr.back (e:=eI) (xs:=p) YQ [⟨3,true,_,_⟩,⟨4,true,_,_⟩,⟨5,true,_,_⟩,⟨9,true,_,_⟩] [3,5] (fun k=>[⟨3,[],j3 [kI x]⟩,⟨5,[],j3 [kI (W8 p x k)]⟩]) (fun k=>[⟨3,[],j3 [kI x]⟩,⟨5,[],j3 [kI (W8 p x k)]⟩]) (fun k=>True) (fun k=>False) (d7.mk (.k rfl rfl<|.k rfl rfl<|.k rfl rfl<|.k rfl rfl<|.nil) (.k rfl<|.e (by rw[TW]) rfl<|.nil) rfl) rfl rfl (fun _=>rfl) (fun _=>rfl) (fun _=>inferInstance) (fun _=>inferInstance) rfl zi ?_ ?_ ?_
 ·intro k hk9 hR9 l9 w9 J9 b9 bks9
  refine jn ?_
  have hb1:=cF hs hx h5 (k:=k) zo
  have hb2:=cF hs hx h5 (k:=k+1) zo
  rw[TV zo] at hb2
  have hb3:=hs (p.length-1-k)
  refine j9 ?_; refine g8.asg (fun w1009 J1009 b1009=>?_); refine jn ?_; refine v6 ?_; exact g8.rnd trivial (d7.mk (zk) (.k rfl<|.e (by rw[TV zo]) rfl<|.nil) rfl)
 ·intro hE9
  refine je ?_; refine o9 ?_; refine d9.mk ?_; exact d9.res1 (fn:=Tryz.f211) rfl (.i rfl (by rw[qT])<|.nil)
 ·intro k hk9 hX9
  exact absurd hX9 id

theorem ZT (n:Int) (f:Int->Bool) (hn:n.natAbs<=1000) (h0:n≠0):Ct Tryz.prog 209 [kI n,HR Tryz.prog (fun x:Int=>x∣n) (fun x:Int=>[kI x]) (fun x:Int=>kB (f x))] (kB (NO n f (n.natAbs+1))):=by
 refine Ct.mk Tryz.func209 rfl Tryz.ntmps209 rfl (fun w J=>?_); refine C6 ?_
 refine Tr.for1 (σ:=Nat) [⟨0,true,_,_⟩,⟨1,true,_,_⟩] [] (fun k=>[⟨5,true,[],kI (k:Int)⟩]) (fun k=>[]) (fun k=>(1<=k/\k<=n.natAbs+1)/\¬Y5 n f k) (fun k=>¬Y5 n f (n.natAbs+1)) (fun k=>n.natAbs+1-k) (1) ⟨by omega,fun ⟨d,h1,h2,_⟩=>by omega⟩ (d7.mk (.i rfl zi<|zk) (.nil) rfl) ?_ ?_
 ·rintro k ⟨hk,hR⟩
  refine jn ?_; refine n7 ?_; refine tO (FW rfl uu (fun _=>zo)) rfl rfl ?_; refine tO (fG rfl uu rfl uu) rfl rfl ?_; refine j9 ?_; refine jq ?_ ?_
  ·intro h2
   refine l6 ?_; refine tO (EN rfl uu rfl uu (fun _=>zo)) rfl rfl ?_; refine i4 ?_; refine d5.gd rfl rfl rfl (VZ (k:Int) rfl id (fun hp=>by simp at hp; exact Int.dvd_of_tmod_eq_zero hp) (.a rfl id<|.nil)) rfl rfl ?_; refine j9 ?_; refine d5.gd rfl rfl rfl (FW rfl id (fun hp=>by simp at hp; omega)) rfl rfl ?_; refine d5.gd rfl rfl rfl (VZ (-(k:Int)) rfl id (fun hp=>by have hp:=rG hp; simp at hp; exact Int.neg_dvd.2 (Int.dvd_of_tmod_eq_zero hp)) (.a rfl id<|.nil)) rfl rfl ?_; refine d5.gd rfl rfl rfl (WD rfl id rfl (fun hp h=>UC (id hp) h)) rfl rfl ?_
   refine j9 ?_; refine Tr.cnd rfl ?_ ?_
   ·intro h4
    simp only[Bool.and_eq_true,Bool.or_eq_true,decide_eq_true_eq] at h4
    have hyes:Y5 n f (n.natAbs+1):=⟨k,hk.1,by omega,Int.dvd_of_tmod_eq_zero h4.1,h4.2⟩
    refine z5 ?_; exact d9.res1 (fn:=Tryz.f209) rfl (.b rfl (NP.2 hyes).symm<|.nil)
   ·intro h4
    have hno:¬((k:Int)∣n/\(f k=true\/f (-(k:Int))=true)):=fun ⟨q1,q2⟩=>by rw[decide_eq_true (Int.tmod_eq_zero_of_dvd q1)] at h4; rcases q2 with q2 | q2<;>simp[q2] at h4
    refine l6 ?_
    exact g8.lp (k+1) ⟨by omega,qO hR hno⟩ zo (d7.mk (.i rfl zi<|zk) (.nil) rfl)
  ·intro h2
   replace h2:=Int.not_le.1 h2
   refine i4 ?_
   exact g8.cut (k) (by have:k=n.natAbs+1:=(by split at h2<;>omega); rw[<- this]; exact hR) (d7.mk (.i rfl zi<|zk) (.nil) rfl)
 ·intro k hE
  refine je ?_; refine l5 ?_; exact d9.res1 (fn:=Tryz.f209) rfl (.b rfl (qG hE).symm<|.nil)

theorem nB (p:List Int) (x:Int) (h5:p.length<=5) (hs:∀i,(b6 p i).natAbs<=1000) (hx:x.natAbs<=1001):Ct Tryz.prog 210 [kI x,r5 (eL eI) p] (kB (decide (P5 p x=0))):=by
 refine Ct.mk Tryz.func210 rfl Tryz.ntmps210 rfl (fun w J=>?_); refine o9 ?_; refine jc (nX p x h5 hs hx) ?_; refine o0 ?_
 exact d9.res1 (fn:=Tryz.f210) rfl (.b rfl zi<|.nil)

theorem nD (p:List Int) (b:Int) (h5:p.length=5) (hs:∀i,(b6 p i).natAbs<=1000) (h0:b6 p 0≠0) (hb:b∣b6 p 0):Ct Tryz.prog 212 [kI b,r5 (eL eI) p] (kB (BD p b)):=by
 obtain ⟨d,hd⟩:=hb
 have hb0:b≠0:=fun e=>h0 (by rw[hd,e,Int.zero_mul])
 have hd0:d≠0:=fun e=>h0 (by rw[hd,e,Int.mul_zero])
 have hs0:=hs 0
 have hs1:=hs 1
 have hs2:=hs 2
 have hs3:=hs 3
 have hbb:=(NQ (⟨d,hd⟩:b∣b6 p 0) h0).2
 have hdd:=(NQ (⟨b,by rw[hd,Int.mul_comm]⟩:d∣b6 p 0) h0).2
 have hq:(b6 p 0).tdiv b=d:=by rw[hd,Int.mul_tdiv_cancel_left _ hb0]
 have hm3:(b*b6 p 3).natAbs<=1000*1000:=U6 zo zo
 refine Ct.mk Tryz.func212 rfl Tryz.ntmps212 rfl (fun w J=>?_); refine l6 ?_; refine tO (I0 (i:=0) rfl uu rfl uu rfl (fun _=>zo)) rfl rfl ?_; refine i2 ?_; refine tO (BA rfl uu rfl uu (fun _=>zo)) rfl rfl ?_
 rw[hq]
 refine C6 ?_; refine jq ?_ ?_
 ·intro h2
  have hne:d-b≠0:=by omega
  have hAb:((b6 p 1-b*b6 p 3).tdiv (d-b)).natAbs<=1001000:=by rw[Int.natAbs_tdiv]; exact Nat.le_trans (Nat.div_le_self _ _) zo
  have hAm:(((b6 p 1-b*b6 p 3).tdiv (d-b))*(b6 p 3-((b6 p 1-b*b6 p 3).tdiv (d-b)))).natAbs<=1001000*1002000:=U6 hAb zo
  have hqn:=wF hb0 hd hne
  refine i9 ?_; refine Tr.draw 8 q9 (by kernel_rfl) ?_; refine i9 ?_; refine rO (I0 (i:=1) rfl uu rfl uu rfl (fun _=>zo)) rfl rfl ?_; refine j9 ?_; refine rO (I0 (i:=3) rfl uu rfl uu rfl (fun _=>zo)) rfl rfl ?_; refine D3 ?_; refine tO (BA rfl uu rfl uu (fun _=>zo)) rfl rfl ?_; refine i4 ?_; refine Tr.draw 21 q9 (by kernel_rfl) ?_; refine i4 ?_; refine rO (EN rfl uu rfl uu (fun _=>zo)) rfl rfl ?_; refine i4 ?_; refine i6.gd rfl rfl rfl (HZ rfl id rfl id (fun hp=>by simp at hp; omega)) rfl rfl ?_; refine i2 ?_
  refine i6.gd rfl rfl rfl (I0 (i:=3) rfl id rfl uu rfl (fun _=>zo)) rfl rfl ?_; refine i2 ?_; refine i6.gd rfl rfl rfl (BB rfl id rfl id (fun hp=>by simp at hp; omega)) rfl rfl ?_; refine i6.gd rfl rfl rfl (II rfl id rfl id (fun hp=>by simp at hp; omega)) rfl rfl ?_; refine i6.gd rfl rfl rfl (HZ rfl id rfl id (fun hp=>by simp at hp; omega)) rfl rfl ?_; refine i9 ?_; refine i6.gd rfl rfl rfl (I0 (i:=2) rfl id rfl uu rfl (fun _=>zo)) rfl rfl ?_; refine o9 ?_; exact d9.res1 (fn:=Tryz.f212) rfl (.b rfl (by rw[hqn])<|.nil)
 ·intro h2
  replace h2:=Classical.not_not.1 h2
  have hdb:d=b:=by omega
  subst hdb
  refine i4 ?_; refine Tr.draw 8 q9 (by kernel_rfl) ?_; refine i9 ?_; refine rO (I0 (i:=1) rfl uu rfl uu rfl (fun _=>zo)) rfl rfl ?_; refine j9 ?_; refine rO (I0 (i:=3) rfl uu rfl uu rfl (fun _=>zo)) rfl rfl ?_; refine n7 ?_; refine jq ?_ ?_
  ·intro h6
   have hcase:b6 p 1≠d*b6 p 3:=h6
   refine l5 ?_; exact d9.res1 (fn:=Tryz.f212) rfl (.b rfl (by rw[wB hb0 hd hcase])<|.nil)
  ·intro h6
   replace h6:=Classical.not_not.1 h6
   have hcase:b6 p 1=d*b6 p 3:=by omega
   refine l6 ?_
   refine Tr.for1 (σ:=Nat) [⟨0,true,_,_⟩,⟨1,true,_,_⟩] [] (fun k=>[⟨7,true,[],kI ((k:Int)-3000)⟩]) (fun k=>[]) (fun k=>k<=6001/\∀j:Nat,j<k->((j:Int)-3000)*((j:Int)-3000)-b6 p 3*((j:Int)-3000)+b6 p 2-2*d≠0) (fun k=>∀j:Nat,j<6001->((j:Int)-3000)*((j:Int)-3000)-b6 p 3*((j:Int)-3000)+b6 p 2-2*d≠0) (fun k=>6001-k) (0) ⟨by omega,fun j h=>absurd h (Nat.not_lt_zero _)⟩ (d7.mk (.i rfl zi<|zk) (.nil) rfl) ?_ ?_
   ·rintro k ⟨hk,hR⟩
    refine jn ?_
    have m1:(((k:Int)-3000)*((k:Int)-3000)).natAbs<=3002*3002:=U6 zo zo
    have m2:(b6 p 3*((k:Int)-3000)).natAbs<=1000*3002:=U6 zo zo
    refine l5 ?_; refine jq ?_ ?_
    ·intro h9
     refine o0 ?_; refine Tr.draw 15 q9 (by kernel_rfl) ?_; refine i4 ?_; refine rO (I0 (i:=3) rfl uu rfl uu rfl (fun _=>zo)) rfl rfl ?_; refine o0 ?_; refine rO (I0 (i:=2) rfl uu rfl uu rfl (fun _=>zo)) rfl rfl ?_; refine o9 ?_; refine jq ?_ ?_
     ·intro h11
      have hyes:=wD hd hcase (a:=(k:Int)-3000) zo
      refine z5 ?_; exact d9.res1 (fn:=Tryz.f212) rfl (.b rfl (by rw[hyes])<|.nil)
     ·intro h11
      have hno:((k:Int)-3000)*((k:Int)-3000)-b6 p 3*((k:Int)-3000)+b6 p 2-2*d≠0:=by omega
      refine l6 ?_
      exact g8.lp (k+1) ⟨by omega,fun j hj=>by by_cases e:j=k; (subst e; exact hno); exact hR j zo⟩ zo (d7.mk (.i rfl zi<|zk) (.nil) rfl)
    ·intro h9
     replace h9:=Int.not_le.1 h9
     refine i4 ?_
     exact g8.cut (k) (fun j hj=>hR j zo) (d7.mk (.i rfl zi<|zk) (.nil) rfl)
   ·intro k hE
    refine je ?_; refine l5 ?_; exact d9.res1 (fn:=Tryz.f212) rfl (.b rfl (by rw[wG hb0 hd hs0 hs2 hs3 (fun a h1 h2=>by have:=hE (a+3000).toNat zo; rw[show (((a+3000).toNat:Nat):Int)-3000=a by omega] at this; exact this)])<|.nil)

theorem nA (p:List Int) (h2:2<=p.length) (h5:p.length<=5) (hs:∀i,(b6 p i).natAbs<=1000):Ct Tryz.prog 188 [b7 (eL eI) p] (kB (DJ p)):=by
 have hs0:=hs 0
 refine Ct.mk Tryz.func188 rfl Tryz.ntmps188 rfl (fun w J=>?_); refine i2 ?_; refine jb 1 rfl ?_; refine i4 ?_; refine Tr.frzB 1 [1] (eL eI) ⟨rfl,trivial⟩ rfl ?_; refine jn ?_; refine AU ?_; refine Tr.cnd rfl ?_ ?_
 ·intro h2
  try simp only[decide_eq_true_eq] at h2
  have hr:=PW (p:=p) (fun e=>e.1 zo)
  refine l6 ?_; exact d9.res1 (fn:=Tryz.f188) rfl (.b rfl (by rw[hr])<|.nil)
 ·intro h2
  try simp only[decide_eq_false_iff_not] at h2
  have hl3:3<=p.length:=by omega
  refine j9 ?_; refine tO (I0 (i:=0) rfl uu rfl uu rfl (fun _=>zo)) rfl rfl ?_; refine o0 ?_; refine Tr.cnd rfl ?_ ?_
  ·intro h4
   try simp only[decide_eq_true_eq] at h4
   have hr:=PX (p:=p) ⟨by omega,.inl ⟨0,by rw[wV zo]; exact h4⟩⟩
   refine l6 ?_; exact d9.res1 (fn:=Tryz.f188) rfl (.b rfl (by rw[hr])<|.nil)
  ·intro h4
   try simp only[decide_eq_false_iff_not] at h4
   have hp0:b6 p 0≠0:=h4
   have hrp:=wM hl3 hp0
   refine j9 ?_; refine tO (I0 (i:=0) rfl uu rfl uu rfl (fun _=>zo)) rfl rfl ?_; refine i9 ?_; refine tO (EK (.cons rfl uu<|.nil)) rfl rfl ?_; refine tO (j7 (fun hp=>ZT (b6 p 0) (fun d=>decide (P5 p d=0)) hs0 hp0) (.a rfl uu<|.cons rfl uu (fun g u h=>OL (fun a ha=>nB p a h5 hs (by have:=(NQ ha hp0).2; omega)) g u h)<|.nil)) rfl rfl ?_; refine j9 ?_; refine Tr.cnd rfl ?_ ?_
   ·intro h6
    have hr:=PX (hrp.2 (.inl (NP.1 h6)))
    refine l6 ?_; exact d9.res1 (fn:=Tryz.f188) rfl (.b rfl (by rw[hr])<|.nil)
   ·intro h6
    have hn6:¬Y5 (b6 p 0) (fun d=>decide (P5 p d=0)) ((b6 p 0).natAbs+1):=fun e=>by rw[NP.2 e] at h6; cases h6
    refine l5 ?_; refine Tr.cnd rfl ?_ ?_
    ·intro h8
     try simp only[decide_eq_true_eq] at h8
     have hr:=PW (fun e=>(hrp.1 e).elim hn6 (fun e=>by omega))
     refine l6 ?_; exact d9.res1 (fn:=Tryz.f188) rfl (.b rfl (by rw[hr])<|.nil)
    ·intro h8
     try simp only[decide_eq_false_iff_not,Int.not_lt] at h8
     have hl5:p.length=5:=by omega
     refine n7 ?_; refine tO (I0 (i:=0) rfl uu rfl uu rfl (fun _=>zo)) rfl rfl ?_; refine i9 ?_; refine tO (EK (.cons rfl uu<|.nil)) rfl rfl ?_; refine tO (j7 (fun hp=>ZT (b6 p 0) (BD p) hs0 hp0) (.a rfl uu<|.cons rfl uu (fun g u h=>OL (fun a ha=>nD p a hl5 hs hp0 ha) g u h)<|.nil)) rfl rfl ?_; refine i4 ?_; exact d9.res1 (fn:=Tryz.f188) rfl (.b rfl (by rw[Bool.eq_iff_iff,NP]; constructor; (intro e; exact PX (hrp.2 (.inr ⟨hl5,e⟩))); (intro e; by_cases e2:FD p; (exact ((hrp.1 e2).resolve_left hn6).2); (rw[PW e2] at e; cases e)))<|.nil)

end Go.Fl
