/- Laws on walking typed knowledge through code, and contracts. -/
import Derived.Test.YthfaleobmefibaaGreatM3
import Derived.RangeFuncBox
import Derived.WalkKit
import Derived.TacticsInMore
import Derived.LoopNIn
import Derived.LoopIn

/- Contracts: numbers of a field (reduction modulo its polynomial, sums, negatives). -/
namespace Go.Fl
open Go Go.Proofs
open b8 renaming op->tO
open j1 renaming op->rO
set_option maxRecDepth 100000

abbrev D0:=u8×List Int×List Int×Int×Int×Int
abbrev y3:=List (List Int)×List Int
def A7:i8 D0:=eC (fun v:D0=>(v.1,v.2.1,v.2.2.1,v.2.2.2.1,v.2.2.2.2.1,v.2.2.2.2.2,())) (eP z7 (eP (eL eZ) (eP (eL eZ) (eP eZ (eP eZ (eP eZ eU))))))
instance {v:D0}:E5 (b7 A7 v) [b7 (eL eI) (v.1.1),kI (v.1.2.1),kI (v.1.2.2.1),kI (v.1.2.2.2),b7 (eL eZ) (v.2.1),b7 (eL eZ) (v.2.2.1),kB (decide (v.2.2.2.1<0)),b7 (eL eI) (d7 (v.2.2.2.1).natAbs),kB (decide (v.2.2.2.2.1<0)),b7 (eL eI) (d7 (v.2.2.2.2.1).natAbs),kB (decide (v.2.2.2.2.2<0)),b7 (eL eI) (d7 (v.2.2.2.2.2).natAbs)]:=inferInstanceAs (E5 (b7 (eC (fun v:D0=>(v.1,v.2.1,v.2.2.1,v.2.2.2.1,v.2.2.2.2.1,v.2.2.2.2.2,())) (eP z7 (eP (eL eZ) (eP (eL eZ) (eP eZ (eP eZ (eP eZ eU))))))) v) _)
instance {v:D0}:P0 A7 v (b7 A7 v):=⟨fun h=>h⟩
instance {v:D0}:v7 A7 v 0 z7 (v.1) 0:=inferInstanceAs (v7 (eC (fun v:D0=>(v.1,v.2.1,v.2.2.1,v.2.2.2.1,v.2.2.2.2.1,v.2.2.2.2.2,())) (eP z7 (eP (eL eZ) (eP (eL eZ) (eP eZ (eP eZ (eP eZ eU))))))) v 0 _ _ _)
instance {v:D0}:v7 A7 v 1 (eL eZ) (v.2.1) 4:=inferInstanceAs (v7 (eC (fun v:D0=>(v.1,v.2.1,v.2.2.1,v.2.2.2.1,v.2.2.2.2.1,v.2.2.2.2.2,())) (eP z7 (eP (eL eZ) (eP (eL eZ) (eP eZ (eP eZ (eP eZ eU))))))) v 1 _ _ _)
instance {ks r:List d5} {f:u8} {p t:List Int} {a b c:Int} [h:t9 ks (eP z7 (eP (eL eZ) (eP (eL eZ) (eP eZ (eP eZ (eP eZ eU)))))) (f,p,t,a,b,c,()) r]:t9 ks A7 ((f,p,t,a,b,c)) r:=⟨fun h'=>h.imp h'⟩
def j8:i8 y3:=eC (fun v:y3=>(v.1,v.2,())) (eP (eL (eL eI)) (eP (eL eI) eU))
instance {v:y3}:E5 (b7 j8 v) [b7 (eL (eL eI)) (v.1),b7 (eL eI) (v.2)]:=inferInstanceAs (E5 (b7 (eC (fun v:y3=>(v.1,v.2,())) (eP (eL (eL eI)) (eP (eL eI) eU))) v) _)
instance {v:y3}:P0 j8 v (b7 j8 v):=⟨fun h=>h⟩
instance {v:y3}:v7 j8 v 0 (eL (eL eI)) (v.1) 0:=inferInstanceAs (v7 (eC (fun v:y3=>(v.1,v.2,())) (eP (eL (eL eI)) (eP (eL eI) eU))) v 0 _ _ _)
instance {v:y3}:v7 j8 v 1 (eL eI) (v.2) 1:=inferInstanceAs (v7 (eC (fun v:y3=>(v.1,v.2,())) (eP (eL (eL eI)) (eP (eL eI) eU))) v 1 _ _ _)
instance {ks r:List d5} {a:List (List Int)} {b:List Int} [h:t9 ks (eP (eL (eL eI)) (eP (eL eI) eU)) (a,b,()) r]:t9 ks j8 ((a,b)) r:=⟨fun h'=>h.imp h'⟩
instance:ZE Tryz.prog 112:=⟨⟨_,Tryz.underlying112⟩⟩
theorem TY (r:D0) (hn:2<=r.2.1.length/\r.2.1.length<=5):Ct Tryz.prog 160 [s6 A7 r] (kI ((r.2.1.length:Int)-1)):=by
 refine Ct.mk Tryz.func160 rfl Tryz.ntmps160 rfl (fun w J=>?_); refine j3 ?_; refine tO (EG rfl uu) rfl rfl ?_; refine j3 ?_
 exact d9.res1 (fn:=Tryz.f160) rfl (.i rfl zi<|.nil)

theorem pO (p:List Int) (hn:p.length<=1000000):T9 Tryz.prog 196 [b7 (eL eZ) p] (fun t=>o5 t p.length) (l3 false 160 eZ p p.length):=by
 refine T9.mk Tryz.func196 rfl Tryz.ntmps196 rfl (fun w J=>?_); refine m8 ?_; refine tO (ML rfl uu) rfl rfl ?_; refine g9 ?_; refine Tr.exB (s:=4) rfl (fun b1 q1=>?_); refine Tr.cnd rfl ?_ ?_
 ·intro h1
  have he1:[]=p:=(q1 h1).symm
  have he2:0=p.length:=by rw[<- he1]; rfl
  refine l8 ?_; refine Tr.grow (s:=2) rfl rfl 9 rfl 160 eZ rfl ?_; refine g9 ?_
  exact d9.resN (fn:=Tryz.f196) (u:=9) rfl rfl (GL zi zi) (HI zi) inferInstance
 ·intro h1
  refine g8 ?_; refine b8.new (Y5 eZ 5) rfl rfl rfl rfl ?_; refine g9 ?_; refine jl ?_; refine g8 ?_
  exact d9.resN (fn:=Tryz.f196) (u:=5) rfl rfl (GL zi zi) (HI zi) inferInstance

set_option maxHeartbeats 1000000 in
theorem cF (r:D0) (xs:List Int) (d:Int) (B:Nat) (hn:2<=r.2.1.length/\r.2.1.length<=5) (hL:xs.length<=16) (hc:∀i,dl (b6 xs i)<=B) (hpp:∀i,dl (b6 r.2.1 i)<=1) (hB:B<=600000) (hd:dl d<=700000) (h0:d≠0):Ct Tryz.prog 169 [s6 A7 r,b7 (eL eZ) xs,b7 eW (wh d)] (b7 K5 (loN (I2 r.2.1 xs) d)):=by
 obtain ⟨n,hn1⟩:∃n,r.2.1.length=n+1:=⟨r.2.1.length-1,by omega⟩
 have hn2:r.2.1.length-1=n:=by omega
 refine Ct.mk Tryz.func169 rfl Tryz.ntmps169 rfl (fun w J=>?_); refine g9 ?_; refine jb 5 rfl ?_; refine ja 6 ?_; refine l8 ?_; refine jc (TY r hn) ?_; refine l6 ?_; refine b8.new (ED 15 (fun hp=>pO _ zo) (.a rfl uu<|.nil)) rfl rfl rfl rfl ?_; refine j6 ?_; refine tO (S8 rfl uu) rfl rfl ?_; refine g8 ?_
 refine Tr.for1 (σ:=List Int×Nat) [⟨0,true,_,_⟩,⟨1,true,_,_⟩,⟨5,true,_,_⟩,⟨6,true,_,_⟩,⟨7,true,_,_⟩] [⟨5,_,_⟩,⟨6,_,_⟩] (fun (ys,m)=>[⟨8,true,[],kI ((m:Int)-1)⟩]) (fun (ys,m)=>[⟨15,[],l3 false 160 eZ ys xs.length⟩]) (fun (ys,m)=>ys.length=xs.length/\m<=xs.length/\red r.2.1 (ys.take m)=red r.2.1 xs/\(∀j,dl (b6 ys j)<=B+2*(xs.length-m))/\(n<=m\/m=xs.length)) (fun (ys,m)=>ys.length=xs.length/\m=min n xs.length/\red r.2.1 (ys.take m)=red r.2.1 xs/\(∀j,dl (b6 ys j)<=B+2*(xs.length-m))) (fun (ys,m)=>m) ((xs,xs.length)) ⟨rfl,Nat.le_refl _,by rw[List.take_length],fun j=>by have:=hc j; omega,.inr rfl⟩ (d6.mk (.i rfl zi<|zk) (zk) rfl) ?_ ?_
 ·rintro ⟨ys,m⟩ ⟨hl,hm,hr,hy,hnm⟩
  refine jn ?_; refine j3 ?_; refine jq ?_ ?_
  ·intro h4
   refine u5 ?_
   refine Tr.for1 (σ:=Nat) [⟨0,true,_,_⟩,⟨1,true,_,_⟩,⟨5,true,_,_⟩,⟨6,true,_,_⟩,⟨7,true,_,_⟩,⟨8,true,_,_⟩,⟨24,true,_,_⟩] [⟨5,_,_⟩,⟨6,_,_⟩] (fun k=>[⟨25,true,[],kI (k:Int)⟩]) (fun k=>[⟨15,[],l3 false 160 eZ (Q2 r.2.1 ys n (m-1) k) xs.length⟩]) (fun k=>k<=n) (fun k=>k=n) (fun k=>n-k) (0) zi (d6.mk (.i rfl zi<|zk) (.a ae6 zi<|zk) rfl) ?_ ?_
   ·intro k hR1
    refine jn ?_
    have hix:((m:Int)-1-((r.2.1.length:Int)-1)+(k:Int)).toNat=m-1-n+k:=by omega
    have hiy:((m:Int)-1).toNat=m-1:=by omega
    have hsd:=kP (p:=r.2.1) (ys:=ys) (n:=n) (i:=m-1) (k:=k) zo zo hy hpp
    have hsl:(Q2 r.2.1 ys n (m-1) k).length=ys.length:=SC
    refine l6 ?_; refine jq ?_ ?_
    ·intro h7
     refine u5 ?_; refine Tr.draw 28 n8 (by kernel_rfl) ?_; refine D2 ?_; refine rO (DF rfl uu rfl rfl rfl rfl) rfl rfl ?_; refine i7 ?_; refine rO (DF rfl uu rfl rfl rfl rfl) rfl rfl ?_; refine i4 ?_; refine rO (EG rfl uu) rfl rfl ?_; refine l8 ?_; refine rO (i6 (fun hp=>L3 _ _ (Nat.le_trans (hsd _) zo) (Nat.le_trans (hpp _) zo)) (.a rfl uu<|.a rfl uu<|.nil)) rfl rfl ?_; refine rO (i6 (fun hp=>DS _) (.a rfl uu<|.nil)) rfl rfl ?_; refine rO (i6 (fun hp=>V9 _ _ (Nat.le_trans (hsd _) zo) (by rw[K4]; exact Nat.le_trans (s9 _ _) (Nat.le_trans (Nat.add_le_add (hsd _) (hpp _)) zo))) (.a rfl uu<|.a rfl uu<|.nil)) rfl rfl ?_
     refine u5 ?_
     exact g6.lp (k+1) zi zo (d6.mk (.i rfl zi<|zk) (.a (by rw[hix,hiy,kQ zo zo,kQ zo zo]; exact ae4 zo zo zo) zi<|zk) rfl)
    ·intro h7
     replace h7:=Int.not_lt.1 h7
     refine g8 ?_
     exact g6.cut (k) zo (d6.mk (.i rfl zi<|zk) (zk) rfl)
   ·rintro k hkn
    refine je ?_; refine j6 ?_
    exact g6.lp ((Q2 r.2.1 ys n (m-1) n,m-1)) ⟨SC.trans hl,by omega,(zN hn2 zo zo).trans hr,fun j=>by have:=kP (p:=r.2.1) (n:=n) (i:=m-1) (k:=n) zo zo hy hpp j; omega,.inl zo⟩ (by show m-1<m; omega) (d6.mk (.i rfl zi<|zk) (.a (by rw[hkn]) zi<|zk) rfl)
  ·intro h4
   replace h4:=Int.not_le.1 h4
   refine g8 ?_
   exact g6.cut ((ys,m)) ⟨hl,by omega,hr,hy⟩ (d6.mk (.i rfl zi<|zk) (zk) rfl)
 ·rintro ⟨ys,m⟩ ⟨hl,hm,hr,hy⟩
  refine je ?_
  obtain ⟨X,hX⟩:∃X,X=(if (ys.length:Int)<(r.2.1.length:Int)-1 then (ys.length:Int) else (r.2.1.length:Int)-1).toNat:=⟨_,rfl⟩
  have hXm:X=m:=by split at hX<;>omega
  have X9:∀i,i<4->b6 (red r.2.1 xs) i=(if i<m then b6 ys i else 0)/\dl (b6 (red r.2.1 xs) i)<=B+2*(xs.length-m):=fun i _=>tB hn2 zo zo hr hy i
  have hnt:∀i,i<m->b6 (ys.take X) i=b6 ys i:=fun i h=>P8 zo
  have hpd:∀i,i<4->(if i<m then b6 (ys.take X) i else 0)=b6 (red r.2.1 xs) i:=fun i h=>by rw[(X9 i h).1]; split; (rename_i h2; exact hnt i h2); rfl
  have hdp:∀i,i<4->dl (if i<m then b6 (ys.take X) i else 0)<=700000:=fun i h=>by rw[hpd i h]; have:=(X9 i h).2; omega
  refine i7 ?_; refine ja 10 ?_; refine i7 ?_; refine Tr.conC 10 (ct':=j5 (wC (fun _=>0) 0 4++[kB (decide ((0:Int)<0)),b7 (eL eI) (d7 ((0:Int)).natAbs)])) (mH (r':=[kB (decide ((0:Int)<0)),b7 (eL eI) (d7 ((0:Int)).natAbs)]) fun _ _ h=>by obtain ⟨u,v,rfl,h1,h2⟩:=nJ h; cases h1; cases h2; exact ⟨rfl,⟨_,X0 (c:=0),rfl⟩,trivial⟩) rfl ?_; refine Tr.frz 15 [1] ⟨rfl,trivial⟩ (by simp only[p6]; omega) rfl ?_; refine jn ?_; refine Tr.draw 9 n8 (by kernel_rfl) ?_; refine g9 ?_; refine rO (xT rfl uu rfl uu (fun _=>zo)) rfl rfl ?_
  refine g8 ?_; refine rO (iB rfl uu rfl uu) rfl rfl ?_; refine rO (FS rfl uu rfl uu (fun _=>zo)) rfl rfl ?_; refine i4 ?_; refine b8.cpW (m) rfl rfl (by rw[List.length_take]; split<;>omega) zo rfl rfl ?_; refine S6 ?_; refine Tr.cnd rfl ?_ ?_
  ·intro h14
   try simp only[decide_eq_true_eq] at h14
   refine i7 ?_; refine jc (DS d) ?_; refine m8 ?_
   refine Tr.for1 (σ:=Nat) [⟨6,true,_,_⟩,⟨10,true,_,_⟩] [⟨6,_,_⟩] (fun k=>[⟨75,true,[],kI (k:Int)⟩]) (fun k=>[⟨10,[],j5 (wC (fun i=>if i<k then -(if i<m then b6 (ys.take X) i else 0) else (if i<m then b6 (ys.take X) i else 0)) 0 4++[kB (decide (-d<0)),b7 (eL eI) (d7 (-d).natAbs)])⟩]) (fun k=>k<=4) (fun k=>k=4) (fun k=>4-k) (0) zi (d6.mk (.i rfl zi<|zk) (.conv (cW (fun j _=>by subst hX; exact (if_neg (Nat.not_lt_zero _)).symm) rfl) rfl<|zk) rfl) ?_ ?_
   ·intro k hR2
    refine jn ?_; refine l6 ?_; refine jq ?_ ?_
    ·intro h17
     refine C7 ?_; refine tO (DE rfl uu rfl uu (fun _=>zo)) rfl rfl ?_; refine tO (JQ (k) (fun _=>zo) (fun _=>zo) rfl uu) rfl rfl ?_; refine tO (i6 (fun hp=>DS _) (.a rfl uu<|.nil)) rfl rfl ?_; refine i4 ?_; refine tO (DE rfl uu rfl uu (fun _=>zo)) rfl rfl ?_; refine b8.stW (k) zo zo rfl rfl rfl ?_; refine j6 ?_
     exact g6.lp (k+1) zi zo (d6.mk (.i rfl zi<|zk) (.conv (cW (fun j _=>mA (F:=fun i=>-(if i<m then b6 (ys.take X) i else 0)) (C:=fun i=>(if i<m then b6 (ys.take X) i else 0)) (by rw[if_neg (Nat.lt_irrefl k)])) rfl) rfl<|zk) rfl)
    ·intro h17
     replace h17:=Int.not_lt.1 h17
     refine g8 ?_
     exact g6.cut (k) zo (d6.mk (.i rfl zi<|zk) (zk) rfl)
   ·rintro _ rfl
    refine je ?_; refine g8 ?_
    refine tO (i6 (fun hp=>UB _ _ (DT fun i hi=>by first | (subst hX; exact hdp i hi) | (rw[if_pos hi,K4]; exact hdp i hi)) (by first | exact hd | (rw[K4]; exact hd)) zo) (.se rfl uu rfl rfl<|.nil)) rfl rfl ?_
    refine g8 ?_; exact d9.resC1 (fn:=Tryz.f169) rfl rfl (t7 rfl (by rw[FG (by rw[DC,p8]),<- vP h0]; refine congrArg (fun l=>loN l (-d)) ?_; simp only[I2,j4,List.map_map]; exact List.map_congr_left fun i hi=>by have hi:=List.mem_range.1 hi; simp only[Function.comp]; rw[if_pos hi,hpd i hi]))
  ·intro h14
   try simp only[decide_eq_false_iff_not,Int.not_lt] at h14
   refine l8 ?_
   refine tO (i6 (fun hp=>UB _ _ (DT fun i hi=>by first | (subst hX; exact hdp i hi) | (rw[if_pos hi,K4]; exact hdp i hi)) (by first | exact hd | (rw[K4]; exact hd)) zo) (.se rfl uu rfl rfl<|.nil)) rfl rfl ?_
   refine g8 ?_; exact d9.resC1 (fn:=Tryz.f169) rfl rfl (t7 rfl (by rw[FG (by rw[DC,p8])]; subst hX; exact congrArg (fun l=>loN l d) (C9 hpd)))

theorem UC (c:List Int) (d:Int):Ct Tryz.prog 141 [b7 K5 (c,d)] (b7 K5 (c.map fun z=>-z,d)):=by
 refine Ct.mk Tryz.func141 rfl Tryz.ntmps141 rfl (fun w J=>?_); refine Tr.fact (s:=0) rfl (fun _ _ h=>PH h) (fun hl=>?_)
 have hl:c.length=4:=hl
 refine g9 ?_; refine jb 1 rfl ?_; refine ja 2 ?_; refine u5 ?_
 refine Tr.for1 (σ:=Nat) [⟨1,true,_,_⟩,⟨2,true,_,_⟩,⟨6,true,_,_⟩] [⟨2,_,_⟩] (fun k=>[⟨7,true,[],kI (k:Int)⟩]) (fun k=>[⟨1,[],j5 (wC (fun i=>if i<k then -b6 c i else b6 c i) 0 4++[kB (decide (d<0)),b7 (eL eI) (d7 (d).natAbs)])⟩]) (fun k=>k<=4) (fun k=>k=4) (fun k=>4-k) (0) zi (d6.mk (.i rfl zi<|zk) (.conv (cW (fun j _=>(if_neg zo).symm) rfl) rfl<|zk) rfl) ?_ ?_
 ·intro k hR0
  refine jn ?_; refine l6 ?_; refine jq ?_ ?_
  ·intro h2
   refine j6 ?_; refine tO (WW rfl uu rfl uu (fun _=>zo)) rfl rfl ?_; refine ja 4 ?_; refine j6 ?_; refine jc (DS (b6 c k)) ?_; refine i4 ?_; refine tO (DE rfl uu rfl uu (fun _=>zo)) rfl rfl ?_; refine b8.stW (k) zo zo rfl rfl rfl ?_; refine j6 ?_
   exact g6.lp (k+1) zi zo (d6.mk (.i rfl zi<|zk) (.conv (cW (fun j _=>mA (F:=fun i=>-b6 c i) (C:=fun i=>b6 c i) rfl) rfl) rfl<|zk) rfl)
  ·intro h2
   replace h2:=Int.not_lt.1 h2
   refine g8 ?_
   exact g6.cut (k) zo (d6.mk (.i rfl zi<|zk) (zk) rfl)
 ·rintro _ rfl
  refine je ?_; refine j3 ?_; exact d9.resC1 (fn:=Tryz.f141) rfl rfl (t7 rfl (by rw[ME hl]; exact Prod.ext (C9 fun i hi=>if_pos hi) rfl))

theorem OR (x y:List Int×Int) (hx:∀i,dl (b6 x.1 i)<=300000) (hy:∀i,dl (b6 y.1 i)<=300000) (hdx:dl x.2<=300000) (hdy:dl y.2<=300000) (hpx:0<x.2) (hpy:0<y.2):Ct Tryz.prog 140 [b7 K5 x,b7 K5 y] (b7 K5 (H8 x y)):=by
 refine Ct.mk Tryz.func140 rfl Tryz.ntmps140 rfl (fun w J=>?_); refine g9 ?_; refine jb 2 rfl ?_; refine jb 3 rfl ?_; refine ja 4 ?_; refine j3 ?_; refine jc (L3 x.2 y.2 zo zo) ?_; refine tO (A1 (fun hp=>.cons rfl rfl rfl<|.nil)) rfl rfl ?_; refine ja 5 ?_; refine m8 ?_
 refine Tr.for1 (σ:=Nat) [⟨2,true,_,_⟩,⟨3,true,_,_⟩,⟨4,true,_,_⟩,⟨5,true,_,_⟩] [⟨2,_,_⟩,⟨3,_,_⟩,⟨4,_,_⟩] (fun k=>[⟨13,true,[],kI (k:Int)⟩]) (fun k=>[⟨5,[],j5 (wC (fun i=>if i<k then b6 x.1 i*y.2+b6 y.1 i*x.2 else 0) 0 4++[kB (decide (x.2*y.2<0)),b7 (eL eI) (d7 (x.2*y.2).natAbs)])⟩]) (fun k=>k<=4) (fun k=>k=4) (fun k=>4-k) (0) zi (d6.mk (.i rfl zi<|zk) (.conv (mH (fun _ _ h=>h)) rfl<|zk) rfl) ?_ ?_
 ·intro k hR0
  refine jn ?_
  have h1:=hx k
  have h2:=hy k
  have h3:=s9 (b6 x.1 k) y.2
  have h4:=s9 (b6 y.1 k) x.2
  refine l6 ?_; refine jq ?_ ?_
  ·intro h3
   refine u5 ?_; refine Tr.draw 17 n8 (by kernel_rfl) ?_; refine i7 ?_; refine rO (DE rfl uu rfl uu (fun _=>zo)) rfl rfl ?_; refine rO (JQ (k) (fun _=>zo) (fun _=>zo) rfl uu) rfl rfl ?_; refine g9 ?_; refine jd (L3 (b6 x.1 k) y.2 zo zo) ?_; refine g9 ?_; refine rO (DE rfl uu rfl uu (fun _=>zo)) rfl rfl ?_; refine rO (JQ (k) (fun _=>zo) (fun _=>zo) rfl uu) rfl rfl ?_; refine g9 ?_; refine jd (L3 (b6 y.1 k) x.2 zo zo) ?_; refine jd (V9 (b6 x.1 k*y.2) (b6 y.1 k*x.2) zo zo) ?_
   refine g9 ?_; refine tO (DE rfl uu rfl uu (fun _=>zo)) rfl rfl ?_; refine b8.stW (k) zo zo rfl rfl rfl ?_; refine j6 ?_
   exact g6.lp (k+1) zi zo (d6.mk (.i rfl zi<|zk) (.conv (cW (fun j _=>by simp only[CK]; by_cases e:j=k; (rw[if_pos e,if_pos zo,e]); (rw[if_neg e]; by_cases e2:j<k; (rw[if_pos e2,if_pos zo]); (rw[if_neg e2,if_neg zo]))) rfl) rfl<|zk) rfl)
  ·intro h3
   replace h3:=Int.not_lt.1 h3
   refine g8 ?_
   exact g6.cut (k) zo (d6.mk (.i rfl zi<|zk) (zk) rfl)
 ·rintro _ rfl
  refine je ?_; refine g8 ?_; refine tO (i6 (fun hp=>UB _ _ (DT fun i hi=>by rw[if_pos hi]; exact Nat.le_trans (sV hx hy hdx hdy i) zo) (by have:=s9 x.2 y.2; omega) (Int.mul_pos hpx hpy)) (.se rfl uu rfl rfl<|.nil)) rfl rfl ?_; refine g8 ?_; exact d9.resC1 (fn:=Tryz.f140) rfl rfl (t7 rfl (by rw[FG (by rw[DC,p8])]; unfold H8; exact congrArg (fun l=>loN l (x.2*y.2)) (C9 fun i hi=>if_pos hi)))

end Go.Fl

/- Numbers of a field: how they are read and handed back; sizes. No program in sight. -/
namespace Go.Fl
open Go
def w3 (d:List Int):Int:=if val d=0 then 1 else val d
theorem BN {d:List Int}:w3 d≠0:=by unfold w3; split<;>omega
def j9 (p:List Int) (x:List (List Int)×List Int):List Int×Int:=loN (I2 p (x.1.map val)) (w3 x.2)
def l5 (v:List Int×Int):List (List Int)×List Int:=((j7 v.1).map g7,g7 v.2)
def G3 (p:List Int):Prop:=(2<=p.length/\p.length<=5)/\∀i,dl (b6 p i)<=1
structure y0 (k:Nat) (x:List (List Int)×List Int):Prop where
 len:x.1.length<=6
 c:∀i,w7 (b6 x.1 i)/\(b6 x.1 i).length<=k
 d:w7 x.2/\x.2.length<=k
structure E7 (k:Nat) (v:List Int×Int):Prop where
 c:∀i,dl (b6 v.1 i)<=k
 d:dl v.2<=k
 pos:0<v.2
 len:v.1.length=4
theorem QP {α:Type} [Inhabited α] {i:Nat}:b6 ([]:List α) i=default:=rfl
theorem v6 {α:Type} [Inhabited α] {xs:List α} {i:Nat} (h:xs.length<=i):b6 xs i=default:=by simp[b6,List.getD,List.getElem?_eq_none h]
theorem KH:val []=0:=rfl
theorem R2 {xs:List (List Int)} {i:Nat}:b6 (xs.map val) i=val (b6 xs i):=by
 by_cases h:i<xs.length
 ·simp[b6,h]
 ·rw[v6 (by simpa using h),v6 zo]; rfl
theorem af3 {xs:List (List Int)}:(j4 xs.length fun i=>val (b6 xs i))=xs.map val:=by
 have h:(xs.map val).length=xs.length:=List.length_map ..
 conv=>rhs; rw[T2 h]
 exact C9 fun i _=>R2.symm
theorem GP {d:List Int} {k:Nat} (h:w7 d) (hl:d.length<=k):dl (w3 d)<=k+3:=by
 unfold w3
 split
 ·have:=UO (n:=1) zo; omega
 ·have:=M7 h; omega
theorem dC {p:List Int} {n:Nat} (hp:∀i,dl (b6 p i)<=1):∀{f B:Nat} {xs:List Int},(∀i,dl (b6 xs i)<=B)->∀i,dl (b6 (L5 p n f xs) i)<=B+2*f
 | 0,B,xs,h,i=>by
  rw[L5,JK]
  split
  ·have:=h i; omega
  ·rw[C5.2 rfl]; omega
 | f+1,B,xs,h,i=>by
  rw[L5]
  split
  ·rw[JK]
   split
   ·have:=h i; omega
   ·rw[C5.2 rfl]; omega
  ·have h1:∀j,dl (b6 (X1 p n xs) j)<=B+2:=fun j=>by
    unfold X1
    refine DT (fun q _=>?_) j
    split
    ·rw[Int.sub_eq_add_neg]
     have:=PC (h q) (h (xs.length-1)) (hp (q-(xs.length-1-n)))
     omega
    ·rw[Int.sub_zero]; have:=h q; omega
   have:=dC (n:=n) hp h1 i (f:=f)
   omega
theorem tA {p xs:List Int} {B:Nat} (hp:∀i,dl (b6 p i)<=1) (h:∀i,dl (b6 xs i)<=B) (i:Nat):dl (b6 (I2 p xs) i)<=B+2*xs.length:=by
 unfold I2
 refine DT (fun j _=>?_) i
 unfold red
 have:=dC hp h j (n:=p.length-1) (f:=xs.length-(p.length-1))
 omega
theorem wM {a g:Int} (hg:g∣a):(a/g).natAbs<=a.natAbs:=by
 obtain ⟨q,rfl⟩:=hg
 by_cases h:g=0
 ·subst h; simp
 ·rw[Int.mul_ediv_cancel_left _ h,Int.natAbs_mul]
  exact Nat.le_mul_of_pos_left _ zo
theorem cZ {a g:Int} (hg:g∣a):dl (a/g)<=dl a:=M6 (wM hg)
theorem WS {xs:List Int} {i:Nat} (h:i<xs.length):b6 xs i∈xs:=by simp[b6,h]
theorem VW {cs:List Int} {d:Int} {k:Nat} (hc:∀i,dl (b6 cs i)<=k) (hd:dl d<=k) (h0:d≠0) (hl:cs.length=4):E7 k (loN cs d):=by
 refine ⟨fun i=>?_,?_,GX h0,by rw[DC,hl]⟩
 ·by_cases h:i<cs.length
  ·have e:b6 (loN cs d).1 i=b6 cs i/w8 d cs:=by simp[loN,b6,h]
   rw[e]
   exact Nat.le_trans (cZ (CI (.inr (WS h)))) (hc i)
  ·rw[v6 (by rw[DC]; omega)]
   show dl 0<=k
   rw[C5.2 rfl]; omega
 ·exact Nat.le_trans (cZ (CI (.inl rfl))) hd
theorem T3 {p:List Int} {x:List (List Int)×List Int} {k:Nat} (hp:G3 p) (hx:y0 k x):E7 (k+15) (j9 p x):=by
 refine VW (fun i=>?_) ?_ BN HJ
 ·have:=tA (xs:=x.1.map val) (B:=k+3) hp.2 (fun j=>by rw[R2]; have:=M7 (hx.c j).1; have:=(hx.c j).2; omega) i
  rw[List.length_map] at this
  have:=hx.len
  omega
 ·have:=GP hx.d.1 hx.d.2; omega
theorem KV {x y:List Int×Int} {j k:Nat} (hx:E7 j x) (hy:E7 k y):E7 (j+k+1) (H8 x y):=by
 refine VW (DT fun i _=>?_) ?_ ?_ p8
 ·have h1:=s9 (b6 x.1 i) y.2
  have h2:=s9 (b6 y.1 i) x.2
  have h3:=P3 (b6 x.1 i*y.2) (b6 y.1 i*x.2)
  have:=hx.c i; have:=hy.c i; have:=hx.d; have:=hy.d
  omega
 ·have:=s9 x.2 y.2; have:=hx.d; have:=hy.d; omega
 ·have:=Int.mul_pos hx.pos hy.pos; omega
theorem MD {x:List Int×Int} {k:Nat} (hx:E7 k x):E7 k (x.1.map fun z=>-z,x.2):=by
 refine ⟨fun i=>?_,hx.d,hx.pos,by simp[hx.len]⟩
 rw[ME hx.len]
 exact DT (fun j _=>by rw[K4]; exact hx.c j) i
def O5 (c:List Int):Bool:=!(((j4 4 (b6 c)).take 4).drop 1).any fun z=>decide (r7 z 0≠0)
theorem JW {c:List Int} (h:∀i,1<=i->i<4->b6 c i=0):O5 c=true:=by
 have e:j4 4 (b6 c)=[b6 c 0,b6 c 1,b6 c 2,b6 c 3]:=rfl
 unfold O5
 rw[e,h 1 zo zo,h 2 zo zo,h 3 zo zo]
 rfl
theorem RO {c:List Int}:O5 c=true↔∀i,1<=i->i<4->b6 c i=0:=by
 refine ⟨fun h=>?_,JW⟩
 have e:j4 4 (b6 c)=[b6 c 0,b6 c 1,b6 c 2,b6 c 3]:=rfl
 unfold O5 at h
 rw[e] at h
 simp only[List.take_succ_cons,List.take_zero,List.drop_succ_cons,List.drop_zero,List.any_cons,List.any_nil,Bool.or_false,Bool.not_eq_true',Bool.or_eq_false_iff,decide_eq_false_iff_not,Classical.not_not,ne_eq] at h
 intro i h1 h2
 obtain ⟨q1,q2,q3⟩:=h
 rcases (show i=1\/i=2\/i=3 by omega) with rfl | rfl | rfl
 ·exact Q8.1 q1
 ·exact Q8.1 q2
 ·exact Q8.1 q3
theorem WQ {cs:List Int} {d:Int} {i:Nat} (h:i<cs.length):b6 (loN cs d).1 i=b6 cs i/w8 d cs:=by simp[loN,b6,h]
theorem iU {x y:List Int×Int} (hx:O5 x.1=true) (hy:O5 y.1=true):O5 (H8 x y).1=true:=by
 refine JW fun i h1 h2=>?_
 unfold H8
 rw[WQ (by rw[p8]; exact h2),q9 h2,RO.1 hx i h1 h2,RO.1 hy i h1 h2]
 simp
theorem iV {c:List Int} (h:O5 c=true):O5 (c.map fun z=>-z)=true:=by
 refine JW fun i h1 h2=>?_
 by_cases hl:i<c.length
 ·simp only[b6,List.getD,List.getElem?_map,List.getElem?_eq_getElem hl,Option.map_some,Option.getD_some]
  have:=RO.1 h i h1 h2
  simp only[b6,List.getD,List.getElem?_eq_getElem hl,Option.getD_some] at this
  omega
 ·rw[v6 (by rw[List.length_map]; omega)]; rfl
theorem uD {c:List Int} {d:Int} {n:Nat} (h:j7 c=c.take n):(j4 n (fun i=>g7 (b6 c i)),g7 d)=l5 (c,d)\/c.length<n:=by
 by_cases hn:n<=c.length
 ·left
  unfold l5
  rw[h]
  refine Prod.ext ?_ rfl
  have hl:(c.take n).length=n:=by rw[List.length_take]; omega
  show _=(c.take n).map g7
  conv=>rhs; rw[T2 hl]
  simp only[j4,List.map_map]
  refine List.map_congr_left fun i hi=>?_
  have hi:i<n:=List.mem_range.1 hi
  simp[Function.comp,P8 hi]
 ·right; omega
theorem sX {n:Int} {k:Nat} (h:dl n<=3) (i:Nat):dl (b6 [n,0,0,0] i)<=k+3:=by
 match i with
 | 0=>show dl n<=_; omega
 | 1=>show dl 0<=_; rw[C5.2 rfl]; omega
 | 2=>show dl 0<=_; rw[C5.2 rfl]; omega
 | 3=>show dl 0<=_; rw[C5.2 rfl]; omega
 | i+4=>rw[v6 (by simp)]; show dl 0<=_; rw[C5.2 rfl]; omega
theorem RP {p xs:List Int} {d:Int} (hp:p.length=2):O5 (loN (I2 p xs) d).1=true:=by
 refine JW fun i h1 h2=>?_
 have e:b6 (loN (I2 p xs) d).1 i=b6 (I2 p xs) i/w8 d (I2 p xs):=by simp[loN,b6,HJ,h2]
 rw[e,gT h2,v6 (by rw[KA,hp]; omega)]
 simp
end Go.Fl

/- Contracts: numbers of a field (reading, handing back; sums, differences; signs of fractions). -/
namespace Go.Fl
open Go Go.Proofs
open b8 renaming op->tO
open j1 renaming op->rO
set_option maxRecDepth 100000

theorem pC (xs:List Int) (f:FuncId) (q:Int->Bool) [d8 Tryz.prog f] (hf:∀z,Ct Tryz.prog f [b7 eW (wh z)] (kB (q z))):Ct Tryz.prog 216 [b7 (eL eZ) xs,i9 (.func (.func f) #[] #[])] (kI (FJ q xs)):=by
 refine Ct.mk Tryz.func216 rfl Tryz.ntmps216 rfl (fun w J=>?_); refine Tr.fact (s:=0) rfl (fun _ _ h=>U9 h) (fun hb=>?_); refine D2 ?_
 refine Tr.for1 (σ:=Nat) [⟨0,true,_,_⟩,⟨1,true,_,_⟩,⟨7,true,_,_⟩] [] (fun k=>[⟨8,true,[],kI (k:Int)⟩]) (fun k=>[]) (fun k=>k<=xs.length/\∀i,i<k->q (b6 xs i)=false) (fun k=>∀i,i<xs.length->q (b6 xs i)=false) (fun k=>xs.length-k) (0) ⟨by omega,fun i h=>absurd h zo⟩ (d6.mk (.i rfl zi<|zk) (.nil) rfl) ?_ ?_
 ·rintro k ⟨hk,hR⟩
  refine jn ?_; refine l6 ?_; refine jq ?_ ?_
  ·intro h2
   refine P5 ?_; refine tO (JN rfl uu (fun hp=>hf _) (.a rfl uu<|.nil)) rfl rfl ?_; refine g9 ?_; refine Tr.cnd rfl ?_ ?_
   ·intro h4
    refine D2 ?_; exact d9.res1 (fn:=Tryz.f216) rfl (.i rfl (eM zo hR h4)<|.nil)
   ·intro h4
    refine j6 ?_
    exact g6.lp (k+1) ⟨by omega,fun i hi=>by (rcases Nat.lt_succ_iff_lt_or_eq.1 hi with h | h; exact hR i h; subst h; exact h4)⟩ zo (d6.mk (.i rfl zi<|zk) (.nil) rfl)
  ·intro h2
   replace h2:=Int.not_lt.1 h2
   refine g8 ?_
   exact g6.cut (k) (fun i hi=>hR i zo) (d6.mk (.i rfl zi<|zk) (.nil) rfl)
 ·intro k hE
  refine je ?_; refine j6 ?_; exact d9.res1 (fn:=Tryz.f216) rfl (.i rfl (eN hE)<|.nil)

theorem oZ (xs:List Int) (f:FuncId) (q:Int->Bool) [d8 Tryz.prog f] (hf:∀z,Ct Tryz.prog f [b7 eW (wh z)] (kB (q z))):Ct Tryz.prog 199 [b7 (eL eZ) xs,i9 (.func (.func f) #[] #[])] (kB (xs.any q)):=by
 refine Ct.mk Tryz.func199 rfl Tryz.ntmps199 rfl (fun w J=>?_); refine m8 ?_; refine tO (i6 (fun hp=>pC _ f q hf) (.a rfl uu<|.a rfl uu<|.nil)) rfl rfl ?_; refine l8 ?_; exact d9.res1 (fn:=Tryz.f199) rfl (.b rfl eQ<|.nil)

theorem rK (z:Int):Ct Tryz.prog 200 [b7 eW (wh z)] (kB (decide (r7 z 0≠0))):=by
 refine Ct.mk Tryz.func200 rfl Tryz.ntmps200 rfl (fun w J=>?_); refine g9 ?_; refine jb 1 rfl ?_; refine l6 ?_; refine jc (BK z) ?_; refine l8 ?_
 exact d9.res1 (fn:=Tryz.f200) rfl (.b rfl zi<|.nil)

theorem cC (c:List Int) (d:Int):Ct Tryz.prog 180 [b7 K5 (c,d)] (kB (O5 c)):=by
 refine Ct.mk Tryz.func180 rfl Tryz.ntmps180 rfl (fun w J=>?_); refine g9 ?_; refine jb 1 rfl ?_; refine g8 ?_; refine Tr.frzB 1 [1] K5 ⟨rfl,trivial⟩ rfl ?_; refine jn ?_; refine g9 ?_; refine tO (xU rfl uu rfl uu rfl rfl (fun _=>zo)) rfl rfl ?_; refine tO (i6 (fun hp=>oZ _ 200 (fun z=>decide (r7 z 0≠0)) (fun z=>rK z)) (.a rfl uu<|.a rfl uu<|.nil)) rfl rfl ?_; refine l8 ?_; exact d9.res1 (fn:=Tryz.f180) rfl (.b rfl (by rfl)<|.nil)

theorem cK (r:D0) (c:List Int) (d:Int) (hq:O5 c=true):Ct Tryz.prog 139 [s6 A7 r,b7 K5 (c,d)] (kI (r7 (b6 c 0) 0)):=by
 refine Ct.mk Tryz.func139 rfl Tryz.ntmps139 rfl (fun w J=>?_); refine Tr.fact (s:=1) rfl (fun _ _ h=>PH h) (fun hl=>?_)
 have hl:c.length=4:=hl
 refine g9 ?_; refine jb 3 rfl ?_; refine j6 ?_; refine tO (i6 (fun hp=>cC c d) (.se rfl uu rfl (FG (v:=(c,d)) hl)<|.nil)) rfl rfl ?_; refine g9 ?_; refine Tr.cnd rfl ?_ ?_
 ·intro h1
  refine i7 ?_; refine tO (DE rfl uu rfl uu (fun _=>by decide)) rfl rfl ?_; refine tO (JQ (0) (fun _=>zo) (fun _=>zo) rfl uu) rfl rfl ?_; refine jc (BK (b6 c 0)) ?_; refine l8 ?_; exact d9.res1 (fn:=Tryz.f139) rfl (.i rfl (by rfl)<|.nil)
 ·intro h1
  rw[hq] at h1; cases h1

theorem BJ (r:D0) (x:y3) (k:Nat) (hpo:G3 r.2.1) (hx:y0 k x) (hk:k<=500000):Ct Tryz.prog 119 [s6 A7 r,b7 j8 x] (b7 K5 (j9 r.2.1 x)):=by
 have hdx:=M7 hx.d.1
 have hld:=hx.d.2
 have hlx:=hx.len
 have hdd:=GP hx.d.1 hx.d.2
 refine Ct.mk Tryz.func119 rfl Tryz.ntmps119 rfl (fun w J=>?_); refine g9 ?_; refine jb 3 rfl ?_; refine ja 4 ?_; refine S6 ?_; refine Tr.grow (s:=5) rfl rfl 55 rfl 160 eZ rfl ?_
 refine Tr.for1 (σ:=Nat) [⟨0,true,_,_⟩,⟨3,true,_,_⟩,⟨4,true,_,_⟩,⟨10,true,_,_⟩,⟨11,true,_,_⟩] [⟨3,_,_⟩,⟨4,_,_⟩] (fun k2=>[⟨5,true,[55],o5 55 k2⟩,⟨12,true,[],kI (k2:Int)⟩]) (fun k2=>[⟨55,[],l3 true 160 eZ (j4 k2 fun i=>val (b6 x.1 i)) k2⟩]) (fun k2=>k2<=x.1.length) (fun k2=>k2=x.1.length) (fun k2=>x.1.length-k2) (0) zi (d6.mk (.o rfl zi rfl<|.i rfl zi<|zk) (.a (by rfl) zi<|zk) rfl) ?_ ?_
 ·intro k2 hR0
  refine jn ?_
  have hck:=hx.c k2
  refine l6 ?_; refine jq ?_ ?_
  ·intro h3
   refine C7 ?_; refine tO (i6 (fun hp=>UA _ hck.1 zo) (.a rfl uu<|.nil)) rfl rfl ?_; refine b8.new (w4 eZ 19 (fun hp=>.cons rfl<|.nil) rfl rfl rfl rfl) rfl rfl rfl rfl ?_; refine i4 ?_; refine jl ?_; refine j3 ?_
   exact g6.lp (k2+1) zi zo (d6.mk (.o rfl zi rfl<|.i rfl zi<|zk) (.a F0.symm zi<|zk) rfl)
  ·intro h3
   replace h3:=Int.not_lt.1 h3
   refine g8 ?_
   exact g6.cut (k2) zo (d6.mk (.o rfl zi rfl<|.i rfl zi<|zk) (zk) rfl)
 ·rintro _ rfl
  refine je ?_
  have hcm:=af3 (xs:=x.1)
  refine l8 ?_; refine tO (i6 (fun hp=>UA _ hx.d.1 zo) (.a rfl uu<|.nil)) rfl rfl ?_; refine ja 8 ?_; refine j6 ?_; refine jc (BK (val x.2)) ?_; refine i7 ?_; refine jq ?_ ?_
  ·intro h8
   have hv0:=Q8.1 h8
   refine i4 ?_; refine jc (P2 1 zo) ?_; refine j3 ?_; refine b8.frz 55 [5,30] ⟨rfl,rfl,trivial⟩ (by simp only[p6]; omega) rfl ?_; refine jl ?_
   refine tO (i6 (fun hp=>cF r _ (w3 x.2) (k+3) hpo.1 (by rw[p8]; omega) (DT fun i _=>by have:=M7 (hx.c i).1; have:=(hx.c i).2; omega) hpo.2 zo zo BN) (.a rfl uu<|.a rfl uu<|.se rfl uu rfl (by first | (rw[w3,if_pos hv0]; rfl) | (rw[w3,if_neg hv0]; rfl))<|.nil)) rfl rfl ?_
   refine g8 ?_; exact d9.resC1 (fn:=Tryz.f119) rfl rfl (t7 rfl (by rw[FG (by rw[DC,HJ]),hcm]; rfl))
  ·intro h8
   have hv0:val x.2≠0:=fun e=>h8 (Q8.2 e)
   refine j6 ?_; refine b8.frz 55 [5,30] ⟨rfl,rfl,trivial⟩ (by simp only[p6]; omega) rfl ?_; refine jl ?_
   refine tO (i6 (fun hp=>cF r _ (w3 x.2) (k+3) hpo.1 (by rw[p8]; omega) (DT fun i _=>by have:=M7 (hx.c i).1; have:=(hx.c i).2; omega) hpo.2 zo zo BN) (.a rfl uu<|.a rfl uu<|.se rfl uu rfl (by first | (rw[w3,if_pos hv0]; rfl) | (rw[w3,if_neg hv0]; rfl))<|.nil)) rfl rfl ?_
   refine g8 ?_; exact d9.resC1 (fn:=Tryz.f119) rfl rfl (t7 rfl (by rw[FG (by rw[DC,HJ]),hcm]; rfl))

end Go.Fl

/- Contracts: numbers of a field as the package offers them. -/
namespace Go.Fl
open Go Go.Proofs
open b8 renaming op->tO
open j1 renaming op->rO
set_option maxRecDepth 100000

theorem OQ (c:List Int) (d:Int) (hc:∀i,dl (b6 c i)<=900000) (hd:dl d<=900000):Ct Tryz.prog 120 [b7 K5 (c,d)] (b7 j8 (l5 (c,d))):=by
 refine Ct.mk Tryz.func120 rfl Tryz.ntmps120 rfl (fun w J=>?_); refine Tr.fact (s:=0) rfl (fun _ _ h=>PH h) (fun hl=>?_)
 have hl:c.length=4:=hl
 refine g9 ?_; refine jb 1 rfl ?_; refine ja 2 ?_; refine g8 ?_; refine ja 3 ?_; refine j6 ?_
 refine Tr.for (σ:=Nat) [⟨1,true,_,_⟩,⟨2,true,_,_⟩,⟨3,true,_,_⟩] [⟨1,_,_⟩,⟨2,_,_⟩,⟨3,_,_⟩] (fun n=>[⟨4,true,[],kI (n:Int)⟩]) (fun n=>[]) (fun n=>n<=4/\∀i,n<=i->i<c.length->b6 c i=0) (fun n=>n<=4/\j7 c=c.take n) (fun n=>n) (4) ⟨by omega,fun i h1 h2=>absurd h1 zo⟩ (d6.mk (.i rfl zi<|zk) (zk) rfl) ?_ ?_
 ·rintro n ⟨hn,hz⟩
  refine jn ?_; refine j6 ?_; refine b8.gd rfl rfl rfl (AP rfl id rfl uu (fun hp=>by simp at hp; omega)) rfl rfl ?_; refine i4 ?_; refine b8.gd rfl rfl rfl (DE rfl id rfl id (fun hp=>by simp at hp; omega)) rfl rfl ?_; refine b8.gd rfl rfl rfl (JQ (n-1) (fun hp=>by simp at hp; omega) (fun _=>zo) rfl id) rfl rfl ?_; refine b8.gd rfl rfl rfl (i6 (fun hp=>BK (b6 c (n-1))) (.a rfl id<|.nil)) rfl rfl ?_; refine g8 ?_; refine Tr.cnd rfl ?_ ?_
  ·intro h3
   try simp only[decide_eq_true_eq,Bool.and_eq_true] at h3
   have h3z:=h3.2
   refine m8 ?_
   exact g6.lp (n-1) ⟨by omega,fun i h2 h3=>by (by_cases e:i=n-1; subst e; exact Q8.1 h3z; exact hz i zo h3)⟩ zo (d6.mk (.i rfl zi<|zk) (zk) rfl)
  ·intro h3
   try simp only[decide_eq_true_eq,decide_eq_false_iff_not,Bool.and_eq_false_imp] at h3
   refine g8 ?_
   exact g6.cut (n) ⟨hn,FX zo hz (by by_cases e:n=0; exact .inl e; exact .inr (fun e2=>h3 zo (Q8.2 e2)))⟩ (d6.mk (.i rfl zi<|zk) (zk) rfl)
 ·rintro n ⟨hn,ht⟩
  refine jn ?_
  have htk:(List.take (n:Int).toNat (j4 4 (b6 (c,d).1),(c,d).2).1).length=n:=by rw[Int.toNat_natCast,List.length_take]; show min n (j4 4 (b6 c)).length=n; rw[p8]; omega
  have hnt:∀i,i<n->b6 (List.take (n:Int).toNat (j4 4 (b6 (c,d).1),(c,d).2).1) i=b6 c i:=fun i h=>by rw[Int.toNat_natCast]; exact (P8 h).trans (q9 zo)
  refine g9 ?_; refine Tr.frzB 1 [1] K5 ⟨rfl,trivial⟩ rfl ?_; refine jn ?_; refine i7 ?_; refine tO (iC rfl uu rfl uu rfl rfl (fun _=>zo)) rfl rfl ?_; refine g8 ?_; refine Tr.growC 3 0 33 rfl (ks':=[o5 33 0,_]) rfl rfl 22 (eL eI) rfl (.cons inferInstance rfl<|.cons inferInstance rfl<|inferInstance) ?_
  refine Tr.for1 (σ:=Nat) [⟨1,true,_,_⟩,⟨2,true,_,_⟩,⟨3,true,_,_⟩,⟨22,true,_,_⟩,⟨23,true,_,_⟩] [⟨2,_,_⟩] (fun k=>[⟨24,true,[],kI (k:Int)⟩]) (fun k=>[⟨3,[33],j5 [o5 33 k,i9 (.slice none 0 0)]⟩,⟨33,[],l3 true 22 (eL eI) (j4 k fun i=>g7 (b6 c i)) k⟩]) (fun k=>k<=n) (fun k=>k=n) (fun k=>n-k) (0) zi (d6.mk (.i rfl zi<|zk) (.e (by rfl) rfl<|.a (by rfl) zi<|zk) rfl) ?_ ?_
  ·intro k hR1
   refine jn ?_
   have hck:=hc k
   refine l6 ?_; refine jq ?_ ?_
   ·intro h6
    refine j3 ?_; refine ja 6 ?_; refine i7 ?_; refine Tr.draw 5 n8 (by kernel_rfl) ?_; refine i7 ?_; refine rO (i6 (fun hp=>cP _ (by rw[hnt k zo]; omega)) (.se rfl uu rfl rfl<|.nil)) rfl rfl ?_; refine j1.new (w4 (eL eI) 32 (fun hp=>.cons rfl<|.nil) rfl rfl rfl rfl) rfl rfl rfl rfl ?_; refine i4 ?_; refine b8.wkC 3 (.any<|.k<|.nil) rfl ?_; refine i4 ?_; refine jl ?_; refine m8 ?_
    exact g6.lp (k+1) zi zo (d6.mk (.i rfl zi<|zk) (.e (by rfl) rfl<|.a ((congrArg (fun z=>j4 k (fun i=>g7 (b6 c i))++[g7 z]) (hnt k zo)).trans F0.symm) zi<|zk) rfl)
   ·intro h6
    replace h6:=Int.not_lt.1 h6
    refine g8 ?_
    exact g6.cut (k) zo (d6.mk (.i rfl zi<|zk) (zk) rfl)
  ·rintro k hkn
   refine je ?_; refine l8 ?_; refine jc (cP d zo) ?_; refine l8 ?_; refine Tr.frzC 33 3 (by simp only[p6]; omega) rfl rfl ?_; refine l6 ?_; exact d9.resC1 (fn:=Tryz.f120) rfl rfl (t7 rfl (by rw[hkn]; exact (uD ht).resolve_right zo))

theorem qC (n:Int) (hn:-9223372036854775808<=n/\n<=9223372036854775807):Ct Tryz.prog 165 [kI n] (b7 j8 (l5 ([n,0,0,0],1))):=by
 have hd:=UO hn
 refine Ct.mk Tryz.func165 rfl Tryz.ntmps165 rfl (fun w J=>?_); refine g9 ?_; refine ja 2 ?_; refine l8 ?_; refine jc (P2 n hn) ?_; refine tO (hO [(0,2),(2,2),(4,2),(6,2)] rfl (fun hp=>.cons rfl rfl rfl<|.nil)) rfl rfl ?_; refine jc (P2 1 zo) ?_; refine tO (A1 (fun hp=>.cons rfl rfl rfl<|.cons rfl rfl rfl<|.nil)) rfl rfl ?_; refine jc (OQ [n,0,0,0] 1 (fun i=>sX (k:=899997) hd i) (by have:=UO (n:=1) zo; omega)) ?_; refine g8 ?_
 exact d9.resC1 (fn:=Tryz.f165) rfl rfl (t7 rfl zi)

theorem aY (r:D0) (x:y3) (k:Nat) (hpo:G3 r.2.1) (hx:y0 k x) (hk:k<=400000):Ct Tryz.prog 69 [s6 A7 r,b7 j8 x] (b7 j8 (l5 (j9 r.2.1 x))):=by
 have nx:=T3 hpo hx
 refine Ct.mk Tryz.func69 rfl Tryz.ntmps69 rfl (fun w J=>?_); refine g9 ?_; refine jb 3 rfl ?_; refine ja 4 ?_; refine l6 ?_; refine tO (FQ rfl uu) rfl rfl ?_; refine g9 ?_; refine Tr.cnd rfl ?_ ?_
 ·intro h1
  cases h1
 ·intro h1
  refine l6 ?_; refine jc (BJ r x k hpo hx zo) ?_; refine jc (OQ (j9 r.2.1 x).1 (j9 r.2.1 x).2 (fun i=>Nat.le_trans (nx.c i) zo) (Nat.le_trans nx.d zo)) ?_; refine g8 ?_
  exact d9.resC1 (fn:=Tryz.f69) rfl rfl (t7 rfl zi)

theorem pU (r:D0) (x y:y3) (k:Nat) (hpo:G3 r.2.1) (hx:y0 k x) (hy:y0 k y) (hk:k<=100000):Ct Tryz.prog 118 [s6 A7 r,b7 j8 x,b7 j8 y] (b7 j8 (l5 (H8 (j9 r.2.1 x) (j9 r.2.1 y)))):=by
 have nx:=T3 hpo hx
 have ny:=T3 hpo hy
 have nz:=KV nx ny
 refine Ct.mk Tryz.func118 rfl Tryz.ntmps118 rfl (fun w J=>?_); refine g9 ?_; refine jb 4 rfl ?_; refine jb 5 rfl ?_; refine ja 6 ?_; refine l6 ?_; refine tO (FQ rfl uu) rfl rfl ?_; refine g9 ?_; refine Tr.cnd rfl ?_ ?_
 ·intro h1
  cases h1
 ·intro h1
  refine i7 ?_; refine Tr.draw 5 n8 (by kernel_rfl) ?_; refine g9 ?_; refine jd (BJ r x k hpo hx zo) ?_; refine i7 ?_; refine jc (BJ r y k hpo hy zo) ?_; refine jc (OR (j9 r.2.1 x) (j9 r.2.1 y) (fun i=>Nat.le_trans (nx.c i) zo) (fun i=>Nat.le_trans (ny.c i) zo) (Nat.le_trans nx.d zo) (Nat.le_trans ny.d zo) nx.pos ny.pos) ?_; refine jc (OQ (H8 (j9 r.2.1 x) (j9 r.2.1 y)).1 (H8 (j9 r.2.1 x) (j9 r.2.1 y)).2 (fun i=>Nat.le_trans (nz.c i) zo) (Nat.le_trans nz.d zo)) ?_; refine g8 ?_
  exact d9.resC1 (fn:=Tryz.f118) rfl rfl (t7 rfl zi)

theorem bA (r:D0) (x y:y3) (k:Nat) (hpo:G3 r.2.1) (hx:y0 k x) (hy:y0 k y) (hk:k<=100000):Ct Tryz.prog 116 [s6 A7 r,b7 j8 x,b7 j8 y] (b7 j8 (l5 (H8 (j9 r.2.1 x) ((j9 r.2.1 y).1.map (fun z=>-z),(j9 r.2.1 y).2)))):=by
 have nx:=T3 hpo hx
 have ny:=T3 hpo hy
 have nn:=MD ny
 have nz:=KV nx nn
 refine Ct.mk Tryz.func116 rfl Tryz.ntmps116 rfl (fun w J=>?_); refine g9 ?_; refine jb 4 rfl ?_; refine jb 5 rfl ?_; refine ja 6 ?_; refine l6 ?_; refine tO (FQ rfl uu) rfl rfl ?_; refine g9 ?_; refine Tr.cnd rfl ?_ ?_
 ·intro h1
  cases h1
 ·intro h1
  refine i7 ?_; refine Tr.draw 5 n8 (by kernel_rfl) ?_; refine g9 ?_; refine jd (BJ r x k hpo hx zo) ?_; refine i7 ?_; refine jc (BJ r y k hpo hy zo) ?_; refine jc (UC (j9 r.2.1 y).1 (j9 r.2.1 y).2) ?_; refine jc (OR (j9 r.2.1 x) ((j9 r.2.1 y).1.map (fun z=>-z),(j9 r.2.1 y).2) (fun i=>Nat.le_trans (nx.c i) zo) (fun i=>Nat.le_trans (nn.c i) zo) (Nat.le_trans nx.d zo) (Nat.le_trans nn.d zo) nx.pos nn.pos) ?_; refine jc (OQ (H8 (j9 r.2.1 x) ((j9 r.2.1 y).1.map (fun z=>-z),(j9 r.2.1 y).2)).1 (H8 (j9 r.2.1 x) ((j9 r.2.1 y).1.map (fun z=>-z),(j9 r.2.1 y).2)).2 (fun i=>Nat.le_trans (nz.c i) zo) (Nat.le_trans nz.d zo)) ?_
  refine g8 ?_
  exact d9.resC1 (fn:=Tryz.f116) rfl rfl (t7 rfl zi)

theorem qB (r:D0) (x:y3) (k:Nat) (hpo:G3 r.2.1) (h2:r.2.1.length=2) (hx:y0 k x) (hk:k<=400000):Ct Tryz.prog 82 [s6 A7 r,b7 j8 x] (kI (r7 (b6 (j9 r.2.1 x).1 0) 0)):=by
 refine Ct.mk Tryz.func82 rfl Tryz.ntmps82 rfl (fun w J=>?_); refine g9 ?_; refine jb 3 rfl ?_; refine j6 ?_; refine tO (FQ rfl uu) rfl rfl ?_; refine g9 ?_; refine Tr.cnd rfl ?_ ?_
 ·intro h1
  cases h1
 ·intro h1
  refine j6 ?_; refine jc (BJ r x k hpo hx zo) ?_; refine jc (cK r (j9 r.2.1 x).1 (j9 r.2.1 x).2 (RP h2)) ?_; refine g8 ?_
  exact d9.res1 (fn:=Tryz.f82) rfl (.i rfl zi<|.nil)

theorem pX (r:D0) (x y:y3) (k:Nat) (hpo:G3 r.2.1) (hx:y0 k x) (hy:y0 k y) (hk:k<=100000) (h2:r.2.1.length=2):Ct Tryz.prog 83 [s6 A7 r,b7 j8 x,b7 j8 y] (kI (r7 (b6 (H8 (j9 r.2.1 x) ((j9 r.2.1 y).1.map (fun z=>-z),(j9 r.2.1 y).2)).1 0) 0)):=by
 have nx:=T3 hpo hx
 have ny:=T3 hpo hy
 have nn:=MD ny
 have nz:=KV nx nn
 refine Ct.mk Tryz.func83 rfl Tryz.ntmps83 rfl (fun w J=>?_); refine g9 ?_; refine jb 4 rfl ?_; refine jb 5 rfl ?_; refine j6 ?_; refine tO (FQ rfl uu) rfl rfl ?_; refine g9 ?_; refine Tr.cnd rfl ?_ ?_
 ·intro h1
  cases h1
 ·intro h1
  refine i7 ?_; refine Tr.draw 9 n8 (by kernel_rfl) ?_; refine i7 ?_; refine jd (BJ r x k hpo hx zo) ?_; refine g9 ?_; refine jd (BJ r y k hpo hy zo) ?_; refine jd (UC (j9 r.2.1 y).1 (j9 r.2.1 y).2) ?_; refine jd (OR (j9 r.2.1 x) ((j9 r.2.1 y).1.map (fun z=>-z),(j9 r.2.1 y).2) (fun i=>Nat.le_trans (nx.c i) zo) (fun i=>Nat.le_trans (nn.c i) zo) (Nat.le_trans nx.d zo) (Nat.le_trans nn.d zo) nx.pos nn.pos) ?_; refine i4 ?_; refine jc (cK r (H8 (j9 r.2.1 x) ((j9 r.2.1 y).1.map (fun z=>-z),(j9 r.2.1 y).2)).1 (H8 (j9 r.2.1 x) ((j9 r.2.1 y).1.map (fun z=>-z),(j9 r.2.1 y).2)).2 (iU (RP h2) (iV (RP h2)))) ?_
  refine g8 ?_
  exact d9.res1 (fn:=Tryz.f83) rfl (.i rfl zi<|.nil)

end Go.Fl

/- Contracts: the rational field is opened. -/
namespace Go.Fl
open Go Go.Proofs
open b8 renaming op->tO
open j1 renaming op->rO
set_option maxRecDepth 100000

theorem bQ (f:u8) (hf:∀i,-9223372036854775808<=b6 f.1 i/\b6 f.1 i<=9223372036854775807) (hl:f.1.length<=1000000):Ct Tryz.prog 158 [b7 z7 f] (b7 (eL eZ) f.1):=by
 refine Ct.mk Tryz.func158 rfl Tryz.ntmps158 rfl (fun w J=>?_); refine g9 ?_; refine jb 1 rfl ?_; refine P5 ?_; refine Tr.grow (s:=3) rfl rfl 3 rfl 160 eZ rfl ?_
 refine Tr.for1 (σ:=Nat) [⟨7,true,_,_⟩,⟨8,true,_,_⟩] [] (fun k=>[⟨3,true,[3],o5 3 k⟩,⟨9,true,[],kI (k:Int)⟩]) (fun k=>[⟨3,[],l3 true 160 eZ (f.1.take k) k⟩]) (fun k=>k<=f.1.length) (fun k=>k=f.1.length) (fun k=>f.1.length-k) (0) zi (d6.mk (.o rfl zi rfl<|.i rfl zi<|zk) (.a (by rfl) zi<|.nil) rfl) ?_ ?_
 ·intro k hR0
  refine jn ?_
  have hfk:=hf k
  refine l6 ?_; refine jq ?_ ?_
  ·intro h3
   refine C7 ?_; refine tO (i6 (fun hp=>P2 _ zo) (.a rfl uu<|.nil)) rfl rfl ?_; refine b8.new (w4 eZ 16 (fun hp=>.cons rfl<|.nil) rfl rfl rfl rfl) rfl rfl rfl rfl ?_; refine i4 ?_; refine jl ?_; refine j3 ?_
   exact g6.lp (k+1) zi zo (d6.mk (.o rfl zi rfl<|.i rfl zi<|zk) (.a (by rw[V5 zo]) zi<|.nil) rfl)
  ·intro h3
   replace h3:=Int.not_lt.1 h3
   refine g8 ?_
   exact g6.cut (k) zo (d6.mk (.o rfl zi rfl<|.i rfl zi<|zk) (zk) rfl)
 ·rintro k hkn
  refine je ?_
  have htk:f.1.take k=f.1:=by rw[hkn,List.take_length]
  refine j6 ?_; refine Tr.frz 3 [2] ⟨rfl,trivial⟩ (by simp only[p6]; omega) rfl ?_; refine i4 ?_; exact d9.res1 (fn:=Tryz.f158) rfl (.r rfl (by rw[htk])<|.nil)

end Go.Fl


/- Texts of origamis, the steps of the code: lines, numerals, cutting, numbers. Plain Lean, no program in sight. -/
namespace Go.Fl
end Go.Fl

/- Reading a text, step by step. Plain Lean, no program in sight. -/
namespace Go.Fl
end Go.Fl

/- Texts of rows, in plain Lean: what is printed is read back, by words and by cutting. No program in sight. -/
namespace Go.Fl
def MY (ws:List Bt):Bt:=ws.flatMap fun w=>32::w
def B1 (p:List Int) (n:Nat):Prop:=FK p n/\p.Nodup/\p.length=n
instance (p:List Int) (n:Nat):Decidable (B1 p n):=by unfold B1; infer_instance
def H3 (r:q7):Int:=if r.2.length≠r.1.length\/r.1.length<2\/8<r.1.length then 10 else if ¬(B1 r.1 r.1.length/\B1 r.2 r.1.length) then 3 else 0
structure E2 (r:q7):Prop where
 len:r.2.length=r.1.length
 two:2<=r.1.length
 le:r.1.length<=8
 p1:B1 r.1 r.1.length
 p2:B1 r.2 r.1.length
theorem MV {r:q7} (h:H3 r=0):E2 r:=by
 unfold H3 at h
 by_cases h1:r.2.length≠r.1.length\/r.1.length<2\/8<r.1.length
 ·rw[if_pos h1] at h; cases h
 rw[if_neg h1] at h
 by_cases h2:¬(B1 r.1 r.1.length/\B1 r.2 r.1.length)
 ·rw[if_pos h2] at h; cases h
 have h2:=Classical.not_not.1 h2
 exact ⟨by omega,by omega,by omega,h2.1,h2.2⟩
theorem oB {r:q7} (h:E2 r):H3 r=0:=by
 have h1:=h.len; have h2:=h.two; have h3:=h.le
 unfold H3
 rw[if_neg zo,if_neg (fun hh=>hh ⟨h.p1,h.p2⟩)]
theorem E2.b1 {r:q7} (h:E2 r):∀x∈r.1,0<=x/\x<100:=fun x hx=>by have:=VH h.p1.1 hx; have:=h.le; omega
theorem E2.b2 {r:q7} (h:E2 r):∀x∈r.2,0<=x/\x<100:=fun x hx=>by have:=VH h.p2.1 hx; have:=h.le; omega
def mQ (r:q7):List Bt:=r.1.map num++[47]::r.2.map num
def XH (r:q7):Bt:=Lib.join (mQ r) [32]
theorem kF {p:List Int}:MY (p.map num)=HQ p:=by unfold MY HQ; rw[List.flatMap_map]
theorem yP {x:Int} {t b:List Int}:XH (x::t,b)=num x++MY (t.map num++[47]::b.map num):=by
 unfold XH mQ
 rw[List.map_cons,List.cons_append,Lib.join_cons]
 congr 1
theorem iP {r:q7} (h:E2 r):(XH r).length<=60:=by
 have h1:=h.len; have h2:=h.two; have h3:=h.le
 obtain ⟨a,b⟩:=r
 cases a with
 | nil=>simp at h2
 | cons x t =>
  have hx:=gY (n:=x)
  have ht:=mI (p:=t)
  have hb:=mI (p:=b)
  rw[yP]
  have e:MY (t.map num++[47]::b.map num)=HQ t++32::47::HQ b:=by rw[<- kF,<- kF]; simp[MY]
  rw[e]
  simp only[List.length_append,List.length_cons] at *
  omega
end Go.Fl

/- Reading rows, as the program and as the reference do: both read just what is printed of rows. Plain Lean, no program in sight. -/
namespace Go.Fl
end Go.Fl

/- Rows: what makes them valid, in the words of both programs; irreducible rows. Plain Lean, no program in sight. -/
namespace Go.Fl
theorem WO:∀{n:Nat} {l:List Int},l.Nodup->(∀x∈l,0<=x/\x<n)->l.length<=n
 | 0,l,_,hb=>by
  cases l with
  | nil=>simp
  | cons a l=>have:=hb a (by simp); omega
 | n+1,l,hd,hb=>by
  by_cases hm:(n:Int)∈l
  ·have h1:=WO (n:=n) (l:=l.erase (n:Int)) (hd.erase _) (fun x hx=>by
    have h2:=hb x (List.mem_of_mem_erase hx)
    have h3:x≠n:=fun e=>by subst e; exact (List.Nodup.not_mem_erase hd) hx
    omega)
   rw[List.length_erase_of_mem hm] at h1
   omega
  ·have:=WO (n:=n) (l:=l) hd (fun x hx=>by
    have h2:=hb x hx
    have h3:x≠n:=fun e=>hm (e▸hx)
    omega)
   omega
theorem uQ {p:List Int} {n:Nat} (h:∀x∈p,0<=x/\x<n):FK p n:=fun _ hi=>h _ (G1 hi)
theorem iF:∀{n:Nat} {l:List Int},(∀i:Nat,i<n->(i:Int)∈l)->l.length=n->l.Nodup/\∀x∈l,0<=x/\x<n
 | 0,l,_,hl=>by
  obtain rfl:=List.eq_nil_of_length_eq_zero hl
  simp
 | n+1,l,h,hl=>by
  have hm:(n:Int)∈l:=h n zo
  have ih:=iF (n:=n) (l:=l.erase (n:Int)) (fun i hi=>(List.mem_erase_of_ne zo).2 (h i zo)) (by rw[List.length_erase_of_mem hm]; omega)
  have hp:=List.perm_cons_erase hm
  have hn:(n:Int)∉l.erase (n:Int):=fun hh=>by have:=ih.2 _ hh; omega
  refine ⟨hp.nodup_iff.2 (List.nodup_cons.2 ⟨hn,ih.1⟩),fun x hx=>?_⟩
  rcases List.mem_cons.1 (hp.mem_iff.1 hx) with rfl | hx
  ·omega
  ·have:=ih.2 x hx; omega
theorem iO {l:List Int} {n:Nat}:B1 l n↔(∀i:Nat,i<n->(i:Int)∈l)/\l.length=n:=by
 constructor
 ·rintro ⟨h1,h2,h3⟩
  refine ⟨fun i hi=>Classical.byContradiction fun hn=>?_,h3⟩
  have:=WO (n:=n) (l:=(i:Int)::l) (List.nodup_cons.2 ⟨hn,h2⟩) (fun x hx=>by
   rcases List.mem_cons.1 hx with rfl | hx
   ·omega
   ·exact VH h1 hx)
  rw[List.length_cons] at this; omega
 ·rintro ⟨h1,h2⟩
  obtain ⟨a,b⟩:=iF h1 h2
  exact ⟨uQ b,a,h2⟩
theorem kV:∀{l m:List Int},l.Nodup->(∀x∈l,x∈m)->l.length<=m.length
 | [],_,_,_=>Nat.zero_le _
 | a::l,m,hd,h=>by
  have hc:=List.nodup_cons.1 hd
  have ha:a∈m:=h a (by simp)
  have ih:=kV (l:=l) (m:=m.erase a) hc.2 (fun x hx=>(List.mem_erase_of_ne (fun (e:x=a)=>hc.1 (e▸hx))).2 (h x (by simp[hx])))
  rw[List.length_erase_of_mem ha] at ih
  have:0<m.length:=List.length_pos_of_mem ha
  simp only[List.length_cons]; omega
theorem kS {l m:List Int} (hd:l.Nodup) (hl:m.length<=l.length) (h:∀x∈l,x∈m):∀x∈m,x∈l:=fun x hx=>Classical.byContradiction fun hn=>by
 have:=kV (l:=x::l) (m:=m) (List.nodup_cons.2 ⟨hn,hd⟩) (fun y hy=>by
  rcases List.mem_cons.1 hy with rfl | hy
  ·exact hx
  ·exact h y hy)
 rw[List.length_cons] at this; omega
theorem wZ {l:List Int} {k:Nat} (hd:l.Nodup) (h:k<l.length):b6 l k∉l.take k:=fun hm=>by
 have h1:(l.take (k+1)).Nodup:=hd.sublist (List.take_sublist _ _)
 rw[V5 h] at h1
 exact (List.nodup_append.1 h1).2.2 _ hm _ (by simp) rfl
def S5 (r:q7) (k:Nat):Bool:=(r.1.take k).any fun a=>!decide (a∈r.2.take k)
def B3 (r:q7):Bool:=decide (∀k,k<r.1.length->1<=k->S5 r k=true)
def DH (r:q7) (k i:Nat):Bool:=(r.2.take i).all fun a=>decide (a∈r.1.take k)
theorem PX {r:q7} (h:E2 r) {k:Nat} (hk:k<=r.1.length):S5 r k=!DH r k k:=by
 have hl:=h.len
 have d1:(r.1.take k).Nodup:=h.p1.2.1.sublist (List.take_sublist _ _)
 have d2:(r.2.take k).Nodup:=h.p2.2.1.sublist (List.take_sublist _ _)
 have l1:(r.1.take k).length=k:=by rw[List.length_take]; omega
 have l2:(r.2.take k).length=k:=by rw[List.length_take]; omega
 have key:(∀a∈r.1.take k,a∈r.2.take k)↔∀a∈r.2.take k,a∈r.1.take k:=by
  exact ⟨fun hh=>kS d1 zo hh,fun hh=>kS d2 zo hh⟩
 unfold S5 DH
 rw[Bool.eq_iff_iff]
 simp only[List.any_eq_true,Bool.not_eq_true',decide_eq_false_iff_not,List.all_eq_false,decide_eq_true_eq]
 constructor
 ·rintro ⟨a,ha,hn⟩
  refine Classical.byContradiction fun hc=>hn (key.2 (fun b hb=>Classical.byContradiction fun hb2=>hc ⟨b,hb,hb2⟩) a ha)
 ·rintro ⟨a,ha,hn⟩
  refine Classical.byContradiction fun hc=>hn (key.1 (fun b hb=>Classical.byContradiction fun hb2=>hc ⟨b,hb,hb2⟩) a ha)
end Go.Fl

/- Contracts: the library, the base, rows (chapter 5). -/
namespace Go.Fl
open Go Go.Proofs
open b8 renaming op->tO
open j1 renaming op->rO
set_option maxRecDepth 100000


theorem FD (a b:List Int):Ct Tryz.prog 23 [b7 (eL eI) a,b7 (eL eI) b] (kB (decide (a=b))):=by
 refine Ct.mk Tryz.func23 rfl Tryz.ntmps23 rfl (fun w J=>?_); refine Tr.fact (s:=0) rfl (fun _ _ h=>U9 h) (fun hb=>?_); refine L4 ?_; refine jq ?_ ?_
 ·intro h1
  refine j6 ?_; exact d9.res1 (fn:=Tryz.f23) rfl (.b rfl (by symm; rw[decide_eq_false_iff_not]; intro e; exact h1 (by rw[e]))<|.nil)
 ·intro h1
  replace h1:=Classical.not_not.1 h1
  refine j3 ?_
  refine Tr.for1 (σ:=Nat) [⟨0,true,_,_⟩,⟨1,true,_,_⟩] [] (fun k=>[⟨5,true,[],kI (k:Int)⟩]) (fun k=>[]) (fun k=>k<=a.length/\∀i,i<k->b6 a i=b6 b i) (fun k=>a=b) (fun k=>a.length-k) (0) ⟨Nat.zero_le _,fun i h=>absurd h zo⟩ (d6.mk (.i rfl zi<|zk) (.nil) rfl) ?_ ?_
  ·rintro k ⟨hk0,hR0⟩
   refine jn ?_; refine m8 ?_; refine jq ?_ ?_
   ·intro h4
    refine l8 ?_; refine Tr.draw 8 n8 (by kernel_rfl) ?_; refine u9 ?_; refine jq ?_ ?_
    ·intro h6
     refine u9 ?_; exact d9.res1 (fn:=Tryz.f23) rfl (.b rfl (by symm; rw[decide_eq_false_iff_not]; intro e; exact h6 (by rw[e]))<|.nil)
    ·intro h6
     replace h6:=Classical.not_not.1 h6
     refine j3 ?_
     exact g6.lp (k+1) ⟨by omega,OB hR0 h6⟩ zo (d6.mk (.i rfl zi<|zk) (.nil) rfl)
   ·intro h4
    replace h4:=Int.not_lt.1 h4
    refine g8 ?_
    exact g6.cut (k) (D1 zo (fun i hi=>hR0 i zo)) (d6.mk (.i rfl zi<|zk) (.nil) rfl)
  ·intro k hE0
   refine je ?_; refine j6 ?_; exact d9.res1 (fn:=Tryz.f23) rfl (.b rfl (by symm; rw[decide_eq_true_eq]; exact hE0)<|.nil)

theorem aR (l:List Int) (x:Int):Ct Tryz.prog 152 [b7 (eL eI) l,kI x] (kB (decide (x∈l))):=by
 refine Ct.mk Tryz.func152 rfl Tryz.ntmps152 rfl (fun w J=>?_); refine Tr.fact (s:=0) rfl (fun _ _ h=>U9 h) (fun hb=>?_); refine y7 ?_
 refine Tr.for1 (σ:=Nat) [⟨0,true,_,_⟩,⟨1,true,_,_⟩] [] (fun k=>[⟨5,true,[],kI (k:Int)⟩]) (fun k=>[]) (fun k=>k<=l.length/\∀i,i<k->b6 l i≠x) (fun k=>∀i,i<l.length->b6 l i≠x) (fun k=>l.length-k) (0) ⟨Nat.zero_le _,fun i h=>absurd h zo⟩ (d6.mk (.i rfl zi<|zk) (.nil) rfl) ?_ ?_
 ·rintro k ⟨hk0,hR0⟩
  refine jn ?_; refine m8 ?_; refine jq ?_ ?_
  ·intro h2
   refine C7 ?_; refine jq ?_ ?_
   ·intro h4
    refine u9 ?_; exact d9.res1 (fn:=Tryz.f152) rfl (.b rfl (by symm; rw[decide_eq_true_eq,<- h4]; exact G1 zo)<|.nil)
   ·intro h4
    refine j3 ?_
    exact g6.lp (k+1) ⟨by omega,OB hR0 h4⟩ zo (d6.mk (.i rfl zi<|zk) (.nil) rfl)
  ·intro h2
   replace h2:=Int.not_lt.1 h2
   refine g8 ?_
   exact g6.cut (k) (fun i hi=>hR0 i zo) (d6.mk (.i rfl zi<|zk) (.nil) rfl)
 ·intro k hE0
  refine je ?_; refine j6 ?_; exact d9.res1 (fn:=Tryz.f152) rfl (.b rfl (by symm; rw[decide_eq_false_iff_not]; intro hm; obtain ⟨i,hi,e⟩:=List.mem_iff_getElem.1 hm; exact hE0 i hi (by rw[Y3 (List.getElem?_eq_getElem hi),e]))<|.nil)

theorem bX (l:List Int) (n:Nat) (hn:n<=100):Ct Tryz.prog 121 [b7 (eL eI) l,kI (n:Int)] (kB (decide (B1 l n))):=by
 refine Ct.mk Tryz.func121 rfl Tryz.ntmps121 rfl (fun w J=>?_); refine Tr.fact (s:=0) rfl (fun _ _ h=>U9 h) (fun hb=>?_); refine y7 ?_
 refine Tr.for1 (σ:=Nat) [⟨0,true,_,_⟩,⟨1,true,_,_⟩] [] (fun k=>[⟨5,true,[],kI (k:Int)⟩]) (fun k=>[]) (fun k=>k<=n/\∀i,i<k->(i:Int)∈l) (fun k=>∀i,i<n->(i:Int)∈l) (fun k=>n-k) (0) ⟨Nat.zero_le _,fun i h=>absurd h zo⟩ (d6.mk (.i rfl zi<|zk) (.nil) rfl) ?_ ?_
 ·rintro k ⟨hk0,hR0⟩
  refine jn ?_; refine j3 ?_; refine jq ?_ ?_
  ·intro h2
   refine j3 ?_; refine tO (i6 (fun hp=>aR _ _) (.a rfl uu<|.a rfl uu<|.nil)) rfl rfl ?_; refine i7 ?_; refine Tr.cnd rfl ?_ ?_
   ·intro h4
    try simp only[decide_eq_false_iff_not,Bool.not_eq_true'] at h4
    refine u9 ?_; exact d9.res1 (fn:=Tryz.f121) rfl (.b rfl (by symm; rw[decide_eq_false_iff_not,iO]; intro hh; exact h4 (hh.1 k zo))<|.nil)
   ·intro h4
    try simp only[decide_eq_true_eq,Bool.not_eq_false'] at h4
    refine j3 ?_
    exact g6.lp (k+1) ⟨by omega,OB hR0 h4⟩ zo (d6.mk (.i rfl zi<|zk) (.nil) rfl)
  ·intro h2
   replace h2:=Int.not_lt.1 h2
   refine g8 ?_
   exact g6.cut (k) (fun i hi=>hR0 i zo) (d6.mk (.i rfl zi<|zk) (.nil) rfl)
 ·intro k hE0
  refine je ?_; refine y7 ?_; exact d9.res1 (fn:=Tryz.f121) rfl (.b rfl (by rw[Bool.eq_iff_iff,decide_eq_true_eq,decide_eq_true_eq,iO]; exact ⟨fun e=>⟨hE0,by omega⟩,fun e=>by have:=e.2; omega⟩)<|.nil)

theorem bS (r:q7):Ct Tryz.prog 70 [b7 eO r] (kI (H3 r)):=by
 refine Ct.mk Tryz.func70 rfl Tryz.ntmps70 rfl (fun w J=>?_); refine g9 ?_; refine jb 1 rfl ?_; refine uY ?_; refine Tr.cnd rfl ?_ ?_
 ·intro h2
  try simp only[decide_eq_true_eq,Bool.or_eq_true,ne_eq] at h2
  refine j6 ?_; exact d9.res1 (fn:=Tryz.f70) rfl (.i rfl (by unfold H3; rw[if_pos zo])<|.nil)
 ·intro h2
  try simp only[decide_eq_false_iff_not,Bool.or_eq_false_iff,Int.not_lt,ne_eq,Classical.not_not] at h2
  refine j3 ?_; refine tO (i6 (fun hp=>bX _ _ zo) (.a rfl uu<|.a rfl uu<|.nil)) rfl rfl ?_; refine l8 ?_; refine b8.gd rfl rfl rfl (i6 (fun hp=>bX _ _ zo) (.a rfl id<|.a rfl id<|.nil)) rfl rfl ?_; refine g8 ?_; refine Tr.cnd rfl ?_ ?_
  ·intro h4
   try simp only[decide_eq_false_iff_not,Bool.or_eq_true,Bool.not_eq_true'] at h4
   refine j6 ?_; exact d9.res1 (fn:=Tryz.f70) rfl (.i rfl (by unfold H3; rw[if_neg zo,if_pos (fun hh=>h4.elim (fun h=>h hh.1) (fun h=>h hh.2))])<|.nil)
  ·intro h4
   try simp only[decide_eq_true_eq,Bool.not_eq_false',Bool.or_eq_false_iff] at h4
   refine j3 ?_; exact d9.res1 (fn:=Tryz.f70) rfl (.i rfl (by unfold H3; rw[if_neg zo,if_neg (fun hh=>hh h4)])<|.nil)

theorem bO (l:List Int) (n:Nat) (hn:n<=100):Ct Tryz.prog 153 [b7 (eL eI) l,kI (n:Int)] (kB (decide (B1 l n))):=by
 refine Ct.mk Tryz.func153 rfl Tryz.ntmps153 rfl (fun w J=>?_); refine Tr.fact (s:=0) rfl (fun _ _ h=>U9 h) (fun hb=>?_); refine j3 ?_; refine b8.new (BX BO 9 rfl uu rfl uu rfl rfl rfl (fun _=>zo)) rfl rfl rfl rfl ?_; refine y7 ?_
 refine Tr.for1 (σ:=Nat) [⟨0,true,_,_⟩,⟨1,true,_,_⟩,⟨5,true,_,_⟩,⟨10,true,_,_⟩,⟨11,true,_,_⟩] [] (fun k=>[⟨12,true,[],kI (k:Int)⟩]) (fun k=>[⟨9,[],l3 false 4 BO (CH n (l.take k)) n⟩]) (fun k=>k<=l.length/\(∀i,i<k->0<=b6 l i/\b6 l i<n)/\(l.take k).Nodup) (fun k=>FK l n/\l.Nodup) (fun k=>l.length-k) (0) ⟨by omega,fun i h=>absurd h zo,by simp⟩ (d6.mk (.i rfl zi<|zk) (.a (by simp[ab2]) zi<|.nil) rfl) ?_ ?_
 ·rintro k ⟨hk,hR,hD⟩
  refine jn ?_; refine l6 ?_; refine jq ?_ ?_
  ·intro h3
   refine fF ?_
   first | refine b8.gd rfl rfl rfl (JP rfl id rfl id (fun hp=>by simp at hp; omega)) rfl rfl ?_ | refine b8.gd rfl rfl rfl (HG rfl id rfl id (fun hp=>by simp at hp; omega)) rfl rfl ?_
   refine g8 ?_; refine Tr.cnd rfl ?_ ?_
   ·intro h5
    have hbad:¬(0<=b6 l k/\b6 l k<n/\b6 l k∉l.take k):=by (rintro ⟨a,b,c⟩; simp only[Bool.or_eq_true,decide_eq_true_eq,gV a b] at h5; rcases h5 with (h | h) | h; omega; omega; exact c h)
    refine D2 ?_; exact d9.res1 (fn:=Tryz.f153) rfl (.b rfl (by symm; rw[decide_eq_false_iff_not]; rintro ⟨hh1,hh2,_⟩; exact hbad ⟨(hh1 k zo).1,(hh1 k zo).2,wZ hh2 zo⟩)<|.nil)
   ·intro h5
    have hgood:0<=b6 l k/\b6 l k<n/\b6 l k∉l.take k:=by (simp only[Bool.or_eq_false_iff,decide_eq_false_iff_not] at h5; obtain ⟨⟨q1,q2⟩,q3⟩:=h5; have a:0<=b6 l k:=zo; have b:b6 l k<n:=zo; rw[gV a b] at q3; exact ⟨a,b,of_decide_eq_false q3⟩)
    refine C7 ?_
    exact g6.lp (k+1) ⟨by omega,OB hR ⟨hgood.1,hgood.2.1⟩,by (rw[V5 zo]; exact wY hD (decide_eq_false hgood.2.2))⟩ zo (d6.mk (.i rfl zi<|zk) (.a (by rw[V5 zo,ab3 zo]) zi<|.nil) rfl)
  ·intro h3
   replace h3:=Int.not_lt.1 h3
   refine g8 ?_
   exact g6.cut (k) ⟨fun i hi=>hR i zo,by (rw[List.take_of_length_le zo] at hD; exact hD)⟩ (d6.mk (.i rfl zi<|zk) (.a zi zi<|.nil) rfl)
 ·rintro k ⟨hr,hd⟩
  refine je ?_; refine y7 ?_; exact d9.res1 (fn:=Tryz.f153) rfl (.b rfl (by rw[Bool.eq_iff_iff,decide_eq_true_eq,decide_eq_true_eq]; exact ⟨fun e=>⟨hr,hd,by omega⟩,fun e=>by have:=e.2.2; omega⟩)<|.nil)

theorem TZ (r:q7):Ct Tryz.prog 108 [b7 eO r] (kI (H3 r)):=by
 refine Ct.mk Tryz.func108 rfl Tryz.ntmps108 rfl (fun w J=>?_); refine g9 ?_; refine jb 1 rfl ?_; refine uZ ?_; refine Tr.cnd rfl ?_ ?_
 ·intro h2
  try simp only[decide_eq_true_eq,Bool.or_eq_true,ne_eq] at h2
  refine j3 ?_; exact d9.res1 (fn:=Tryz.f108) rfl (.i rfl (by unfold H3; rw[if_pos zo])<|.nil)
 ·intro h2
  try simp only[decide_eq_false_iff_not,Bool.or_eq_false_iff,Int.not_lt,ne_eq,Classical.not_not] at h2
  refine l8 ?_; refine tO (i6 (fun hp=>bO _ _ zo) (.a rfl uu<|.a rfl uu<|.nil)) rfl rfl ?_; refine l8 ?_; refine b8.gd rfl rfl rfl (i6 (fun hp=>bO _ _ zo) (.a rfl id<|.a rfl id<|.nil)) rfl rfl ?_; refine l8 ?_; refine Tr.cnd rfl ?_ ?_
  ·intro h4
   try simp only[decide_eq_false_iff_not,Bool.or_eq_true,Bool.not_eq_true'] at h4
   refine j3 ?_; exact d9.res1 (fn:=Tryz.f108) rfl (.i rfl (by unfold H3; rw[if_neg zo,if_pos (fun hh=>h4.elim (fun h=>h hh.1) (fun h=>h hh.2))])<|.nil)
  ·intro h4
   try simp only[decide_eq_true_eq,Bool.not_eq_false',Bool.or_eq_false_iff] at h4
   refine m8 ?_; exact d9.res1 (fn:=Tryz.f108) rfl (.i rfl (by unfold H3; rw[if_neg zo,if_neg (fun hh=>hh h4)])<|.nil)

end Go.Fl

/- Numbers of a field: what is handed back is taken as it was. No program in sight. -/
namespace Go.Fl
open Go
theorem eD:∀{cs:List Int} {g:Nat},gL g (cs.map fun z=>-z)=gL g cs
 | [],_=>rfl
 | c::cs,g=>by rw[List.map_cons,gL,gL,Int.natAbs_neg,eD]
theorem tQ {a g:Int} (h:g∣a):-a/g=-(a/g):=by
 obtain ⟨q,rfl⟩:=h
 by_cases hg:g=0
 ·subst hg; simp
 ·rw[Int.mul_ediv_cancel_left _ hg,<- Int.mul_neg,Int.mul_ediv_cancel_left _ hg]
theorem VX {cs:List Int} {d:Int}:loN (cs.map fun z=>-z) d=((loN cs d).1.map (fun z=>-z),(loN cs d).2):=by
 have e:w8 d (cs.map fun z=>-z)=w8 d cs:=by unfold w8; rw[eD]
 unfold loN
 rw[e,List.map_map,List.map_map]
 refine Prod.ext (List.map_congr_left fun c hc=>?_) rfl
 exact tQ (CI (.inr hc))
theorem vO {cs:List Int} {d:Int} (hd:d≠0):loN (loN cs d).1 (loN cs d).2=loN cs d:=by
 have h2:=GX (cs:=cs) hd
 refine QE zo hd ?_
 show ((cs.map fun c=>c/w8 d cs).map fun c=>c*d)=cs.map fun c=>c*(d/w8 d cs)
 rw[List.map_map]
 refine List.map_congr_left fun c hc=>?_
 obtain ⟨q,hq⟩:=CI (d:=d) (cs:=cs) (.inr hc)
 obtain ⟨t,ht⟩:=CI (d:=d) (cs:=cs) (.inl rfl)
 have h0:=HM (cs:=cs) hd
 show c/w8 d cs*d=c*(d/w8 d cs)
 have e1:c/w8 d cs=q:=by rw[congrArg (·/w8 d cs) hq]; exact Int.mul_ediv_cancel_left _ h0
 have e2:d/w8 d cs=t:=by rw[congrArg (·/w8 d cs) ht]; exact Int.mul_ediv_cancel_left _ h0
 rw[e1,e2]
 calc q*d=q*(w8 d cs*t):=by rw[<- ht]
  _=w8 d cs*q*t:=by rw[<- Int.mul_assoc,Int.mul_comm q]
  _=c*t:=by rw[<- hq]
abbrev n7:=List Int×Int
structure B4 (p:List Int) (v:n7):Prop where
 len:v.1.length=4
 pos:0<v.2
 hi:∀i,p.length-1<=i->b6 v.1 i=0
 loN:loN v.1 v.2=v
theorem zero_ediv {g:Int}:(0:Int)/g=0:=by simp
theorem vN {cs:List Int} {d:Int} {i:Nat} (h:b6 cs i=0):b6 (loN cs d).1 i=0:=by
 by_cases hl:i<cs.length
 ·rw[WQ hl,h,zero_ediv]
 ·rw[v6 (by rw[DC]; omega)]; rfl
theorem fS {p cs:List Int} {d:Int} (hl:cs.length=4) (hd:d≠0) (h:∀i,p.length-1<=i->b6 cs i=0):B4 p (loN cs d):=⟨DC.trans hl,GX hd,fun i hi=>vN (h i hi),vO hd⟩
theorem EL {p:List Int} {x:List (List Int)×List Int} (_:G3 p):B4 p (j9 p x):=fS HJ BN fun i hi=>by
 by_cases h:i<4
 ·rw[gT h,v6 (by rw[KA]; exact hi)]; rfl
 ·rw[v6 (by rw[HJ]; omega)]; rfl
theorem ZH {p:List Int} {x y:n7} (hx:B4 p x) (hy:B4 p y):B4 p (H8 x y):=fS p8 (by have:=Int.mul_pos hx.pos hy.pos; omega) fun i hi=>by
 by_cases h:i<4
 ·rw[q9 h,hx.hi i hi,hy.hi i hi]; simp
 ·rw[v6 (by rw[p8]; omega)]; rfl
def BU (v:n7):n7:=(v.1.map (fun z=>-z),v.2)
def H0 (x y:n7):n7:=H8 x (BU y)
theorem JL {xs:List Int} {i:Nat}:b6 (xs.map fun z=>-z) i=-b6 xs i:=by
 by_cases h:i<xs.length
 ·simp[b6,h]
 ·rw[v6 (by rw[List.length_map]; omega),v6 zo]; rfl
theorem gH {p:List Int} {x:n7} (hx:B4 p x):B4 p (BU x):=by
 refine ⟨by show (x.1.map _).length=4; rw[List.length_map,hx.len],hx.pos,fun i hi=>by show b6 (x.1.map _) i=0; rw[JL,hx.hi i hi]; rfl,?_⟩
 show loN (x.1.map fun z=>-z) x.2=BU x
 rw[VX,hx.loN]; rfl
theorem YA {p:List Int} {x y:n7} (hx:B4 p x) (hy:B4 p y):B4 p (H0 x y):=ZH hx (gH hy)
theorem ae8 {x y:n7} {j k:Nat} (hx:E7 j x) (hy:E7 k y):E7 (j+k+1) (H0 x y):=KV hx (MD hy)
theorem E7.mono {j k:Nat} {v:n7} (h:E7 j v) (hjk:j<=k):E7 k v:=⟨fun i=>Nat.le_trans (h.c i) hjk,Nat.le_trans h.d hjk,h.pos,h.len⟩
theorem lL {xs:List Int}:∃k,xs=j7 xs++List.replicate k 0/\xs.length=(j7 xs).length+k:=by
 induction xs with
 | nil=>exact ⟨0,rfl,rfl⟩
 | cons x xs ih =>
  obtain ⟨k,h1,h2⟩:=ih
  simp only[j7]
  split
  ·rename_i h
   obtain ⟨q1,q2⟩:j7 xs=[]/\x=0:=by first | exact h | simpa using h | exact ⟨by assumption,by assumption⟩
   rw[q1] at h1 h2
   refine ⟨k+1,?_,by simp at h2 ⊢; omega⟩
   rw[List.nil_append,List.replicate_succ,q2]
   rw[List.nil_append] at h1
   exact congrArg _ h1
  ·exact ⟨k,by rw[List.cons_append,<- h1],by simp only[List.length_cons]; omega⟩
theorem S7 {xs:List Int} {i:Nat}:b6 (j7 xs) i=b6 xs i:=by
 obtain ⟨k,h1,_⟩:=lL (xs:=xs)
 conv=>rhs; rw[h1]
 rw[JK]
 split
 ·rfl
 ·rw[v6 zo]; rfl
theorem YL {xs:List Int} {n:Nat} (h:∀i,n<=i->b6 xs i=0):(j7 xs).length<=n:=by
 refine Classical.byContradiction fun hn=>?_
 have hne:j7 xs≠[]:=fun e=>by rw[e] at hn; simp at hn
 have hl:=KF hne
 have:=h ((j7 xs).length-1) zo
 rw[<- S7] at this
 refine hl ?_
 rw[List.getLast_eq_getElem]
 have hlt:(j7 xs).length-1<(j7 xs).length:=by omega
 simpa [b6,List.getD,List.getElem?_eq_getElem hlt] using this
theorem fU {xs:List Int}:((xs.map g7).map val)=xs:=by
 rw[List.map_map]
 conv=>rhs; rw[<- List.map_id xs]
 exact List.map_congr_left fun c _=>q8 c
theorem AX {p:List Int} {v:n7} (hv:B4 p v):j9 p (l5 v)=v:=by
 unfold j9 l5
 show loN (I2 p (((j7 v.1).map g7).map val)) (w3 (g7 v.2))=v
 have h0:=hv.pos
 rw[fU,show w3 (g7 v.2)=v.2 by unfold w3; rw[q8,if_neg zo]]
 have e:I2 p (j7 v.1)=v.1:=by
  unfold I2
  rw[RT rfl (YL hv.hi)]
  conv=>rhs; rw[T2 hv.len]
  refine C9 fun i _=>?_
  rw[JK,S7]
  split
  ·rfl
  ·rw[<- S7,v6 zo]; rfl
 rw[e,hv.loN]
theorem X8 {v:n7} {k:Nat} (hv:E7 k v):y0 k (l5 v):=by
 refine ⟨?_,fun i=>?_,v5 _,by show (g7 v.2).length<=k; rw[r9]; exact hv.d⟩
 ·show ((j7 v.1).map g7).length<=6
  have:=R8 (xs:=v.1)
  rw[List.length_map]
  have:=hv.len
  omega
 ·show w7 (b6 ((j7 v.1).map g7) i)/\(b6 ((j7 v.1).map g7) i).length<=k
  have e:b6 ((j7 v.1).map g7) i=g7 (b6 v.1 i):=by
   rw[<- S7]
   by_cases h:i<(j7 v.1).length
   ·simp[b6,h]
   ·rw[v6 (by rw[List.length_map]; omega),v6 zo]; rfl
  rw[e]
  exact ⟨v5 _,by rw[r9]; exact hv.c i⟩
def z8 (n:Int):n7:=([n,0,0,0],1)
theorem ab7 {cs:List Int}:w8 1 cs=1:=by
 have h1:=VB (c:=cs) (g:=1) zo
 have h2:=PQ (cs:=cs) (g:=1) zo
 unfold w8
 rw[if_neg zo]
 show ((gL 1 cs:Nat):Int)=1
 omega
theorem LZ {cs:List Int}:loN cs 1=(cs,1):=by
 unfold loN
 rw[ab7]
 simp
theorem eT {p:List Int} (hp:G3 p) (n:Int):B4 p (z8 n):=by
 refine ⟨rfl,by show (0:Int)<1; omega,fun i hi=>?_,LZ⟩
 have:=hp.1.1
 show b6 [n,0,0,0] i=0
 match i,hi with
 | 0,h=>omega
 | 1,_=>rfl
 | 2,_=>rfl
 | 3,_=>rfl
 | i+4,_=>rw[v6 (by simp)]; rfl
theorem mY {m n:Int}:H8 (z8 m) (z8 n)=z8 (m+n):=by
 unfold H8 z8
 rw[show (1:Int)*1=1 by rfl,LZ]
 simp[j4,List.range,List.range.loop,b6]
theorem kU {m n:Int}:H0 (z8 m) (z8 n)=z8 (m-n):=by
 have e:BU (z8 n)=z8 (-n):=by simp[BU,z8]
 unfold H0
 rw[e,mY,Int.sub_eq_add_neg]
end Go.Fl

/- Places of intervals, and what is computed of an exchange. No program in sight. -/
namespace Go.Fl
open Go
def CC (ls:List n7) (row:List Int):Nat->n7
 | 0=>z8 0
 | k+1=>H8 (CC ls row k) (b6 ls (b6 row k).toNat)
def FU (ls:List n7) (row:List Int) (k:Nat):List (List (List Int)×List Int):=j4 row.length fun a=>if row.idxOf (a:Int)<k then l5 (CC ls row (row.idxOf (a:Int))) else ([],[])
def K7 (ls:List n7) (row:List Int):List n7:=j4 row.length fun a=>CC ls row (row.idxOf (a:Int))
def SJ (ls:List n7) (row:List Int):n7:=CC ls row row.length
def ZS (r:List Int×List Int) (ls:List n7) (k:Nat):List n7:=j4 k fun a=>H0 (b6 (K7 ls r.2) a) (b6 (K7 ls r.1) a)
theorem yM {ls:List n7} {row:List Int}:FU ls row 0=List.replicate row.length ([],[]):=by
 unfold FU
 rw[C9 (G:=fun _=>([],[])) fun a _=>by simp]
 simp[j4,List.map_const']
theorem VF {row:List Int} {n k:Nat} (h:B1 row n) (hk:k<row.length):row.idxOf (b6 row k)=k:=uP hk fun i hi e=>by
 have:=JJ h.2.1 zo hk e
 omega
theorem yL {ls:List n7} {row:List Int} {n k:Nat} (h:B1 row n) (hk:k<row.length):(FU ls row k).set (b6 row k).toNat (l5 (CC ls row k))=FU ls row (k+1):=by
 have hr:=h.1 k hk
 have hl:=h.2.2
 unfold FU
 rw[FW]
 refine C9 fun a ha=>?_
 by_cases e:a=(b6 row k).toNat
 ·subst e
  have hi:row.idxOf (((b6 row k).toNat:Nat):Int)=k:=by rw[show (((b6 row k).toNat:Nat):Int)=b6 row k by omega]; exact VF h hk
  rw[if_pos rfl,hi,if_pos zo]
 ·have hne:row.idxOf (a:Int)≠k:=fun hi=>e (by
   obtain ⟨j,hj,hja⟩:=MP h.2.1 h.1 h.2.2 (x:=(a:Int)) zo zo
   have:=VF h (k:=j) zo
   rw[hja,hi] at this
   subst this
   omega)
  rw[if_neg e]
  by_cases h1:row.idxOf (a:Int)<k
  ·rw[if_pos h1,if_pos zo]
  ·rw[if_neg h1,if_neg zo]
theorem yK {ls:List n7} {row:List Int} {n:Nat} (h:B1 row n):FU ls row row.length=(K7 ls row).map l5:=by
 unfold FU K7
 simp only[j4,List.map_map]
 refine List.map_congr_left fun a ha=>?_
 have ha:a<row.length:=List.mem_range.1 ha
 have hl:=h.2.2
 obtain ⟨j,hj,hja⟩:=MP h.2.1 h.1 h.2.2 (x:=(a:Int)) zo zo
 have hm:(a:Int)∈row:=by rw[<- hja]; exact G1 zo
 show (if _ then _ else _)=l5 (CC ls row (row.idxOf (a:Int)))
 rw[if_pos (List.idxOf_lt_length_of_mem hm)]
def HB (D:Int) (M:Nat) (v:n7):Prop:=∃cs:List Int,cs.length=4/\v=loN cs D/\∀i,(b6 cs i).natAbs<=M
theorem QD {cs:List Int} {D:Int} (hD:D≠0) (i:Nat):b6 (loN cs D).1 i*D=b6 cs i*(loN cs D).2:=by
 by_cases h:i<cs.length
 ·rw[WQ h]
  obtain ⟨q,hq⟩:=CI (d:=D) (cs:=cs) (.inr (WS h))
  obtain ⟨t,ht⟩:=CI (d:=D) (cs:=cs) (.inl rfl)
  have h0:=HM (cs:=cs) hD
  show b6 cs i/w8 D cs*D=b6 cs i*(D/w8 D cs)
  have e1:b6 cs i/w8 D cs=q:=by rw[congrArg (·/w8 D cs) hq]; exact Int.mul_ediv_cancel_left _ h0
  have e2:D/w8 D cs=t:=by rw[congrArg (·/w8 D cs) ht]; exact Int.mul_ediv_cancel_left _ h0
  rw[e1,e2]
  calc q*D=q*(w8 D cs*t):=by rw[<- ht]
   _=w8 D cs*q*t:=by rw[<- Int.mul_assoc,Int.mul_comm q]
   _=b6 cs i*t:=by rw[<- hq]
 ·rw[v6 (by rw[DC]; omega),v6 zo]
  show (0:Int)*D=0*_
  rw[Int.zero_mul,Int.zero_mul]
theorem SG {F:Nat->Int} {k:Nat} {m:Int}:(j4 k F).map (fun c=>c*m)=j4 k fun i=>F i*m:=by simp[j4]
theorem HB.add {D:Int} {M M':Nat} {x y:n7} (hD:0<D) (hx:HB D M x) (hy:HB D M' y):HB D (M+M') (H8 x y):=by
 obtain ⟨cs,h1,rfl,h3⟩:=hx
 obtain ⟨cs',h1',rfl,h3'⟩:=hy
 have hD0:D≠0:=by omega
 refine ⟨j4 4 fun i=>b6 cs i+b6 cs' i,p8,?_,fun i=>?_⟩
 ·have p1:=GX (cs:=cs) hD0
  have p2:=GX (cs:=cs') hD0
  have p3:=Int.mul_pos p1 p2
  refine QE zo hD0 ?_
  rw[SG,SG]
  refine C9 fun i _=>?_
  have e1:=QD (cs:=cs) hD0 i
  have e2:=QD (cs:=cs') hD0 i
  generalize b6 (loN cs D).1 i=a at *
  generalize b6 (loN cs' D).1 i=b at *
  generalize (loN cs D).2=c at *
  generalize (loN cs' D).2=d at *
  generalize b6 cs i=u at *
  generalize b6 cs' i=v at *
  calc (a*d+b*c)*D=(a*D)*d+(b*D)*c:=by rw[Int.add_mul,Int.mul_assoc,Int.mul_comm d D,<- Int.mul_assoc,Int.mul_assoc b,Int.mul_comm c D,<- Int.mul_assoc b]
   _=u*c*d+v*d*c:=by rw[e1,e2]
   _=(u+v)*(c*d):=by rw[Int.add_mul,Int.mul_assoc,Int.mul_assoc v,Int.mul_comm d c]
 ·by_cases h:i<4
  ·rw[q9 h]; have:=h3 i; have:=h3' i; omega
  ·rw[v6 (by rw[p8]; omega)]; show (0:Int).natAbs<=_; omega
theorem HB.neg {D:Int} {M:Nat} {x:n7} (hx:HB D M x):HB D M (BU x):=by
 obtain ⟨cs,h1,rfl,h3⟩:=hx
 refine ⟨cs.map fun z=>-z,by rw[List.length_map,h1],VX.symm,fun i=>?_⟩
 rw[JL,Int.natAbs_neg]
 exact h3 i
theorem HB.sub {D:Int} {M M':Nat} {x y:n7} (hD:0<D) (hx:HB D M x) (hy:HB D M' y):HB D (M+M') (H0 x y):=hx.add hD hy.neg
theorem HB.mono {D:Int} {M M':Nat} {x:n7} (hx:HB D M x) (h:M<=M'):HB D M' x:=let ⟨cs,h1,h2,h3⟩:=hx; ⟨cs,h1,h2,fun i=>Nat.le_trans (h3 i) h⟩
theorem HB.nbd {D:Int} {M k:Nat} {x:n7} (hx:HB D M x) (hD:0<D) (h1:dl D<=k) (h2:dl (M:Int)<=k):E7 k x:=by
 obtain ⟨cs,l,rfl,h3⟩:=hx
 exact VW (fun i=>Nat.le_trans (M6 (h3 i)) h2) h1 zo l
theorem HB.scale {D m:Int} {M:Nat} {x:n7} (hx:HB D M x) (hD:0<D) (hm:0<m):HB (D*m) (M*m.natAbs) x:=by
 obtain ⟨cs,l,rfl,h3⟩:=hx
 refine ⟨cs.map fun c=>c*m,by rw[List.length_map,l],(QF zo zo).symm,fun i=>?_⟩
 by_cases h:i<cs.length
 ·have e:b6 (cs.map fun c=>c*m) i=b6 cs i*m:=by simp[b6,h]
  rw[e,Int.natAbs_mul]
  exact Nat.mul_le_mul_right _ (h3 i)
 ·rw[v6 (by rw[List.length_map]; omega)]; show (0:Int).natAbs<=_; omega
theorem HB.zero {D:Int} (hD:0<D):HB D 0 (z8 0):=by
 refine ⟨[0,0,0,0],rfl,?_,fun i=>?_⟩
 ·have:z8 0=loN [0,0,0,0] 1:=LZ.symm
  rw[this]
  refine QE (by decide) zo ?_
  simp
 ·match i with
  | 0=>exact Nat.le_refl _
  | 1=>exact Nat.le_refl _
  | 2=>exact Nat.le_refl _
  | 3=>exact Nat.le_refl _
  | i+4=>rw[v6 (by simp)]; exact Nat.le_refl _
theorem HB.self {p:List Int} {v:n7} {M:Nat} (h:B4 p v) (hM:∀i,(b6 v.1 i).natAbs<=M):HB v.2 M v:=⟨v.1,h.len,h.loN.symm,hM⟩
theorem wL {v:n7} {k:Nat} (h:E7 k v):∃M:Nat,dl (M:Int)<=k/\∀i,(b6 v.1 i).natAbs<=M:=by
 refine ⟨max (max (b6 v.1 0).natAbs (b6 v.1 1).natAbs) (max (b6 v.1 2).natAbs (b6 v.1 3).natAbs),?_,fun i=>?_⟩
 ·have e:∀z:Int,dl ((z.natAbs:Nat):Int)=dl z:=fun z=>by unfold dl; rw[Int.natAbs_natCast]
  have h0:=h.c 0; have h1:=h.c 1; have h2:=h.c 2; have h3:=h.c 3
  rw[<- e] at h0 h1 h2 h3
  rcases Nat.le_total (b6 v.1 0).natAbs (b6 v.1 1).natAbs with q1 | q1<;>rcases Nat.le_total (b6 v.1 2).natAbs (b6 v.1 3).natAbs with q2 | q2<;>simp only[Nat.max_eq_left q1,Nat.max_eq_right q1,Nat.max_eq_left q2,Nat.max_eq_right q2]<;>rw[Nat.max_def]<;>split<;>assumption
 ·by_cases hi:i<4
  ·rcases (show i=0\/i=1\/i=2\/i=3 by omega) with rfl | rfl | rfl | rfl<;>omega
  ·rw[v6 (by rw[h.len]; omega)]; show (0:Int).natAbs<=_; omega
theorem HB.all {p:List Int} {k:Nat}:∀{ls:List n7},(∀v∈ls,B4 p v/\E7 k v)->∃(D:Int) (M:Nat),0<D/\dl D<=ls.length*k+1/\dl (M:Int)<=ls.length*k+1/\∀v∈ls,HB D M v
 | [],_=>⟨1,1,by omega,by rw[List.length_nil,Nat.zero_mul]; exact J6 zo zo,by rw[List.length_nil,Nat.zero_mul]; exact J6 zo zo,fun v h=>by cases h⟩
 | v::ls,h=>by
  obtain ⟨D,M,h1,h2,h3,h4⟩:=HB.all (ls:=ls) fun x hx=>h x (List.mem_cons_of_mem _ hx)
  obtain ⟨hr,hb⟩:=h v List.mem_cons_self
  obtain ⟨Mv,m1,m2⟩:=wL hb
  have hs:=HB.self hr m2
  have e:(v::ls).length*k+1=ls.length*k+1+k:=by rw[List.length_cons,Nat.succ_mul]; omega
  have d1:=s9 D v.2
  have d2:=hb.d
  have d3:=s9 (M:Int) v.2
  have d4:=s9 (Mv:Int) D
  have hv:((v.2.natAbs:Nat):Int)=v.2:=by have:=hb.pos; omega
  have hDa:((D.natAbs:Nat):Int)=D:=by omega
  refine ⟨D*v.2,max (M*v.2.natAbs) (Mv*D.natAbs),Int.mul_pos h1 hb.pos,by omega,?_,fun x hx=>?_⟩
  ·rw[Nat.max_def]
   split
   ·rw[Int.natCast_mul,hDa]; omega
   ·rw[Int.natCast_mul,hv]; omega
  ·rcases List.mem_cons.1 hx with rfl | hx
   ·have:=hs.scale hb.pos h1
    rw[Int.mul_comm] at this
    exact this.mono (Nat.le_max_right _ _)
   ·exact ((h4 x hx).scale h1 hb.pos).mono (Nat.le_max_left _ _)
structure H2 (p:List Int) (D:Int) (M n:Nat) (ls:List n7):Prop where
 len:ls.length=n
 red:∀a,a<n->B4 p (b6 ls a)
 hb:∀a,a<n->HB D M (b6 ls a)
 pos:0<D
 bD:dl D<=200
 bM:dl ((100000*M:Nat):Int)<=200
theorem H2.nbd {p:List Int} {D:Int} {M n m:Nat} {ls:List n7} (h:H2 p D M n ls) {v:n7} (hv:HB D (m*M) v) (hm:m<=100000):E7 200 v :=
 hv.nbd h.pos h.bD (Nat.le_trans (M6 (by rw[Int.natAbs_natCast,Int.natAbs_natCast]; exact Nat.mul_le_mul_right _ hm)) h.bM)
theorem H2.one {p:List Int} {D:Int} {M n a:Nat} {ls:List n7} (h:H2 p D M n ls) (ha:a<n):E7 200 (b6 ls a):=h.nbd (m:=1) (by rw[Nat.one_mul]; exact h.hb a ha) zo
theorem XK {p:List Int} {D:Int} {M n:Nat} {ls:List n7} {row:List Int} (hp:G3 p) (h:H2 p D M n ls) (hr:B1 row n):∀k,k<=n->B4 p (CC ls row k)/\HB D (k*M) (CC ls row k)
 | 0,_=>⟨eT hp 0,by rw[Nat.zero_mul]; exact HB.zero h.pos⟩
 | k+1,hk=>by
  obtain ⟨h1,h2⟩:=XK hp h hr k zo
  have hrk:=hr.1 k (by have:=hr.2.2; omega)
  refine ⟨ZH h1 (h.red _ zo),?_⟩
  rw[Nat.succ_mul]
  exact h2.add h.pos (h.hb _ zo)
theorem EC {xs:List n7} {i:Nat} (h:i<xs.length):b6 (xs.map l5) i=l5 (b6 xs i):=by simp[b6,h]
theorem RN {ls:List n7} {row:List Int}:(K7 ls row).length=row.length:=p8
theorem iN {p:List Int} {D:Int} {M n:Nat} {ls:List n7} {row:List Int} (hp:G3 p) (h:H2 p D M n ls) (hr:B1 row n) {a:Nat} (ha:a<n):B4 p (b6 (K7 ls row) a)/\HB D (n*M) (b6 (K7 ls row) a):=by
 have hl:=hr.2.2
 obtain ⟨j,hj,hja⟩:=MP hr.2.1 hr.1 hl (x:=(a:Int)) zo zo
 have hi:row.idxOf (a:Int)=j:=by rw[<- hja]; exact VF hr zo
 unfold K7
 rw[q9 zo,hi]
 obtain ⟨h1,h2⟩:=XK hp h hr j zo
 exact ⟨h1,h2.mono (Nat.mul_le_mul_right _ zo)⟩
theorem MF {p:List Int} {xs:List (List (List Int)×List Int)} {a:Nat} (h:a<xs.length):b6 (xs.map (j9 p)) a=j9 p (b6 xs a):=by simp[b6,h]
theorem af5 {p:List Int} {xs:List (List (List Int)×List Int)} {n:Nat} (hp:G3 p) (hl:xs.length=n) (hn:n<=8) (h:∀a,a<n->y0 2 (b6 xs a)) {more:List n7} (hm:more.length<=2) (hmo:∀v∈more,B4 p v/\E7 17 v):∃(D:Int) (M:Nat),H2 p D M n (xs.map (j9 p))/\∀v∈more,HB D M v:=by
 have key:∀v∈xs.map (j9 p)++more,B4 p v/\E7 17 v:=fun v hv=>by
  rcases List.mem_append.1 hv with hv | hv
  ·obtain ⟨x,hx,rfl⟩:=List.mem_map.1 hv
   obtain ⟨i,hi,rfl⟩:=List.mem_iff_getElem.1 hx
   have e:b6 xs i=xs[i]:=by simp[b6,hi]
   rw[<- e]
   exact ⟨EL hp,T3 hp (h i zo)⟩
  ·exact hmo v hv
 obtain ⟨D,M,h1,h2,h3,h4⟩:=HB.all key
 have hll:(xs.map (j9 p)++more).length<=10:=by rw[List.length_append,List.length_map]; omega
 have hk:=Nat.mul_le_mul_right 17 hll
 have e:∀a,a<n->b6 (xs.map (j9 p)) a∈xs.map (j9 p)++more:=fun a ha=>List.mem_append_left _ (by rw[MF zo]; exact List.mem_map_of_mem (by simp[b6,hl,ha]))
 refine ⟨D,M,⟨by rw[List.length_map,hl],fun a ha=>(key _ (e a ha)).1,fun a ha=>h4 _ (e a ha),h1,by omega,?_⟩,fun v hv=>h4 v (List.mem_append_right _ hv)⟩
 have d1:=s9 (100000:Int) (M:Int)
 have d2:=J6 (F:=100000) zo zo
 rw[show ((100000*M:Nat):Int)=100000*(M:Int) by omega]
 omega
end Go.Fl

/- Contracts: exchanges: places of intervals, the machine. -/
namespace Go.Fl
open Go Go.Proofs
open b8 renaming op->tO
open j1 renaming op->rO
set_option maxRecDepth 100000

abbrev o0:=u8×List Int×List Int×List y3
abbrev CO:=D0×q7×List y3×List y3×List y3×List y3×y3
def eX:i8 o0:=eC (fun v:o0=>(v.1,v.2.1,v.2.2.1,v.2.2.2,())) (eP z7 (eP (eL eI) (eP (eL eI) (eP (eL j8) eU))))
instance {v:o0}:E5 (b7 eX v) [b7 (eL eI) (v.1.1),kI (v.1.2.1),kI (v.1.2.2.1),kI (v.1.2.2.2),b7 (eL eI) (v.2.1),b7 (eL eI) (v.2.2.1),b7 (eL j8) (v.2.2.2)]:=inferInstanceAs (E5 (b7 (eC (fun v:o0=>(v.1,v.2.1,v.2.2.1,v.2.2.2,())) (eP z7 (eP (eL eI) (eP (eL eI) (eP (eL j8) eU))))) v) _)
instance {v:o0}:P0 eX v (b7 eX v):=⟨fun h=>h⟩
instance {v:o0}:v7 eX v 0 z7 (v.1) 0:=inferInstanceAs (v7 (eC (fun v:o0=>(v.1,v.2.1,v.2.2.1,v.2.2.2,())) (eP z7 (eP (eL eI) (eP (eL eI) (eP (eL j8) eU))))) v 0 _ _ _)
instance {v:o0}:v7 eX v 1 (eL eI) (v.2.1) 4:=inferInstanceAs (v7 (eC (fun v:o0=>(v.1,v.2.1,v.2.2.1,v.2.2.2,())) (eP z7 (eP (eL eI) (eP (eL eI) (eP (eL j8) eU))))) v 1 _ _ _)
instance {v:o0}:v7 eX v 2 (eL eI) (v.2.2.1) 5:=inferInstanceAs (v7 (eC (fun v:o0=>(v.1,v.2.1,v.2.2.1,v.2.2.2,())) (eP z7 (eP (eL eI) (eP (eL eI) (eP (eL j8) eU))))) v 2 _ _ _)
instance {v:o0}:v7 eX v 3 (eL j8) (v.2.2.2) 6:=inferInstanceAs (v7 (eC (fun v:o0=>(v.1,v.2.1,v.2.2.1,v.2.2.2,())) (eP z7 (eP (eL eI) (eP (eL eI) (eP (eL j8) eU))))) v 3 _ _ _)
instance {ks r:List d5} {f:u8} {a b:List Int} {c:List y3} [h:t9 ks (eP z7 (eP (eL eI) (eP (eL eI) (eP (eL j8) eU)))) (f,a,b,c,()) r]:t9 ks eX ((f,a,b,c)) r:=⟨fun h'=>h.imp h'⟩
def R0:i8 CO:=eC (fun v:CO=>(v.1,v.2.1,v.2.2.1,v.2.2.2.1,v.2.2.2.2.1,v.2.2.2.2.2.1,v.2.2.2.2.2.2,())) (eP (CZ A7) (eP eO (eP (eL j8) (eP (eL j8) (eP (eL j8) (eP (eL j8) (eP j8 eU)))))))
instance {v:CO}:v7 R0 v 0 (CZ A7) (v.1) 0:=inferInstanceAs (v7 (eC (fun v:CO=>(v.1,v.2.1,v.2.2.1,v.2.2.2.1,v.2.2.2.2.1,v.2.2.2.2.2.1,v.2.2.2.2.2.2,())) (eP (CZ A7) (eP eO (eP (eL j8) (eP (eL j8) (eP (eL j8) (eP (eL j8) (eP j8 eU)))))))) v 0 _ _ _)
instance {v:CO}:v7 R0 v 1 eO (v.2.1) 1:=inferInstanceAs (v7 (eC (fun v:CO=>(v.1,v.2.1,v.2.2.1,v.2.2.2.1,v.2.2.2.2.1,v.2.2.2.2.2.1,v.2.2.2.2.2.2,())) (eP (CZ A7) (eP eO (eP (eL j8) (eP (eL j8) (eP (eL j8) (eP (eL j8) (eP j8 eU)))))))) v 1 _ _ _)
instance {v:CO}:v7 R0 v 2 (eL j8) (v.2.2.1) 3:=inferInstanceAs (v7 (eC (fun v:CO=>(v.1,v.2.1,v.2.2.1,v.2.2.2.1,v.2.2.2.2.1,v.2.2.2.2.2.1,v.2.2.2.2.2.2,())) (eP (CZ A7) (eP eO (eP (eL j8) (eP (eL j8) (eP (eL j8) (eP (eL j8) (eP j8 eU)))))))) v 2 _ _ _)
instance {ks r:List d5} {rr:D0} {o:q7} {a b c d:List y3} {t:y3} [h:t9 ks (eP (CZ A7) (eP eO (eP (eL j8) (eP (eL j8) (eP (eL j8) (eP (eL j8) (eP j8 eU))))))) (rr,o,a,b,c,d,t,()) r]:t9 ks R0 ((rr,o,a,b,c,d,t)) r:=⟨fun h'=>h.imp h'⟩
instance:GG j8 (.agg #[.slice none 0 0,.slice none 0 0]) ([],[]):=⟨fun _=>⟨[.slice none 0 0],[.slice none 0 0],rfl,X0,[.slice none 0 0],[],rfl,X0,rfl⟩⟩
def Y1 (r:D0) (o:q7) (ls:List n7):CO:=(r,o,ls.map l5,(K7 ls o.1).map l5,(K7 ls o.2).map l5,(ZS o ls o.1.length).map l5,l5 (SJ ls o.1))
structure NR (r:D0) (sg:n7->Int):Prop where
 sign:∀x,y0 250 x->Ct Tryz.prog 82 [s6 A7 r,b7 j8 x] (kI (sg (j9 r.2.1 x)))
 cmp:∀x y,y0 250 x->y0 250 y->Ct Tryz.prog 83 [s6 A7 r,b7 j8 x,b7 j8 y] (kI (sg (H0 (j9 r.2.1 x) (j9 r.2.1 y))))
theorem sF (r:D0) (u v:n7) (k:Nat) (hpo:G3 r.2.1) (hu:B4 r.2.1 u) (hv:B4 r.2.1 v) (bu:E7 k u) (bv:E7 k v) (hk:k<=100000) {x y:y3} (hx:l5 u=x) (hy:l5 v=y):Ct Tryz.prog 118 [s6 A7 r,b7 j8 x,b7 j8 y] (b7 j8 (l5 (H8 u v))):=by
 have h:=pU r (l5 u) (l5 v) k hpo (X8 bu) (X8 bv) hk
 rw[AX hu,AX hv,hx,hy] at h
 exact h
theorem sG (r:D0) (u v:n7) (k:Nat) (hpo:G3 r.2.1) (hu:B4 r.2.1 u) (hv:B4 r.2.1 v) (bu:E7 k u) (bv:E7 k v) (hk:k<=100000) {x y:y3} (hx:l5 u=x) (hy:l5 v=y):Ct Tryz.prog 116 [s6 A7 r,b7 j8 x,b7 j8 y] (b7 j8 (l5 (H0 u v))):=by
 have h:=bA r (l5 u) (l5 v) k hpo (X8 bu) (X8 bv) hk
 rw[AX hu,AX hv,hx,hy] at h
 exact h
theorem OV (x:o0):Ct Tryz.prog 114 [b7 eX x] (b7 eO (x.2.1,x.2.2.1)):=by
 refine Ct.mk Tryz.func114 rfl Tryz.ntmps114 rfl (fun w J=>?_); refine g9 ?_; refine jb 1 rfl ?_; refine ja 2 ?_; refine j3 ?_; refine tO (A1 (fun hp=>.cons rfl rfl rfl<|.cons rfl rfl rfl<|.nil)) rfl rfl ?_; refine g8 ?_; exact d9.resC1 (fn:=Tryz.f114) rfl rfl (t7 rfl (by rfl))

theorem TX (r:q7) (h1:r.1.length<=1000) (h2:r.2.length<=1000):Ct Tryz.prog 101 [b7 eO r] (b7 eO r):=by
 refine Ct.mk Tryz.func101 rfl Tryz.ntmps101 rfl (fun w J=>?_); refine g9 ?_; refine jb 1 rfl ?_; refine ja 2 ?_; refine i7 ?_; refine Tr.draw 5 n8 (by kernel_rfl) ?_; refine g9 ?_; refine rO (i6 (fun hp=>CU _ zo) (.a rfl uu<|.nil)) rfl rfl ?_; refine i7 ?_; refine tO (i6 (fun hp=>CU _ zo) (.a rfl uu<|.nil)) rfl rfl ?_; refine tO (A1 (fun hp=>.cons rfl rfl rfl<|.cons rfl rfl rfl<|.nil)) rfl rfl ?_; refine g8 ?_; exact d9.resC1 (fn:=Tryz.f101) rfl rfl (t7 rfl (by rfl))

theorem bP (r:D0) (ra rb:List Int) (ls:List n7) (k1 k2 k3 k4 k5:d5) [o7 k1 []] [o7 k2 []] [o7 k3 []] [o7 k4 []] [o7 k5 []] (row:List Int) (D:Int) (M n:Nat) (hpo:G3 r.2.1) (hls:H2 r.2.1 D M n ls) (hn:n<=8) (hpm:B1 row n):EQ Tryz.prog 115 (y5 0 0) [b7 (eL eI) row] (j5 [s6 A7 r,b7 (eL eI) ra,b7 (eL eI) rb,b7 (eL j8) (ls.map l5),k1,k2,k3,k4,k5]) (j5 [s6 A7 r,b7 (eL eI) ra,b7 (eL eI) rb,b7 (eL j8) (ls.map l5),k1,k2,k3,k4,k5]) (z9 [b7 (eL j8) ((K7 ls row).map l5),b7 j8 (l5 (SJ ls row))]):=by
 have hrl:=hpm.2.2
 have hll:=hls.len
 have hrk:=hpm.1
 have hml:(ls.map l5).length=n:=by rw[List.length_map,hll]
 refine EQ.mk Tryz.func115 rfl Tryz.ntmps115 rfl (fun w J bb cap=>?_); refine i7 ?_; refine ja 5 ?_; refine i7 ?_; refine Tr.draw 5 n8 (by kernel_rfl) ?_; refine g9 ?_; refine j1.new (BX j8 12 rfl uu rfl uu rfl rfl rfl (fun _=>zo)) rfl rfl rfl rfl ?_; refine jd (qC 0 zo) ?_; refine j1.new (HF 7) rfl rfl rfl rfl ?_; refine D2 ?_
 refine Tr.for1 (σ:=Nat) [⟨0,true,_,_⟩,⟨5,true,_,_⟩,⟨7,true,_,_⟩,⟨14,true,_,_⟩,⟨15,true,_,_⟩] [⟨0,_,_⟩,⟨5,_,_⟩] (fun k=>[⟨6,true,[12],o5 12 row.length⟩,⟨16,true,[],kI (k:Int)⟩]) (fun k=>[⟨12,[],l3 false 30 j8 (FU ls row k) row.length⟩,⟨7,[],j5 [b7 (eL (eL eI)) (l5 (CC ls row k)).1,b7 (eL eI) (l5 (CC ls row k)).2]⟩]) (fun k=>k<=row.length) (fun k=>k=row.length) (fun k=>row.length-k) (0) zi (d6.mk (.o rfl zi rfl<|.i rfl zi<|zk) (.a yM.symm zi<|.e (by rfl) rfl<|zk) rfl) ?_ ?_
 ·intro k hR0
  refine jn ?_
  have hrk2:=hrk k
  have hpk:=XK hpo hls hpm k zo
  refine l6 ?_; refine jq ?_ ?_
  ·intro h3
   refine JA ?_; refine Tr.draw 12 n8 (by kernel_rfl) ?_; refine i4 ?_; refine rO (N4 rfl uu) rfl rfl ?_; refine g8 ?_; refine rO (N4 rfl uu) rfl rfl ?_; refine l6 ?_; refine tO (i6 (fun hp=>sF r (CC ls row k) (b6 ls (b6 row k).toNat) 200 hpo hpk.1 (hls.red _ zo) (hls.nbd hpk.2 zo) (hls.one zo) zo rfl (EC zo).symm) (.a rfl uu<|.se rfl uu rfl rfl<|.a rfl uu<|.nil)) rfl rfl ?_; refine j3 ?_
   exact g6.lp (k+1) zi zo (d6.mk (.o rfl zi rfl<|.i rfl zi<|zk) (.a (by rw[<- yL hpm zo]) zi<|.e (by rfl) rfl<|zk) rfl)
  ·intro h3
   replace h3:=Int.not_lt.1 h3
   refine g8 ?_
   exact g6.cut (k) zo (d6.mk (.o rfl zi rfl<|.i rfl zi<|zk) (zk) rfl)
 ·rintro k hkn
  refine je ?_; refine g9 ?_; refine Tr.frzBo 12 [6] rfl rfl ⟨rfl,trivial⟩ (by simp only[p6]; omega) rfl ?_; refine Tr.draw 3 n8 (by kernel_rfl) ?_; refine j3 ?_; exact d9.mutTC (fn:=Tryz.f115) (t:=4) (a:=5) rfl rfl (.r rfl (by rw[hkn,yK hpm])<|.nil) rfl rfl (t7 rfl (by rw[hkn]; rfl))

end Go.Fl

/- Contracts: exchanges are opened; points of the interval. -/
namespace Go.Fl
open Go Go.Proofs
open b8 renaming op->tO
open j1 renaming op->rO
set_option maxRecDepth 100000

set_option maxHeartbeats 1000000 in
theorem sO (x:o0) (r:D0) (sg:n7->Int) (D:Int) (M:Nat) (hop:Ct Tryz.prog 113 [b7 z7 x.1] (z9 [s6 A7 r,kI 0])) (hpo:G3 r.2.1) (hs:NR r sg) (v:E2 (x.2.1,x.2.2.1)) (hl:x.2.2.2.length=x.2.1.length) (hnm:∀a,a<x.2.1.length->y0 250 (b6 x.2.2.2 a)) (hlo:H2 r.2.1 D M x.2.1.length (x.2.2.2.map (j9 r.2.1))) (hpos:∀a,a<x.2.1.length->0<sg (j9 r.2.1 (b6 x.2.2.2 a))):Ct Tryz.prog 66 [b7 eX x] (z9 [s6 R0 (Y1 r (x.2.1,x.2.2.1) (x.2.2.2.map (j9 r.2.1))),kI 0]):=by
 obtain ⟨ls,hls⟩:∃ls,ls=x.2.2.2.map (j9 r.2.1):=⟨_,rfl⟩
 rw[<- hls] at hlo
 have hll:=hlo.len
 have hle:x.2.1.length<=8:=v.le
 have hle2:x.2.2.1.length=x.2.1.length:=v.len
 have hp1:B1 x.2.1 x.2.1.length:=v.p1
 have hp2:B1 x.2.2.1 x.2.1.length:=v.p2
 have hpl1:((K7 ls x.2.1).map l5).length=x.2.1.length:=by rw[List.length_map,RN]
 have hpl2:((K7 ls x.2.2.1).map l5).length=x.2.1.length:=by rw[List.length_map,RN,hle2]
 rw[<- hls]
 have hnk:∀k,k<x.2.1.length->b6 ls k=j9 r.2.1 (b6 x.2.2.2 k):=fun k hk=>by rw[hls]; simp[b6,hl,hk]
 refine Ct.mk Tryz.func66 rfl Tryz.ntmps66 rfl (fun w J=>?_); refine g9 ?_; refine jb 1 rfl ?_; refine j3 ?_; refine jc hop ?_; refine C7 ?_; refine Tr.cnd rfl ?_ ?_
 ·intro h2
  exact absurd h2 (by decide)
 ·intro h2
  refine l6 ?_; refine tO (i6 (fun hp=>OV _) (.s rfl uu rfl<|.nil)) rfl rfl ?_; refine tO (i6 (fun hp=>TZ _) (.a rfl uu<|.nil)) rfl rfl ?_; refine m8 ?_; refine Tr.cnd rfl ?_ ?_
  ·intro h5
   rw[oB v] at h5; exact absurd h5 (by decide)
  ·intro h5
   refine C7 ?_; refine jq ?_ ?_
   ·intro h7
    omega
   ·intro h7
    replace h7:=Classical.not_not.1 h7
    refine l6 ?_; refine tO (i6 (fun hp=>OV _) (.s rfl uu rfl<|.nil)) rfl rfl ?_; refine tO (i6 (fun hp=>TX _ (by show x.2.1.length<=1000; omega) (by show x.2.2.1.length<=1000; omega)) (.a rfl uu<|.nil)) rfl rfl ?_; refine tO (A1 (fun hp=>.cons rfl rfl rfl<|.cons rfl rfl rfl<|.nil)) rfl rfl ?_; refine jb 38 rfl ?_; refine u9 ?_; refine Tr.growC 38 3 139 rfl (ks':=[_,_,_,o5 139 0,_,_,_,_,_]) rfl rfl 30 j8 rfl (.cons inferInstance rfl<|.cons inferInstance rfl<|.cons inferInstance rfl<|.cons inferInstance rfl<|.cons inferInstance rfl<|.cons inferInstance rfl<|.cons inferInstance rfl<|.cons inferInstance rfl<|.cons inferInstance rfl<|inferInstance) ?_
    refine Tr.for1 (σ:=Nat) [⟨1,true,_,_⟩,⟨4,true,_,_⟩,⟨7,true,_,_⟩,⟨40,true,_,_⟩,⟨41,true,_,_⟩] [⟨1,_,_⟩] (fun k=>[⟨42,true,[],kI (k:Int)⟩]) (fun k=>[⟨38,[139],j5 [s6 A7 r,b7 (eL eI) x.2.1,b7 (eL eI) x.2.2.1,o5 139 k,i9 (.slice none 0 0),i9 (.slice none 0 0),i9 (.slice none 0 0),i9 (.slice none 0 0),i9 (.slice none 0 0)]⟩,⟨139,[],l3 true 30 j8 ((ls.take k).map l5) k⟩]) (fun k=>k<=x.2.1.length) (fun k=>k=x.2.1.length) (fun k=>x.2.1.length-k) (0) zi (d6.mk (.i rfl zi<|zk) (.e (by rfl) rfl<|.a (by rfl) zi<|zk) rfl) ?_ ?_
    ·intro k hR0
     refine jn ?_; refine l6 ?_; refine jq ?_ ?_
     ·intro h11
      refine j3 ?_; refine ja 9 ?_; refine j3 ?_; refine tO (i6 (fun hp=>hs.sign _ (hnm k zo)) (.a rfl uu<|.s rfl uu rfl<|.nil)) rfl rfl ?_; refine i7 ?_; refine jq ?_ ?_
      ·intro h13
       have:=hpos k zo; omega
      ·intro h13
       replace h13:=Int.not_le.1 h13
       refine g9 ?_; refine Tr.drawM (m:=9) n8 (by kernel_rfl) rfl (by kernel_rfl) (by kernel_rfl) (by kernel_rfl) ?_; refine g9 ?_; refine rO (P9 rfl uu) rfl rfl ?_; refine g8 ?_; refine rO (i6 (fun hp=>aY r _ _ hpo (hnm k zo) zo) (.a rfl uu<|.s rfl uu rfl<|.nil)) rfl rfl ?_; refine j1.new (w4 j8 58 (fun hp=>.cons rfl<|.nil) rfl rfl rfl rfl) rfl rfl rfl rfl ?_; refine i4 ?_; refine b8.wkC 38 (.k<|.k<|.k<|.any<|.k<|.k<|.k<|.k<|.k<|.nil) rfl ?_; refine i4 ?_; refine jl ?_; refine tO (P9 rfl uu) rfl rfl ?_
       refine g9 ?_; refine b8.finN ?_; refine l6 ?_
       exact g6.lp (k+1) zi zo (d6.mk (.i rfl zi<|zk) (.e (by rfl) rfl<|.a (by rw[V5 zo,List.map_append,hnk k zo]; rfl) zi<|zk) rfl)
     ·intro h11
      replace h11:=Int.not_lt.1 h11
      refine g8 ?_
      exact g6.cut (k) zo (d6.mk (.i rfl zi<|zk) (zk) rfl)
    ·rintro k hkn
     refine je ?_
     have htk:ls.take k=ls:=by rw[hkn,<- hll,List.take_length]
     rw[htk]
     refine g9 ?_; refine Tr.frzC 139 38 (by simp only[p6]; omega) rfl rfl ?_; refine jn ?_; refine l6 ?_; refine b8.mutQ (bP r _ _ ls _ _ _ _ _ x.2.1 D M x.2.1.length hpo hlo zo hp1) rfl (.a rfl uu<|.nil) rfl rfl ?_; refine i7 ?_; refine tO (P9 rfl uu) rfl rfl ?_; refine g9 ?_; refine tO (P9 rfl uu) rfl rfl ?_; refine u5 ?_; refine b8.mutQ (bP r _ _ ls _ _ _ _ _ x.2.2.1 D M x.2.1.length hpo hlo zo hp2) rfl (.a rfl uu<|.nil) rfl rfl ?_; refine i7 ?_; refine tO (P9 rfl uu) rfl rfl ?_; refine j3 ?_; refine tO (P9 rfl uu) rfl rfl ?_
     refine l6 ?_; refine Tr.growC 38 6 140 rfl (ks':=[_,_,_,_,_,_,o5 140 0,_,_]) rfl rfl 30 j8 rfl (.cons inferInstance rfl<|.cons inferInstance rfl<|.cons inferInstance rfl<|.cons inferInstance rfl<|.cons inferInstance rfl<|.cons inferInstance rfl<|.cons inferInstance rfl<|.cons inferInstance rfl<|.cons inferInstance rfl<|inferInstance) ?_
     refine Tr.for1 (σ:=Nat) [⟨4,true,_,_⟩,⟨7,true,_,_⟩,⟨90,true,_,_⟩] [] (fun k=>[⟨91,true,[],kI (k:Int)⟩]) (fun k=>[⟨38,[140],j5 [s6 A7 r,b7 (eL eI) x.2.1,b7 (eL eI) x.2.2.1,b7 (eL j8) (ls.map l5),b7 (eL j8) ((K7 ls x.2.1).map l5),b7 (eL j8) ((K7 ls x.2.2.1).map l5),o5 140 k,b7 (eL (eL eI)) (l5 (SJ ls x.2.1)).1,b7 (eL eI) (l5 (SJ ls x.2.1)).2]⟩,⟨140,[],l3 true 30 j8 (j4 k fun a=>l5 (H0 (b6 (K7 ls x.2.2.1) a) (b6 (K7 ls x.2.1) a))) k⟩]) (fun k=>k<=x.2.1.length) (fun k=>k=x.2.1.length) (fun k=>x.2.1.length-k) (0) zi (d6.mk (.i rfl zi<|zk) (.e (by rfl) rfl<|.a (by rfl) zi<|.nil) rfl) ?_ ?_
     ·intro k hR1
      refine jn ?_; refine l6 ?_; refine jq ?_ ?_
      ·intro h20
       refine u5 ?_; refine Tr.drawM (m:=22) n8 (by kernel_rfl) rfl (by kernel_rfl) (by kernel_rfl) (by kernel_rfl) ?_
       have hq1:=iN hpo hlo hp1 (a:=k) zo
       have hq2:=iN hpo hlo hp2 (a:=k) zo
       refine g9 ?_; refine rO (P9 rfl uu) rfl rfl ?_; refine g8 ?_; refine rO (P9 rfl uu) rfl rfl ?_; refine l6 ?_; refine rO (P9 rfl uu) rfl rfl ?_; refine l8 ?_; refine jd (sG r (b6 (K7 ls x.2.2.1) k) (b6 (K7 ls x.2.1) k) 200 hpo hq2.1 hq1.1 (hlo.nbd hq2.2 zo) (hlo.nbd hq1.2 zo) zo (EC (by rw[RN]; omega)).symm (EC (by rw[RN]; omega)).symm) ?_; refine j1.new (w4 j8 115 (fun hp=>.cons rfl<|.nil) rfl rfl rfl rfl) rfl rfl rfl rfl ?_; refine i4 ?_; refine b8.wkC 38 (.k<|.k<|.k<|.k<|.k<|.k<|.any<|.k<|.k<|.nil) rfl ?_
       refine i4 ?_; refine jl ?_; refine tO (P9 rfl uu) rfl rfl ?_; refine g9 ?_; refine b8.finN ?_; refine l6 ?_
       exact g6.lp (k+1) zi zo (d6.mk (.i rfl zi<|zk) (.e (by rfl) rfl<|.a (by rw[F0]) zi<|.nil) rfl)
      ·intro h20
       replace h20:=Int.not_lt.1 h20
       refine g8 ?_
       exact g6.cut (k) zo (d6.mk (.i rfl zi<|zk) (zk) rfl)
     ·rintro k hkn
      refine je ?_; refine g9 ?_; refine Tr.frzC 140 38 (by simp only[p6]; omega) rfl rfl ?_; refine jn ?_; refine Tr.frzB 38 [7] R0 ⟨rfl,trivial⟩ rfl ?_; refine jn ?_; refine j6 ?_; exact d9.res (fn:=Tryz.f66) (ts:=[2,3]) rfl rfl (.p rfl (by rw[hkn]; simp only[Y1,ZS,j4,List.map_map]; rfl)<|.i rfl (by rfl)<|.nil)

end Go.Fl

/- What the walks of iterators lean on. -/

/- The letter of a point. No program in sight. -/
namespace Go.Fl
open Go
theorem y0.mono {j k:Nat} {x:List (List Int)×List Int} (h:y0 j x) (hjk:j<=k):y0 k x:=⟨h.len,fun i=>⟨(h.c i).1,Nat.le_trans (h.c i).2 hjk⟩,h.d.1,Nat.le_trans h.d.2 hjk⟩
def QB (sg:n7->Int) (tops:List n7) (row:List Int) (pv:n7):Nat->Int
 | 0=>b6 row 0
 | k+1=>if sg (H0 (b6 tops (b6 row (k+1)).toNat) pv)<=0 then b6 row (k+1) else QB sg tops row pv k
theorem yO:G3 [0,1]:=by
 refine ⟨by decide,fun i=>?_⟩
 match i with
 | 0=>show dl 0<=1; rw[C5.2 rfl]; omega
 | 1=>show dl 1<=1; exact J6 zo zo
 | i+2=>rw[v6 (by simp)]; show dl 0<=1; rw[C5.2 rfl]; omega
end Go.Fl

/- Contracts: loops over slices.Backward; points, their letters and images. -/
namespace Go.Fl
open Go Go.Proofs
open b8 renaming op->tO
open j1 renaming op->rO
set_option maxRecDepth 100000

instance {r:D0} {o:q7} {ls:List n7}:v7 R0 (Y1 r o ls) 0 (CZ A7) (r) 0:=inferInstanceAs (v7 R0 (Y1 r o ls) 0 (CZ A7) ((Y1 r o ls).1) _)
instance {r:D0} {o:q7} {ls:List n7}:v7 R0 (Y1 r o ls) 1 eO (o) 1:=inferInstanceAs (v7 R0 (Y1 r o ls) 1 eO ((Y1 r o ls).2.1) _)
instance {r:D0} {o:q7} {ls:List n7}:v7 R0 (Y1 r o ls) 2 (eL j8) (ls.map l5) 3:=inferInstanceAs (v7 R0 (Y1 r o ls) 2 (eL j8) ((Y1 r o ls).2.2.1) _)
section
open Go Go.RowKit Go.Proofs
attribute [local go_sem] Oper.semAt_some
set_option maxHeartbeats 2000000 in
theorem nO:NJ Tryz.prog 194 eI:=by
 intro J W xs ptr him hp
 obtain ⟨bx,ox,ds,rfl,hrd,hcell⟩:=hp
 obtain ⟨ad,cap,rfl,⟨hlen,hcap⟩,hrow⟩:=hrd
 refine ⟨fun i=>.int .i64 (b6 xs i),fun i _=>⟨[.int .i64 (b6 xs i)],rfl,rfl⟩,?_⟩
 intro l Iv Ix hY h0
 have hbox:∀W',Im J W'->W'.cell? ⟨bx,ox,none⟩=some (.slice ad xs.length cap):=fun W' h=>h _ _ _ (by have:=hcell 0 _ rfl; simpa using this)
 simp only[p6] at hlen
 have hb0:=hbox W him
 refine (callsIn_wide (n:=3)).1 ?_; refine callsIn_of_wp Tryz.func194 rfl trivial ?_
 simp only[Tryz.ntmps194,List.size_toArray,List.length_cons,List.length_nil,Nat.reduceAdd,Nat.reduceSub,Array.replicate_succ,Array.replicate_zero,List.push_toArray,List.append_toArray,List.nil_append,List.cons_append]
 gi_wp2
 gi_loopw [3] (fun i wr=>∃k:Nat,k<=xs.length/\i=.int .i64 ((xs.length:Int)-1-k)/\Iv k wr/\Im J wr)
  (fun i _=>(intOf i+1).toNat)
 case atStart=>exact ⟨0,Nat.zero_le _,by simp,h0,him⟩
 case round =>
  obtain ⟨k,hk,rfl,hJs,himr⟩:=hrel
  have hbr:=hbox wr himr
  by_cases hlt:k<xs.length
  ·obtain ⟨fn,tmps,assign,body,hy,hR⟩:=hY k wr hlt himr hJs
   rw[show ((xs.length-1-k:Nat):Int)=(xs.length:Int)-1-k by omega] at hy
   obtain ⟨b,o,rfl,hrw⟩:=hrow.resolve_left (fun e=>by subst e; simp at hlt)
   have hcx:wr.cell? ⟨b,o+(xs.length-1-k),none⟩=some (.int .i64 (b6 xs (xs.length-1-k))):=by
    obtain ⟨ds,q1,q2⟩:=hrw (xs.length-1-k) _ (F5 zo)
    have q1:ds=[.int .i64 (b6 xs (xs.length-1-k))]:=q1
    subst q1
    have:=himr _ _ _ (q2 0 _ rfl)
    simpa [eI,DV] using this
   gi_wp2
   refine hR.mono ?_
   rintro e W3 (⟨rfl,hJ3,hk3⟩ | ⟨rfl,hJx3⟩)
   ·gi_wp2
    go_roundw
    case rel=>exact ⟨k+1,by omega,by congr 1; omega,hJ3,hk3⟩
    case measure=>simp[intOf]; omega
   ·gi_wp2
    refine bodyPost_ret (results_none rfl _ _ _) rfl ?_; exact ⟨⟨_,rfl⟩,.inr ⟨k,hlt,hJx3⟩⟩
  ·obtain rfl:k=xs.length:=by omega
   gi_wp2
   go_end0
   exact ⟨⟨_,rfl⟩,.inl hJs⟩
end
theorem pJ (xs:List Int):Ct Tryz.prog 166 [b7 (eL eI) xs] (AN 194 [s6 (eL eI) xs]):=by
 refine Ct.mk Tryz.func166 rfl Tryz.ntmps166 rfl (fun w J=>?_); refine g9 ?_; refine jb 1 rfl ?_; refine g8 ?_; refine Tr.frzB 1 [1] (eL eI) ⟨rfl,trivial⟩ rfl ?_; refine jn ?_; refine i4 ?_; refine tO (FP (.cons rfl uu<|.nil)) rfl rfl ?_; refine g8 ?_; exact d9.res1 (fn:=Tryz.f166) rfl (zk)

end Go.Fl

/- Contracts: the image of a point. -/
namespace Go.Fl
open Go Go.Proofs
open b8 renaming op->tO
open j1 renaming op->rO
set_option maxRecDepth 100000

end Go.Fl

/- Lowest terms, as the reference of chapter 1 finds them. No program in sight. -/
namespace Go.Fl
open Go
theorem YN {xs:List Int} {x:Int} (hx:x≠0):j7 (xs++[x])=xs++[x]:=by
 have:=FX (xs:=xs++[x]) (m:=xs.length+1) (by simp) (fun i h1 h2=>by simp at h2; omega) (.inr (by simpa [b6] using hx))
 rw[this,List.take_of_length_le (by simp)]
theorem ag6 {xs:List Int}:j7 (xs++[0])=j7 xs:=ND (k:=1)
theorem lR {xs:List Int} {k:Nat} (hk:k<xs.length):(j7 (xs.take (k+1))).length=if b6 xs k=0 then (j7 (xs.take k)).length else k+1:=by
 rw[V5 hk]
 split
 ·rename_i h; rw[h,ag6]
 ·rename_i h; rw[YN h,List.length_append,List.length_take]; simp; omega
theorem tR {a g:Int} (hg:g≠0) (h:g∣a):a/g=0↔a=0:=by
 obtain ⟨q,rfl⟩:=h
 rw[Int.mul_ediv_cancel_left _ hg]
 constructor
 ·intro e; rw[e]; simp
 ·intro e; exact (Int.mul_eq_zero.1 e).resolve_left hg
theorem ag5 {g:Int} (hg:g≠0):∀{cs:List Int},(∀c∈cs,g∣c)->j7 (cs.map fun c=>c/g)=(j7 cs).map fun c=>c/g:=by
 intro cs h
 obtain ⟨k,h1,_⟩:=lL (xs:=cs)
 have hz:(cs.map fun c=>c/g)=((j7 cs).map fun c=>c/g)++List.replicate k 0:=by
  conv=>lhs; rw[h1]
  rw[List.map_append,List.map_replicate]
  simp
 rw[hz,ND]
 by_cases hn:j7 cs=[]
 ·rw[hn]; rfl
 ·obtain ⟨xs,x,hx⟩:∃xs x,j7 cs=xs++[x]:=⟨_,_,(List.dropLast_concat_getLast hn).symm⟩
  have hl:=KF hn
  have hx0:x≠0:=by
   have e:(j7 cs).getLast hn=x:=by simp[hx]
   rw[<- e]; exact hl
  rw[hx,List.map_append]
  exact YN fun e=>hx0 ((tR hg (h x (SK (by rw[hx]; simp)))).1 e)
theorem vM {cs:List Int} {d:Int} (hd:d≠0):l5 (loN cs d)=(j4 (j7 cs).length (fun i=>g7 (b6 cs i/w8 d cs)),g7 (d/w8 d cs)):=by
 unfold l5 loN
 refine Prod.ext ?_ rfl
 show (j7 (cs.map fun c=>c/w8 d cs)).map g7=_
 rw[ag5 (HM hd) fun c hc=>CI (.inr hc)]
 refine D1 (by simp[j4]) fun i hi=>?_
 rw[List.length_map,List.length_map] at hi
 rw[q9 hi,<- S7]
 simp[b6,hi]
end Go.Fl

/- Contracts: numbers of the reference of chapter 1 in lowest terms. -/
namespace Go.Fl
open Go Go.Proofs
open b8 renaming op->tO
open j1 renaming op->rO
set_option maxRecDepth 100000

set_option maxHeartbeats 1000000 in
theorem OU (c:List (List Int)) (d:List Int) (hc:∀i,w7 (b6 c i)/\(b6 c i).length<=100000) (hd:w7 d/\d.length<=100000) (h0:val d≠0) (hcl:c.length<=1000):Ct Tryz.prog 81 [b7 (eL (eL eI)) c,b7 (eL eI) d] (b7 j8 (l5 (loN (c.map val) (val d)))):=by
 have hdd:dl (val d)<=100003:=by have:=M7 hd.1; have:=hd.2; omega
 have hgl:∀k,dl (gL (val d).natAbs ((c.map val).take k):Int)<=100003:=fun k=>Nat.le_trans (M6 (VB zo)) hdd
 have hvl:(c.map val).length=c.length:=List.length_map ..
 have hnv:∀k,b6 (c.map val) k=val (b6 c k):=fun k=>R2
 have hg0:(w8 (val d) (c.map val))≠0:=HM h0
 have hgd:dl (w8 (val d) (c.map val))<=100003:=by have:=hgl c.length; rw[List.take_of_length_le zo] at this; unfold w8; split; (rw[K4]; exact this); exact this
 have hgz:val []=0:=rfl
 have htl:(j7 (c.map val)).length<=c.length:=by have:=R8 (xs:=(c.map val)); omega
 refine Ct.mk Tryz.func81 rfl Tryz.ntmps81 rfl (fun w J=>?_); refine g9 ?_; refine ja 4 ?_; refine l8 ?_; refine tO (i6 (fun hp=>bU d [] hd.1 (fun _ h=>absurd h (Nat.not_lt_zero _)) (by have:=hd.2; omega) (by simp)) (.a rfl uu<|.n rfl uu<|.nil)) rfl rfl ?_; refine C7 ?_
 refine Tr.for1 (σ:=Nat) [⟨0,true,_,_⟩,⟨1,true,_,_⟩,⟨4,true,_,_⟩] [⟨4,_,_⟩] (fun k=>[⟨5,true,[],b7 (eL eI) (d7 (gL (val d).natAbs ((c.map val).take k)))⟩,⟨6,true,[],kI ((j7 ((c.map val).take k)).length:Int)⟩,⟨7,true,[],kI (k:Int)⟩]) (fun k=>[]) (fun k=>k<=c.length) (fun k=>k=c.length) (fun k=>c.length-k) (0) zi (d6.mk (.r rfl (by rw[hgz]; simp[gL])<|.i rfl (by rfl)<|.i rfl zi<|zk) (zk) rfl) ?_ ?_
 ·intro k hR0
  refine jn ?_
  have hck:=hc k
  refine m8 ?_; refine jq ?_ ?_
  ·intro h4
   refine y7 ?_; refine tO (i6 (fun hp=>bU (d7 (gL (val d).natAbs ((c.map val).take k))) (b6 c k) (x9 _).inI hck.1 (by have:=hgl k; unfold dl at this; simp only[Int.natAbs_natCast] at this; omega) (by have:=hck.2; omega)) (.a rfl uu<|.a rfl uu<|.nil)) rfl rfl ?_; refine m8 ?_; refine jc (BI (b6 c k) hck.1 (by have:=hck.2; omega)) ?_; refine i7 ?_; refine jq ?_ ?_
   ·intro h7
    have hnz:b6 (c.map val) k≠0:=fun e=>h7 (Q8.2 (by rw[<- hnv]; exact e))
    refine u9 ?_
    exact g6.lp (k+1) zi zo (d6.mk (.r rfl (by rw[y4]; refine congrArg d7 ?_; have:=VC (c:=(c.map val)) (g:=(val d).natAbs) (k:=k) zo; rw[hnv] at this; simp only[Int.gcd,Int.natAbs_natCast] at this ⊢; omega)<|.i rfl (by rw[lR zo,if_neg hnz]; rfl)<|.i rfl zi<|zk) (zk) rfl)
   ·intro h7
    replace h7:=Classical.not_not.1 h7
    have hnz:b6 (c.map val) k=0:=by rw[hnv]; exact Q8.1 h7
    refine j3 ?_
    exact g6.lp (k+1) zi zo (d6.mk (.r rfl (by rw[y4]; refine congrArg d7 ?_; have:=VC (c:=(c.map val)) (g:=(val d).natAbs) (k:=k) zo; rw[hnv] at this; simp only[Int.gcd,Int.natAbs_natCast] at this ⊢; omega)<|.i rfl (by rw[lR zo,if_pos hnz])<|.i rfl zi<|zk) (zk) rfl)
  ·intro h4
   replace h4:=Int.not_lt.1 h4
   refine g8 ?_
   exact g6.cut (k) zo (d6.mk (.r rfl zi<|.i rfl zi<|.i rfl zi<|zk) (zk) rfl)
 ·rintro _ rfl
  refine je ?_
  rw[show (c.map val).take c.length=(c.map val) from List.take_of_length_le zo]
  refine i4 ?_; refine Tr.meet2 (σ:=Unit) [⟨0,true,_,_⟩,⟨1,true,_,_⟩,⟨4,true,_,_⟩,⟨6,true,_,_⟩] [⟨4,_,_⟩] (zk) (zk) (fun _=>[⟨5,true,[],b7 (eL eI) (g7 (w8 (val d) (c.map val)))⟩]) (fun _=>[]) (fun _=>True) ?_ ?_
  ·skip
   refine i7 ?_; refine jc (BI d hd.1 (by have:=hd.2; omega)) ?_; refine i7 ?_; refine jq ?_ ?_
   ·intro h9
    have h9l:val d<0:=by unfold r7 at h9; split at h9; assumption; split at h9<;>omega
    refine g9 ?_; refine tO (i6 (fun hp=>FE (d7 (gL (val d).natAbs (c.map val))) (x9 _).inI (by have:=hgl c.length; rw[List.take_of_length_le zo] at this; unfold dl at this; simp only[Int.natAbs_natCast] at this; omega)) (.a rfl uu<|.nil)) rfl rfl ?_; refine g9 ?_
    exact g6.cut (()) zi (d6.mk (.r rfl (by rw[y4]; unfold w8; rw[if_pos h9l])<|zk) (zk) rfl)
   ·intro h9
    replace h9:=Int.not_lt.1 h9
    have h9l:¬val d<0:=fun e=>by unfold r7 at h9; rw[if_pos e] at h9; omega
    refine i4 ?_
    exact g6.cut (()) zi (d6.mk (.r rfl (by unfold w8; rw[if_neg h9l,QI])<|zk) (zk) rfl)
  ·intro _ hM
   refine jn ?_; refine g9 ?_; refine tO (A1 (fun hp=>.nil)) rfl rfl ?_; refine ja 8 ?_; refine m8 ?_; refine Tr.growC 8 0 108 rfl (ks':=[o5 108 0,_]) rfl rfl 22 (eL eI) rfl (.cons inferInstance rfl<|.cons inferInstance rfl<|inferInstance) ?_
   refine Tr.for1 (σ:=Nat) [⟨0,true,_,_⟩,⟨1,true,_,_⟩,⟨4,true,_,_⟩,⟨5,true,_,_⟩,⟨6,true,_,_⟩,⟨8,true,_,_⟩] [⟨4,_,_⟩] (fun k=>[⟨9,true,[],kI (k:Int)⟩]) (fun k=>[⟨8,[108],j5 [o5 108 k,i9 (.slice none 0 0)]⟩,⟨108,[],l3 true 22 (eL eI) (j4 k fun i=>g7 (b6 (c.map val) i/(w8 (val d) (c.map val)))) k⟩]) (fun k=>k<=(j7 (c.map val)).length) (fun k=>k=(j7 (c.map val)).length) (fun k=>(j7 (c.map val)).length-k) (0) zi (d6.mk (.i rfl zi<|zk) (.e (by rfl) rfl<|.a (by rfl) zi<|zk) rfl) ?_ ?_
   ·intro k hR1
    refine jn ?_
    have hck:=hc k
    refine j3 ?_; refine jq ?_ ?_
    ·intro h13
     refine y7 ?_; refine tO (i6 (fun hp=>(by have h:=bT (b6 c k) (g7 (w8 (val d) (c.map val))) hck.1 (v5 _) (by have:=hck.2; omega) (by rw[r9]; omega); simp only[q8,if_neg hg0] at h; exact h)) (.a rfl uu<|.a rfl uu<|.nil)) rfl rfl ?_; refine D2 ?_; refine b8.new (w4 (eL eI) 59 (fun hp=>.cons rfl<|.nil) rfl rfl rfl rfl) rfl rfl rfl rfl ?_; refine b8.wkC 8 (.any<|.k<|.nil) rfl ?_; refine i4 ?_; refine jl ?_; refine u5 ?_
     exact g6.lp (k+1) zi zo (d6.mk (.i rfl zi<|zk) (.e (by rfl) rfl<|.a (by rw[F0,hnv]) zi<|zk) rfl)
    ·intro h13
     replace h13:=Int.not_lt.1 h13
     refine g8 ?_
     exact g6.cut (k) zo (d6.mk (.i rfl zi<|zk) (zk) rfl)
   ·rintro k hkn
    refine je ?_; refine g9 ?_; refine Tr.frzC 108 8 (by simp only[p6]; omega) rfl rfl ?_; refine jn ?_; refine i7 ?_; refine tO (i6 (fun hp=>(by have h:=bT (d) (g7 (w8 (val d) (c.map val))) hd.1 (v5 _) (by have:=hd.2; omega) (by rw[r9]; omega); simp only[q8,if_neg hg0] at h; exact h)) (.a rfl uu<|.a rfl uu<|.nil)) rfl rfl ?_; refine L4 ?_; exact d9.resC1 (fn:=Tryz.f81) rfl rfl (t7 rfl (by rw[vM h0,hkn]))

theorem IP (n:Int) (hn:-9223372036854775808<=n/\n<=9223372036854775807):Ct Tryz.prog 28 [kI n] (b7 j8 (l5 (loN [n] 1))):=by
 refine Ct.mk Tryz.func28 rfl Tryz.ntmps28 rfl (fun w J=>?_); refine g9 ?_; refine ja 2 ?_; refine l8 ?_; refine b8.new (w4 eI 4 (fun hp=>.cons rfl<|.nil) rfl rfl rfl rfl) rfl rfl rfl rfl ?_; refine b8.frz 4 [4] ⟨rfl,trivial⟩ (by decide) rfl ?_; refine jl ?_; refine tO (M3 (eL eI) (fun hp=>.cons rfl<|.nil) rfl rfl rfl rfl) rfl rfl ?_; refine tO (M3 eI (fun hp=>.cons rfl<|.nil) rfl rfl rfl rfl) rfl rfl ?_; refine tO (i6 (fun hp=>OU [[n]] [1] (fun i=>by match i with | 0=>exact ⟨U8 zo,by show 1<=100000; omega⟩ | i+1=>exact ⟨fun _ h=>absurd h (Nat.not_lt_zero _),by show 0<=100000; omega⟩) ⟨U8 zo,by show 1<=100000; omega⟩ (by decide) (by simp)) (.a rfl uu<|.a rfl uu<|.nil)) rfl rfl ?_
 refine g8 ?_; exact d9.resC1 (fn:=Tryz.f28) rfl rfl (t7 rfl (by rw[show [[n]].map val=[n] by simp[val],I4]))

end Go.Fl

/- The exchange of two intervals, of lengths 3 and 2. No program in sight. -/
namespace Go.Fl
open Go
theorem PS {n:Int}:l5 (loN [n] 1)=l5 (z8 n):=by
 rw[LZ]
 unfold l5 z8
 have:j7 [n,0,0,0]=j7 [n]:=ND (xs:=[n]) (k:=3)
 simp only[this]
theorem YG {n:Int}:j9 [0,1] (l5 (z8 n))=z8 n:=AX (eT yO n)
abbrev YK:List n7:=[z8 3,z8 2]
theorem ag9:([l5 (z8 3),l5 (z8 2)]:List (List (List Int)×List Int)).map (j9 [0,1])=YK:=by simp[YG]
end Go.Fl

/- Contracts: the exchange that the laws of chapter 5 begin with is mapped as it should. -/
namespace Go.Fl
open Go Go.Proofs
open b8 renaming op->tO
open j1 renaming op->rO
set_option maxRecDepth 100000

abbrev E1:o0:=(JX,[0,1],[1,0],[l5 (z8 3),l5 (z8 2)])
theorem aS (a b:List (List Int)):Ct Tryz.prog 51 [b7 (eL (eL eI)) a,b7 (eL (eL eI)) b] (kB (decide (a=b))):=by
 refine Ct.mk Tryz.func51 rfl Tryz.ntmps51 rfl (fun w J=>?_); refine Tr.fact (s:=0) rfl (fun _ _ h=>U9 h) (fun hb=>?_); refine L4 ?_; refine jq ?_ ?_
 ·intro h1
  have hne:a≠b:=fun e=>h1 (by rw[e])
  refine j6 ?_; exact d9.res1 (fn:=Tryz.f51) rfl (.b rfl (by symm; rw[decide_eq_false_iff_not]; exact hne)<|.nil)
 ·intro h1
  replace h1:=Classical.not_not.1 h1
  have hll:a.length=b.length:=by omega
  refine j3 ?_
  refine Tr.for1 (σ:=Nat) [⟨0,true,_,_⟩,⟨1,true,_,_⟩] [] (fun k=>[⟨5,true,[],kI (k:Int)⟩]) (fun k=>[]) (fun k=>k<=a.length/\∀i,i<k->b6 a i=b6 b i) (fun k=>∀i,i<a.length->b6 a i=b6 b i) (fun k=>a.length-k) (0) ⟨Nat.zero_le _,fun i h=>absurd h (Nat.not_lt_zero _)⟩ (d6.mk (.i rfl zi<|zk) (.nil) rfl) ?_ ?_
  ·rintro k ⟨hk,hR⟩
   refine jn ?_; refine m8 ?_; refine jq ?_ ?_
   ·intro h4
    refine l8 ?_; refine Tr.draw 8 n8 (by kernel_rfl) ?_; refine m8 ?_; refine jc (FD (b6 a k) (b6 b k)) ?_; refine i7 ?_; refine Tr.cnd rfl ?_ ?_
    ·intro h6
     have hne:a≠b:=fun e=>by subst e; simp at h6
     refine u9 ?_; exact d9.res1 (fn:=Tryz.f51) rfl (.b rfl (by symm; rw[decide_eq_false_iff_not]; exact hne)<|.nil)
    ·intro h6
     have hkk:b6 a k=b6 b k:=by simpa using h6
     refine j3 ?_
     exact g6.lp (k+1) ⟨by omega,fun i hi=>by by_cases e:i=k; (rw[e]; exact hkk); exact hR i zo⟩ zo (d6.mk (.i rfl zi<|zk) (.nil) rfl)
   ·intro h4
    replace h4:=Int.not_lt.1 h4
    refine g8 ?_
    exact g6.cut (k) (fun i hi=>hR i zo) (d6.mk (.i rfl zi<|zk) (.nil) rfl)
  ·rintro k hE
   refine je ?_; refine j6 ?_; exact d9.res1 (fn:=Tryz.f51) rfl (.b rfl (by symm; rw[decide_eq_true_eq]; exact D1 hll hE)<|.nil)

theorem pH (a b:y3):Ct Tryz.prog 18 [b7 j8 a,b7 j8 b] (kB (decide (a=b))):=by
 refine Ct.mk Tryz.func18 rfl Tryz.ntmps18 rfl (fun w J=>?_); refine g9 ?_; refine jb 2 rfl ?_; refine jb 3 rfl ?_; refine m8 ?_; refine tO (i6 (fun hp=>aS _ _) (.a rfl uu<|.a rfl uu<|.nil)) rfl rfl ?_; refine l8 ?_; refine b8.gd rfl rfl rfl (i6 (fun hp=>FD a.2 b.2) (.a rfl id<|.a rfl id<|.nil)) rfl rfl ?_; refine l8 ?_; exact d9.res1 (fn:=Tryz.f18) rfl (.b rfl (by rw[<- Bool.decide_and]; exact decide_eq_decide.2 (Prod.ext_iff).symm)<|.nil)

theorem sE  : Ct Tryz.prog 64 [] (b7 eX E1):=by
 refine Ct.mk Tryz.func64 rfl Tryz.ntmps64 rfl (fun w J=>?_); refine g9 ?_; refine ja 0 ?_; refine g8 ?_; refine jc rG ?_; refine b8.new (w4 eI 2 (fun hp=>.cons rfl<|.cons rfl<|.nil) rfl rfl rfl rfl) rfl rfl rfl rfl ?_; refine b8.frz 2 [2] ⟨rfl,trivial⟩ (by decide) rfl ?_; refine jl ?_; refine b8.new (w4 eI 3 (fun hp=>.cons rfl<|.cons rfl<|.nil) rfl rfl rfl rfl) rfl rfl rfl rfl ?_; refine b8.frz 3 [3] ⟨rfl,trivial⟩ (by decide) rfl ?_; refine jl ?_; refine jc (IP 3 zo) ?_; refine jc (IP 2 zo) ?_; refine b8.new (w4 j8 6 (fun hp=>.cons rfl<|.cons rfl<|.nil) rfl rfl rfl rfl) rfl rfl rfl rfl ?_
 refine b8.frz 6 [6] ⟨rfl,trivial⟩ (by decide) rfl ?_; refine jl ?_; refine tO (A1 (fun hp=>.cons rfl rfl rfl<|.cons rfl rfl rfl<|.cons rfl rfl rfl<|.cons rfl rfl rfl<|.nil)) rfl rfl ?_; refine g8 ?_; exact d9.resC1 (fn:=Tryz.f64) rfl rfl (t7 rfl (by rw[PS,PS]))

end Go.Fl

/- Intervals of a number: Horner's rule with ends, halving. Plain Lean, no program in sight. -/
namespace Go.Fl
def N0 (a b c d:Int):Int:=min (min a b) (min c d)
def M9 (a b c d:Int):Int:=max (max a b) (max c d)
theorem VT {A B x y:Int} (h1:A<=x) (h2:x<=B):min (A*y) (B*y)<=x*y/\x*y<=max (A*y) (B*y):=by
 rcases Int.le_total 0 y with hy | hy
 ·have e1:=Int.mul_le_mul_of_nonneg_right h1 hy
  have e2:=Int.mul_le_mul_of_nonneg_right h2 hy
  omega
 ·have e1:=Int.mul_le_mul_of_nonpos_right h1 hy
  have e2:=Int.mul_le_mul_of_nonpos_right h2 hy
  omega
theorem eK {A B L H x y:Int} (h1:A<=x) (h2:x<=B) (h3:L<=y) (h4:y<=H):N0 (A*L) (A*H) (B*L) (B*H)<=x*y/\x*y<=M9 (A*L) (A*H) (B*L) (B*H):=by
 have e1:=VT (y:=y) h1 h2
 have e2:=VT (y:=A) h3 h4
 have e3:=VT (y:=B) h3 h4
 rw[Int.mul_comm L,Int.mul_comm H,Int.mul_comm y] at e2 e3
 unfold N0 M9
 omega
theorem fX {A B L H:Int}:∃x y,(x=A\/x=B)/\(y=L\/y=H)/\N0 (A*L) (A*H) (B*L) (B*H)=x*y:=by
 unfold N0
 have h:min (min (A*L) (A*H)) (min (B*L) (B*H))=A*L\/min (min (A*L) (A*H)) (min (B*L) (B*H))=A*H\/min (min (A*L) (A*H)) (min (B*L) (B*H))=B*L\/min (min (A*L) (A*H)) (min (B*L) (B*H))=B*H:=by omega
 rcases h with h | h | h | h
 ·exact ⟨A,L,.inl rfl,.inl rfl,h⟩
 ·exact ⟨A,H,.inl rfl,.inr rfl,h⟩
 ·exact ⟨B,L,.inr rfl,.inl rfl,h⟩
 ·exact ⟨B,H,.inr rfl,.inr rfl,h⟩
theorem fV {A B L H:Int}:∃x y,(x=A\/x=B)/\(y=L\/y=H)/\M9 (A*L) (A*H) (B*L) (B*H)=x*y:=by
 unfold M9
 have h:max (max (A*L) (A*H)) (max (B*L) (B*H))=A*L\/max (max (A*L) (A*H)) (max (B*L) (B*H))=A*H\/max (max (A*L) (A*H)) (max (B*L) (B*H))=B*L\/max (max (A*L) (A*H)) (max (B*L) (B*H))=B*H:=by omega
 rcases h with h | h | h | h
 ·exact ⟨A,L,.inl rfl,.inl rfl,h⟩
 ·exact ⟨A,H,.inl rfl,.inr rfl,h⟩
 ·exact ⟨B,L,.inr rfl,.inl rfl,h⟩
 ·exact ⟨B,H,.inr rfl,.inr rfl,h⟩
theorem WI {Q a b:Int} (h:0<=Q):min (Q*a) (Q*b)=Q*min a b:=by
 rcases Int.le_total a b with h1 | h1
 ·have:=Int.mul_le_mul_of_nonneg_left h1 h
  rw[Int.min_eq_left h1,Int.min_eq_left this]
 ·have:=Int.mul_le_mul_of_nonneg_left h1 h
  rw[Int.min_eq_right h1,Int.min_eq_right this]
theorem WH {Q a b:Int} (h:0<=Q):max (Q*a) (Q*b)=Q*max a b:=by
 rcases Int.le_total a b with h1 | h1
 ·have:=Int.mul_le_mul_of_nonneg_left h1 h
  rw[Int.max_eq_right h1,Int.max_eq_right this]
 ·have:=Int.mul_le_mul_of_nonneg_left h1 h
  rw[Int.max_eq_left h1,Int.max_eq_left this]
theorem fY {Q a b c d:Int} (h:0<=Q):N0 (Q*a) (Q*b) (Q*c) (Q*d)=Q*N0 a b c d:=by
 unfold N0; rw[WI h,WI h,WI h]
theorem fW {Q a b c d:Int} (h:0<=Q):M9 (Q*a) (Q*b) (Q*c) (Q*d)=Q*M9 a b c d:=by
 unfold M9; rw[WH h,WH h,WH h]
structure Iv where
 lo:Int
 hi:Int
 den:Int
def enc (I:Iv):List Int->Int×Int×Int
 | []=>(0,0,1)
 | c::cs =>
  let e:=enc I cs
  (N0 (e.1*I.lo) (e.1*I.hi) (e.2.1*I.lo) (e.2.1*I.hi)+c*(e.2.2*I.den),M9 (e.1*I.lo) (e.1*I.hi) (e.2.1*I.lo) (e.2.1*I.hi)+c*(e.2.2*I.den),e.2.2*I.den)
structure Iv.Ok (I:Iv):Prop where
 le:I.lo<=I.hi
 pos:0<I.den
theorem UV {I:Iv}:∀{cs:List Int},(enc I cs).2.2=I.den ^ cs.length
 | []=>by simp[enc]
 | c::cs=>by rw[enc,List.length_cons,Int.pow_succ,<- UV]
theorem dM {I:Iv}:∀{cs:List Int},(enc I cs).1<=(enc I cs).2.1
 | []=>Int.le_refl _
 | c::cs=>by
  rw[enc]
  simp only
  have:N0 ((enc I cs).1*I.lo) ((enc I cs).1*I.hi) ((enc I cs).2.1*I.lo) ((enc I cs).2.1*I.hi)<=M9 ((enc I cs).1*I.lo) ((enc I cs).1*I.hi) ((enc I cs).2.1*I.lo) ((enc I cs).2.1*I.hi):=by unfold N0 M9; omega
  omega
structure Iv.In (I' I:Iv) (m:Int):Prop where
 m0:0<m
 den:I'.den=m*I.den
 lo:m*I.lo<=I'.lo
 hi:I'.hi<=m*I.hi
theorem UW {I' I:Iv} {m:Int} (h:I'.In I m) (h':I'.lo<=I'.hi):∀{cs:List Int},m ^ cs.length*(enc I cs).1<=(enc I' cs).1/\(enc I' cs).2.1<=m ^ cs.length*(enc I cs).2.1/\(enc I' cs).2.2=m ^ cs.length*(enc I cs).2.2
 | []=>by simp[enc]
 | c::cs=>by
  obtain ⟨h1,h2,h3⟩:=UW h h' (cs:=cs)
  have hle:=dM (I:=I') (cs:=cs)
  have hm:=h.m0
  rw[enc,enc,List.length_cons,Int.pow_succ]
  simp only
  generalize (enc I cs).1=A at *
  generalize (enc I cs).2.1=B at *
  generalize (enc I cs).2.2=D at *
  generalize (enc I' cs).1=A' at *
  generalize (enc I' cs).2.1=B' at *
  generalize (enc I' cs).2.2=D' at *
  have hq:0<m ^ cs.length:=Int.pow_pos hm
  have hQ:=Int.mul_pos hq hm
  generalize m ^ cs.length=q at *
  have hd:D'*I'.den=q*m*(D*I.den):=by rw[h3,h.den]; simp only[Int.mul_left_comm,Int.mul_comm]
  have hc:c*(D'*I'.den)=q*m*(c*(D*I.den)):=by rw[hd]; simp only[Int.mul_left_comm,Int.mul_comm]
  have e:∀x y:Int,q*x*(m*y)=q*m*(x*y):=fun x y=>by simp only[Int.mul_left_comm,Int.mul_comm]
  have key:∀x y,(x=A'\/x=B')->(y=I'.lo\/y=I'.hi)->N0 (q*A*(m*I.lo)) (q*A*(m*I.hi)) (q*B*(m*I.lo)) (q*B*(m*I.hi))<=x*y/\x*y<=M9 (q*A*(m*I.lo)) (q*A*(m*I.hi)) (q*B*(m*I.lo)) (q*B*(m*I.hi)):=fun x y hx hy=>by
   have b1:q*A<=x/\x<=q*B:=by rcases hx with rfl | rfl<;>omega
   have b2:m*I.lo<=y/\y<=m*I.hi:=by have:=h.lo; have:=h.hi; rcases hy with rfl | rfl<;>omega
   exact eK b1.1 b1.2 b2.1 b2.2
  simp only[e,fY (Int.le_of_lt hQ),fW (Int.le_of_lt hQ)] at key
  refine ⟨?_,?_,hd⟩
  ·obtain ⟨x,y,hx,hy,hxy⟩:=fX (A:=A') (B:=B') (L:=I'.lo) (H:=I'.hi)
   have:=(key x y hx hy).1
   rw[hxy,Int.mul_add,hc]; omega
  ·obtain ⟨x,y,hx,hy,hxy⟩:=fV (A:=A') (B:=B') (L:=I'.lo) (H:=I'.hi)
   have:=(key x y hx hy).2
   rw[hxy,Int.mul_add,hc]; omega
end Go.Fl

/- Signs of numbers: the intervals are halved until one decides. Plain Lean, no program in sight. -/
namespace Go.Fl
def v8 (a b:Int):List Int->Int×Int
 | []=>(0,1)
 | c::cs=>((v8 a b cs).1*a+c*(v8 a b cs).2,(v8 a b cs).2*b)
def s8 (z:Int):Int:=r7 z 0
def K6 (p:List Int) (I:Iv):Iv :=
 if s8 (v8 I.lo I.den p).1*s8 (v8 (I.lo+I.hi) (I.den+I.den) p).1<0 then ⟨I.lo+I.lo,I.lo+I.hi,I.den+I.den⟩ else ⟨I.lo+I.hi,I.hi+I.hi,I.den+I.den⟩
theorem uK {p:List Int} {I:Iv} (h:I.Ok):(K6 p I).Ok:=by
 have h1:=h.le; have h2:=h.pos
 unfold K6
 split
 ·exact ⟨by simp only; omega,by simp only; omega⟩
 ·exact ⟨by simp only; omega,by simp only; omega⟩
theorem uJ {p:List Int} {I:Iv} (h:I.Ok):(K6 p I).In I 2:=by
 have h1:=h.le
 unfold K6
 split
 ·exact ⟨by omega,by simp only; omega,by simp only; omega,by simp only; omega⟩
 ·exact ⟨by omega,by simp only; omega,by simp only; omega,by simp only; omega⟩
theorem Iv.In.trans {A B C:Iv} {m n:Int} (h1:A.In B m) (h2:B.In C n):A.In C (m*n):=by
 have a1:=h1.m0; have a2:=h2.m0
 refine ⟨Int.mul_pos a1 a2,by rw[h1.den,h2.den,Int.mul_assoc],?_,?_⟩
 ·have:=Int.mul_le_mul_of_nonneg_left h2.lo (Int.le_of_lt a1)
  have:=h1.lo
  rw[Int.mul_assoc]; omega
 ·have:=Int.mul_le_mul_of_nonneg_left h2.hi (Int.le_of_lt a1)
  have:=h1.hi
  rw[Int.mul_assoc]; omega
def i2 (p:List Int) (I:Iv):Nat->Iv
 | 0=>I
 | k+1=>K6 p (i2 p I k)
theorem Y0 {p:List Int} {I:Iv} (h:I.Ok):∀{k:Nat},(i2 p I k).Ok
 | 0=>h
 | _+1=>uK (Y0 h)
theorem VL {p:List Int} {I:Iv} (h:I.Ok) {j:Nat}:∀{n:Nat},∃m,(i2 p I (j+n)).In (i2 p I j) m
 | 0=>⟨1,by omega,by rw[Nat.add_zero]; omega,by rw[Nat.add_zero]; omega,by rw[Nat.add_zero]; omega⟩
 | n+1=>by
  obtain ⟨m,hm⟩:=VL h (j:=j) (n:=n)
  exact ⟨2*m,(uJ (Y0 h)).trans hm⟩
section
variable {p:List Int} {I:Iv} {cs:List Int} {j k:Nat}
theorem dL (h:I.Ok) (hjk:j<=k) (hp:0<(enc (i2 p I j) cs).1):0<(enc (i2 p I k) cs).1:=by
 obtain ⟨n,rfl⟩:=Nat.exists_eq_add_of_le hjk
 obtain ⟨m,hm⟩:=VL (p:=p) h (j:=j) (n:=n)
 have h1:=(UW hm (Y0 h).le (cs:=cs)).1
 have h2:=Int.mul_pos (show 0<m ^ cs.length from Int.pow_pos hm.m0) hp
 omega
theorem dK (h:I.Ok) (hjk:j<=k) (hp:(enc (i2 p I j) cs).2.1<0):(enc (i2 p I k) cs).2.1<0:=by
 obtain ⟨n,rfl⟩:=Nat.exists_eq_add_of_le hjk
 obtain ⟨m,hm⟩:=VL (p:=p) h (j:=j) (n:=n)
 have h1:=(UW hm (Y0 h).le (cs:=cs)).2.1
 have h2:=Int.mul_neg_of_pos_of_neg (show 0<m ^ cs.length from Int.pow_pos hm.m0) hp
 omega
theorem tT (h:I.Ok) (hp:0<(enc (i2 p I j) cs).1) (hn:(enc (i2 p I k) cs).2.1<0):False:=by
 have h1:=dL h (Nat.le_max_left j k) hp
 have h2:=dK h (Nat.le_max_right j k) hn
 have h3:=dM (I:=i2 p I (max j k)) (cs:=cs)
 omega
end
open Classical in
noncomputable def Z4 (p:List Int) (I:Iv) (cs:List Int):Int:=if ∃k,0<(enc (i2 p I k) cs).1 then 1 else if ∃k,(enc (i2 p I k) cs).2.1<0 then -1 else 0
theorem kJ {p:List Int} {I:Iv} {cs:List Int} {k:Nat} (h:0<(enc (i2 p I k) cs).1):Z4 p I cs=1:=if_pos ⟨k,h⟩
theorem kH {p:List Int} {I:Iv} {cs:List Int} {k:Nat} (hI:I.Ok) (h:(enc (i2 p I k) cs).2.1<0):Z4 p I cs=-1:=by
 unfold Z4
 rw[if_neg (fun ⟨j,hj⟩=>tT hI hj h),if_pos ⟨k,h⟩]
end Go.Fl

/- Polynomials with integer coefficients (by coefficient functions): Gauss' lemma, common divisors and combinations. Plain Lean, no program in sight. -/
namespace Go.Fl
abbrev u6:=Nat->Int
def A6 (f:u6) (d:Nat):Prop:=∀i,d<i->f i=0
def o9 (f g:u6):u6:=fun k=>r6 (fun i=>f i*g (k-i)) (k+1)
theorem HO {f:Nat->Int}:∀{k:Nat},(∀i,i<k->f i=0)->r6 f k=0
 | 0,_=>rfl
 | k+1,h=>by rw[K2,HO fun i hi=>h i zo,h k zo]; rfl
theorem HN {f:Nat->Int} {m:Int}:∀{k:Nat},r6 (fun i=>m*f i) k=m*r6 f k
 | 0=>by simp[r6]
 | k+1=>by rw[K2,K2,HN,Int.mul_add]
theorem kX {f:Nat->Int} {m:Int}:∀{k:Nat},(∀i,i<k->m∣f i)->m∣r6 f k
 | 0,_=>⟨0,by simp[r6]⟩
 | k+1,h=>by rw[K2]; exact Int.dvd_add (kX fun i hi=>h i zo) (h k zo)
theorem kW {f:Nat->Int} {m:Int} {j:Nat}:∀{k:Nat},j<k->(∀i,i<k->i≠j->m∣f i)->∃q,r6 f k=f j+m*q
 | 0,h,_=>absurd h zo
 | k+1,h,hd=>by
  by_cases e:j=k
  ·subst e
   obtain ⟨q,hq⟩:=kX (f:=f) (m:=m) (k:=j) fun i hi=>hd i zo zo
   exact ⟨q,by rw[K2,hq]; omega⟩
  ·obtain ⟨q,hq⟩:=kW (f:=f) (m:=m) (k:=k) zo fun i hi hne=>hd i zo hne
   obtain ⟨r,hr⟩:=hd k zo (fun e'=>e e'.symm)
   exact ⟨q+r,by rw[K2,hq,hr,Int.mul_add]; omega⟩
theorem SF {f:Nat->Int} {j:Nat}:∀{k:Nat},j<k->(∀i,i<k->i≠j->f i=0)->r6 f k=f j
 | 0,h,_=>absurd h zo
 | k+1,h,hd=>by
  by_cases e:j=k
  ·subst e; rw[K2,HO fun i hi=>hd i zo zo]; omega
  ·rw[K2,SF zo fun i hi hne=>hd i zo hne,hd k zo (fun e'=>e e'.symm)]; omega
theorem oV {f g:u6} {a b:Nat} (hf:A6 f a) (hg:A6 g b):o9 f g (a+b)=f a*g b:=by
 unfold o9
 rw[SF (j:=a) zo]
 ·rw[Nat.add_sub_cancel_left]
 ·intro i hi hne
  by_cases h:a<i
  ·rw[hf i h,Int.zero_mul]
  ·rw[hg (a+b-i) zo,Int.mul_zero]
theorem aM {f g:u6} {a b:Nat} (hf:A6 f a) (hg:A6 g b):A6 (o9 f g) (a+b):=fun k hk=>by
 unfold o9
 refine HO fun i _=>?_
 by_cases h:a<i
 ·rw[hf i h,Int.zero_mul]
 ·rw[hg (k-i) zo,Int.mul_zero]
theorem IK {f g:u6} {m:Int}:o9 (fun i=>m*f i) g=fun k=>m*o9 f g k:=by
 funext k; unfold o9
 rw[<- HN]
 exact Q3 fun i _=>by rw[Int.mul_assoc]
theorem LD {f g:u6} {m:Int}:o9 f (fun i=>m*g i)=fun k=>m*o9 f g k:=by
 funext k; unfold o9
 rw[<- HN]
 exact Q3 fun i _=>by rw[Int.mul_left_comm]
theorem yQ {s:Nat} (h:1<s):∃q,1<q/\q∣s/\∀a b:Int,(q:Int)∣a*b->(q:Int)∣a\/(q:Int)∣b:=by
 have key:∀k,∀j,j+k=s->1<j->(∀i,1<i->i<j->¬i∣s)->∃q,1<q/\q∣s/\∀i,1<i->i<q->¬i∣s:=by
  intro k
  induction k with
  | zero=>intro j h1 h2 h3; exact ⟨s,h,Nat.dvd_refl _,fun i a b=>h3 i a zo⟩
  | succ k ih =>
   intro j h1 h2 h3
   by_cases hd:j∣s
   ·exact ⟨j,h2,hd,h3⟩
   ·refine ih (j+1) zo zo fun i a b=>?_
    by_cases e:i=j
    ·subst e; exact hd
    ·exact h3 i a zo
 obtain ⟨q,h1,h2,h3⟩:=key (s-2) 2 zo zo fun i a b=>by omega
 refine ⟨q,h1,h2,fun a b hab=>?_⟩
 have hab':q∣a.natAbs*b.natAbs:=by
  have:=Int.natAbs_dvd_natAbs.2 hab
  rwa [Int.natAbs_natCast,Int.natAbs_mul] at this
 have hg:Nat.gcd q a.natAbs∣q:=Nat.gcd_dvd_left _ _
 by_cases e:Nat.gcd q a.natAbs=1
 ·exact .inr (Int.ofNat_dvd_left.2 (Nat.Coprime.dvd_of_dvd_mul_left e hab'))
 ·have hpos:0<Nat.gcd q a.natAbs:=Nat.gcd_pos_of_pos_left _ zo
  have hle:=Nat.le_of_dvd zo hg
  have heq:Nat.gcd q a.natAbs=q:=Classical.byContradiction fun hne=>h3 _ zo zo (Nat.dvd_trans hg h2)
  exact .inl (Int.ofNat_dvd_left.2 (by rw[<- heq]; exact Nat.gcd_dvd_right _ _))
theorem fL {P:Nat->Prop} (h:∃i,P i):∃i,P i/\∀j,j<i->¬P j:=by
 obtain ⟨i,hi⟩:=h
 induction i using Nat.strongRecOn with
 | _ i ih =>
  by_cases e:∃j,j<i/\P j
  ·obtain ⟨j,h1,h2⟩:=e; exact ih j h1 h2
  ·exact ⟨i,hi,fun j hj hp=>e ⟨j,hj,hp⟩⟩
theorem tY {q:Int} (hp:∀a b:Int,q∣a*b->q∣a\/q∣b) {r t:u6} (h:∀k,q∣o9 r t k):(∀k,q∣r k)\/∀k,q∣t k:=by
 refine Classical.byContradiction fun hn=>?_
 rw[not_or] at hn
 obtain ⟨i,hi,hi'⟩:=fL (Classical.not_forall.1 hn.1)
 obtain ⟨j,hj,hj'⟩:=fL (Classical.not_forall.1 hn.2)
 obtain ⟨m,hm⟩:=kW (f:=fun k=>r k*t (i+j-k)) (m:=q) (j:=i) (k:=i+j+1) zo fun k hk hne=>by
  by_cases hlt:k<i
  ·exact Int.dvd_trans (Classical.not_not.1 (hi' k hlt)) (Int.dvd_mul_right _ _)
  ·exact Int.dvd_trans (Classical.not_not.1 (hj' (i+j-k) zo)) (Int.dvd_mul_left _ _)
 have h1:q∣o9 r t (i+j):=h _
 have h2:o9 r t (i+j)=r i*t (i+j-i)+q*m:=hm
 rw[h2,Nat.add_sub_cancel_left] at h1
 have h3:q∣r i*t j:=(Int.dvd_add_left (Int.dvd_mul_right q m)).1 h1
 rcases hp _ _ h3 with h | h
 ·exact hi h
 ·exact hj h
theorem tZ {p:u6} {a b:Nat}:∀(n:Nat) {s:Int} {r t:u6},s.natAbs=n->s≠0->A6 r a->r a≠0->A6 t b->(∀k,s*p k=o9 r t k)->∃r' t',A6 r' a/\r' a≠0/\A6 t' b/\((∀k,p k=o9 r' t' k)\/∀k,-p k=o9 r' t' k):=by
 intro n
 induction n using Nat.strongRecOn with
 | _ n ih =>
  intro s r t hn hs hr hra ht h
  by_cases h1:n=1
  ·rcases (show s=1\/s=-1 by omega) with rfl | rfl
   ·exact ⟨r,t,hr,hra,ht,.inl fun k=>by rw[<- h k,Int.one_mul]⟩
   ·exact ⟨r,t,hr,hra,ht,.inr fun k=>by rw[<- h k,Int.neg_mul,Int.one_mul]⟩
  ·obtain ⟨q,q1,q2,q3⟩:=yQ (s:=n) zo
   have hqs:(q:Int)∣s:=Int.ofNat_dvd_left.2 (by rw[hn]; exact q2)
   obtain ⟨s',hs'⟩:=hqs
   have hq0:(q:Int)≠0:=by omega
   have hlt:s'.natAbs<n:=by
    rw[<- hn,hs',Int.natAbs_mul,Int.natAbs_natCast]
    have h0:0<s'.natAbs:=by
     refine Nat.pos_of_ne_zero fun e=>hs ?_
     rw[hs',show s'=0 by omega,Int.mul_zero]
    have:=Nat.mul_lt_mul_of_pos_right q1 h0
    omega
   have hs0:s'≠0:=fun e=>hs (by rw[hs',e,Int.mul_zero])
   have hall:∀k,(q:Int)∣o9 r t k:=fun k=>⟨s'*p k,by rw[<- h k,hs',Int.mul_assoc]⟩
   rcases tY q3 hall with hd | hd
   ·have e:∀k,r k=(q:Int)*(r k/q):=fun k=>(Int.mul_ediv_cancel' (hd k)).symm
    refine ih _ hlt (r:=fun k=>r k/q) (t:=t) rfl hs0 (fun i hi=>by show r i/_=0; rw[hr i hi,Int.zero_ediv]) (fun e0=>hra (by rw[e a,show r a/(q:Int)=0 from e0,Int.mul_zero])) ht fun k=>?_
    have h2:o9 r t k=(q:Int)*o9 (fun k=>r k/q) t k:=by
     have:r=fun k=>(q:Int)*(r k/q):=funext e
     conv=>lhs; rw[this,IK]
    have h3:(q:Int)*(s'*p k)=q*o9 (fun k=>r k/q) t k:=by rw[<- h2,<- h k,hs',Int.mul_assoc]
    exact Int.eq_of_mul_eq_mul_left hq0 h3
   ·have e:∀k,t k=(q:Int)*(t k/q):=fun k=>(Int.mul_ediv_cancel' (hd k)).symm
    refine ih _ hlt (r:=r) (t:=fun k=>t k/q) rfl hs0 hr hra (fun i hi=>by show t i/_=0; rw[ht i hi,Int.zero_ediv]) fun k=>?_
    have h2:o9 r t k=(q:Int)*o9 r (fun k=>t k/q) k:=by
     have:t=fun k=>(q:Int)*(t k/q):=funext e
     conv=>lhs; rw[this,LD]
    have h3:(q:Int)*(s'*p k)=q*o9 r (fun k=>t k/q) k:=by rw[<- h2,<- h k,hs',Int.mul_assoc]
    exact Int.eq_of_mul_eq_mul_left hq0 h3
end Go.Fl

/- Euclid's algorithm on polynomials, with multiples instead of fractions: a common divisor, or a combination that is a number. Plain Lean, no program in sight. -/
namespace Go.Fl
def G2 (k:Nat) (g:u6):u6:=fun i=>if k<=i then g (i-k) else 0
def N8 (a b:Int) (k:Nat) (f g:u6):u6:=fun i=>a*f i-b*G2 k g i
theorem YC {f:Nat->Int} {m:Nat}:∀{j:Nat},(∀i,m<=i->i<m+j->f i=0)->r6 f (m+j)=r6 f m
 | 0,_=>rfl
 | j+1,h=>by rw[show m+(j+1)=m+j+1 by omega,K2,YC fun i h1 h2=>h i h1 zo,h (m+j) zo zo]; omega
theorem YB {f:Nat->Int} {k:Nat}:∀{j:Nat},(∀i,i<k->f i=0)->r6 f (k+j)=r6 (fun i=>f (k+i)) j
 | 0,h=>by rw[Nat.add_zero,HO h]; rfl
 | j+1,h=>by rw[show k+(j+1)=k+j+1 by omega,K2,K2,YB h]
theorem aO {f g:u6} {k:Nat}:o9 (G2 k f) g=G2 k (o9 f g):=by
 funext i
 unfold o9 G2
 by_cases h:k<=i
 ·rw[if_pos h,show i+1=k+(i-k+1) by omega,YB]
  ·refine Q3 fun j hj=>?_
   rw[if_pos zo,Nat.add_sub_cancel_left,show i-(k+j)=i-k-j by omega]
  ·intro j hj; rw[if_neg zo,Int.zero_mul]
 ·rw[if_neg h]
  exact HO fun j hj=>by rw[if_neg zo,Int.zero_mul]
theorem oT {f g:u6} {k:Nat}:o9 f (G2 k g)=G2 k (o9 f g):=by
 funext i
 unfold o9 G2
 by_cases h:k<=i
 ·rw[if_pos h,show i+1=(i-k+1)+k by omega,YC]
  ·refine Q3 fun j hj=>?_
   rw[if_pos zo,show i-j-k=i-k-j by omega]
  ·intro j h1 h2; rw[if_neg zo,Int.mul_zero]
 ·rw[if_neg h]
  exact HO fun j hj=>by rw[if_neg zo,Int.mul_zero]
theorem oU {f g h:u6}:o9 (fun i=>f i-g i) h=fun i=>o9 f h i-o9 g h i:=by
 funext i; unfold o9
 rw[<- kY]
 exact Q3 fun j _=>by rw[Int.sub_mul]
theorem oR {f g h:u6}:o9 (fun i=>f i+g i) h=fun i=>o9 f h i+o9 g h i:=by
 funext i; unfold o9
 rw[<- SD]
 exact Q3 fun j _=>by rw[Int.add_mul]
theorem oS {f g h:u6}:o9 h (fun i=>f i+g i)=fun i=>o9 h f i+o9 h g i:=by
 funext i; unfold o9
 rw[<- SD]
 exact Q3 fun j _=>by rw[Int.mul_add]
theorem ad3 {g:u6} {k:Nat} {b:Int}:(fun i=>b*G2 k g i)=G2 k fun i=>b*g i:=by
 funext i; unfold G2
 split
 ·rfl
 ·rw[Int.mul_zero]
theorem aP {a b:Int} {k:Nat} {f g h:u6}:o9 (N8 a b k f g) h=N8 a b k (o9 f h) (o9 g h):=by
 unfold N8
 rw[oU,IK,IK,aO]
def AQ:u6:=fun i=>if i=0 then 1 else 0
def P7:u6:=fun _=>0
theorem OM {f:u6}:o9 AQ f=f:=by
 funext k; unfold o9
 rw[SF (j:=0) zo]
 ·unfold AQ; rw[if_pos rfl,Int.one_mul]; rfl
 ·intro i _ hne; unfold AQ; rw[if_neg hne,Int.zero_mul]
theorem FC {f:u6}:o9 P7 f=P7:=by
 funext k; unfold o9
 exact HO fun i _=>by unfold P7; rw[Int.zero_mul]
structure BA (p c:u6) (X E:Nat) (f u v:u6):Prop where
 eq:∀k,f k=o9 u p k+o9 v c k
 du:A6 u E
 dv:A6 v E
 bf:∀k,(f k).natAbs<=X
 bu:∀k,(u k).natAbs<=X
 bv:∀k,(v k).natAbs<=X
theorem XZ {a b:Int} {k X:Nat} {f g:u6} (ha:a.natAbs<=X) (hb:b.natAbs<=X) (hf:∀i,(f i).natAbs<=X) (hg:∀i,(g i).natAbs<=X) (i:Nat):(N8 a b k f g i).natAbs<=2*X*X:=by
 have h1:(a*f i).natAbs<=X*X:=by rw[Int.natAbs_mul]; exact Nat.mul_le_mul ha (hf i)
 have h2:(b*G2 k g i).natAbs<=X*X:=by
  rw[Int.natAbs_mul]
  refine Nat.mul_le_mul hb ?_
  unfold G2; split
  ·exact hg _
  ·exact Nat.zero_le _
 unfold N8
 rw[show 2*X*X=X*X+X*X by rw[Nat.mul_assoc,Nat.two_mul]]
 omega
theorem kR {a b:Int} {k d e:Nat} {f g:u6} (hf:A6 f d) (hg:A6 g e) (h1:d<=e+k):A6 (N8 a b k f g) (e+k):=fun i hi=>by
 unfold N8 G2
 rw[hf i zo,if_pos zo,hg (i-k) zo]; omega
theorem BA.stp {p c:u6} {X E k:Nat} {f u v g u' v':u6} {a b:Int} (h:BA p c X E f u v) (h':BA p c X E g u' v') (ha:a.natAbs<=X) (hb:b.natAbs<=X):BA p c (2*X*X) (E+k) (N8 a b k f g) (N8 a b k u u') (N8 a b k v v'):=by
 refine ⟨fun i=>?_,kR h.du h'.du zo,kR h.dv h'.dv zo,XZ ha hb h.bf h'.bf,XZ ha hb h.bu h'.bu,XZ ha hb h.bv h'.bv⟩
 rw[aP,aP]
 unfold N8 G2
 rw[h.eq i]
 split
 ·rw[h'.eq (i-k)]; simp only[Int.mul_add]; omega
 ·simp only[Int.mul_add,Int.mul_zero]; omega
def O6 (p f g:u6):Prop:=∃s q1 q2 d,s≠0/\A6 q1 d/\A6 q2 d/\∀k,s*p k=o9 q1 f k+o9 q2 g k
theorem O6.swap {p f g:u6} (h:O6 p f g):O6 p g f:=by
 obtain ⟨s,q1,q2,d,h1,h2,h3,h4⟩:=h
 exact ⟨s,q2,q1,d,h1,h3,h2,fun k=>by rw[h4 k,Int.add_comm]⟩
theorem O6.stp {p f g:u6} (h:O6 p f g) {a b:Int} {k:Nat} (ha:a≠0):O6 p (N8 a b k f g) g:=by
 obtain ⟨s,q1,q2,d,h1,h2,h3,h4⟩:=h
 refine ⟨a*s,q1,fun i=>G2 k (fun i=>b*q1 i) i+a*q2 i,d+k,Int.mul_ne_zero ha h1,fun i hi=>h2 i zo,fun i hi=>?_,fun i=>?_⟩
 ·show (if k<=i then b*q1 (i-k) else 0)+a*q2 i=0
  rw[if_pos zo,h2 (i-k) zo,h3 i zo]; omega
 ·have e1:o9 q1 (N8 a b k f g)=fun i=>a*o9 q1 f i-b*G2 k (o9 q1 g) i:=by
   have hs:N8 a b k f g=fun i=>a*f i+(-b)*G2 k g i:=by funext i; unfold N8; rw[Int.neg_mul]; omega
   rw[hs,oS,LD,LD,oT]
   funext i
   show a*o9 q1 f i+-b*G2 k (o9 q1 g) i=_
   rw[Int.neg_mul]; omega
  have e2:o9 (fun i=>G2 k (fun i=>b*q1 i) i+a*q2 i) g=fun i=>b*G2 k (o9 q1 g) i+a*o9 q2 g i:=by
   rw[oR,IK]
   funext i
   congr 1
   rw[aO,IK,<- ad3]
  rw[e1,e2,Int.mul_assoc,h4 i,Int.mul_add]
  simp only
  omega
theorem PA {f:u6}:∀{d:Nat},A6 f d->(∀i,f i=0)\/∃e,e<=d/\A6 f e/\f e≠0
 | 0,h=>by
  by_cases e:f 0=0
  ·exact .inl fun i=>by
    rcases Nat.eq_zero_or_pos i with rfl | hi
    ·exact e
    ·exact h i hi
  ·exact .inr ⟨0,Nat.le_refl _,h,e⟩
 | d+1,h=>by
  by_cases e:f (d+1)=0
  ·rcases PA (d:=d) (fun i hi=>by
    by_cases e2:i=d+1
    ·subst e2; exact e
    ·exact h i zo) with h1 | ⟨q,h1,h2,h3⟩
   ·exact .inl h1
   ·exact .inr ⟨q,by omega,h2,h3⟩
  ·exact .inr ⟨d+1,Nat.le_refl _,h,e⟩
def XI (X:Nat):Nat->Nat
 | 0=>X
 | m+1=>XI (2*X*X) m
theorem ZF {X:Nat} (h:1<=X):∀{m:Nat},X<=XI X m
 | 0=>Nat.le_refl _
 | m+1=>by
  have h1:X*1<=X*X:=Nat.mul_le_mul_left _ h
  have h2:X<=2*X*X:=by rw[Nat.mul_assoc]; omega
  exact Nat.le_trans h2 (ZF zo)
def GA (p c:u6) (X E:Nat):Prop:=∃D u v,D≠0/\(∀k,o9 u p k+o9 v c k=if k=0 then D else 0)/\A6 u E/\A6 v E/\(∀k,(u k).natAbs<=X)/\∀k,(v k).natAbs<=X
theorem GA.mono {p c:u6} {X Y E F:Nat} (h:GA p c X E) (h1:X<=Y) (h2:E<=F):GA p c Y F:=by
 obtain ⟨D,u,v,a1,a2,a3,a4,a5,a6⟩:=h
 exact ⟨D,u,v,a1,a2,fun i hi=>a3 i zo,fun i hi=>a4 i zo,fun k=>Nat.le_trans (a5 k) h1,fun k=>Nat.le_trans (a6 k) h1⟩
theorem BA.bez {p c:u6} {X E:Nat} {f u v:u6} (h:BA p c X E f u v) (hd:A6 f 0) (h0:f 0≠0):GA p c X E :=
 ⟨f 0,u,v,h0,fun k=>by
  rw[<- h.eq k]
  split
  ·rename_i e; rw[e]
  ·exact hd k zo,h.du,h.dv,h.bu,h.bv⟩
def NL (p:u6) (n:Nat):Prop:=∃s r t a b,s≠0/\1<=a/\a<=n-1/\A6 r a/\r a≠0/\A6 t b/\∀k,s*p k=o9 r t k
theorem IJ {f g:u6}:o9 f g=o9 g f:=by
 funext k; unfold o9
 have key:∀(h:Nat->Int) (m:Nat),r6 h m=r6 (fun i=>h (m-1-i)) m:=fun h m=>by
  induction m generalizing h with
  | zero=>rfl
  | succ m ih =>
   rw[K2]
   have e:=YB (f:=fun i=>h (m-i)) (k:=1) (j:=m)
   have e2:r6 (fun i=>h (m-i)) (m+1)=h m+r6 (fun i=>h (m-(1+i))) m:=by
    clear ih e
    have:∀j,r6 (fun i=>h (m-i)) (j+1)=h m+r6 (fun i=>h (m-(1+i))) j:=by
     intro j
     induction j with
     | zero=>show 0+h (m-0)=h m+0; rw[Nat.sub_zero]; omega
     | succ j ihj=>rw[K2,ihj,K2,show 1+j=j+1 by omega]; omega
    exact this m
   show r6 h m+h m=r6 (fun i=>h (m+1-1-i)) (m+1)
   rw[Nat.add_sub_cancel,e2,ih h,Int.add_comm]
   congr 1
   exact Q3 fun i hi=>by rw[show m-1-i=m-(1+i) by omega]
 rw[key]
 refine Q3 fun i hi=>?_
 rw[Nat.add_sub_cancel,show k-(k-i)=i by omega,Int.mul_comm]
theorem UX {p c:u6} {n:Nat}:∀(m:Nat) {f g:u6} {u v u' v':u6} {df dg X E:Nat},1<=X->df+dg<=m->dg<=df->df<=4->dg<=n-1->A6 f df->f df≠0->A6 g dg->g dg≠0->BA p c X E f u v->BA p c X E g u' v'->O6 p f g->NL p n\/GA p c (XI X m) (E+4*m)
 | m,f,g,u,v,u',v',df,dg,X,E,hX,hm,hd,h4,hn,hf,hf0,hg,hg0,cf,cg,bk=>by
  rcases Nat.eq_zero_or_pos dg with rfl | hpos
  ·exact .inr ((cg.bez hg hg0).mono (ZF hX) zo)
  ·obtain ⟨m,rfl⟩:∃q,m=q+1:=⟨m-1,by omega⟩
   have c2:=cf.stp (k:=df-dg) cg (a:=g dg) (b:=f df) (cg.bf _) (cf.bf _)
   have b2:=bk.stp (a:=g dg) (b:=f df) (k:=df-dg) hg0
   have hX2:1<=2*X*X:=by
    have:X*1<=X*X:=Nat.mul_le_mul_left _ hX
    rw[Nat.mul_assoc]; omega
   have hXX:X<=2*X*X:=by
    have:X*1<=X*X:=Nat.mul_le_mul_left _ hX
    rw[Nat.mul_assoc]; omega
   have cg2:BA p c (2*X*X) (E+(df-dg)) g u' v':=⟨cg.eq,fun i hi=>cg.du i zo,fun i hi=>cg.dv i zo,fun k=>Nat.le_trans (cg.bf k) hXX,fun k=>Nat.le_trans (cg.bu k) hXX,fun k=>Nat.le_trans (cg.bv k) hXX⟩
   have hdg:A6 (N8 (g dg) (f df) (df-dg) f g) (df-1):=fun i hi=>by
    unfold N8 G2
    by_cases e:i=df
    ·subst e
     rw[if_pos zo,show i-(i-dg)=dg by omega,Int.mul_comm]; omega
    ·rw[hf i zo,if_pos (show df-dg<=i by omega),hg (i-(df-dg)) zo]; omega
   rcases PA hdg with hz | ⟨e,e1,e2,e3⟩
   ·-- nothing is left: g divides
    obtain ⟨s,q1,q2,d,s1,s2,s3,s4⟩:=b2
    refine .inl ⟨s,g,q2,dg,d,s1,hpos,hn,hg,hg0,s3,fun k=>?_⟩
    rw[s4 k,IJ (f:=q1),show N8 (g dg) (f df) (df-dg) f g=P7 from funext hz,FC,IJ]
    show 0+_=_; omega
   ·have hfin:NL p n\/GA p c (XI (2*X*X) m) (E+(df-dg)+4*m):=by
     by_cases hle:dg<=e
     ·exact UX m hX2 zo hle zo hn e2 e3 hg hg0 c2 cg2 b2
     ·exact UX m hX2 zo zo zo zo hg hg0 e2 e3 cg2 c2 b2.swap
    exact hfin.imp id fun h=>h.mono (Nat.le_refl _) zo
theorem ZT {p c:u6} {n X:Nat} (hn:1<=n) (h4:n<=4) (hX:1<=X) (hp:A6 p n) (hp1:p n=1) (hc:A6 c (n-1)) (hc0:¬∀i,c i=0) (bp:∀k,(p k).natAbs<=X) (bc:∀k,(c k).natAbs<=X):NL p n\/GA p c (XI X 7) 28:=by
 obtain ⟨e,e1,e2,e3⟩:=(PA hc).resolve_left hc0
 have h1:∀k,(AQ k).natAbs<=X:=fun k=>by unfold AQ; split<;>simp<;>omega
 have h2:∀k,(P7 k).natAbs<=X:=fun k=>by unfold P7; simp
 have o1:A6 AQ 0:=fun i hi=>by unfold AQ; rw[if_neg zo]
 have o2:A6 P7 0:=fun i _=>rfl
 have cp:BA p c X 0 p AQ P7:=⟨fun k=>by rw[OM,FC]; show p k=p k+0; omega,o1,o2,bp,h1,h2⟩
 have cc:BA p c X 0 c P7 AQ:=⟨fun k=>by rw[OM,FC]; show c k=0+c k; omega,o2,o1,bc,h2,h1⟩
 have bk:O6 p p c:=⟨1,AQ,P7,0,by omega,o1,o2,fun k=>by rw[OM,FC]; show 1*p k=p k+0; omega⟩
 have:=UX 7 (n:=n) hX (show n+e<=7 by omega) zo h4 e1 hp (by rw[hp1]; omega) e2 e3 cp cc bk
 simpa using this
end Go.Fl

/- Divisors of small degrees; homogeneous values. Plain Lean, no program in sight. -/
namespace Go.Fl
def FH (p:u6) (n:Nat) (x:Int):Int:=r6 (fun i=>p i*x ^ i) (n+1)
def GD (p:u6) (n:Nat):Prop:=(∃x,FH p n x=0)\/(n=4/\∃a b c d:Int,p 3=a+c/\p 2=b+d+a*c/\p 1=a*d+b*c/\p 0=b*d)
theorem fO {p r t:u6} {n:Nat} (hn:1<=n) (hn4:n<=4) (hr:A6 r 1) (ht:A6 t (n-1)) (h:∀k,p k=o9 r t k) (he:r 1*r 1=1):∃x,FH p n x=0:=by
 refine ⟨-(r 0*r 1),?_⟩
 have e0:p 0=r 0*t 0:=by rw[h]; simp[o9,r6]
 have e1:p 1=r 0*t 1+r 1*t 0:=by rw[h]; simp[o9,r6]
 have h2:r 2=0:=hr 2 zo
 have h3:r 3=0:=hr 3 zo
 have h4:r 4=0:=hr 4 zo
 have e2:p 2=r 0*t 2+r 1*t 1:=by rw[h]; simp[o9,r6,h2]
 have e3:p 3=r 0*t 3+r 1*t 2:=by rw[h]; simp[o9,r6,h2,h3]
 have e4:p 4=r 0*t 4+r 1*t 3:=by rw[h]; simp[o9,r6,h2,h3,h4]
 rcases (show n=1\/n=2\/n=3\/n=4 by omega) with rfl | rfl | rfl | rfl
 ·have z1:t 1=0:=ht 1 zo
  simp only[FH,r6,e0,e1,z1]; grind
 ·have z2:t 2=0:=ht 2 zo
  simp only[FH,r6,e0,e1,e2,z2]; grind
 ·have z3:t 3=0:=ht 3 zo
  simp only[FH,r6,e0,e1,e2,e3,z3]; grind
 ·have z4:t 4=0:=ht 4 zo
  simp only[FH,r6,e0,e1,e2,e3,e4,z4]; grind
theorem YR {a b:Int} (h:a*b=1):a*a=1/\a=b:=by
 have h1:a.natAbs*b.natAbs=1:=by rw[<- Int.natAbs_mul,h]; rfl
 have h2:a.natAbs=1:=Nat.eq_one_of_mul_eq_one_right h1
 rcases (show a=1\/a=-1 by omega) with rfl | rfl
 ·exact ⟨rfl,by omega⟩
 ·exact ⟨rfl,by omega⟩
theorem yX {p r t:u6} (hr:A6 r 2) (ht:A6 t 2) (h:∀k,p k=o9 r t k) (he:r 2*t 2=1):∃a b c d:Int,p 3=a+c/\p 2=b+d+a*c/\p 1=a*d+b*c/\p 0=b*d:=by
 obtain ⟨u1,u2⟩:=YR he
 have h3:r 3=0:=hr 3 zo
 have g3:t 3=0:=ht 3 zo
 have e0:p 0=r 0*t 0:=by rw[h]; simp[o9,r6]
 have e1:p 1=r 0*t 1+r 1*t 0:=by rw[h]; simp[o9,r6]
 have e2:p 2=r 0*t 2+r 1*t 1+r 2*t 0:=by rw[h]; simp[o9,r6]
 have e3:p 3=r 1*t 2+r 2*t 1:=by rw[h]; simp[o9,r6,h3,g3]
 refine ⟨r 1*r 2,r 0*r 2,t 1*r 2,t 0*r 2,?_,?_,?_,?_⟩<;>grind
theorem UN {p:u6} {n:Nat} (h2:2<=n) (h4:n<=4) (hp:A6 p n) (hp1:p n=1) (h:NL p n):GD p n:=by
 obtain ⟨s,r,t,a,b,h1,a1,a2,hr,hra,ht,hst⟩:=h
 obtain ⟨r',t',d1,d0,d2,d3⟩:=tZ _ rfl h1 hr hra ht hst
 obtain ⟨t2,f2,f3⟩:∃t2,A6 t2 b/\∀k,p k=o9 r' t2 k:=by
  rcases d3 with d3 | d3
  ·exact ⟨t',d2,d3⟩
  ·refine ⟨fun i=>-1*t' i,fun i hi=>by show -1*t' i=0; rw[d2 i hi]; rfl,fun k=>?_⟩
   rw[LD]
   show p k=-1*o9 r' t' k
   rw[<- d3 k]; omega
 obtain ⟨e,e1,e2,e3⟩:=(PA f2).resolve_left fun hz=>by
  have:p n=0:=by rw[f3 n,show t2=P7 from funext hz,IJ,FC]; rfl
  omega
 have htop:p (a+e)=r' a*t2 e:=by rw[f3,oV d1 e2]
 have hne:p (a+e)≠0:=by rw[htop]; exact Int.mul_ne_zero d0 e3
 have hle:a+e<=n:=Nat.le_of_not_lt fun hh=>hne (hp _ hh)
 have heq:a+e=n:=Classical.byContradiction fun hh=>by
  have:p n=0:=by rw[f3]; exact aM d1 e2 n zo
  omega
 have hu:r' a*t2 e=1:=by rw[<- htop,heq,hp1]
 have hu':=YR hu
 have hv':=YR ((Int.mul_comm _ _).trans hu)
 by_cases c1:a=1
 ·subst c1
  exact .inl (fO zo h4 d1 (by rw[show n-1=e by omega]; exact e2) f3 hu'.1)
 ·by_cases c2:e=1
  ·subst c2
   exact .inl (fO zo h4 e2 (by rw[show n-1=a by omega]; exact d1) (fun k=>by rw[f3,IJ]) hv'.1)
  ·obtain rfl:a=2:=by omega
   obtain rfl:e=2:=by omega
   exact .inr ⟨by omega,yX d1 e2 f3 hu⟩
def hm (f:u6) (m:Nat) (a b:Int):Int:=r6 (fun i=>f i*a ^ i*b ^ (m-i)) (m+1)
theorem VE {f g:u6} {m:Nat} {a b:Int}:hm (fun i=>f i+g i) m a b=hm f m a b+hm g m a b:=by
 unfold hm; rw[<- SD]
 exact Q3 fun i _=>by rw[Int.add_mul,Int.add_mul]
theorem eJ {f:u6} {m:Nat} {a b c:Int}:hm (fun i=>c*f i) m a b=c*hm f m a b:=by
 unfold hm; rw[<- HN]
 exact Q3 fun i _=>by rw[Int.mul_assoc,Int.mul_assoc,Int.mul_assoc]
theorem LS {f:u6} {m j:Nat} {a b:Int} (h:A6 f m):hm f (m+j) a b=b ^ j*hm f m a b:=by
 unfold hm
 rw[show m+j+1=m+1+j by omega,YC fun i h1 _=>by rw[h i zo,Int.zero_mul,Int.zero_mul],<- HN]
 refine Q3 fun i hi=>?_
 rw[show m+j-i=j+(m-i) by omega,Int.pow_add]
 simp only[Int.mul_assoc,Int.mul_left_comm]
def Z7 (f:u6):u6:=fun i=>f (i+1)
theorem PT {f:u6} {m:Nat} {a b:Int}:hm f (m+1) a b=f 0*b ^ (m+1)+a*hm (Z7 f) m a b:=by
 unfold hm
 rw[show m+1+1=1+(m+1) by omega]
 have key:∀(g:Nat->Int) (k:Nat),r6 g (1+k)=g 0+r6 (fun i=>g (1+i)) k:=fun g k=>by
  induction k with
  | zero=>show 0+g 0=g 0+0; omega
  | succ k ih=>rw[show 1+(k+1)=1+k+1 by omega,K2,ih,K2]; omega
 rw[key,<- HN]
 congr 1
 ·rw[Int.pow_zero,Int.mul_one,Nat.sub_zero]
 ·refine Q3 fun i hi=>?_
  rw[show m+1-(1+i)=m-i by omega,show 1+i=i+1 by omega,Int.pow_succ]
  unfold Z7
  simp only[Int.mul_assoc,Int.mul_left_comm,Int.mul_comm]
theorem aL {f g:u6}:o9 f g=fun k=>f 0*g k+G2 1 (o9 (Z7 f) g) k:=by
 funext k
 unfold o9 G2
 have key:∀(h:Nat->Int) (k:Nat),r6 h (1+k)=h 0+r6 (fun i=>h (1+i)) k:=fun h k=>by
  induction k with
  | zero=>show 0+h 0=h 0+0; omega
  | succ k ih=>rw[show 1+(k+1)=1+k+1 by omega,K2,ih,K2]; omega
 rw[show k+1=1+k by omega,key,Nat.sub_zero]
 congr 1
 by_cases h:1<=k
 ·rw[if_pos h]
  show _=r6 (fun i=>Z7 f i*g (k-1-i)) (k-1+1)
  rw[show k-1+1=k by omega]
  refine Q3 fun i hi=>?_
  unfold Z7
  rw[show 1+i=i+1 by omega,show k-(i+1)=k-1-i by omega]
 ·rw[if_neg h,show k=0 by omega]; rfl
theorem uO {f:u6} {m:Nat} {a b:Int}:hm (G2 1 f) (m+1) a b=a*hm f m a b:=by
 rw[PT]
 have e:Z7 (G2 1 f)=f:=by funext i; unfold Z7 G2; rw[if_pos zo,Nat.add_sub_cancel]
 rw[e]
 unfold G2
 rw[if_neg zo]; omega
theorem ag1 {f:u6} {m:Nat} (h:A6 f (m+1)):A6 (Z7 f) m:=fun i hi=>h (i+1) zo
theorem LR {g:u6} {l:Nat} {a b:Int} (hg:A6 g l):∀{m:Nat} {f:u6},A6 f m->hm (o9 f g) (m+l) a b=hm f m a b*hm g l a b
 | 0,f,hf=>by
  have e:o9 f g=fun k=>f 0*g k:=by
   rw[aL]
   funext k
   have:Z7 f=P7:=funext fun i=>hf (i+1) zo
   rw[this,FC]
   unfold G2 P7
   split<;>omega
  rw[e,Nat.zero_add,eJ]
  congr 1
  unfold hm; simp[r6]
 | m+1,f,hf=>by
  rw[aL,show m+1+l=m+l+1 by omega]
  have e1:hm (fun k=>f 0*g k+G2 1 (o9 (Z7 f) g) k) (m+l+1) a b=f 0*hm g (m+l+1) a b+a*hm (o9 (Z7 f) g) (m+l) a b:=by
   rw[VE,eJ,uO]
  rw[e1,LR hg (ag1 hf),show m+l+1=l+(m+1) by omega,LS hg,PT]
  rw[Int.add_mul]
  simp only[Int.mul_assoc,Int.mul_left_comm,Int.mul_comm]
def lP (cs:List Int):u6:=fun i=>if i<cs.length then b6 cs i else 0
theorem JG {cs:List Int}:A6 (lP cs) (cs.length-1):=fun i hi=>by unfold lP; rw[if_neg zo]
theorem fK {c:Int} {cs:List Int}:Z7 (lP (c::cs))=lP cs:=by
 funext i; unfold Z7 lP
 by_cases h:i<cs.length
 ·rw[if_pos (by simpa using h),if_pos h]; rfl
 ·rw[if_neg (by simpa using h),if_neg h]
theorem LW {a b:Int}:∀{cs:List Int},(v8 a b cs).2=b ^ cs.length/\(v8 a b cs).1=hm (lP cs) (cs.length-1) a b
 | []=>⟨by simp[v8],by simp[v8,hm,r6,lP]⟩
 | [c]=>⟨by simp[v8,Int.pow_succ],by simp[v8,hm,r6,lP,b6]⟩
 | c::d::cs=>by
  obtain ⟨h1,h2⟩:=LW (a:=a) (b:=b) (cs:=d::cs)
  rw[v8]
  refine ⟨by simp only; rw[h1,List.length_cons (a:=c),Int.pow_succ],?_⟩
  simp only
  rw[h1,h2,List.length_cons (a:=c),Nat.add_sub_cancel,show (d::cs).length=(d::cs).length-1+1 by simp,PT,fK,Nat.add_sub_cancel]
  have e0:lP (c::d::cs) 0=c:=by unfold lP; simp[b6]
  rw[e0,Int.mul_comm a]; omega
theorem gO {p:u6} {n:Nat} (h2:2<=n) (h4:n<=4) (hp:A6 p n) (hp1:p n=1) (hred:¬GD p n) {a b:Int} (hb:0<b):hm p n a b≠0:=fun h0=>by
 have hc:A6 (fun i=>if i=0 then -a else if i=1 then b else 0) (n-1):=fun i hi=>by
  show (if i=0 then -a else if i=1 then b else 0)=0
  rw[if_neg zo,if_neg zo]
 obtain ⟨X,hX,hbp,hbc⟩:∃X:Nat,1<=X/\(∀k,(p k).natAbs<=X)/\∀k,((fun i=>if i=0 then -a else if i=1 then b else 0:u6) k).natAbs<=X:=by
  refine ⟨1+(p 0).natAbs+(p 1).natAbs+(p 2).natAbs+(p 3).natAbs+(p 4).natAbs+a.natAbs+b.natAbs,by omega,fun k=>?_,fun k=>?_⟩
  ·by_cases h:k<=4
   ·rcases (show k=0\/k=1\/k=2\/k=3\/k=4 by omega) with rfl | rfl | rfl | rfl | rfl<;>omega
   ·rw[hp k zo]; simp
  ·show (if k=0 then -a else if k=1 then b else 0:Int).natAbs<=_
   split
   ·omega
   ·split
    ·omega
    ·simp
 rcases ZT zo h4 hX hp hp1 hc (fun hz=>by have:=hz 1; simp at this; omega) hbp hbc with h | ⟨D,u,v,d0,h1,hu,hv,_,_⟩
 ·exact hred (UN h2 h4 hp hp1 h)
 ·have e1:=LR (a:=a) (b:=b) hp hu
  have e2:=LR (a:=a) (b:=b) (l:=n) (fun i hi=>hc i zo) hv
  have e3:hm (fun i=>if i=0 then -a else if i=1 then b else 0) n a b=0:=by
   obtain ⟨q,rfl⟩:∃q,n=q+1:=⟨n-1,by omega⟩
   rw[show q+1=1+q by omega,LS (m:=1) (fun i hi=>by show (if i=0 then -a else if i=1 then b else 0)=0; rw[if_neg zo,if_neg zo])]
   have:hm (fun i=>if i=0 then -a else if i=1 then b else 0) 1 a b=0:=by
    simp[hm,r6,Int.pow_succ]; rw[Int.neg_mul,Int.mul_comm a]; omega
   rw[this,Int.mul_zero]
  rw[h0,Int.mul_zero] at e1
  rw[e3,Int.mul_zero] at e2
  have e4:hm (fun k=>o9 u p k+o9 v (fun i=>if i=0 then -a else if i=1 then b else 0) k) (28+n) a b=0:=by rw[VE,e1,e2]; rfl
  rw[show (fun k=>o9 u p k+o9 v (fun i=>if i=0 then -a else if i=1 then b else 0) k)=fun k=>if k=0 then D else 0 from funext h1] at e4
  have e5:hm (fun k=>if k=0 then D else 0) (28+n) a b=D*b ^ (28+n):=by
   have:=LS (f:=fun k=>if k=0 then D else 0) (m:=0) (j:=28+n) (a:=a) (b:=b) (fun i hi=>by show (if i=0 then D else 0)=0; rw[if_neg zo])
   rw[Nat.zero_add] at this
   rw[this,Int.mul_comm]
   congr 1
   simp[hm,r6]
  rw[e5] at e4
  have:=Int.pow_pos (n:=b) (m:=28+n) hb
  exact absurd e4 (Int.mul_ne_zero d0 zo)
end Go.Fl

/- Halving ends: a number other than a fraction is told from 0 after so many halvings. Plain Lean, no program in sight. -/
namespace Go.Fl
theorem PJ {I:Iv} {a:Int} (h1:I.lo<=a) (h2:a<=I.hi):∀{cs:List Int},(enc I cs).1<=(if cs.length=0 then 0 else I.den*hm (lP cs) (cs.length-1) a I.den)/\(if cs.length=0 then 0 else I.den*hm (lP cs) (cs.length-1) a I.den)<=(enc I cs).2.1
 | []=>by simp[enc]
 | c::cs=>by
  obtain ⟨e1,e2⟩:=PJ h1 h2 (cs:=cs)
  have e0:lP (c::cs) 0=c:=by unfold lP; simp[b6]
  have hv:I.den*hm (lP (c::cs)) cs.length a I.den=(if cs.length=0 then 0 else I.den*hm (lP cs) (cs.length-1) a I.den)*a+c*(I.den ^ cs.length*I.den):=by
   by_cases h:cs.length=0
   ·rw[if_pos h,h]
    simp[hm,r6,e0,Int.mul_comm]
   ·rw[if_neg h]
    have e:cs.length=cs.length-1+1:=by omega
    conv=>lhs; rw[e,PT,fK,e0,<- e]
    rw[Int.mul_add,Int.add_comm]
    congr 1
    ·simp only[Int.mul_left_comm,Int.mul_comm]
    ·simp only[Int.mul_left_comm,Int.mul_comm]
  rw[if_neg (by simp),List.length_cons,Nat.add_sub_cancel,hv,enc]
  simp only
  rw[UV]
  have:=eK e1 e2 h1 h2
  omega
theorem L9 {x y:Int} {m n:Nat} (h1:x.natAbs<=m) (h2:y.natAbs<=n):(x*y).natAbs<=m*n:=by rw[Int.natAbs_mul]; exact Nat.mul_le_mul h1 h2
set_option maxHeartbeats 2000000 in
theorem UU {I:Iv} {A F W:Nat} (hlo:I.lo.natAbs<=A) (hhi:I.hi.natAbs<=A) (hden:I.den.natAbs<=A) (hw:(I.hi-I.lo).natAbs<=W):∀{cs:List Int},(∀c∈cs,c.natAbs<=F)->(enc I cs).1.natAbs<=cs.length*F*A ^ cs.length/\(enc I cs).2.1.natAbs<=cs.length*F*A ^ cs.length/\((enc I cs).2.1-(enc I cs).1).natAbs*A<=cs.length*cs.length*F*W*A ^ cs.length
 | [],_=>by simp[enc]
 | c::cs,h=>by
  obtain ⟨b1,b2,b3⟩:=UU hlo hhi hden hw (cs:=cs) fun x hx=>h x (List.mem_cons_of_mem _ hx)
  have hc:=h c List.mem_cons_self
  have hd:(c*((enc I cs).2.2*I.den)).natAbs<=F*A ^ (cs.length+1):=by
   rw[UV]
   refine L9 hc ?_
   rw[Nat.pow_succ]
   refine L9 ?_ hden
   rw[Int.natAbs_pow]
   exact Nat.pow_le_pow_left hden _
  rw[enc]
  simp only[List.length_cons]
  generalize hX:(enc I cs).1=X at *
  generalize hY:(enc I cs).2.1=Y at *
  generalize c*((enc I cs).2.2*I.den)=D at *
  generalize hL:cs.length=L at *
  have hpw:A ^ (L+1)=A ^ L*A:=Nat.pow_succ ..
  generalize hM:L*F*A ^ L=M at *
  have hMA:(L+1)*F*A ^ (L+1)=M*A+F*A ^ (L+1):=by
   rw[<- hM,hpw]; simp only[Nat.add_mul,Nat.one_mul,Nat.mul_assoc]
  have corner:∀x y,(x=X\/x=Y)->(y=I.lo\/y=I.hi)->(x*y).natAbs<=M*A:=fun x y hx hy=>by
   refine L9 ?_ ?_
   ·rcases hx with rfl | rfl<;>assumption
   ·rcases hy with rfl | rfl<;>assumption
  have diff:∀x y x' y',(x=X\/x=Y)->(y=I.lo\/y=I.hi)->(x'=X\/x'=Y)->(y'=I.lo\/y'=I.hi)->(x*y-x'*y').natAbs<=M*W+(Y-X).natAbs*A:=fun x y x' y' hx hy hx' hy'=>by
   have e:x*y-x'*y'=x*(y-y')+(x-x')*y':=by rw[Int.mul_sub,Int.sub_mul]; omega
   have h1:(x*(y-y')).natAbs<=M*W:=by
    refine L9 ?_ ?_
    ·rcases hx with rfl | rfl<;>assumption
    ·rcases hy with rfl | rfl<;>rcases hy' with rfl | rfl<;>omega
   have h2:((x-x')*y').natAbs<=(Y-X).natAbs*A:=by
    refine L9 ?_ ?_
    ·rcases hx with rfl | rfl<;>rcases hx' with rfl | rfl<;>omega
    ·rcases hy' with rfl | rfl<;>assumption
   rw[e]; omega
  obtain ⟨x,y,hx,hy,e1⟩:=fX (A:=X) (B:=Y) (L:=I.lo) (H:=I.hi)
  obtain ⟨x',y',hx',hy',e2⟩:=fV (A:=X) (B:=Y) (L:=I.lo) (H:=I.hi)
  have k1:=corner x y hx hy
  have k2:=corner x' y' hx' hy'
  have k3:=diff x' y' x y hx' hy' hx hy
  rw[e1,e2,hMA]
  refine ⟨by omega,by omega,?_⟩
  rw[show x'*y'+D-(x*y+D)=x'*y'-x*y by omega]
  refine Nat.le_trans (Nat.mul_le_mul_right A k3) ?_
  rw[Nat.add_mul]
  have k4:(Y-X).natAbs*A*A<=L*L*F*W*A ^ L*A:=Nat.mul_le_mul_right _ b3
  have e5:M*W*A=L*F*W*A ^ (L+1):=by
   rw[<- hM,hpw]; simp only[Nat.mul_assoc,Nat.mul_left_comm,Nat.mul_comm]
  have e6:L*L*F*W*A ^ L*A=L*L*F*W*A ^ (L+1):=by rw[hpw]; simp only[Nat.mul_assoc]
  have e7:(L+1)*(L+1)*F*W*A ^ (L+1)=L*L*F*W*A ^ (L+1)+L*F*W*A ^ (L+1)+(L+1)*F*W*A ^ (L+1):=by
   have:(L+1)*(L+1)=L*L+L+(L+1):=by simp only[Nat.add_mul,Nat.mul_add,Nat.one_mul,Nat.mul_one]
   rw[this]; simp only[Nat.add_mul]
  rw[e5]; rw[e6] at k4
  omega
theorem eH {f:u6} {m A F:Nat} {a b:Int} (ha:a.natAbs<=A) (hb:b.natAbs<=A) (hf:∀i,(f i).natAbs<=F):(hm f m a b).natAbs<=(m+1)*(F*A ^ m):=by
 unfold hm
 have key:∀k,k<=m+1->(r6 (fun i=>f i*a ^ i*b ^ (m-i)) k).natAbs<=k*(F*A ^ m):=by
  intro k
  induction k with
  | zero=>intro _; simp[r6]
  | succ k ih =>
   intro hk
   have h1:=ih zo
   have h2:(f k*a ^ k*b ^ (m-k)).natAbs<=F*A ^ m:=by
    have e:A ^ m=A ^ k*A ^ (m-k):=by rw[<- Nat.pow_add]; congr 1; omega
    rw[e,<- Nat.mul_assoc]
    refine L9 (L9 (hf k) ?_) ?_
    ·rw[Int.natAbs_pow]; exact Nat.pow_le_pow_left ha _
    ·rw[Int.natAbs_pow]; exact Nat.pow_le_pow_left hb _
   rw[K2,Nat.add_mul,Nat.one_mul]
   omega
 exact key _ (Nat.le_refl _)
end Go.Fl

/- Halving ends: so often, and a number other than 0 is told from 0. Plain Lean, no program in sight. -/
namespace Go.Fl
theorem VK {p:List Int} {I:Iv}:∀{k:Nat},(i2 p I k).den=I.den*2 ^ k
 | 0=>by simp[i2]
 | k+1=>by
  have ih:=VK (p:=p) (I:=I) (k:=k)
  have:(K6 p (i2 p I k)).den=(i2 p I k).den+(i2 p I k).den:=by unfold K6; split<;>rfl
  rw[i2,this,ih,Int.pow_succ,<- Int.mul_assoc]; omega
theorem fC {p:List Int} {I:Iv}:∀{k:Nat},(i2 p I k).hi-(i2 p I k).lo=I.hi-I.lo
 | 0=>rfl
 | k+1=>by
  have ih:=fC (p:=p) (I:=I) (k:=k)
  rw[i2]
  unfold K6
  split<;>simp only<;>omega
theorem VJ {p:List Int} {I:Iv} (hI:I.Ok) {R:Int} (h1:-(R*I.den)<=I.lo) (h2:I.hi<=R*I.den):∀{k:Nat},-(R*(i2 p I k).den)<=(i2 p I k).lo/\(i2 p I k).hi<=R*(i2 p I k).den
 | 0=>⟨h1,h2⟩
 | k+1=>by
  have ih:=VJ hI h1 h2 (p:=p) (k:=k)
  have hle:=(Y0 hI (p:=p) (k:=k)).le
  rw[i2]
  unfold K6
  split<;>simp only<;>rw[Int.mul_add]<;>omega
def A3 (p:List Int) (a b:Int):Int:=hm (lP p) (p.length-1) a b
theorem Z5 (z:Int):(z<0/\s8 z=-1)\/(z=0/\s8 z=0)\/(0<z/\s8 z=1):=by
 unfold s8 r7
 rcases Int.lt_trichotomy z 0 with h | h | h
 ·exact .inl ⟨h,by simp[h]⟩
 ·exact .inr (.inl ⟨h,by simp[h]⟩)
 ·exact .inr (.inr ⟨h,by rw[if_neg zo,if_pos h]⟩)
theorem fB {p:List Int} {I:Iv} (hI:I.Ok) (hnr:∀a b:Int,0<b->A3 p a b≠0) (h:s8 (A3 p I.lo I.den)*s8 (A3 p I.hi I.den)<0):∀{k:Nat},s8 (A3 p (i2 p I k).lo (i2 p I k).den)*s8 (A3 p (i2 p I k).hi (i2 p I k).den)<0
 | 0=>h
 | k+1=>by
  have ih:=fB hI hnr h (k:=k)
  have hpos:=(Y0 hI (p:=p) (k:=k)).pos
  have dbl:∀a b:Int,0<b->s8 (A3 p (a+a) (b+b))=s8 (A3 p a b):=fun a b hb=>by
   have e:A3 p (a+a) (b+b)=2 ^ (p.length-1)*A3 p a b:=by
    unfold A3 hm
    rw[<- HN]
    refine Q3 fun i hi=>?_
    rw[<- Int.two_mul,<- Int.two_mul,Int.mul_pow,Int.mul_pow]
    have:(2:Int) ^ (p.length-1)=2 ^ i*2 ^ (p.length-1-i):=by rw[<- Int.pow_add]; congr 1; omega
    rw[this]
    simp only[Int.mul_assoc,Int.mul_left_comm,Int.mul_comm]
   have h2:(0:Int)<2 ^ (p.length-1):=Int.pow_pos zo
   rw[e]
   generalize (2:Int) ^ (p.length-1)=q at *
   rcases Z5 (A3 p a b) with ⟨h1,h3⟩ | ⟨h1,h3⟩ | ⟨h1,h3⟩
   ·have:=Int.mul_neg_of_pos_of_neg h2 h1
    rcases Z5 (q*A3 p a b) with ⟨h4,h5⟩ | ⟨h4,h5⟩ | ⟨h4,h5⟩<;>omega
   ·rw[h1,Int.mul_zero]
   ·have:=Int.mul_pos h2 h1
    rcases Z5 (q*A3 p a b) with ⟨h4,h5⟩ | ⟨h4,h5⟩ | ⟨h4,h5⟩<;>omega
  have hv:∀a b,(v8 a b p).1=A3 p a b:=fun a b=>LW.2
  have hm0:=hnr ((i2 p I k).lo+(i2 p I k).hi) ((i2 p I k).den+(i2 p I k).den) zo
  rw[i2]
  unfold K6
  rw[hv,hv]
  split
  ·rename_i hc
   simp only
   rw[dbl _ _ hpos]; exact hc
  ·rename_i hc
   simp only
   rw[dbl _ _ hpos]
   have a1:=Z5 (A3 p (i2 p I k).lo (i2 p I k).den)
   have a2:=Z5 (A3 p (i2 p I k).hi (i2 p I k).den)
   have a3:=Z5 (A3 p ((i2 p I k).lo+(i2 p I k).hi) ((i2 p I k).den+(i2 p I k).den))
   rcases a1 with ⟨_,q1⟩ | ⟨_,q1⟩ | ⟨_,q1⟩<;>rcases a2 with ⟨_,q2⟩ | ⟨_,q2⟩ | ⟨_,q2⟩<;>rcases a3 with ⟨_,q3⟩ | ⟨q4,q3⟩ | ⟨_,q3⟩<;>rw[q1,q3] at hc<;>rw[q1,q2] at ih<;>rw[q2,q3]<;>omega
def GO (n F R W:Nat):Nat:=2*(29*XI F 7*((n+1)*(n+1)*F)*W*R ^ (28+n))+1
theorem ag3 {n R B F W X7:Nat} {den D U V P C e1 e2:Int} {wp:Nat} (hn:2<=n) (hR:1<=R) (hB:den=B) (hden:((2*(29*X7*((n+1)*(n+1)*F)*W*R ^ (28+n))+1:Nat):Int)<=den) (hT:0<R*B)
  (e4:U*P+den*(V*C)=D*den ^ (28+n)) (d0:D≠0) (hub:U.natAbs<=(28+1)*(X7*(R*B) ^ 28)) (hvb:V.natAbs<=(28+1)*(X7*(R*B) ^ 28))
  (hwp:wp<=(n+1)*(n+1)*F*W*(R*B) ^ n) (hwc:(e2-e1).natAbs<=n*n*F*W*(R*B) ^ (n-1)) (hsm:(den*P).natAbs<=wp) (cl1:e1<=den*C) (cl2:den*C<=e2):0<e1\/e2<0:=by
 subst hB
 have hB0:0<B:=Nat.pos_of_ne_zero fun e=>by subst e; simp at hT
 have hK:2*(29*X7*((n+1)*(n+1)*F)*W*R ^ (28+n))+1<=B:=by omega
 have hpw:∀k,(R*B) ^ k=R ^ k*B ^ k:=fun k=>Nat.mul_pow ..
 have h1:(U*(B*P)).natAbs<=29*X7*((n+1)*(n+1)*F)*W*R ^ (28+n)*B ^ (28+n):=by
  rw[Int.natAbs_mul]
  refine Nat.le_trans (Nat.mul_le_mul hub (Nat.le_trans hsm hwp)) (Nat.le_of_eq ?_)
  rw[hpw,hpw,Nat.pow_add,Nat.pow_add]
  simp only[Nat.mul_assoc,Nat.mul_left_comm,Nat.mul_comm,Nat.reduceAdd]
 have h2:2*(U*(B*P)).natAbs<B ^ (28+n)*B:=by
  have hp:=Nat.pow_pos (n:=28+n) hB0
  have:(2*(29*X7*((n+1)*(n+1)*F)*W*R ^ (28+n))+1)*B ^ (28+n)<=B*B ^ (28+n):=Nat.mul_le_mul_right _ hK
  rw[Nat.add_mul,Nat.one_mul,Nat.mul_assoc,Nat.mul_comm B] at this
  omega
 have h3:U*(B*P)+V*(B*C)*B=D*(B ^ (28+n)*B):=by
  have e:(U*P+B*(V*C))*B=D*B ^ (28+n)*B:=by rw[e4]
  rw[Int.add_mul] at e
  have q1:U*P*B=U*(B*P):=by rw[Int.mul_assoc,Int.mul_comm P]
  have q2:(B:Int)*(V*C)=V*(B*C):=by rw[Int.mul_left_comm]
  rw[q1,q2,Int.mul_assoc D] at e
  exact e
 have h4:B ^ (28+n)*B<=(U*(B*P)).natAbs+(V*(B*C)).natAbs*B:=by
  have e:(D*((B:Int) ^ (28+n)*B)).natAbs=D.natAbs*(B ^ (28+n)*B):=by
   rw[Int.natAbs_mul,Int.natAbs_mul,Int.natAbs_pow,Int.natAbs_natCast]
  have h5:1*(B ^ (28+n)*B)<=D.natAbs*(B ^ (28+n)*B):=Nat.mul_le_mul_right _ zo
  have h6:(U*(B*P)+V*(B*C)*B).natAbs<=(U*(B*P)).natAbs+(V*(B*C)*B).natAbs:=Int.natAbs_add_le _ _
  rw[h3,e,Int.natAbs_mul (V*(B*C)),Int.natAbs_natCast] at h6
  omega
 have h7:B ^ (28+n)<2*(V*(B*C)).natAbs:=by
  refine Nat.lt_of_mul_lt_mul_right (a:=B) ?_
  rw[Nat.mul_assoc]
  omega
 have h8:B ^ n<2*(29*X7*R ^ 28)*(B*C).natAbs:=by
  rw[Int.natAbs_mul] at h7
  have h9:V.natAbs*(B*C).natAbs<=(28+1)*(X7*(R*B) ^ 28)*(B*C).natAbs:=Nat.mul_le_mul_right _ hvb
  refine Nat.lt_of_mul_lt_mul_left (a:=B ^ 28) ?_
  rw[<- Nat.pow_add]
  refine Nat.lt_of_lt_of_le h7 (Nat.le_trans (Nat.mul_le_mul_left 2 h9) (Nat.le_of_eq ?_))
  rw[hpw]
  simp only[Nat.mul_assoc,Nat.mul_left_comm,Nat.mul_comm,Nat.reduceAdd]
 have h9:(e2-e1).natAbs<(B*C).natAbs:=by
  refine Nat.lt_of_not_le fun hle=>?_
  have h10:(B*C).natAbs<=n*n*F*W*(R*B) ^ (n-1):=Nat.le_trans hle hwc
  have h11:B ^ n<2*(29*X7*R ^ 28)*(n*n*F*W*(R*B) ^ (n-1)):=Nat.lt_of_lt_of_le h8 (Nat.mul_le_mul_left _ h10)
  have e:B ^ n=B ^ (n-1)*B:=by rw[<- Nat.pow_succ]; congr 1; omega
  have e5:2*(29*X7*R ^ 28)*(n*n*F*W*(R*B) ^ (n-1))=B ^ (n-1)*(2*(29*X7*(n*n*F)*W*(R ^ 28*R ^ (n-1)))):=by
   rw[hpw]; simp only[Nat.mul_assoc,Nat.mul_left_comm,Nat.mul_comm]
  rw[e,e5] at h11
  have h12:=Nat.lt_of_mul_lt_mul_left h11
  have h13:29*X7*(n*n*F)*W*(R ^ 28*R ^ (n-1))<=29*X7*((n+1)*(n+1)*F)*W*R ^ (28+n):=by
   rw[<- Nat.pow_add]
   refine Nat.mul_le_mul (Nat.mul_le_mul_right _ (Nat.mul_le_mul_left _ (Nat.mul_le_mul_right _ (Nat.mul_le_mul zo zo)))) (Nat.pow_le_pow_right hR zo)
  omega
 omega
theorem told {p cs:List Int} {I:Iv} {n F R W:Nat} (hn:2<=n) (h4:n<=4) (hpl:p.length=n+1) (hp1:b6 p n=1) (hred:¬GD (lP p) n) (hcl:cs.length=n) (hc0:∃c∈cs,c≠0)
  (hF:1<=F) (hpF:∀c∈p,c.natAbs<=F) (hcF:∀c∈cs,c.natAbs<=F) (hR:1<=R) (hI:I.Ok) (hlo:-((R:Int)*I.den)<=I.lo) (hhi:I.hi<=R*I.den) (hW:(I.hi-I.lo).natAbs<=W) (hsg:s8 (A3 p I.lo I.den)*s8 (A3 p I.hi I.den)<0)
  (hden:(GO n F R W:Int)<=I.den):0<(enc I cs).1\/(enc I cs).2.1<0:=by
 have hb:=hI.pos
 have hle:=hI.le
 obtain ⟨B,hB⟩:∃B:Nat,I.den=B:=⟨I.den.toNat,by omega⟩
 have hPd:A6 (lP p) n:=by have:=JG (cs:=p); rwa [hpl,Nat.add_sub_cancel] at this
 have hCd:A6 (lP cs) (n-1):=by have:=JG (cs:=cs); rwa [hcl] at this
 have hPF:∀k,(lP p k).natAbs<=F:=fun k=>by
  unfold lP; split
  ·exact hpF _ (G1 zo)
  ·simp
 have hCF:∀k,(lP cs k).natAbs<=F:=fun k=>by
  unfold lP; split
  ·exact hcF _ (G1 zo)
  ·simp
 have hP1:lP p n=1:=by unfold lP; rw[if_pos zo,hp1]
 have hC0:¬∀i,lP cs i=0:=fun hz=>by
  obtain ⟨c,hc,hne⟩:=hc0
  obtain ⟨i,hi,rfl⟩:=BT hc
  have:=hz i
  unfold lP at this
  rw[if_pos hi] at this
  exact hne this
 rcases ZT zo h4 hF hPd hP1 hCd hC0 hPF hCF with h | ⟨D,u,v,d0,hbz,hu,hv,bu,bv⟩
 ·exact absurd (UN hn h4 hPd hP1 h) hred
 have hA1:I.lo.natAbs<=R*B:=by rw[hB] at hlo hhi; have:((R*B:Nat):Int)=R*B:=Int.natCast_mul .. ; omega
 have hA2:I.hi.natAbs<=R*B:=by rw[hB] at hlo hhi; have:((R*B:Nat):Int)=R*B:=Int.natCast_mul .. ; omega
 have hA3:I.den.natAbs<=R*B:=by
  have:1*B<=R*B:=Nat.mul_le_mul_right _ hR
  rw[hB,Int.natAbs_natCast]; omega
 obtain ⟨p1,p2,p3⟩:=UU hA1 hA2 hA3 hW (cs:=p) hpF
 obtain ⟨c1,c2,c3⟩:=UU hA1 hA2 hA3 hW (cs:=cs) hcF
 have pl:=PJ (I:=I) (a:=I.lo) (Int.le_refl _) hle (cs:=p)
 have ph:=PJ (I:=I) (a:=I.hi) hle (Int.le_refl _) (cs:=p)
 have cl:=PJ (I:=I) (a:=I.lo) (Int.le_refl _) hle (cs:=cs)
 rw[if_neg zo] at pl ph cl
 rw[hpl] at pl ph p3
 rw[hcl] at cl c3
 rw[Nat.add_sub_cancel] at pl ph
 have hpe:p.length-1=n:=by omega
 unfold A3 at hsg
 rw[hpe] at hsg
 have hsm:(I.den*hm (lP p) n I.lo I.den).natAbs<=((enc I p).2.1-(enc I p).1).natAbs:=by
  have s1:=Z5 (hm (lP p) n I.lo I.den)
  have s2:=Z5 (hm (lP p) n I.hi I.den)
  rcases s1 with ⟨q1,r1⟩ | ⟨q1,r1⟩ | ⟨q1,r1⟩<;>rcases s2 with ⟨q2,r2⟩ | ⟨q2,r2⟩ | ⟨q2,r2⟩<;>rw[r1,r2] at hsg<;>try omega
  ·have:=Int.mul_neg_of_pos_of_neg hb q1
   have:=Int.mul_pos hb q2
   omega
  ·have:=Int.mul_pos hb q1
   have:=Int.mul_neg_of_pos_of_neg hb q2
   omega
 have hT:0<R*B:=Nat.mul_pos zo zo
 have hwp:((enc I p).2.1-(enc I p).1).natAbs<=(n+1)*(n+1)*F*W*(R*B) ^ n:=by
  have e:(n+1)*(n+1)*F*W*(R*B) ^ (n+1)=(n+1)*(n+1)*F*W*(R*B) ^ n*(R*B):=by rw[Nat.pow_succ,<- Nat.mul_assoc ((n+1)*(n+1)*F*W)]
  rw[e] at p3
  exact Nat.le_of_mul_le_mul_right p3 hT
 have hwc:((enc I cs).2.1-(enc I cs).1).natAbs<=n*n*F*W*(R*B) ^ (n-1):=by
  have e:(R*B) ^ n=(R*B) ^ (n-1)*(R*B):=by rw[<- Nat.pow_succ]; congr 1; omega
  rw[e,<- Nat.mul_assoc (n*n*F*W)] at c3
  exact Nat.le_of_mul_le_mul_right c3 hT
 have hub:=eH (m:=28) hA1 hA3 bu
 have hvb:=eH (m:=28) hA1 hA3 bv
 have e1:=LR (a:=I.lo) (b:=I.den) hPd hu
 have e2:=LR (a:=I.lo) (b:=I.den) hCd hv
 have e3:=LS (j:=1) (a:=I.lo) (b:=I.den) (aM hv hCd)
 have e4:hm (fun k=>o9 u (lP p) k+o9 v (lP cs) k) (28+n) I.lo I.den=D*I.den ^ (28+n):=by
  rw[show (fun k=>o9 u (lP p) k+o9 v (lP cs) k)=fun k=>if k=0 then D else 0 from funext hbz]
  have:=LS (f:=fun k=>if k=0 then D else 0) (m:=0) (j:=28+n) (a:=I.lo) (b:=I.den) (fun i hi=>by show (if i=0 then D else 0)=0; rw[if_neg zo])
  rw[Nat.zero_add] at this
  rw[this,Int.mul_comm]
  congr 1
  simp[hm,r6]
 rw[VE,e1,show 28+n=28+(n-1)+1 by omega,e3,e2,show 28+(n-1)+1=28+n by omega,Int.pow_one] at e4
 exact ag3 (n:=n) (F:=F) (W:=W) (X7:=XI F 7) hn hR hB hden hT e4 d0 hub hvb hwp hwc hsm cl.1 cl.2
end Go.Fl

/- Values of polynomials at fractions, from the last coefficient on: sizes. No program in sight. -/
namespace Go.Fl
open Go
def B0 (a d:Int) (p:List Int) (k:Nat):Int×Int:=v8 a d (p.drop (p.length-k))
theorem US {p:List Int} {k:Nat} (hk:k<p.length):p.drop (p.length-(k+1))=b6 p (p.length-1-k)::p.drop (p.length-k):=by
 have h:=List.drop_eq_getElem_cons (l:=p) (i:=p.length-(k+1)) zo
 rw[h,show p.length-(k+1)+1=p.length-k by omega]
 refine congrArg (·::_) ?_
 rw[Y3 (List.getElem?_eq_getElem (show p.length-1-k<p.length by omega))]
 congr 1
 omega
theorem LU {a d:Int} {p:List Int} {k:Nat} (hk:k<p.length):B0 a d p (k+1)=((B0 a d p k).1*a+b6 p (p.length-1-k)*(B0 a d p k).2,(B0 a d p k).2*d):=by
 unfold B0
 rw[US hk]
 rfl
theorem LV {a d:Int} {p:List Int}:B0 a d p 0=(0,1):=by
 unfold B0
 rw[Nat.sub_zero,List.drop_length]
 rfl
theorem LT {a d:Int} {p:List Int}:B0 a d p p.length=v8 a d p:=by
 unfold B0
 rw[Nat.sub_self,List.drop_zero]
theorem IY {a d:Int} {p:List Int} {B C:Nat} (hp:∀i,dl (b6 p i)<=C) (ha:dl a<=B) (hd:dl d<=B):∀{k:Nat},k<=p.length->dl (B0 a d p k).1<=k*(B+1)+C+1/\dl (B0 a d p k).2<=k*B+1
 | 0,_=>by
  rw[LV]
  have h0:dl (0:Int)=0:=C5.2 rfl
  have h1:=J6 (F:=1) zo zo
  exact ⟨by show dl 0<=_; omega,by show dl 1<=_; omega⟩
 | k+1,hk=>by
  obtain ⟨h1,h2⟩:=IY (p:=p) hp ha hd (k:=k) zo
  rw[LU zo]
  have q1:=s9 (B0 a d p k).1 a
  have q2:=s9 (b6 p (p.length-1-k)) (B0 a d p k).2
  have q3:=P3 ((B0 a d p k).1*a) (b6 p (p.length-1-k)*(B0 a d p k).2)
  have q4:=s9 (B0 a d p k).2 d
  have q5:=hp (p.length-1-k)
  have e1:(k+1)*(B+1)=k*(B+1)+B+1:=by rw[Nat.succ_mul]; omega
  have e2:(k+1)*B=k*B+B:=Nat.succ_mul _ _
  have e3:k*(B+1)=k*B+k:=by rw[Nat.mul_add,Nat.mul_one]
  exact ⟨by show dl ((B0 a d p k).1*a+_)<=_; omega,by show dl ((B0 a d p k).2*d)<=_; omega⟩
end Go.Fl

/- Contracts: signs of polynomials, enclosures, halving. -/
namespace Go.Fl
open Go Go.Proofs
open b8 renaming op->tO
open j1 renaming op->rO
set_option maxRecDepth 100000

section
open Go Go.RowKit Go.Proofs
attribute [local go_sem] Oper.semAt_some
set_option maxHeartbeats 2000000 in
theorem nP:NJ Tryz.prog 225 eZ:=by
 intro J W xs ptr him hp
 obtain ⟨bx,ox,ds,rfl,hrd,hcell⟩:=hp
 obtain ⟨ad,cap,rfl,⟨hlen,hcap⟩,hrow⟩:=hrd
 obtain ⟨cv,hcv⟩:∃cv:Nat->List Value,∀i,i<xs.length->eZ.rd J (cv i) (b6 xs i)/\∃b o,ad=some ⟨b,o,none⟩/\∀j v,(cv i)[j]?=some v->J b (o+i*2+j)=some v:=by
  have:∀i,∃l:List Value,i<xs.length->eZ.rd J l (b6 xs i)/\∃b o,ad=some ⟨b,o,none⟩/\∀j v,l[j]?=some v->J b (o+i*2+j)=some v:=fun i=>by
   by_cases hi:i<xs.length
   ·obtain ⟨b,o,rfl,hrw⟩:=hrow.resolve_left (fun e=>by subst e; simp at hi)
    obtain ⟨l,q1,q2⟩:=hrw i _ (F5 hi)
    exact ⟨l,fun _=>⟨q1,b,o,rfl,q2⟩⟩
   ·exact ⟨[],fun h=>absurd h hi⟩
  exact ⟨fun i=>(this i).choose,fun i hi=>(this i).choose_spec hi⟩
 refine ⟨fun i=>.agg (cv i).toArray,fun i hi=>⟨cv i,(hcv i hi).1,rfl⟩,?_⟩
 intro l Iv Ix hY h0
 have hbox:∀W',Im J W'->W'.cell? ⟨bx,ox,none⟩=some (.slice ad xs.length cap):=fun W' h=>h _ _ _ (by have:=hcell 0 _ rfl; simpa using this)
 simp only[p6] at hlen
 have hb0:=hbox W him
 refine (callsIn_wide (n:=3)).1 ?_; refine callsIn_of_wp Tryz.func225 rfl trivial ?_
 simp only[Tryz.ntmps225,List.size_toArray,List.length_cons,List.length_nil,Nat.reduceAdd,Nat.reduceSub,Array.replicate_succ,Array.replicate_zero,List.push_toArray,List.append_toArray,List.nil_append,List.cons_append]
 gi_wp2
 gi_loopw [3] (fun i wr=>∃k:Nat,k<=xs.length/\i=.int .i64 ((xs.length:Int)-1-k)/\Iv k wr/\Im J wr)
  (fun i _=>(intOf i+1).toNat)
 case atStart=>exact ⟨0,Nat.zero_le _,by simp,h0,him⟩
 case round =>
  obtain ⟨k,hk,rfl,hJs,himr⟩:=hrel
  have hbr:=hbox wr himr
  by_cases hlt:k<xs.length
  ·obtain ⟨fn,tmps,assign,body,hy,hR⟩:=hY k wr hlt himr hJs
   rw[show ((xs.length-1-k:Nat):Int)=(xs.length:Int)-1-k by omega] at hy
   obtain ⟨q1,b,o,rfl,q2⟩:=hcv (xs.length-1-k) zo
   obtain ⟨c1,c2,hc12⟩:∃c1 c2,cv (xs.length-1-k)=[c1,c2]:=by
    have hl2:(cv (xs.length-1-k)).length=2:=eZ.len q1
    match hcc:cv (xs.length-1-k),hl2 with
    | [c1,c2],_=>exact ⟨c1,c2,rfl⟩
   rw[hc12] at q2
   simp only[hc12] at hy
   have hx1:wr.cell? ⟨b,o+(xs.length-1-k)*2,none⟩=some c1:=himr _ _ _ (by have:=q2 0 c1 rfl; simpa using this)
   have hx2:wr.cell? ⟨b,o+(xs.length-1-k)*2+1,none⟩=some c2:=himr _ _ _ (q2 1 c2 rfl)
   gi_wp2
   refine hR.mono ?_
   rintro e W3 (⟨rfl,hJ3,hk3⟩ | ⟨rfl,hJx3⟩)
   ·gi_wp2
    go_roundw
    case rel=>exact ⟨k+1,by omega,by congr 1; omega,hJ3,hk3⟩
    case measure=>simp[intOf]; omega
   ·gi_wp2
    refine bodyPost_ret (results_none rfl _ _ _) rfl ?_; exact ⟨⟨_,rfl⟩,.inr ⟨k,hlt,hJx3⟩⟩
  ·obtain rfl:k=xs.length:=by omega
   gi_wp2
   go_end0
   exact ⟨⟨_,rfl⟩,.inl hJs⟩
end
theorem TN {z:Int} (h:0=z):∀g b o,j5 [i9 (.bool false),i9 (.slice none 0 0)] g b o->j5 [kB (decide (z<0)),b7 (eL eI) (d7 z.natAbs)] g b o:=fun g b o h'=>by
 subst h
 obtain ⟨cs,ty,h1,h2⟩:=h'
 refine ⟨cs,ty,h1,?_⟩
 match hcs:cs.toList,h2 with
 | [c1,c2],⟨k1,k2,_⟩=>exact ⟨k1,⟨_,X0 (c:=0),k2⟩,trivial⟩
theorem pK (xs:List Int):Ct Tryz.prog 215 [b7 (eL eZ) xs] (AN 225 [s6 (eL eZ) xs]):=by
 refine Ct.mk Tryz.func215 rfl Tryz.ntmps215 rfl (fun w J=>?_); refine g9 ?_; refine jb 1 rfl ?_; refine g8 ?_; refine Tr.frzB 1 [1] (eL eZ) ⟨rfl,trivial⟩ rfl ?_; refine jn ?_; refine i4 ?_; refine tO (FP (.cons rfl uu<|.nil)) rfl rfl ?_; refine g8 ?_; exact d9.res1 (fn:=Tryz.f215) rfl (zk)

theorem UJ (p:List Int) (a d:Int) (B C:Nat) (hl:p.length<=6) (hpp:∀i,dl (b6 p i)<=C) (ha:dl a<=B) (hd:dl d<=B) (hB:B<=100000) (hC:C<=100000):Ct Tryz.prog 193 [b7 (eL eZ) p,b7 eW (wh a),b7 eW (wh d)] (kI (s8 (v8 a d p).1)):=by
 refine CtM.mk Tryz.func193 rfl Tryz.ntmps193 rfl (fun w J=>?_); refine g9 ?_; refine jb 4 rfl ?_; refine jb 5 rfl ?_; refine l8 ?_; refine tO (A1 (fun hp=>.nil)) rfl rfl ?_; refine jc (P2 1 zo) ?_; refine ja 7 ?_; refine ja 8 ?_; refine j3 ?_; refine tO (i6 (fun hp=>pK _) (.a rfl uu<|.nil)) rfl rfl ?_; refine i7 ?_
 refine Tr.back (e:=eZ) (xs:=p) nP [⟨4,true,_,_⟩,⟨5,true,_,_⟩,⟨6,true,_,_⟩,⟨7,true,_,_⟩,⟨8,true,_,_⟩,⟨14,true,_,_⟩] [4,5,7,8] (fun k=>[⟨4,[],j5 [kB (decide (a<0)),b7 (eL eI) (d7 (a).natAbs)]⟩,⟨5,[],j5 [kB (decide (d<0)),b7 (eL eI) (d7 (d).natAbs)]⟩,⟨7,[],j5 [kB (decide ((B0 a d p k).1<0)),b7 (eL eI) (d7 ((B0 a d p k).1).natAbs)]⟩,⟨8,[],j5 [kB (decide ((B0 a d p k).2<0)),b7 (eL eI) (d7 ((B0 a d p k).2).natAbs)]⟩]) (fun k=>[⟨4,[],j5 [kB (decide (a<0)),b7 (eL eI) (d7 (a).natAbs)]⟩,⟨5,[],j5 [kB (decide (d<0)),b7 (eL eI) (d7 (d).natAbs)]⟩,⟨7,[],j5 [kB (decide ((B0 a d p k).1<0)),b7 (eL eI) (d7 ((B0 a d p k).1).natAbs)]⟩,⟨8,[],j5 [kB (decide ((B0 a d p k).2<0)),b7 (eL eI) (d7 ((B0 a d p k).2).natAbs)]⟩]) (fun k=>True) (fun k=>False) (d6.mk (.k rfl rfl<|.k rfl rfl<|.k rfl rfl<|.k rfl rfl<|.k rfl rfl<|.k rfl rfl<|.nil) (.k rfl<|.k rfl<|.conv (TN (by rw[LV])) rfl<|.conv (AK (BL (by rw[LV]))) rfl<|.nil) rfl) rfl rfl (fun _=>rfl) (fun _=>rfl) (fun _=>inferInstance) (fun _=>inferInstance) rfl zi ?_ ?_ ?_
 ·intro k hk14 hR14 l14 w14 J14 b14 bks14
  refine jn ?_
  have hb:=IY hpp ha hd (k:=k) zo
  have hk5:k*(B+1)<=5*100001:=Nat.mul_le_mul zo zo
  have hk6:k*B<=5*100000:=Nat.mul_le_mul zo zo
  have hcp:=hpp (p.length-1-k)
  have hm1:=s9 (B0 a d p k).1 a
  have hm2:=s9 (b6 p (p.length-1-k)) (B0 a d p k).2
  refine i4 ?_; refine ja 10 ?_; refine g9 ?_; refine g6.asg (fun w1014 J1014 b1014=>?_); refine jn ?_; refine g9 ?_; refine Tr.draw 5 n8 (by kernel_rfl) ?_; refine g9 ?_; refine jd (L3 (B0 a d p k).1 a zo zo) ?_; refine i7 ?_; refine jc (L3 (b6 p (p.length-1-k)) (B0 a d p k).2 zo zo) ?_; refine jc (V9 ((B0 a d p k).1*a) (b6 p (p.length-1-k)*(B0 a d p k).2) zo zo) ?_; refine l6 ?_; refine jc (L3 (B0 a d p k).2 d zo zo) ?_; refine i7 ?_; exact g6.rnd trivial (d6.mk (zk) (.k rfl<|.k rfl<|.conv (AK (BL (by rw[LU zo]))) rfl<|.conv (AK (BL (by rw[LU zo]))) rfl<|.nil) rfl)
 ·intro hE14
  refine je ?_; refine l8 ?_; refine jc (BK (B0 a d p p.length).1) ?_; refine g8 ?_; refine d9.mk ?_; exact d9.res1 (fn:=Tryz.f193) rfl (.i rfl (by rw[LT]; rfl)<|.nil)
 ·intro k hk14 hX14
  exact absurd hX14 id

end Go.Fl

/- Contracts: halving. -/
namespace Go.Fl
open Go Go.Proofs
open b8 renaming op->tO
open j1 renaming op->rO
set_option maxRecDepth 100000

theorem ZV {ks:List d5} {dep:List Nat} [hd:C1 ks dep] [hn:J5 dep] {g:Gh} {bk:Bk} {o:Option Obj} {b cap:Nat} (h:j5 ks g bk o):j5 ks (g1 g.J b cap) (.blk b cap) o :=
 let ⟨cs,ty,h1,h2⟩:=h; ⟨cs,ty,h1,hd.dep (g:=g) (g':=g1 g.J b cap) (JV.le_refl _) (fun t ht=>by rw[hn.eq] at ht; cases ht) h2⟩
theorem KE (z:Int):-1<=s8 z/\s8 z<=1:=by unfold s8 r7; split; omega; split<;>omega
theorem ac8 (y z:Int):-1<=s8 y*s8 z/\s8 y*s8 z<=1:=by
 obtain ⟨h1,h2⟩:=KE y
 obtain ⟨h3,h4⟩:=KE z
 rcases (show s8 y=-1\/s8 y=0\/s8 y=1 by omega) with h | h | h<;>rw[h]<;>omega
theorem bF (k1 k2 k3 k4 k5:d5) [o7 k1 []] [o7 k2 []] [o7 k3 []] [o7 k4 []] [o7 k5 []] (p:List Int) (I:Iv) (B:Nat) (hl:p.length<=6) (hpp:∀i,dl (b6 p i)<=1) (h1:dl I.lo<=B) (h2:dl I.hi<=B) (h3:dl I.den<=B) (hB:B<=90000):EQ Tryz.prog 164 (y5 0 0) [] (j5 [k1,k2,k3,k4,b7 (eL eZ) p,k5,kB (decide (I.lo<0)),b7 (eL eI) (d7 (I.lo).natAbs),kB (decide (I.hi<0)),b7 (eL eI) (d7 (I.hi).natAbs),kB (decide (I.den<0)),b7 (eL eI) (d7 (I.den).natAbs)]) (j5 [k1,k2,k3,k4,b7 (eL eZ) p,k5,kB (decide ((K6 p I).lo<0)),b7 (eL eI) (d7 ((K6 p I).lo).natAbs),kB (decide ((K6 p I).hi<0)),b7 (eL eI) (d7 ((K6 p I).hi).natAbs),kB (decide ((K6 p I).den<0)),b7 (eL eI) (d7 ((K6 p I).den).natAbs)]) (i9 (.tuple #[])):=by
 have a1:=P3 I.lo I.hi
 have a2:=P3 I.den I.den
 have a3:=P3 I.lo I.lo
 have a4:=P3 I.hi I.hi
 refine EQ.mk Tryz.func164 rfl Tryz.ntmps164 rfl (fun w J bb cap=>?_); refine i4 ?_; refine Tr.draw 20 n8 (by kernel_rfl) ?_; refine i4 ?_; refine rO (N4 rfl uu) rfl rfl ?_; refine i7 ?_; refine rO (N4 rfl uu) rfl rfl ?_; refine g9 ?_; refine jd (V9 I.lo I.hi zo zo) ?_; refine i4 ?_; refine rO (N4 rfl uu) rfl rfl ?_; refine i7 ?_; refine rO (N4 rfl uu) rfl rfl ?_; refine g9 ?_; refine jd (V9 I.den I.den zo zo) ?_; refine j1.new (HF 2) rfl rfl rfl rfl ?_; refine j1.new (HF 3) rfl rfl rfl rfl ?_
 refine j6 ?_; refine Tr.draw 19 n8 (by kernel_rfl) ?_; refine i4 ?_; refine rO (N4 rfl uu) rfl rfl ?_; refine i7 ?_; refine rO (N4 rfl uu) rfl rfl ?_; refine i7 ?_; refine rO (N4 rfl uu) rfl rfl ?_; refine g9 ?_; refine jd (UJ p I.lo I.den 100000 1 hl hpp zo zo zo zo) ?_; refine i4 ?_; refine rO (N4 rfl uu) rfl rfl ?_; refine l8 ?_; refine jc (UJ p (I.lo+I.hi) (I.den+I.den) 100000 1 hl hpp zo zo zo zo) ?_; refine tO (EE rfl uu rfl uu (fun _=>by have:=ac8 (v8 I.lo I.den p).1 (v8 (I.lo+I.hi) (I.den+I.den) p).1; omega)) rfl rfl ?_
 refine i7 ?_; refine jq ?_ ?_
 ·intro h1
  have hi:K6 p I=⟨I.lo+I.lo,I.lo+I.hi,I.den+I.den⟩:=if_pos h1
  rw[hi]
  refine Tr.drawS 14 0 n8 (by kernel_rfl) ?_; refine o6.opA (H7 rfl uu) (by kernel_rfl) rfl rfl ?_; refine o6.op (H7 rfl uu) rfl rfl ?_; refine o6.opA (H7 rfl uu) (by kernel_rfl) rfl rfl ?_; refine o6.opA (N4 rfl uu) (by kernel_rfl) rfl rfl ?_; refine o6.opA (N2 rfl uu) (by kernel_rfl) rfl rfl ?_; refine o6.opA (R4 rfl uu) (by kernel_rfl) rfl rfl ?_; refine o6.opA (H7 rfl uu) (by kernel_rfl) rfl rfl ?_; refine o6.opA (N4 rfl uu) (by kernel_rfl) rfl rfl ?_; refine o6.opA (N2 rfl uu) (by kernel_rfl) rfl rfl ?_; refine o6.opA (R4 rfl uu) (by kernel_rfl) rfl rfl ?_
  refine o6.opA (i6 (fun hp=>V9 I.lo I.lo zo zo) (.se rfl uu rfl rfl<|.se rfl uu rfl rfl<|.nil)) (by kernel_rfl) rfl rfl ?_; refine o6.op (R4 rfl uu) rfl rfl ?_; refine o6.opA (N4 rfl uu) (by kernel_rfl) rfl rfl ?_; refine o6.opA (N2 rfl uu) (by kernel_rfl) rfl rfl ?_; refine o6.z (EK rfl rfl rfl) rfl rfl rfl ?_; refine tO (N4 rfl uu) rfl rfl ?_; refine j6 ?_; refine tO (N4 rfl uu) rfl rfl ?_; refine i7 ?_; exact g6.mutB (t:=0) rfl rfl (fun _ _ _ h=>ZV h)
 ·intro h1
  replace h1:=Int.not_lt.1 h1
  have hi:K6 p I=⟨I.lo+I.hi,I.hi+I.hi,I.den+I.den⟩:=if_neg zo
  rw[hi]
  refine Tr.drawS 14 0 n8 (by kernel_rfl) ?_; refine o6.opA (H7 rfl uu) (by kernel_rfl) rfl rfl ?_; refine o6.op (H7 rfl uu) rfl rfl ?_; refine o6.opA (R4 rfl uu) (by kernel_rfl) rfl rfl ?_; refine o6.opA (H7 rfl uu) (by kernel_rfl) rfl rfl ?_; refine o6.opA (N4 rfl uu) (by kernel_rfl) rfl rfl ?_; refine o6.opA (N2 rfl uu) (by kernel_rfl) rfl rfl ?_; refine o6.opA (R4 rfl uu) (by kernel_rfl) rfl rfl ?_; refine o6.opA (H7 rfl uu) (by kernel_rfl) rfl rfl ?_; refine o6.opA (N4 rfl uu) (by kernel_rfl) rfl rfl ?_; refine o6.opA (N2 rfl uu) (by kernel_rfl) rfl rfl ?_
  refine o6.opA (R4 rfl uu) (by kernel_rfl) rfl rfl ?_; refine o6.opA (i6 (fun hp=>V9 I.hi I.hi zo zo) (.se rfl uu rfl rfl<|.se rfl uu rfl rfl<|.nil)) (by kernel_rfl) rfl rfl ?_; refine o6.opA (N4 rfl uu) (by kernel_rfl) rfl rfl ?_; refine o6.opA (N2 rfl uu) (by kernel_rfl) rfl rfl ?_; refine o6.z (EK rfl rfl rfl) rfl rfl rfl ?_; refine tO (N4 rfl uu) rfl rfl ?_; refine j6 ?_; refine tO (N4 rfl uu) rfl rfl ?_; refine i7 ?_; exact g6.mutB (t:=0) rfl rfl (fun _ _ _ h=>ZV h)

end Go.Fl

/- Contracts: loops over lists of integers of any size. -/
namespace Go.Fl
open Go Go.Proofs
open b8 renaming op->tO
open j1 renaming op->rO
set_option maxRecDepth 100000

section
open Go Go.RowKit Go.Proofs
attribute [local go_sem] Oper.semAt_some
set_option maxHeartbeats 2000000 in
theorem nQ:NJ Tryz.prog 217 eZ:=by
 intro J W xs ptr him hp
 obtain ⟨bx,ox,ds,rfl,hrd,hcell⟩:=hp
 obtain ⟨ad,cap,rfl,⟨hlen,hcap⟩,hrow⟩:=hrd
 obtain ⟨cv,hcv⟩:∃cv:Nat->List Value,∀i,i<xs.length->eZ.rd J (cv i) (b6 xs i)/\∃b o,ad=some ⟨b,o,none⟩/\∀j v,(cv i)[j]?=some v->J b (o+i*2+j)=some v:=by
  have:∀i,∃l:List Value,i<xs.length->eZ.rd J l (b6 xs i)/\∃b o,ad=some ⟨b,o,none⟩/\∀j v,l[j]?=some v->J b (o+i*2+j)=some v:=fun i=>by
   by_cases hi:i<xs.length
   ·obtain ⟨b,o,rfl,hrw⟩:=hrow.resolve_left (fun e=>by subst e; simp at hi)
    obtain ⟨l,q1,q2⟩:=hrw i _ (F5 hi)
    exact ⟨l,fun _=>⟨q1,b,o,rfl,q2⟩⟩
   ·exact ⟨[],fun h=>absurd h hi⟩
  exact ⟨fun i=>(this i).choose,fun i hi=>(this i).choose_spec hi⟩
 refine ⟨fun i=>.agg (cv i).toArray,fun i hi=>⟨cv i,(hcv i hi).1,rfl⟩,?_⟩
 intro l Iv Ix hY h0
 have hbox:∀W',Im J W'->W'.cell? ⟨bx,ox,none⟩=some (.slice ad xs.length cap):=fun W' h=>h _ _ _ (by have:=hcell 0 _ rfl; simpa using this)
 simp only[p6] at hlen
 have hb0:=hbox W him
 refine (callsIn_wide (n:=3)).1 ?_; refine callsIn_of_wp Tryz.func217 rfl trivial ?_
 simp only[Tryz.ntmps217,List.size_toArray,List.length_cons,List.length_nil,Nat.reduceAdd,Nat.reduceSub,Array.replicate_succ,Array.replicate_zero,List.push_toArray,List.append_toArray,List.nil_append,List.cons_append]
 gi_wp2
 gi_loopw [3] (fun i wr=>∃k:Nat,k<=xs.length/\i=.int .i64 ((xs.length:Int)-1-k)/\Iv k wr/\Im J wr)
  (fun i _=>(intOf i+1).toNat)
 case atStart=>exact ⟨0,Nat.zero_le _,by simp,h0,him⟩
 case round =>
  obtain ⟨k,hk,rfl,hJs,himr⟩:=hrel
  have hbr:=hbox wr himr
  by_cases hlt:k<xs.length
  ·obtain ⟨fn,tmps,assign,body,hy,hR⟩:=hY k wr hlt himr hJs
   rw[show ((xs.length-1-k:Nat):Int)=(xs.length:Int)-1-k by omega] at hy
   obtain ⟨q1,b,o,rfl,q2⟩:=hcv (xs.length-1-k) zo
   obtain ⟨c1,c2,hc12⟩:∃c1 c2,cv (xs.length-1-k)=[c1,c2]:=by
    have hl2:(cv (xs.length-1-k)).length=2:=eZ.len q1
    match hcc:cv (xs.length-1-k),hl2 with
    | [c1,c2],_=>exact ⟨c1,c2,rfl⟩
   rw[hc12] at q2
   simp only[hc12] at hy
   have hx1:wr.cell? ⟨b,o+(xs.length-1-k)*2,none⟩=some c1:=himr _ _ _ (by have:=q2 0 c1 rfl; simpa using this)
   have hx2:wr.cell? ⟨b,o+(xs.length-1-k)*2+1,none⟩=some c2:=himr _ _ _ (q2 1 c2 rfl)
   gi_wp2
   refine hR.mono ?_
   rintro e W3 (⟨rfl,hJ3,hk3⟩ | ⟨rfl,hJx3⟩)
   ·gi_wp2
    go_roundw
    case rel=>exact ⟨k+1,by omega,by congr 1; omega,hJ3,hk3⟩
    case measure=>simp[intOf]; omega
   ·gi_wp2
    refine bodyPost_ret (results_none rfl _ _ _) rfl ?_; exact ⟨⟨_,rfl⟩,.inr ⟨k,hlt,hJx3⟩⟩
  ·obtain rfl:k=xs.length:=by omega
   gi_wp2
   go_end0
   exact ⟨⟨_,rfl⟩,.inl hJs⟩
end
theorem pL (xs:List Int):Ct Tryz.prog 201 [b7 (eL eZ) xs] (AN 217 [s6 (eL eZ) xs]):=by
 refine Ct.mk Tryz.func201 rfl Tryz.ntmps201 rfl (fun w J=>?_); refine g9 ?_; refine jb 1 rfl ?_; refine g8 ?_; refine Tr.frzB 1 [1] (eL eZ) ⟨rfl,trivial⟩ rfl ?_; refine jn ?_; refine i4 ?_; refine tO (FP (.cons rfl uu<|.nil)) rfl rfl ?_; refine g8 ?_; exact d9.res1 (fn:=Tryz.f201) rfl (zk)

end Go.Fl

/- Contracts: signs of numbers. -/
namespace Go.Fl
open Go Go.Proofs
open b8 renaming op->tO
open j1 renaming op->rO
set_option maxRecDepth 100000

def Q1 (a b o:Int):Int:=if 0<r7 a 0 then 1 else if r7 b 0<0 then -1 else o
theorem sB (a b c o:Int):CM Tryz.prog 182 [b7 eW (wh a),b7 eW (wh b),b7 eW (wh c),y5 0 0] (j5 [kI o]) (j5 [kI (Q1 a b o)]) (kB (decide (Q1 a b o≠0))):=by
 refine CM.mk Tryz.func182 rfl Tryz.ntmps182 rfl rfl (fun w J bb cap=>?_); refine jn ?_; refine g9 ?_; refine jb 4 rfl ?_; refine jb 5 rfl ?_; refine jb 6 rfl ?_; refine j6 ?_; refine jc (BK a) ?_; refine i7 ?_; refine jq ?_ ?_
 ·intro h1
  refine u9 ?_
  have e:Q1 a b o=1:=if_pos zo
  exact d9.loan1 (fn:=Tryz.f182) (s:=516) rfl rfl (.b rfl (by rw[e])<|.nil) (by rw[e])
 ·intro h1
  replace h1:=Int.not_lt.1 h1
  refine i7 ?_; refine jc (BK b) ?_; refine i7 ?_; refine jq ?_ ?_
  ·intro h3
   refine u9 ?_
   have e:Q1 a b o=-1:=by unfold Q1; rw[if_neg zo,if_pos zo]
   exact d9.loan1 (fn:=Tryz.f182) (s:=516) rfl rfl (.b rfl (by rw[e])<|.nil) (by rw[e])
  ·intro h3
   replace h3:=Int.not_lt.1 h3
   refine u5 ?_
   have e:Q1 a b o=o:=by unfold Q1; rw[if_neg zo,if_neg zo]
   exact d9.loan1 (fn:=Tryz.f182) (s:=516) rfl rfl (.b rfl (by rw[e])<|.nil) (by rw[e])

end Go.Fl

/- How long it takes until the sign of a number of a field is told. No program in sight. -/
namespace Go.Fl
open Go
structure BB (p:List Int) (I:Iv):Prop where
 pol:G3 p
 three:3<=p.length
 top:b6 p (p.length-1)=1
 small:∀c∈p,c.natAbs<=1000
 iv:I.Ok
 lo:-(1000000*I.den)<=I.lo
 hi:I.hi<=1000000*I.den
 wid:I.hi-I.lo<=2000000
 den:I.den<=1000000
 red:¬GD (lP p) (p.length-1)
 sg:s8 (A3 p I.lo I.den)*s8 (A3 p I.hi I.den)<0
theorem tC {x:Nat}:dl ((x:Nat):Int)=(d7 x).length:=by unfold dl; rw[Int.natAbs_natCast]
theorem CV (x y:Nat):dl ((x*y:Nat):Int)<=dl (x:Int)+dl (y:Int):=by rw[Int.natCast_mul]; exact s9 _ _
theorem cV {x y:Nat} (h:x<=y):dl (x:Int)<=dl (y:Int):=M6 (by rw[Int.natAbs_natCast,Int.natAbs_natCast]; exact h)
theorem CW {x:Nat} (h:x<100000000):dl (x:Int)<=1:=J6 zo zo
theorem cX {x k:Nat} (h:dl (x:Int)<=1):dl ((x ^ k:Nat):Int)<=k+1:=by
 induction k with
 | zero=>rw[Nat.pow_zero]; exact Nat.le_trans (CW zo) zo
 | succ k ih=>rw[Nat.pow_succ]; have:=CV (x ^ k) x; omega
theorem cY:∀{m X:Nat},dl ((XI X m:Nat):Int)<=2 ^ m*dl (X:Int)+2 ^ m
 | 0,X=>by rw[XI]; omega
 | m+1,X=>by
  have h1:=cY (m:=m) (X:=2*X*X)
  have h2:=CV (2*X) X
  have h3:=CV 2 X
  have h4:=CW (x:=2) zo
  rw[XI,Nat.pow_succ]
  have h5:2 ^ m*dl ((2*X*X:Nat):Int)<=2 ^ m*(1+2*dl (X:Int)):=Nat.mul_le_mul_left _ zo
  rw[Nat.mul_add,Nat.mul_one,<- Nat.mul_assoc] at h5
  omega
theorem sW {n F:Nat} (hn:n<=4):dl ((GO n F 1000000 2000000:Nat):Int)<=129*dl (F:Int)+180:=by
 unfold GO
 have a1:=cY (m:=7) (X:=F)
 have a2:=CV 29 (XI F 7)
 have a3:=CV (29*XI F 7) ((n+1)*(n+1)*F)
 have a4:=CV ((n+1)*(n+1)) F
 have a5:=CV (29*XI F 7*((n+1)*(n+1)*F)) 2000000
 have a6:=CV (29*XI F 7*((n+1)*(n+1)*F)*2000000) (1000000 ^ (28+n))
 have a7:=CV 2 (29*XI F 7*((n+1)*(n+1)*F)*2000000*1000000 ^ (28+n))
 have a8:=cX (x:=1000000) (k:=28+n) (CW zo)
 have b1:=CW (x:=29) zo
 have b2:=CW (x:=2) zo
 have b3:=CW (x:=2000000) zo
 have b4:dl (((n+1)*(n+1):Nat):Int)<=1:=CW (Nat.lt_of_le_of_lt (Nat.mul_le_mul (show n+1<=5 by omega) (show n+1<=5 by omega)) zo)
 have a9:=P3 ((2*(29*XI F 7*((n+1)*(n+1)*F)*2000000*1000000 ^ (28+n)):Nat):Int) 1
 have b5:=J6 (F:=1) zo zo
 rw[show ((2*(29*XI F 7*((n+1)*(n+1)*F)*2000000*1000000 ^ (28+n))+1:Nat):Int)=((2*(29*XI F 7*((n+1)*(n+1)*F)*2000000*1000000 ^ (28+n)):Nat):Int)+1 from rfl]
 have e:(2:Nat) ^ 7=128:=by decide
 rw[e] at a1
 generalize dl ((XI F 7:Nat):Int)=x1 at *
 generalize dl ((29*XI F 7:Nat):Int)=x2 at *
 generalize dl ((29*XI F 7*((n+1)*(n+1)*F):Nat):Int)=x3 at *
 generalize dl (((n+1)*(n+1)*F:Nat):Int)=x4 at *
 generalize dl ((29*XI F 7*((n+1)*(n+1)*F)*2000000:Nat):Int)=x5 at *
 generalize dl ((29*XI F 7*((n+1)*(n+1)*F)*2000000*1000000 ^ (28+n):Nat):Int)=x6 at *
 generalize dl ((2*(29*XI F 7*((n+1)*(n+1)*F)*2000000*1000000 ^ (28+n)):Nat):Int)=x7 at *
 generalize dl ((1000000 ^ (28+n):Nat):Int)=x8 at *
 omega
theorem sS {n F R W:Nat}:GO n F R W≠0:=by unfold GO; omega
section
variable {p:List Int} {I:Iv} (h:BB p I)
include h
theorem BB.len4:p.length<=5:=h.pol.1.2
theorem BB.noroot (a b:Int) (hb:0<b):A3 p a b≠0:=by
 have h3:=h.three
 have h5:=h.pol.1.2
 refine gO (n:=p.length-1) zo zo JG ?_ h.red hb
 show (if p.length-1<p.length then b6 p (p.length-1) else 0)=1
 rw[if_pos zo,h.top]
theorem BB.told {cs:List Int} {F k:Nat} (hcl:cs.length=p.length-1) (hc0:∃c∈cs,c≠0) (hF:1000<=F) (hcF:∀c∈cs,c.natAbs<=F) (hk:(GO (p.length-1) F 1000000 2000000:Int)<=I.den*2 ^ k):0<(enc (i2 p I k) cs).1\/(enc (i2 p I k) cs).2.1<0:=by
 have h3:=h.three
 have h5:=h.pol.1.2
 obtain ⟨b1,b2⟩:=VJ h.iv (R:=1000000) h.lo h.hi (p:=p) (k:=k)
 have hw:=fC (p:=p) (I:=I) (k:=k)
 have hle:=(Y0 h.iv (p:=p) (k:=k)).le
 have h6:=h.wid
 exact Go.Fl.told (n:=p.length-1) (F:=F) (R:=1000000) (W:=2000000) zo zo zo h.top h.red hcl hc0 zo (fun c hc=>Nat.le_trans (h.small c hc) hF) hcF zo (Y0 h.iv) b1 b2 zo (fB h.iv (h.noroot) h.sg) (by rw[VK]; exact hk)
theorem BB.bound {cs:List Int} {M:Nat} (hcl:cs.length=p.length-1) (hc0:∃c∈cs,c≠0) (hM:∀c∈cs,dl c<=M) (hM1:1<=M) (hM2:M<=560):∃K,64<=K/\(∀k,K<=k->0<(enc (i2 p I k) cs).1\/(enc (i2 p I k) cs).2.1<0)/\∀k,k<=K->dl (i2 p I k).lo<=73000/\dl (i2 p I k).hi<=73000/\dl (i2 p I k).den<=73000:=by
 have h3:=h.three
 have h5:=h.pol.1.2
 have hpos:=h.iv.pos
 obtain ⟨F,hF1,hF2,hF3⟩:∃F:Nat,1000<=F/\dl (F:Int)<=M/\∀c∈cs,c.natAbs<=F:=by
  have key:∀l:List Int,(∀c∈l,dl c<=M)->∃F:Nat,1000<=F/\dl (F:Int)<=M/\∀c∈l,c.natAbs<=F:=by
   intro l
   induction l with
   | nil=>intro _; exact ⟨1000,Nat.le_refl _,Nat.le_trans (CW zo) hM1,fun c hc=>by cases hc⟩
   | cons x l ih =>
    intro hl
    obtain ⟨F,q1,q2,q3⟩:=ih fun c hc=>hl c (List.mem_cons_of_mem _ hc)
    refine ⟨max F x.natAbs,by omega,?_,fun c hc=>?_⟩
    ·rw[Nat.max_def]
     split
     ·have:=hl x List.mem_cons_self
      rw[tC]; exact this
     ·exact q2
    ·rcases List.mem_cons.1 hc with rfl | hc
     ·omega
     ·have:=q3 c hc; omega
  exact key cs hM
 obtain ⟨d,hd⟩:∃d,d=GO (p.length-1) F 1000000 2000000:=⟨_,rfl⟩
 have hd0:d≠0:=hd▸sS
 have hdl:dl (d:Int)<=129*560+180:=by
  rw[hd]
  have:=sW (n:=p.length-1) (F:=F) zo
  have:129*dl (F:Int)<=129*560:=Nat.mul_le_mul_left _ zo
  omega
 have hden:((I.den.natAbs:Nat):Int)=I.den:=by omega
 have size:∀k:Nat,dl ((2 ^ k:Nat):Int)<=72422->dl (i2 p I k).lo<=73000/\dl (i2 p I k).hi<=73000/\dl (i2 p I k).den<=73000:=fun k hk=>by
  obtain ⟨b1,b2⟩:=VJ h.iv (R:=1000000) h.lo h.hi (p:=p) (k:=k)
  have hle:=(Y0 h.iv (p:=p) (k:=k)).le
  have hp:=(Y0 h.iv (p:=p) (k:=k)).pos
  have hdk:dl (i2 p I k).den<=72423:=by
   rw[VK]
   have q1:=s9 I.den (2 ^ k)
   have q2:dl I.den<=1:=J6 zo (by have:=h.den; omega)
   have q3:dl ((2:Int) ^ k)<=72422:=by rw[show ((2:Int) ^ k)=((2 ^ k:Nat):Int) by rw[Int.natCast_pow]; rfl]; exact hk
   omega
  have q4:=s9 1000000 (i2 p I k).den
  have q5:=J6 (F:=1000000) zo zo
  have mono:∀z:Int,z.natAbs<=(1000000*(i2 p I k).den).natAbs->dl z<=73000:=fun z hz=>Nat.le_trans (M6 hz) (by show dl (1000000*(i2 p I k).den)<=73000; omega)
  exact ⟨mono _ zo,mono _ zo,by omega⟩
 have hK:(d:Int)<=I.den*2 ^ (d.log2+1):=by
  have q1:=Nat.lt_log2_self (n:=d)
  have q2:((d:Nat):Int)<((2 ^ (d.log2+1):Nat):Int):=Int.ofNat_lt.2 q1
  rw[Int.natCast_pow] at q2
  have q3:=Int.mul_le_mul_of_nonneg_right (show 1<=I.den by omega) (show (0:Int)<=2 ^ (d.log2+1) from Int.le_of_lt (Int.pow_pos zo))
  rw[Int.one_mul] at q3
  have q4:((2:Nat):Int)=2:=rfl
  rw[q4] at q2
  omega
 refine ⟨max 64 (d.log2+1),Nat.le_max_left _ _,fun k hk=>?_,fun k hk=>?_⟩
 ·refine h.told hcl hc0 hF1 hF3 ?_
  rw[<- hd]
  refine Int.le_trans hK (Int.mul_le_mul_of_nonneg_left ?_ zo)
  have:(2:Nat) ^ (d.log2+1)<=2 ^ k:=Nat.pow_le_pow_right zo zo
  have:=Int.ofNat_le.2 this
  rw[Int.natCast_pow,Int.natCast_pow] at this
  exact this
 ·refine size k ?_
  have hm:dl ((2 ^ k:Nat):Int)<=dl ((2 ^ (max 64 (d.log2+1)):Nat):Int):=cV (Nat.pow_le_pow_right zo hk)
  refine Nat.le_trans hm ?_
  rcases Nat.le_total 64 (d.log2+1) with q | q
  ·rw[Nat.max_eq_right q]
   have q1:=Nat.log2_self_le hd0
   have q2:2 ^ (d.log2+1)<=2*d:=by rw[Nat.pow_succ]; omega
   have q3:=cV q2
   have q4:=CV 2 d
   have q5:=CW (x:=2) zo
   omega
  ·rw[Nat.max_eq_left q]
   exact Nat.le_trans (cX (x:=2) (k:=64) (CW zo)) zo
end
theorem GV {p:List Int} {I:Iv} {j:Nat}:∀{k:Nat},i2 p (i2 p I j) k=i2 p I (j+k)
 | 0=>rfl
 | k+1=>by rw[i2,GV]; rfl
theorem ac7 {p:List Int} {I:Iv} {cs:List Int} {j:Nat} (hI:I.Ok):Z4 p (i2 p I j) cs=Z4 p I cs:=by
 unfold Z4
 have e1:(∃k,0<(enc (i2 p (i2 p I j) k) cs).1)↔∃k,0<(enc (i2 p I k) cs).1 :=
  ⟨fun ⟨k,hk⟩=>⟨j+k,by rw[<- GV]; exact hk⟩,fun ⟨k,hk⟩=>⟨k,by rw[GV]; exact dL hI (Nat.le_add_left k j) hk⟩⟩
 have e2:(∃k,(enc (i2 p (i2 p I j) k) cs).2.1<0)↔∃k,(enc (i2 p I k) cs).2.1<0 :=
  ⟨fun ⟨k,hk⟩=>⟨j+k,by rw[<- GV]; exact hk⟩,fun ⟨k,hk⟩=>⟨k,by rw[GV]; exact dK hI (Nat.le_add_left k j) hk⟩⟩
 by_cases h1:∃k,0<(enc (i2 p I k) cs).1
 ·rw[if_pos (e1.2 h1),if_pos h1]
 ·rw[if_neg (fun h=>h1 (e1.1 h)),if_neg h1]
  by_cases h2:∃k,(enc (i2 p I k) cs).2.1<0
  ·rw[if_pos (e2.2 h2),if_pos h2]
  ·rw[if_neg (fun h=>h2 (e2.1 h)),if_neg h2]
noncomputable def E0 (p:List Int) (I:Iv) (v:n7):Int:=if O5 v.1=true then r7 (b6 v.1 0) 0 else Z4 p I (v.1.take (p.length-1))
theorem iW {p:List Int} {v:n7} (_:3<=p.length) (hv:B4 p v) (h:O5 v.1≠true):(v.1.take (p.length-1)).length=min (p.length-1) 4/\∃c∈v.1.take (p.length-1),c≠0:=by
 have hl:=hv.len
 refine ⟨by rw[List.length_take,hl],?_⟩
 refine Classical.byContradiction fun hn=>h (JW fun i h1 h2=>?_)
 by_cases hi:i<p.length-1
 ·refine Classical.byContradiction fun h0=>hn ⟨b6 v.1 i,?_,h0⟩
  rw[<- P8 hi]
  exact WS (by rw[List.length_take,hl]; omega)
 ·exact hv.hi i zo
theorem dB {a b c d:Int} {n:Nat} (h1:dl a<=n) (h2:dl b<=n) (h3:dl c<=n) (h4:dl d<=n):dl (N0 a b c d)<=n/\dl (M9 a b c d)<=n:=by
 have key:∀x:Int,x=a\/x=b\/x=c\/x=d->dl x<=n:=fun x hx=>by rcases hx with rfl | rfl | rfl | rfl<;>assumption
 exact ⟨key _ (by unfold N0; omega),key _ (by unfold M9; omega)⟩
def n6 (I:Iv) (cs:List Int) (k:Nat):Int×Int×Int:=enc I (cs.drop (cs.length-k))
theorem GR {I:Iv} {cs:List Int}:n6 I cs 0=(0,0,1):=by unfold n6; rw[Nat.sub_zero,List.drop_length]; rfl
theorem PI {I:Iv} {cs:List Int}:n6 I cs cs.length=enc I cs:=by unfold n6; rw[Nat.sub_self,List.drop_zero]
theorem GQ {I:Iv} {cs:List Int} {k:Nat} (hk:k<cs.length):n6 I cs (k+1)=(N0 ((n6 I cs k).1*I.lo) ((n6 I cs k).1*I.hi) ((n6 I cs k).2.1*I.lo) ((n6 I cs k).2.1*I.hi)+b6 cs (cs.length-1-k)*((n6 I cs k).2.2*I.den),M9 ((n6 I cs k).1*I.lo) ((n6 I cs k).1*I.hi) ((n6 I cs k).2.1*I.lo) ((n6 I cs k).2.1*I.hi)+b6 cs (cs.length-1-k)*((n6 I cs k).2.2*I.den),(n6 I cs k).2.2*I.den):=by
 unfold n6
 rw[US hk]
 rfl
theorem LM {I:Iv} {cs:List Int} {A C:Nat} (h1:dl I.lo<=A) (h2:dl I.hi<=A) (h3:dl I.den<=A) (hc:∀i,dl (b6 cs i)<=C):∀{k:Nat},k<=cs.length->dl (n6 I cs k).1<=k*(A+1)+C+1/\dl (n6 I cs k).2.1<=k*(A+1)+C+1/\dl (n6 I cs k).2.2<=k*A+1
 | 0,_=>by
  rw[GR]
  have h0:dl (0:Int)=0:=C5.2 rfl
  have h1:=J6 (F:=1) zo zo
  exact ⟨by show dl 0<=_; omega,by show dl 0<=_; omega,by show dl 1<=_; omega⟩
 | k+1,hk=>by
  obtain ⟨q1,q2,q3⟩:=LM h1 h2 h3 hc (k:=k) zo
  rw[GQ zo]
  have m1:=s9 (n6 I cs k).1 I.lo
  have m2:=s9 (n6 I cs k).1 I.hi
  have m3:=s9 (n6 I cs k).2.1 I.lo
  have m4:=s9 (n6 I cs k).2.1 I.hi
  have m5:=s9 (n6 I cs k).2.2 I.den
  have m6:=s9 (b6 cs (cs.length-1-k)) ((n6 I cs k).2.2*I.den)
  have m7:=hc (cs.length-1-k)
  have e1:(k+1)*(A+1)=k*(A+1)+A+1:=by rw[Nat.succ_mul]; omega
  have e2:(k+1)*A=k*A+A:=Nat.succ_mul _ _
  have e3:k*(A+1)=k*A+k:=by rw[Nat.mul_add,Nat.mul_one]
  obtain ⟨u1,u2⟩:=dB (n:=k*(A+1)+C+1+A) (a:=(n6 I cs k).1*I.lo) (b:=(n6 I cs k).1*I.hi) (c:=(n6 I cs k).2.1*I.lo) (d:=(n6 I cs k).2.1*I.hi) zo zo zo zo
  have s1:=P3 (N0 ((n6 I cs k).1*I.lo) ((n6 I cs k).1*I.hi) ((n6 I cs k).2.1*I.lo) ((n6 I cs k).2.1*I.hi)) (b6 cs (cs.length-1-k)*((n6 I cs k).2.2*I.den))
  have s2:=P3 (M9 ((n6 I cs k).1*I.lo) ((n6 I cs k).1*I.hi) ((n6 I cs k).2.1*I.lo) ((n6 I cs k).2.1*I.hi)) (b6 cs (cs.length-1-k)*((n6 I cs k).2.2*I.den))
  refine ⟨?_,?_,?_⟩
  ·show dl (_+_)<=_; omega
  ·show dl (_+_)<=_; omega
  ·show dl (_*_)<=_; omega
end Go.Fl

/- Contracts: enclosures are halved until the sign is told. -/
namespace Go.Fl
open Go Go.Proofs
open b8 renaming op->tO
open j1 renaming op->rO
set_option maxRecDepth 100000

def L8 (xs:List Int):Nat->Int
 | 0=>b6 xs 0
 | k+1=>if b6 xs (k+1)<L8 xs k then b6 xs (k+1) else L8 xs k
def J4 (xs:List Int):Nat->Int
 | 0=>b6 xs 0
 | k+1=>if J4 xs k<b6 xs (k+1) then b6 xs (k+1) else J4 xs k
theorem GZ {xs:List Int}:∀{k:Nat},k<xs.length->L8 xs k∈xs/\J4 xs k∈xs
 | 0,h=>⟨G1 h,G1 h⟩
 | k+1,h=>by
  obtain ⟨h1,h2⟩:=GZ (xs:=xs) (k:=k) zo
  rw[L8,J4]
  constructor
  ·split; exact G1 h; exact h1
  ·split; exact G1 h; exact h2
theorem WD {a b c d:Int}:L8 [a,b,c,d] 3=N0 a b c d/\J4 [a,b,c,d] 3=M9 a b c d:=by
 simp only[L8,J4,N0,M9,b6,List.getD_cons_succ,List.getD_cons_zero]
 constructor<;>(repeat' split)<;>omega
theorem FB {a b:Int}:r7 a b<0↔a<b:=by unfold r7; split<;>(try split)<;>omega
theorem CT {a b:Int}:0<r7 a b↔b<a:=by unfold r7; split<;>(try split)<;>omega
theorem ab4 {p cs:List Int} {I:Iv} {k:Nat} (hI:I.Ok) (h:Q1 (enc (i2 p I k) cs).1 (enc (i2 p I k) cs).2.1 0≠0):Q1 (enc (i2 p I k) cs).1 (enc (i2 p I k) cs).2.1 0=Z4 p I cs:=by
 unfold Q1 at h ⊢
 by_cases h1:0<r7 (enc (i2 p I k) cs).1 0
 ·rw[if_pos h1,kJ (CT.1 h1)]
 ·rw[if_neg h1] at h ⊢
  by_cases h2:r7 (enc (i2 p I k) cs).2.1 0<0
  ·rw[if_pos h2,kH hI (FB.1 h2)]
  ·rw[if_neg h2] at h; exact absurd rfl h
theorem ab5 {a b:Int} (h:0<a\/b<0):Q1 a b 0≠0:=by
 unfold Q1
 by_cases h1:0<r7 a 0
 ·rw[if_pos h1]; decide
 ·rw[if_neg h1,if_pos (FB.2 (h.resolve_left fun e=>h1 (CT.2 e)))]; decide
theorem pE (xs:List Int) (f:FuncId) [d8 Tryz.prog f] (hl:1<=xs.length) (hf:∀a b,a∈xs->b∈xs->Ct Tryz.prog f [b7 eW (wh a),b7 eW (wh b)] (kI (r7 a b))):Ct Tryz.prog 202 [b7 (eL eZ) xs,i9 (.func (.func f) #[] #[])] (b7 eW (wh (L8 xs (xs.length-1)))):=by
 refine Ct.mk Tryz.func202 rfl Tryz.ntmps202 rfl (fun w J=>?_); refine Tr.fact (s:=0) rfl (fun _ _ h=>U9 h) (fun hb=>?_); refine g9 ?_; refine ja 4 ?_; refine u5 ?_; refine jq ?_ ?_
 ·intro h1
  omega
 ·intro h1
  replace h1:=Int.not_lt.1 h1
  refine j6 ?_; refine ja 5 ?_; refine m8 ?_
  refine Tr.for1 (σ:=Nat) [⟨0,true,_,_⟩,⟨1,true,_,_⟩,⟨4,true,_,_⟩,⟨5,true,_,_⟩] [⟨4,_,_⟩] (fun j=>[⟨6,true,[],kI ((j:Int)+1)⟩]) (fun j=>[⟨5,[],j5 [kB (decide ((L8 xs j)<0)),b7 (eL eI) (d7 ((L8 xs j)).natAbs)]⟩]) (fun j=>j+1<=xs.length) (fun j=>j+1=xs.length) (fun j=>xs.length-j) (0) zi (d6.mk (.i rfl zi<|zk) (zk) rfl) ?_ ?_
  ·intro j hR0
   refine jn ?_
   have hjn:((j:Int)+1).toNat=j+1:=by omega
   refine m8 ?_; refine jq ?_ ?_
   ·intro h5
    refine l8 ?_; refine Tr.draw 6 n8 (by kernel_rfl) ?_; refine j6 ?_; refine tO (JN rfl uu (fun hp=>hf _ _ (G1 (i:=j+1) zo) (GZ zo).1) (.a rfl uu<|.se rfl uu rfl rfl<|.nil)) rfl rfl ?_; refine i7 ?_; refine jq ?_ ?_
    ·intro h7
     have hK:L8 xs (j+1)=b6 xs (j+1):=by rw[L8,if_pos (FB.1 h7)]
     refine C7 ?_
     exact g6.lp (j+1) zi zo (d6.mk (.i rfl zi<|zk) (.e (by rw[hK,hjn]) rfl<|zk) rfl)
    ·intro h7
     replace h7:=Int.not_lt.1 h7
     have hK:L8 xs (j+1)=L8 xs j:=by rw[L8,if_neg (fun e=>absurd (FB.2 e) zo)]
     refine j3 ?_
     exact g6.lp (j+1) zi zo (d6.mk (.i rfl zi<|zk) (.e (by rw[hK]) rfl<|zk) rfl)
   ·intro h5
    replace h5:=Int.not_lt.1 h5
    refine g8 ?_
    exact g6.cut (j) zo (d6.mk (.i rfl zi<|zk) (zk) rfl)
  ·intro j hE0
   refine je ?_; refine j3 ?_; exact d9.resC1 (fn:=Tryz.f202) rfl rfl (t7 rfl (by rw[show xs.length-1=j by omega]; rfl))

theorem pD (xs:List Int) (f:FuncId) [d8 Tryz.prog f] (hl:1<=xs.length) (hf:∀a b,a∈xs->b∈xs->Ct Tryz.prog f [b7 eW (wh a),b7 eW (wh b)] (kI (r7 a b))):Ct Tryz.prog 204 [b7 (eL eZ) xs,i9 (.func (.func f) #[] #[])] (b7 eW (wh (J4 xs (xs.length-1)))):=by
 refine Ct.mk Tryz.func204 rfl Tryz.ntmps204 rfl (fun w J=>?_); refine Tr.fact (s:=0) rfl (fun _ _ h=>U9 h) (fun hb=>?_); refine g9 ?_; refine ja 4 ?_; refine u5 ?_; refine jq ?_ ?_
 ·intro h1
  omega
 ·intro h1
  replace h1:=Int.not_lt.1 h1
  refine j6 ?_; refine ja 5 ?_; refine m8 ?_
  refine Tr.for1 (σ:=Nat) [⟨0,true,_,_⟩,⟨1,true,_,_⟩,⟨4,true,_,_⟩,⟨5,true,_,_⟩] [⟨4,_,_⟩] (fun j=>[⟨6,true,[],kI ((j:Int)+1)⟩]) (fun j=>[⟨5,[],j5 [kB (decide ((J4 xs j)<0)),b7 (eL eI) (d7 ((J4 xs j)).natAbs)]⟩]) (fun j=>j+1<=xs.length) (fun j=>j+1=xs.length) (fun j=>xs.length-j) (0) zi (d6.mk (.i rfl zi<|zk) (zk) rfl) ?_ ?_
  ·intro j hR0
   refine jn ?_
   have hjn:((j:Int)+1).toNat=j+1:=by omega
   refine m8 ?_; refine jq ?_ ?_
   ·intro h5
    refine l8 ?_; refine Tr.draw 6 n8 (by kernel_rfl) ?_; refine j6 ?_; refine tO (JN rfl uu (fun hp=>hf _ _ (G1 (i:=j+1) zo) (GZ zo).2) (.a rfl uu<|.se rfl uu rfl rfl<|.nil)) rfl rfl ?_; refine i7 ?_; refine jq ?_ ?_
    ·intro h7
     have hK:J4 xs (j+1)=b6 xs (j+1):=by rw[J4,if_pos (CT.1 h7)]
     refine C7 ?_
     exact g6.lp (j+1) zi zo (d6.mk (.i rfl zi<|zk) (.e (by rw[hK,hjn]) rfl<|zk) rfl)
    ·intro h7
     replace h7:=Int.not_lt.1 h7
     have hK:J4 xs (j+1)=J4 xs j:=by rw[J4,if_neg (fun e=>absurd (CT.2 e) zo)]
     refine j3 ?_
     exact g6.lp (j+1) zi zo (d6.mk (.i rfl zi<|zk) (.e (by rw[hK]) rfl<|zk) rfl)
   ·intro h5
    replace h5:=Int.not_lt.1 h5
    refine g8 ?_
    exact g6.cut (j) zo (d6.mk (.i rfl zi<|zk) (zk) rfl)
  ·intro j hE0
   refine je ?_; refine j3 ?_; exact d9.resC1 (fn:=Tryz.f204) rfl rfl (t7 rfl (by rw[show xs.length-1=j by omega]; rfl))

set_option maxHeartbeats 2000000 in
theorem pQ (r:D0) (v:n7) (I:Iv) (cs:List Int) (K:Nat) (sg:Int) (hpo:G3 r.2.1) (hI:I=⟨r.2.2.2.1,r.2.2.2.2.1,r.2.2.2.2.2⟩) (hcs:cs=v.1.take (r.2.1.length-1)) (hvl:v.1.length=4) (hvb:E7 540 v) (hsz:∀k,k<=K->dl (i2 r.2.1 I k).lo<=73000/\dl (i2 r.2.1 I k).hi<=73000/\dl (i2 r.2.1 I k).den<=73000) (htl:∀k,K<=k->Q1 (enc (i2 r.2.1 I k) cs).1 (enc (i2 r.2.1 I k) cs).2.1 0≠0) (hsg:∀k,Q1 (enc (i2 r.2.1 I k) cs).1 (enc (i2 r.2.1 I k) cs).2.1 0≠0->Q1 (enc (i2 r.2.1 I k) cs).1 (enc (i2 r.2.1 I k) cs).2.1 0=sg):CM Tryz.prog 181 [s6 A7 r,b7 K5 v,AN 182 [y5 0 0]] (j5 [kI 0]) (j5 [kI sg]) (i9 (.tuple #[])):=by
 have hp5:=hpo.1.2
 have hp2:=hpo.1.1
 have hcl:cs.length=r.2.1.length-1:=by rw[hcs,List.length_take,hvl]; omega
 have hcx:List.take ((r.2.1.length:Int)-1).toNat (j4 4 (b6 v.1),v.2).1=cs:=by rw[hcs]; show List.take _ (j4 4 (b6 v.1))=_; rw[<- T2 hvl]; congr 1; omega
 have hcd:∀i,dl (b6 cs i)<=540:=fun i=>by rw[hcs]; by_cases h:i<r.2.1.length-1; (rw[P8 h]; exact hvb.c i); (rw[v6 (by rw[List.length_take]; omega)]; show dl 0<=540; rw[C5.2 rfl]; omega)
 have hI0:i2 r.2.1 I 0=I:=rfl
 refine CM.mkM Tryz.func181 rfl Tryz.ntmps181 rfl rfl (fun w J bb cap=>?_); refine jn ?_; refine g9 ?_; refine jb 4 rfl ?_; refine i7 ?_; refine Tr.frzBL 4 [4] K5 (s:=568) rfl rfl ⟨rfl,trivial⟩ rfl ?_; refine jn ?_; refine g9 ?_; refine tO (EG rfl uu) rfl rfl ?_; refine i4 ?_; refine ja 6 ?_; refine i7 ?_
 refine Tr.for1 (σ:=Nat) [⟨0,true,_,_⟩,⟨2,true,_,_⟩,⟨4,true,_,_⟩,⟨568,true,_,_⟩] [] (fun k=>[⟨6,true,[6],y5 6 0⟩]) (fun k=>[⟨6,[],j5 [b7 (eL eI) r.1.1,kI r.1.2.1,kI r.1.2.2.1,kI r.1.2.2.2,b7 (eL eZ) r.2.1,b7 (eL eZ) r.2.2.1,kB (decide ((i2 r.2.1 I k).lo<0)),b7 (eL eI) (d7 ((i2 r.2.1 I k).lo).natAbs),kB (decide ((i2 r.2.1 I k).hi<0)),b7 (eL eI) (d7 ((i2 r.2.1 I k).hi).natAbs),kB (decide ((i2 r.2.1 I k).den<0)),b7 (eL eI) (d7 ((i2 r.2.1 I k).den).natAbs)]⟩,⟨0,[],j5 [kI 0]⟩]) (fun k=>k<=K) (fun k=>False) (fun k=>K-k) (0) zi (d6.mk (zk) (.e (by rw[hI0,hI]) rfl<|zk) rfl) ?_ ?_
 ·intro k hR0
  refine jn ?_
  have hz:=hsz k hR0
  refine g8 ?_; refine tO (A1 (fun hp=>.nil)) rfl rfl ?_; refine tO (A1 (fun hp=>.nil)) rfl rfl ?_; refine jc (P2 1 zo) ?_; refine ja 7 ?_; refine ja 8 ?_; refine ja 9 ?_; refine u5 ?_; refine jc (TY r hpo.1) ?_; refine tO (iC rfl uu rfl uu rfl rfl (fun _=>zo)) rfl rfl ?_; refine tO (i6 (fun hp=>pL _) (.a rfl uu<|.nil)) rfl rfl ?_
  rw[hcx]
  refine i7 ?_
  refine Tr.back (e:=eZ) (xs:=cs) nQ [⟨0,true,_,_⟩,⟨2,true,_,_⟩,⟨4,true,_,_⟩,⟨6,true,_,_⟩,⟨7,true,_,_⟩,⟨8,true,_,_⟩,⟨9,true,_,_⟩,⟨24,true,_,_⟩,⟨568,true,_,_⟩] [6,7,8,9,0] (fun j=>[⟨6,[],j5 [b7 (eL eI) r.1.1,kI r.1.2.1,kI r.1.2.2.1,kI r.1.2.2.2,b7 (eL eZ) r.2.1,b7 (eL eZ) r.2.2.1,kB (decide ((i2 r.2.1 I k).lo<0)),b7 (eL eI) (d7 ((i2 r.2.1 I k).lo).natAbs),kB (decide ((i2 r.2.1 I k).hi<0)),b7 (eL eI) (d7 ((i2 r.2.1 I k).hi).natAbs),kB (decide ((i2 r.2.1 I k).den<0)),b7 (eL eI) (d7 ((i2 r.2.1 I k).den).natAbs)]⟩,⟨7,[],j5 [kB (decide ((n6 (i2 r.2.1 I k) cs j).1<0)),b7 (eL eI) (d7 ((n6 (i2 r.2.1 I k) cs j).1).natAbs)]⟩,⟨8,[],j5 [kB (decide ((n6 (i2 r.2.1 I k) cs j).2.1<0)),b7 (eL eI) (d7 ((n6 (i2 r.2.1 I k) cs j).2.1).natAbs)]⟩,⟨9,[],j5 [kB (decide ((n6 (i2 r.2.1 I k) cs j).2.2<0)),b7 (eL eI) (d7 ((n6 (i2 r.2.1 I k) cs j).2.2).natAbs)]⟩,⟨0,[],j5 [kI 0]⟩]) (fun j=>[⟨6,[],j5 [b7 (eL eI) r.1.1,kI r.1.2.1,kI r.1.2.2.1,kI r.1.2.2.2,b7 (eL eZ) r.2.1,b7 (eL eZ) r.2.2.1,kB (decide ((i2 r.2.1 I k).lo<0)),b7 (eL eI) (d7 ((i2 r.2.1 I k).lo).natAbs),kB (decide ((i2 r.2.1 I k).hi<0)),b7 (eL eI) (d7 ((i2 r.2.1 I k).hi).natAbs),kB (decide ((i2 r.2.1 I k).den<0)),b7 (eL eI) (d7 ((i2 r.2.1 I k).den).natAbs)]⟩,⟨7,[],j5 [kB (decide ((n6 (i2 r.2.1 I k) cs j).1<0)),b7 (eL eI) (d7 ((n6 (i2 r.2.1 I k) cs j).1).natAbs)]⟩,⟨8,[],j5 [kB (decide ((n6 (i2 r.2.1 I k) cs j).2.1<0)),b7 (eL eI) (d7 ((n6 (i2 r.2.1 I k) cs j).2.1).natAbs)]⟩,⟨9,[],j5 [kB (decide ((n6 (i2 r.2.1 I k) cs j).2.2<0)),b7 (eL eI) (d7 ((n6 (i2 r.2.1 I k) cs j).2.2).natAbs)]⟩,⟨0,[],j5 [kI 0]⟩]) (fun j=>True) (fun j=>False) (d6.mk (.k rfl rfl<|.k rfl rfl<|.k rfl rfl<|.k rfl rfl<|.k rfl rfl<|.k rfl rfl<|.k rfl rfl<|.k rfl rfl<|.k rfl rfl<|.nil) (.k rfl<|.conv (TN (by rw[GR])) rfl<|.conv (TN (by rw[GR])) rfl<|.conv (AK (BL (by rw[GR]))) rfl<|.k rfl<|.nil) rfl) rfl rfl (fun _=>rfl) (fun _=>rfl) (fun _=>inferInstance) (fun _=>inferInstance) rfl zi ?_ ?_ ?_
  ·intro j hk24 hR24 l24 w24 J24 b24 bks24
   refine jn ?_
   have hb:=LM (A:=73000) (C:=540) hz.1 hz.2.1 hz.2.2 hcd (k:=j) zo
   have hj5:j*(73000+1)<=4*73001:=Nat.mul_le_mul zo zo
   have hj6:j*73000<=4*73000:=Nat.mul_le_mul zo zo
   have hcj:=hcd (cs.length-1-j)
   have hm1:=s9 (n6 (i2 r.2.1 I k) cs j).1 (i2 r.2.1 I k).lo
   have hm2:=s9 (n6 (i2 r.2.1 I k) cs j).1 (i2 r.2.1 I k).hi
   have hm3:=s9 (n6 (i2 r.2.1 I k) cs j).2.1 (i2 r.2.1 I k).lo
   have hm4:=s9 (n6 (i2 r.2.1 I k) cs j).2.1 (i2 r.2.1 I k).hi
   have hm5:=s9 (n6 (i2 r.2.1 I k) cs j).2.2 (i2 r.2.1 I k).den
   have hm6:=s9 (b6 cs (cs.length-1-j)) ((n6 (i2 r.2.1 I k) cs j).2.2*(i2 r.2.1 I k).den)
   have hco:∀x∈([(n6 (i2 r.2.1 I k) cs j).1*(i2 r.2.1 I k).lo,(n6 (i2 r.2.1 I k) cs j).1*(i2 r.2.1 I k).hi,(n6 (i2 r.2.1 I k) cs j).2.1*(i2 r.2.1 I k).lo,(n6 (i2 r.2.1 I k) cs j).2.1*(i2 r.2.1 I k).hi]:List Int),dl x<=800000:=fun x hx=>by simp only[List.mem_cons,List.not_mem_nil,or_false] at hx; rcases hx with rfl | rfl | rfl | rfl<;>omega
   refine i4 ?_; refine ja 11 ?_; refine g9 ?_; refine g6.asg (fun w1024 J1024 b1024=>?_); refine jn ?_; refine g9 ?_; refine Tr.draw 15 n8 (by kernel_rfl) ?_; refine i7 ?_; refine jd (L3 (n6 (i2 r.2.1 I k) cs j).1 (i2 r.2.1 I k).lo zo zo) ?_; refine i7 ?_; refine jd (L3 (n6 (i2 r.2.1 I k) cs j).1 (i2 r.2.1 I k).hi zo zo) ?_; refine i7 ?_; refine jd (L3 (n6 (i2 r.2.1 I k) cs j).2.1 (i2 r.2.1 I k).lo zo zo) ?_; refine g8 ?_; refine jc (L3 (n6 (i2 r.2.1 I k) cs j).2.1 (i2 r.2.1 I k).hi zo zo) ?_
   refine tO (M3 eZ (fun hp=>.cons rfl<|.cons rfl<|.cons rfl<|.cons rfl<|.nil) rfl rfl rfl rfl) rfl rfl ?_; refine j3 ?_; refine jc (L3 (n6 (i2 r.2.1 I k) cs j).2.2 (i2 r.2.1 I k).den zo zo) ?_; refine j6 ?_; refine jc (L3 (b6 cs (cs.length-1-j)) ((n6 (i2 r.2.1 I k) cs j).2.2*(i2 r.2.1 I k).den) zo zo) ?_; refine i7 ?_; refine Tr.draw 7 n8 (by kernel_rfl) ?_; refine i4 ?_; refine jd (pE [(n6 (i2 r.2.1 I k) cs j).1*(i2 r.2.1 I k).lo,(n6 (i2 r.2.1 I k) cs j).1*(i2 r.2.1 I k).hi,(n6 (i2 r.2.1 I k) cs j).2.1*(i2 r.2.1 I k).lo,(n6 (i2 r.2.1 I k) cs j).2.1*(i2 r.2.1 I k).hi] 203 (by simp) (fun x y hx hy=>bB x y (hco x hx) (hco y hy))) ?_
   refine i4 ?_; refine rO (i6 (fun hp=>V9 (L8 [(n6 (i2 r.2.1 I k) cs j).1*(i2 r.2.1 I k).lo,(n6 (i2 r.2.1 I k) cs j).1*(i2 r.2.1 I k).hi,(n6 (i2 r.2.1 I k) cs j).2.1*(i2 r.2.1 I k).lo,(n6 (i2 r.2.1 I k) cs j).2.1*(i2 r.2.1 I k).hi] 3) ((b6 cs (cs.length-1-j))*((n6 (i2 r.2.1 I k) cs j).2.2*(i2 r.2.1 I k).den)) (Nat.le_trans (hco _ (GZ (by simp)).1) zo) zo) (.a rfl uu<|.se rfl uu rfl rfl<|.nil)) rfl rfl ?_; refine i4 ?_; refine jd (pD [(n6 (i2 r.2.1 I k) cs j).1*(i2 r.2.1 I k).lo,(n6 (i2 r.2.1 I k) cs j).1*(i2 r.2.1 I k).hi,(n6 (i2 r.2.1 I k) cs j).2.1*(i2 r.2.1 I k).lo,(n6 (i2 r.2.1 I k) cs j).2.1*(i2 r.2.1 I k).hi] 203 (by simp) (fun x y hx hy=>bB x y (hco x hx) (hco y hy))) ?_
   refine g9 ?_; refine tO (i6 (fun hp=>V9 (J4 [(n6 (i2 r.2.1 I k) cs j).1*(i2 r.2.1 I k).lo,(n6 (i2 r.2.1 I k) cs j).1*(i2 r.2.1 I k).hi,(n6 (i2 r.2.1 I k) cs j).2.1*(i2 r.2.1 I k).lo,(n6 (i2 r.2.1 I k) cs j).2.1*(i2 r.2.1 I k).hi] 3) ((b6 cs (cs.length-1-j))*((n6 (i2 r.2.1 I k) cs j).2.2*(i2 r.2.1 I k).den)) (Nat.le_trans (hco _ (GZ (by simp)).2) zo) zo) (.a rfl uu<|.se rfl uu rfl rfl<|.nil)) rfl rfl ?_; refine g8 ?_; exact g6.rnd trivial (d6.mk (zk) (.k rfl<|.conv (AK (BL (by rw[GQ zo,WD.1]))) rfl<|.conv (AK (BL (by rw[GQ zo,WD.2]))) rfl<|.conv (AK (BL (by rw[GQ zo]))) rfl<|zk) rfl)
  ·intro hE24
   refine je ?_
   have hbe:=LM (A:=73000) (C:=540) hz.1 hz.2.1 hz.2.2 hcd (k:=cs.length) (Nat.le_refl _)
   have hj7:cs.length*(73000+1)<=4*73001:=Nat.mul_le_mul zo zo
   have hj8:cs.length*73000<=4*73000:=Nat.mul_le_mul zo zo
   have hvd:=hvb.d
   refine i7 ?_; refine Tr.draw 7 n8 (by kernel_rfl) ?_; refine l6 ?_; refine jd (L3 (n6 (i2 r.2.1 I k) cs cs.length).2.2 v.2 zo zo) ?_; refine i4 ?_; refine b8.loanLK (u:=0) (sB (enc (i2 r.2.1 I k) cs).1 (enc (i2 r.2.1 I k) cs).2.1 ((n6 (i2 r.2.1 I k) cs cs.length).2.2*v.2) 0) rfl (.se rfl rfl (by rw[PI]; rfl)<|.se rfl rfl (by rw[PI]; rfl)<|.a rfl<|.nil) rfl rfl rfl ?_; refine g9 ?_; refine Tr.cnd rfl ?_ ?_
   ·intro h10
    try simp only[decide_eq_true_eq,ne_eq] at h10
    have hsk:=hsg k h10
    refine l6 ?_; refine d9.mk ?_; exact d9.loan0 (fn:=Tryz.f181) (s:=568) rfl rfl (by rw[hsk])
   ·intro h10
    try simp only[decide_eq_false_iff_not,ne_eq,Classical.not_not] at h10
    refine m8 ?_; refine Tr.ent (S':=[⟨0,true,_,_⟩,⟨2,true,_,_⟩,⟨4,true,_,_⟩,⟨7,true,_,_⟩,⟨8,true,_,_⟩,⟨9,true,_,_⟩,⟨24,true,_,_⟩,⟨568,true,_,_⟩,⟨59,true,_,_⟩,⟨60,true,_,_⟩,⟨61,true,_,_⟩,⟨62,true,_,_⟩,⟨63,true,_,_⟩,⟨64,true,_,_⟩,⟨65,true,_,_⟩,⟨66,true,_,_⟩,⟨67,true,_,_⟩]) (M':=[⟨7,_,_⟩,⟨8,_,_⟩,⟨9,_,_⟩,⟨0,_,_⟩]) (d6.mk (zk) (zk) rfl) ?_; refine i4 ?_; refine ja 6 ?_; refine g8 ?_; refine b8.mutP (bF (b7 (eL eI) r.1.1) (kI r.1.2.1) (kI r.1.2.2.1) (kI r.1.2.2.2) (b7 (eL eZ) r.2.2.1) r.2.1 (i2 r.2.1 I k) 73000 zo hpo.2 hz.1 hz.2.1 hz.2.2 zo) rfl (.nil) (fun g b cap o h=>AL (g:=g) (g':=g1 g.J b cap) rfl h) (fun {J b cap o g} h=>AL (g:=g1 J b cap) (g':=⟨J,g.M⟩) rfl h) rfl ?_
    refine i4 ?_; exact g6.lp (k+1) (by have:k≠K:=fun e=>htl k zo h10; omega) (by have:k≠K:=fun e=>htl k zo h10; omega) (d6.mk (zk) (.e (by rfl) rfl<|.e (by rw[h10]) rfl<|.nil) rfl)
  ·intro j hk24 hX24
   exact absurd hX24 id
 ·intro k hE0
  exact hE0.elim

end Go.Fl

/- Contracts: signs and comparisons of numbers of any field. -/
namespace Go.Fl
open Go Go.Proofs
open b8 renaming op->tO
open j1 renaming op->rO
set_option maxRecDepth 100000

theorem ad5 {p:List Int} {I:Iv} {v:n7} (hf:BB p I) (hv:B4 p v) (hb:E7 540 v) (h:O5 v.1≠true):∃K,(∀k,k<=K->dl (i2 p (i2 p I 64) k).lo<=73000/\dl (i2 p (i2 p I 64) k).hi<=73000/\dl (i2 p (i2 p I 64) k).den<=73000)/\(∀k,K<=k->Q1 (enc (i2 p (i2 p I 64) k) (v.1.take (p.length-1))).1 (enc (i2 p (i2 p I 64) k) (v.1.take (p.length-1))).2.1 0≠0)/\∀k,Q1 (enc (i2 p (i2 p I 64) k) (v.1.take (p.length-1))).1 (enc (i2 p (i2 p I 64) k) (v.1.take (p.length-1))).2.1 0≠0->Q1 (enc (i2 p (i2 p I 64) k) (v.1.take (p.length-1))).1 (enc (i2 p (i2 p I 64) k) (v.1.take (p.length-1))).2.1 0=E0 p I v:=by
 obtain ⟨h1,h2⟩:=iW hf.three hv h
 have h5:=hf.len4
 obtain ⟨K,q1,q2,q3⟩:=hf.bound (M:=540) zo h2 (fun c hc=>by
  obtain ⟨i,hi,rfl⟩:=List.mem_iff_getElem.1 hc
  have e:(v.1.take (p.length-1))[i]=b6 v.1 i:=by
   rw[List.length_take] at hi
   rw[List.getElem_take]
   have:i<v.1.length:=by omega
   simp[b6,this]
  rw[e]; exact hb.c i) zo zo
 refine ⟨K-64,fun k hk=>?_,fun k hk=>?_,fun k hk=>?_⟩
 ·rw[GV]; exact q3 (64+k) zo
 ·rw[GV]; exact ab5 (q2 (64+k) zo)
 ·rw[ab4 (Y0 hf.iv) hk,ac7 hf.iv]
  unfold E0
  rw[if_neg h]
theorem bE (r:D0) (I:Iv) (v:n7) (hf:BB r.2.1 I) (hI:i2 r.2.1 I 64=⟨r.2.2.2.1,r.2.2.2.2.1,r.2.2.2.2.2⟩) (hv:B4 r.2.1 v) (hb:E7 540 v):Ct Tryz.prog 139 [s6 A7 r,b7 K5 v] (kI (E0 r.2.1 I v)):=by
 have hl:v.1.length=4:=hv.len
 refine Ct.mk Tryz.func139 rfl Tryz.ntmps139 rfl (fun w J=>?_); refine g9 ?_; refine jb 3 rfl ?_; refine j6 ?_; refine tO (i6 (fun hp=>cC v.1 v.2) (.se rfl uu rfl (FG hl)<|.nil)) rfl rfl ?_; refine g9 ?_; refine Tr.cnd rfl ?_ ?_
 ·intro h1
  have hs:E0 r.2.1 I v=r7 (b6 v.1 0) 0:=if_pos h1
  refine i7 ?_; refine tO (DE rfl uu rfl uu (fun _=>by decide)) rfl rfl ?_; refine tO (JQ (0) (fun _=>zo) (fun _=>zo) rfl uu) rfl rfl ?_; refine jc (BK (b6 v.1 0)) ?_; refine l8 ?_; exact d9.res1 (fn:=Tryz.f139) rfl (.i rfl (by rw[hs])<|.nil)
 ·intro h1
  obtain ⟨K,k1,k2,k3⟩:=ad5 hf hv hb (by rw[h1]; decide)
  refine g8 ?_; refine ja 5 ?_; refine j6 ?_; refine tO (FP (.cons rfl uu<|.nil)) rfl rfl ?_; refine b8.loanL (u:=5) (pQ r v (i2 r.2.1 I 64) (v.1.take (r.2.1.length-1)) K (E0 r.2.1 I v) hf.pol hI rfl hl hb k1 k2 k3) (.a rfl<|.se rfl rfl (FG hl)<|.a rfl<|.nil) rfl rfl ?_; refine m8 ?_; exact d9.res1 (fn:=Tryz.f139) rfl (.i rfl (by rfl)<|.nil)

theorem qA (r:D0) (I:Iv) (x:y3) (hf:BB r.2.1 I) (hI:i2 r.2.1 I 64=⟨r.2.2.2.1,r.2.2.2.2.1,r.2.2.2.2.2⟩) (hx:y0 250 x):Ct Tryz.prog 82 [s6 A7 r,b7 j8 x] (kI (E0 r.2.1 I (j9 r.2.1 x))):=by
 have hpo:=hf.pol
 have nx:=T3 hpo hx
 have rx:=EL (p:=r.2.1) (x:=x) hpo
 refine Ct.mk Tryz.func82 rfl Tryz.ntmps82 rfl (fun w J=>?_); refine g9 ?_; refine jb 3 rfl ?_; refine j6 ?_; refine tO (FQ rfl uu) rfl rfl ?_; refine g9 ?_; refine Tr.cnd rfl ?_ ?_
 ·intro h1
  cases h1
 ·intro h1
  refine j6 ?_; refine jc (BJ r x 250 hpo hx zo) ?_; refine jc (bE r I (j9 r.2.1 x) hf hI rx (nx.mono zo)) ?_; refine g8 ?_
  exact d9.res1 (fn:=Tryz.f82) rfl (.i rfl zi<|.nil)

theorem pW (r:D0) (I:Iv) (x y:y3) (hf:BB r.2.1 I) (hI:i2 r.2.1 I 64=⟨r.2.2.2.1,r.2.2.2.2.1,r.2.2.2.2.2⟩) (hx:y0 250 x) (hy:y0 250 y):Ct Tryz.prog 83 [s6 A7 r,b7 j8 x,b7 j8 y] (kI (E0 r.2.1 I (H0 (j9 r.2.1 x) (j9 r.2.1 y)))):=by
 have hpo:=hf.pol
 have hk:250<=100000:=by omega
 have nx:=T3 hpo hx
 have ny:=T3 hpo hy
 have nn:=MD ny
 have nz:=KV nx nn
 have rx:=EL (p:=r.2.1) (x:=x) hpo
 have ry:=EL (p:=r.2.1) (x:=y) hpo
 have rz:=YA rx ry
 refine Ct.mk Tryz.func83 rfl Tryz.ntmps83 rfl (fun w J=>?_); refine g9 ?_; refine jb 4 rfl ?_; refine jb 5 rfl ?_; refine j6 ?_; refine tO (FQ rfl uu) rfl rfl ?_; refine g9 ?_; refine Tr.cnd rfl ?_ ?_
 ·intro h1
  cases h1
 ·intro h1
  refine i7 ?_; refine Tr.draw 9 n8 (by kernel_rfl) ?_; refine i7 ?_; refine jd (BJ r x 250 hpo hx zo) ?_; refine g9 ?_; refine jd (BJ r y 250 hpo hy zo) ?_; refine jd (UC (j9 r.2.1 y).1 (j9 r.2.1 y).2) ?_; refine jd (OR (j9 r.2.1 x) ((j9 r.2.1 y).1.map (fun z=>-z),(j9 r.2.1 y).2) (fun i=>Nat.le_trans (nx.c i) zo) (fun i=>Nat.le_trans (nn.c i) zo) (Nat.le_trans nx.d zo) (Nat.le_trans nn.d zo) nx.pos nn.pos) ?_; refine i4 ?_; refine jc (bE r I (H8 (j9 r.2.1 x) ((j9 r.2.1 y).1.map (fun z=>-z),(j9 r.2.1 y).2)) hf hI rz (nz.mono zo)) ?_
  refine g8 ?_
  exact d9.res1 (fn:=Tryz.f83) rfl (.i rfl zi<|.nil)

end Go.Fl

/- Divisors of polynomials with the leading coefficient 1, as the program and the reference look for them. No program in sight. -/
namespace Go.Fl
open Go
def J7 (p:List Int) (x:Int):Int:=p.foldr (fun c v=>v*x+c) 0
theorem UY {c x:Int} {p:List Int}:J7 (c::p) x=J7 p x*x+c:=rfl
def W0 (p:List Int) (x:Int) (k:Nat):Int:=J7 (p.drop (p.length-k)) x
theorem PL {p:List Int} {x:Int}:W0 p x 0=0:=by unfold W0; rw[Nat.sub_zero,List.drop_length]; rfl
theorem LN {p:List Int} {x:Int} {k:Nat} (hk:k<p.length):W0 p x (k+1)=W0 p x k*x+b6 p (p.length-1-k):=by unfold W0; rw[US hk]; rfl
theorem dR {p:List Int} {x:Int}:W0 p x p.length=J7 p x:=by unfold W0; rw[Nat.sub_self,List.drop_zero]
theorem dQ {p:List Int} {x:Int} (hp:∀i,(b6 p i).natAbs<=1000) (hx:x.natAbs<=1001):∀{k:Nat},k<=p.length->(W0 p x k).natAbs<=1002 ^ k
 | 0,_=>by rw[PL]; decide
 | k+1,hk=>by
  have h1:=dQ hp hx (k:=k) zo
  rw[LN zo]
  have h2:=hp (p.length-1-k)
  have h3:(W0 p x k*x).natAbs<=1002 ^ k*1001:=L9 h1 hx
  have h4:1002 ^ (k+1)=1002 ^ k*1001+1002 ^ k:=by rw[Nat.pow_succ]; omega
  by_cases h:k=0
  ·subst h
   rw[PL,Int.zero_mul,Int.zero_add]
   omega
  ·have h5:1002<=1002 ^ k:=Nat.le_self_pow h 1002
   omega
theorem dP {x:Int}:∀{p:List Int},v8 x 1 p=(J7 p x,1)
 | []=>rfl
 | c::p=>by rw[v8,dP (p:=p),UY]; simp
theorem tU {p:List Int} {x:Int} (_:1<=p.length):J7 p x=FH (lP p) (p.length-1) x:=by
 have h1:=(LW (a:=x) (b:=1) (cs:=p)).2
 rw[dP] at h1
 simp only at h1
 rw[h1]
 unfold hm FH
 refine Q3 fun i _=>?_
 rw[Int.one_pow,Int.mul_one]
def DM (p:List Int):Prop:=p.length≠2/\((∃x,J7 p x=0)\/(p.length=5/\∃a b c d:Int,b6 p 3=a+c/\b6 p 2=b+d+a*c/\b6 p 1=a*d+b*c/\b6 p 0=b*d))
open Classical in
noncomputable def X2 (p:List Int):Bool:=if DM p then true else false
theorem JZ {p:List Int} (h:DM p):X2 p=true:=if_pos h
theorem JY {p:List Int} (h:¬DM p):X2 p=false:=if_neg h
theorem zI {p:List Int} (h3:3<=p.length) (h:¬DM p):¬GD (lP p) (p.length-1):=by
 have e:∀i,i<p.length->lP p i=b6 p i:=fun i hi=>if_pos hi
 rintro (⟨x,hx⟩ | ⟨h4,a,b,c,d,q3,q2,q1,q0⟩)
 ·exact h ⟨by omega,.inl ⟨x,by rw[tU zo]; exact hx⟩⟩
 ·exact h ⟨by omega,.inr ⟨by omega,a,b,c,d,by rw[<- e 3 zo]; exact q3,by rw[<- e 2 zo]; exact q2,by rw[<- e 1 zo]; exact q1,by rw[<- e 0 zo]; exact q0⟩⟩
theorem jR {p:List Int} {x:Int} (hp:1<=p.length) (h:J7 p x=0):x∣b6 p 0:=by
 match p,hp with
 | c::p,_ =>
  rw[UY] at h
  show x∣c
  exact ⟨-J7 p x,by rw[Int.mul_neg,Int.mul_comm]; omega⟩
theorem XS {p:List Int} (hp:1<=p.length):J7 p 0=b6 p 0:=by
 match p,hp with
 | c::p,_=>rw[UY,Int.mul_zero,Int.zero_add]; rfl
theorem IV {x y:Int} (h:x∣y) (hy:y≠0):x≠0/\x.natAbs<=y.natAbs:=by
 obtain ⟨q,rfl⟩:=h
 refine ⟨fun e=>hy (by rw[e,Int.zero_mul]),?_⟩
 rw[Int.natAbs_mul]
 exact Nat.le_mul_of_pos_right _ (by have:q≠0:=fun e=>hy (by rw[e,Int.mul_zero]); omega)
def AC (n:Int) (q:Int->Bool) (m:Nat):Prop:=∃d:Nat,1<=d/\d<m/\(d:Int)∣n/\(q d=true\/q (-(d:Int))=true)
theorem dI {n:Int} {q:Int->Bool} (hn:n≠0):AC n q (n.natAbs+1)↔∃x:Int,x∣n/\q x=true:=by
 constructor
 ·rintro ⟨d,h1,h2,h3,h4 | h4⟩
  ·exact ⟨d,h3,h4⟩
  ·exact ⟨-d,Int.neg_dvd.2 h3,h4⟩
 ·rintro ⟨x,h1,h2⟩
  obtain ⟨h3,h4⟩:=IV h1 hn
  refine ⟨x.natAbs,by omega,by omega,Int.ofNat_dvd_left.2 (Int.natAbs_dvd_natAbs.2 h1),?_⟩
  rcases Int.natAbs_eq x with e | e
  ·left; rw[<- e]; exact h2
  ·right; rw[<- e]; exact h2
theorem af0 {b d:Int} (hb:b≠0) (hd:d≠0):b.natAbs+d.natAbs<=(b*d).natAbs+1:=by
 rw[Int.natAbs_mul]
 obtain ⟨m,hm⟩:∃m,b.natAbs=m+1:=⟨b.natAbs-1,by omega⟩
 obtain ⟨n,hn⟩:∃n,d.natAbs=n+1:=⟨d.natAbs-1,by omega⟩
 rw[hm,hn,Nat.succ_mul,Nat.mul_succ]
 omega
theorem iT {p2 p3 a b d:Int} (h2:p2.natAbs<=1000) (h3:p3.natAbs<=1000) (hb:b≠0) (hd:d≠0) (h0:(b*d).natAbs<=1000) (h:b+d+a*(p3-a)=p2):a.natAbs<=2001:=by
 have h1:=af0 hb hd
 by_cases e:p3-a=0
 ·omega
 ·have h4:(a*(p3-a)).natAbs<=2001:=by omega
  rw[Int.natAbs_mul] at h4
  have:=Nat.le_mul_of_pos_right a.natAbs (show 0<(p3-a).natAbs by omega)
  omega
def HZ (p:List Int) (b:Int):Prop:=∃a d:Int,b6 p 0=b*d/\a*(d-b)=b6 p 1-b*b6 p 3/\b+d+a*(b6 p 3-a)=b6 p 2
theorem yU {p:List Int} (_:b6 p 0≠0):(∃b,b∣b6 p 0/\HZ p b)↔∃a b c d:Int,b6 p 3=a+c/\b6 p 2=b+d+a*c/\b6 p 1=a*d+b*c/\b6 p 0=b*d:=by
 constructor
 ·rintro ⟨b,_,a,d,h1,h2,h3⟩
  refine ⟨a,b,b6 p 3-a,d,by omega,h3.symm,?_,h1⟩
  rw[Int.mul_sub] at h2 ⊢
  rw[Int.mul_comm b a]
  omega
 ·rintro ⟨a,b,c,d,h3,h2,h1,h0'⟩
  refine ⟨b,⟨d,h0'⟩,a,d,h0',?_,?_⟩
  ·rw[h1,h3,Int.mul_sub,Int.mul_add,Int.mul_comm b a]; omega
  ·rw[h2,h3,show a+c-a=c by omega]
open Classical in
noncomputable def CD (p:List Int) (b:Int):Bool:=if HZ p b then true else false
theorem XL {p:List Int} {b:Int}:CD p b=true↔HZ p b:=by unfold CD; split<;>simp_all
theorem iS {p:List Int} {b:Int} (h:¬HZ p b):CD p b=false:=if_neg h
section
variable {p:List Int} {b d:Int}
theorem yV (hb:b≠0) (hd:b6 p 0=b*d) (hne:d-b≠0):CD p b=(decide ((b6 p 1-b*b6 p 3).tmod (d-b)=0)&&decide (b+d+(b6 p 1-b*b6 p 3).tdiv (d-b)*(b6 p 3-(b6 p 1-b*b6 p 3).tdiv (d-b))=b6 p 2)):=by
 have key:HZ p b↔((b6 p 1-b*b6 p 3).tmod (d-b)=0/\b+d+(b6 p 1-b*b6 p 3).tdiv (d-b)*(b6 p 3-(b6 p 1-b*b6 p 3).tdiv (d-b))=b6 p 2):=by
  constructor
  ·rintro ⟨a,d',h1,h2,h3⟩
   have e:d'=d:=by
    have:b*d'=b*d:=by rw[<- h1,<- hd]
    exact Int.eq_of_mul_eq_mul_left hb this
   subst e
   rw[<- h2,Int.mul_tmod_left,Int.mul_tdiv_cancel _ hne]
   exact ⟨rfl,h3⟩
  ·rintro ⟨h1,h2⟩
   refine ⟨_,d,hd,?_,h2⟩
   have:=Int.mul_tdiv_add_tmod (b6 p 1-b*b6 p 3) (d-b)
   rw[h1,Int.add_zero,Int.mul_comm] at this
   exact this
 rw[<- Bool.decide_and,Bool.eq_iff_iff,XL,decide_eq_true_eq]
 exact key
theorem yS (hb:b≠0) (hd:b6 p 0=b*b) (h:b6 p 1≠b*b6 p 3):CD p b=false:=by
 refine iS ?_
 rintro ⟨a,d',h1,h2,h3⟩
 have e:d'=b:=Int.eq_of_mul_eq_mul_left hb (by rw[<- h1,<- hd])
 subst e
 rw[Int.sub_self,Int.mul_zero] at h2
 omega
theorem yT {a:Int} (hd:b6 p 0=b*b) (h:b6 p 1=b*b6 p 3) (ha:a*a-b6 p 3*a+b6 p 2-2*b=0):CD p b=true:=by
 refine XL.2 ⟨a,b,hd,by rw[Int.sub_self,Int.mul_zero]; omega,?_⟩
 rw[Int.mul_sub,Int.mul_comm a (b6 p 3)]
 omega
theorem yW (hb:b≠0) (hd:b6 p 0=b*b) (h0:(b6 p 0).natAbs<=1000) (h2:(b6 p 2).natAbs<=1000) (h3:(b6 p 3).natAbs<=1000) (h:∀a:Int,-3000<=a->a<=3000->a*a-b6 p 3*a+b6 p 2-2*b≠0):CD p b=false:=by
 refine iS ?_
 rintro ⟨a,d',h1,_,q3⟩
 have e:d'=b:=Int.eq_of_mul_eq_mul_left hb (by rw[<- h1,<- hd])
 subst e
 have hbd:=iT h2 h3 hb hb (by rw[<- h1]; exact h0) q3
 refine h a zo zo ?_
 rw[Int.mul_sub,Int.mul_comm a (b6 p 3)] at q3
 omega
end
theorem zL {p:List Int} (hl:3<=p.length) (h0:b6 p 0≠0):DM p↔AC (b6 p 0) (fun d=>decide (J7 p d=0)) ((b6 p 0).natAbs+1)\/(p.length=5/\AC (b6 p 0) (CD p) ((b6 p 0).natAbs+1)):=by
 rw[dI h0,dI h0]
 have e1:(∃x,x∣b6 p 0/\decide (J7 p x=0)=true)↔∃x,J7 p x=0:=⟨fun ⟨x,_,h⟩=>⟨x,of_decide_eq_true h⟩,fun ⟨x,h⟩=>⟨x,jR zo h,decide_eq_true h⟩⟩
 have e2:(∃x,x∣b6 p 0/\CD p x=true)↔∃b,b∣b6 p 0/\HZ p b:=exists_congr fun x=>and_congr_right fun _=>XL
 rw[e1,e2,yU h0]
 unfold DM
 constructor
 ·rintro ⟨_,h⟩; exact h
 ·intro h; exact ⟨by omega,h⟩
theorem zM {p:List Int} (hl:1<=p.length) (hp:(b6 p 0).natAbs<=1000):(∃x,J7 p x=0)↔∃x,-1001<=x/\x<=1001/\J7 p x=0:=by
 refine ⟨fun ⟨x,hx⟩=>?_,fun ⟨x,_,_,h⟩=>⟨x,h⟩⟩
 by_cases h:b6 p 0=0
 ·exact ⟨0,by omega,by omega,by rw[XS hl,h]⟩
 ·have:=(IV (jR hl hx) h).2
  exact ⟨x,by omega,by omega,hx⟩
def IB (p:List Int) (b a:Int):Prop:=b*(b6 p 2-b-a*(b6 p 3-a))=b6 p 0/\a*(b6 p 2-b-a*(b6 p 3-a))+b*(b6 p 3-a)=b6 p 1
theorem jN {p:List Int} (h0:b6 p 0≠0) (hp:(b6 p 0).natAbs<=1000) (h2:(b6 p 2).natAbs<=1000) (h3:(b6 p 3).natAbs<=1000):(∃a b c d:Int,b6 p 3=a+c/\b6 p 2=b+d+a*c/\b6 p 1=a*d+b*c/\b6 p 0=b*d)↔∃b,-1000<=b/\b<=1000/\b≠0/\b∣b6 p 0/\∃a,-2002<=a/\a<=2002/\IB p b a:=by
 constructor
 ·rintro ⟨a,b,c,d,q3,q2,q1,q0⟩
  have hb:b≠0:=fun e=>h0 (by rw[q0,e,Int.zero_mul])
  have hd:d≠0:=fun e=>h0 (by rw[q0,e,Int.mul_zero])
  have hc:c=b6 p 3-a:=by omega
  have hbd:=iT h2 h3 hb hd (by rw[<- q0]; exact hp) (a:=a) (by rw[<- hc]; exact q2.symm)
  have hbb:=(IV (⟨d,q0⟩:b∣b6 p 0) h0).2
  have hdd:b6 p 2-b-a*(b6 p 3-a)=d:=by rw[<- hc]; omega
  exact ⟨b,by omega,by omega,hb,⟨d,q0⟩,a,by omega,by omega,by rw[hdd]; exact q0.symm,by rw[hdd,<- hc]; exact q1.symm⟩
 ·rintro ⟨b,_,_,_,_,a,_,_,r1,r2⟩
  exact ⟨a,b,b6 p 3-a,b6 p 2-b-a*(b6 p 3-a),by omega,by omega,r2.symm,r1.symm⟩
end Go.Fl

/- Chains of remainders (Sturm), as the program and the reference compute them: one root between two fractions means different signs. No program in sight. -/
namespace Go.Fl
open Go
theorem FM {xs:List Int} {i:Nat}:lP xs i=b6 xs i:=by
 unfold lP
 split
 ·rfl
 ·rename_i h; rw[v6 zo]; rfl
def I5 (xs:List Int):Prop:=j7 xs=xs
theorem lS {xs:List Int}:I5 (j7 xs):=by
 by_cases h:j7 xs=[]
 ·unfold I5; rw[h]; rfl
 ·obtain ⟨ys,y,hy⟩:∃ys y,j7 xs=ys++[y]:=⟨_,_,(List.dropLast_concat_getLast h).symm⟩
  have hl:=KF h
  have hy0:y≠0:=by
   have e:(j7 xs).getLast h=y:=by simp[hy]
   rw[<- e]; exact hl
  unfold I5
  rw[hy]; exact YN hy0
theorem I5.top {xs:List Int} (h:I5 xs) (h0:xs≠[]):1<=xs.length/\b6 xs (xs.length-1)≠0:=by
 have hl:1<=xs.length:=List.length_pos_iff.2 h0
 refine ⟨hl,?_⟩
 have h1:j7 xs≠[]:=by rw[h]; exact h0
 have h2:=KF h1
 have e:(j7 xs).getLast h1=b6 xs (xs.length-1):=by
  simp only[show j7 xs=xs from h]
  rw[List.getLast_eq_getElem]
  have:xs.length-1<xs.length:=by omega
  simp[b6,this]
 rw[<- e]; exact h2
theorem I5.neg {xs:List Int} (h:I5 xs):I5 (xs.map fun z=>-z):=by unfold I5; rw[YM,h]
theorem lI {xs:List Int} (h:b6 xs (xs.length-1)≠0):I5 xs:=by
 unfold I5
 have:=FX (xs:=xs) (m:=xs.length) (Nat.le_refl _) (fun i h1 h2=>by omega) (.inr h)
 rw[this,List.take_length]
def F9 (q r:List Int):List Int:=j4 r.length fun i=>b6 r i*(b6 q (q.length-1)*b6 q (q.length-1))+(if r.length-q.length<=i then -(b6 r (r.length-1)*b6 q (q.length-1)*b6 q (i-(r.length-q.length))) else 0)
def F8 (q r:List Int):List Int:=j7 (F9 q r)
theorem GI {q r:List Int}:(F9 q r).length=r.length:=p8
theorem nF {q r:List Int} {i:Nat} (hq:1<=q.length) (hr:q.length<=r.length) (hi:r.length-1<=i):b6 (F9 q r) i=0:=by
 by_cases h:i<r.length
 ·have e:i=r.length-1:=by omega
  subst e
  unfold F9
  rw[q9 h,if_pos zo,show r.length-1-(r.length-q.length)=q.length-1 by omega,Int.mul_assoc]; omega
 ·rw[v6 (by rw[GI]; omega)]; rfl
theorem EY {q r:List Int} (hq:1<=q.length) (hr:q.length<=r.length):(F8 q r).length<=r.length-1:=YL fun _ hi=>nF hq hr hi
def B8 (q:List Int):Nat->List Int->List Int
 | 0,r=>r
 | f+1,r=>if r.length<q.length then r else B8 q f (F8 q r)
theorem TC {q:List Int} (hq:1<=q.length):∀{f:Nat} {r:List Int},r.length<=f->B8 q f r=B8 q r.length r
 | 0,r,h=>by rw[show r.length=0 by omega]
 | f+1,r,h=>by
  by_cases hl:r.length<q.length
  ·rw[B8,if_pos hl]
   cases e:r.length with
   | zero=>rfl
   | succ m=>rw[B8,if_pos hl]
  ·have h1:=EY hq (r:=r) zo
   obtain ⟨m,hm⟩:∃m,r.length=m+1:=⟨r.length-1,by omega⟩
   rw[hm,B8,B8,if_neg hl,if_neg hl,TC hq (f:=f) zo,TC hq (f:=m) zo]
theorem ZI {q r:List Int} (h:r.length<q.length):B8 q r.length r=r:=by
 cases e:r.length with
 | zero=>rfl
 | succ m=>rw[B8,if_pos h]
theorem ZJ {q r:List Int} (hq:1<=q.length) (h:q.length<=r.length):B8 q r.length r=B8 q (F8 q r).length (F8 q r):=by
 have h1:=EY hq h
 obtain ⟨m,hm⟩:∃m,r.length=m+1:=⟨r.length-1,by omega⟩
 rw[hm,B8,if_neg zo,TC hq zo]
theorem TB {q:List Int} (hq:1<=q.length) (P:List Int->Prop) (hP:∀r,q.length<=r.length->P r->P (F8 q r)):∀{f:Nat} {r:List Int},r.length<=f->P r->P (B8 q f r)/\(B8 q f r).length<q.length
 | 0,r,h,hr=>⟨hr,by rw[B8]; omega⟩
 | f+1,r,h,hr=>by
  by_cases hl:r.length<q.length
  ·rw[B8,if_pos hl]; exact ⟨hr,hl⟩
  ·have h1:=EY hq (r:=r) zo
   rw[B8,if_neg hl]
   exact TB hq P hP zo (hP r zo hr)
def against (p q:List Int):List Int:=(B8 q p.length p).map fun z=>-z
theorem NW {q r:List Int} {X B:Nat} (hr:∀i,dl (b6 r i)<=X) (hq:∀i,dl (b6 q i)<=B) (i:Nat):dl (b6 (F9 q r) i)<=X+(2*B+1):=by
 by_cases hi:i<r.length
 ·unfold F9
  rw[q9 hi]
  have h1:=hr i
  have h2:=hr (r.length-1)
  have h3:=hq (q.length-1)
  have h4:=hq (i-(r.length-q.length))
  have m1:=s9 (b6 q (q.length-1)) (b6 q (q.length-1))
  have m2:=s9 (b6 r i) (b6 q (q.length-1)*b6 q (q.length-1))
  have m3:=s9 (b6 r (r.length-1)) (b6 q (q.length-1))
  have m4:=s9 (b6 r (r.length-1)*b6 q (q.length-1)) (b6 q (i-(r.length-q.length)))
  split
  ·have:=P3 (b6 r i*(b6 q (q.length-1)*b6 q (q.length-1))) (-(b6 r (r.length-1)*b6 q (q.length-1)*b6 q (i-(r.length-q.length))))
   rw[K4] at this
   omega
  ·rw[Int.add_zero]; omega
 ·rw[v6 (by rw[GI]; omega)]
  show dl 0<=_
  rw[C5.2 rfl]; omega
theorem KW {p q:List Int} {A B:Nat} (hq:1<=q.length) (hp:I5 p) (hA:∀i,dl (b6 p i)<=A) (hB:∀i,dl (b6 q i)<=B) (h5:p.length<=5):I5 (against p q)/\(against p q).length<q.length/\∀i,dl (b6 (against p q) i)<=A+5*(2*B+1):=by
 obtain ⟨⟨h1,h2⟩,h3⟩:=TB hq (fun r=>I5 r/\r.length<=p.length/\∀i,dl (b6 r i)<=A+(p.length-r.length)*(2*B+1)) (fun r hl ⟨_,hn,hr⟩=>by
  have e:=EY hq hl
  refine ⟨lS,by omega,fun i=>?_⟩
  unfold F8 at e ⊢
  rw[S7]
  have:=NW hr hB i
  have k:=Nat.mul_le_mul_right (2*B+1) (show p.length-r.length+1<=p.length-(j7 (F9 q r)).length by omega)
  rw[Nat.succ_mul] at k
  omega) (f:=p.length) (r:=p) (Nat.le_refl _) ⟨hp,Nat.le_refl _,fun i=>by have:=hA i; omega⟩
 refine ⟨h1.neg,by unfold against; rw[List.length_map]; exact h3,fun i=>?_⟩
 unfold against
 rw[JL,K4]
 have k:=Nat.mul_le_mul_right (2*B+1) (show p.length-(B8 q p.length p).length<=5 by omega)
 have:=h2.2 i
 omega
theorem nE {q r:List Int} (hr:q.length<=r.length):lP (F8 q r)=N8 (b6 q (q.length-1)*b6 q (q.length-1)) (b6 r (r.length-1)*b6 q (q.length-1)) (r.length-q.length) (lP r) (lP q):=by
 funext i
 unfold N8 G2
 rw[FM,FM,FM]
 unfold F8
 rw[S7]
 by_cases hi:i<r.length
 ·unfold F9
  rw[q9 hi,Int.mul_comm (b6 r i)]
  split
  ·rw[Int.sub_eq_add_neg]
  ·rw[Int.mul_zero,Int.sub_zero,Int.add_zero]
 ·rw[v6 (by rw[GI]; omega),v6 (xs:=r) zo]
  have e:b6 q (i-(r.length-q.length))=0:=v6 zo
  rw[e]
  show (0:Int)=_*0-_
  split<;>simp
theorem O6.neg {p f g:u6} (h:O6 p f g):O6 p (fun i=>-f i) g:=by
 obtain ⟨s,q1,q2,d,h1,h2,h3,h4⟩:=h
 refine ⟨s,fun i=>-1*q1 i,q2,d,h1,fun i hi=>by show -1*q1 i=0; rw[h2 i hi]; rfl,h3,fun k=>?_⟩
 have e1:(fun i=>-f i)=fun i=>-1*f i:=by funext i; omega
 rw[e1,IK,LD,h4 k]
 show _=-1*(-1*o9 q1 f k)+_
 omega
theorem O6.against {p:u6} {a b:List Int} (hb:1<=b.length) (h0:b6 b (b.length-1)≠0) (h:O6 p (lP a) (lP b)):O6 p (lP (Go.Fl.against a b)) (lP b):=by
 have:=(TB hb (fun r=>O6 p (lP r) (lP b)) (fun r hl hr=>by rw[nE hl]; exact hr.stp (Int.mul_ne_zero h0 h0)) (f:=a.length) (r:=a) (Nat.le_refl _) h).1.neg
 have e:lP (Go.Fl.against a b)=fun i=>-lP (B8 b a.length a) i:=by
  funext i
  rw[FM,FM]
  unfold Go.Fl.against
  exact JL
 rw[e]; exact this
theorem OE (l:List Int):∃B:Nat,∀i,dl (b6 l i)<=B:=by
 induction l with
 | nil=>exact ⟨0,fun i=>by rw[QP]; show dl 0<=0; rw[C5.2 rfl]; omega⟩
 | cons x l ih =>
  obtain ⟨B,hB⟩:=ih
  refine ⟨max (dl x) B,fun i=>?_⟩
  match i with
  | 0=>exact Nat.le_max_left _ _
  | i+1=>exact Nat.le_trans (hB i) (Nat.le_max_right _ _)
def F4:Nat->List Int->List Int->List (List Int)
 | 0,_,_=>[]
 | f+1,a,b=>if against a b=[] then [] else against a b::F4 f b (against a b)
def C6 (p:List Int):List Int:=j4 (p.length-1) fun i=>b6 p (i+1)*((i:Int)+1)
def v9 (p:List Int):List (List Int):=p::C6 p::F4 5 p (C6 p)
theorem TQ:∀{f:Nat} {a b:List Int} {m:Nat},b.length<=f->I5 a->I5 b->b≠[]->a.length<=5->b.length<=5->2<=m->m<=(a::b::F4 f a b).length ->
  against (b6 (a::b::F4 f a b) (m-2)) (b6 (a::b::F4 f a b) (m-1))=(if m<(a::b::F4 f a b).length then b6 (a::b::F4 f a b) m else [])/\(m<(a::b::F4 f a b).length->b6 (a::b::F4 f a b) m≠[])
 | 0,a,b,m,h,_,_,h0,_,_,_,_=>absurd (List.length_eq_zero_iff.1 zo) h0
 | f+1,a,b,m,h,ta,tb,h0,ha,hb,h2,hm=>by
  obtain ⟨B,hB⟩:∃B:Nat,∀i,dl (b6 b i)<=B:=OE b
  obtain ⟨A,hA⟩:∃A:Nat,∀i,dl (b6 a i)<=A:=OE a
  obtain ⟨r1,r2,_⟩:=KW (List.length_pos_iff.2 h0) ta hA hB ha
  rw[F4] at hm ⊢
  by_cases e:against a b=[]
  ·rw[if_pos e] at hm ⊢
   have:m=2:=by simp at hm; omega
   subst this
   exact ⟨by rw[if_neg (by simp)]; exact e,fun h=>by simp at h⟩
  ·rw[if_neg e] at hm ⊢
   by_cases h3:m=2
   ·subst h3
    exact ⟨by rw[if_pos (by simp)]; rfl,fun _=>e⟩
   ·have ih:=TQ (f:=f) (a:=b) (b:=against a b) (m:=m-1) zo tb r1 e hb zo zo (by simp at hm ⊢; omega)
    obtain ⟨n,rfl⟩:∃n,m=n+3:=⟨m-3,by omega⟩
    simp only[show n+3-1=n+2 by omega,show n+2-2=n by omega,show n+2-1=n+1 by omega,show n+3-2=n+1 by omega] at ih ⊢
    have s:∀(x:List Int) (l:List (List Int)) (k:Nat),b6 (x::l) (k+1)=b6 l k:=fun _ _ _=>rfl
    have hl:(n+3<(a::b::against a b::F4 f b (against a b)).length)=(n+2<(b::against a b::F4 f b (against a b)).length):=propext ⟨fun h=>by simp at h ⊢; omega,fun h=>by simp at h ⊢; omega⟩
    rw[s a,s a,s a]
    simp only[hl]
    exact ih
def ZU (A B:Nat):Nat->Nat
 | 0=>A
 | j+1=>ZU B (A+5*(2*B+1)) j
theorem nX:∀{f:Nat} {a b:List Int} {A B:Nat} {j:Nat},I5 a->I5 b->b≠[]->a.length<=5->b.length<a.length->(∀i,dl (b6 a i)<=A)->(∀i,dl (b6 b i)<=B)->j<(a::b::F4 f a b).length ->
  I5 (b6 (a::b::F4 f a b) j)/\(b6 (a::b::F4 f a b) j).length+j<=a.length/\∀i,dl (b6 (b6 (a::b::F4 f a b) j) i)<=ZU A B j:=by
 intro f
 induction f with
 | zero =>
  intro a b A B j ta tb h0 ha hb hA hB hj
  rw[F4] at hj ⊢
  match j,hj with
  | 0,_=>exact ⟨ta,by show a.length+0<=_; omega,hA⟩
  | 1,_=>exact ⟨tb,by show b.length+1<=_; omega,hB⟩
  | j+2,hj=>exact absurd hj (by show ¬j+2<2; omega)
 | succ f ih =>
  intro a b A B j ta tb h0 ha hb hA hB hj
  obtain ⟨r1,r2,r3⟩:=KW (List.length_pos_iff.2 h0) ta hA hB ha
  match j,hj with
  | 0,_=>exact ⟨ta,by show a.length+0<=_; omega,hA⟩
  | 1,_=>exact ⟨tb,by show b.length+1<=_; omega,hB⟩
  | j+2,hj =>
   rw[F4] at hj ⊢
   by_cases e:against a b=[]
   ·rw[if_pos e] at hj
    exact absurd (show j+2<2 from hj) zo
   ·rw[if_neg e] at hj ⊢
    have s:∀(x:List Int) (l:List (List Int)) (k:Nat),b6 (x::l) (k+1)=b6 l k:=fun _ _ _=>rfl
    have q:=ih (a:=b) (b:=against a b) (A:=B) (B:=A+5*(2*B+1)) (j:=j+1) tb r1 e zo r2 hB r3 (by simp at hj ⊢; omega)
    rw[s a]
    obtain ⟨q1,q2,q3⟩:=q
    exact ⟨q1,by omega,q3⟩
theorem ZY:∀{f:Nat} {a b:List Int} {p:u6},b.length<=f->I5 a->I5 b->b≠[]->a.length<=5->b.length<=5->O6 p (lP a) (lP b)->∃e l,a::b::F4 f a b=l++[e]/\I5 e/\e≠[]/\e.length<=b.length/\O6 p (lP []) (lP e)
 | 0,a,b,p,h,_,_,h0,_,_,_=>absurd (List.length_eq_zero_iff.1 zo) h0
 | f+1,a,b,p,h,ta,tb,h0,ha,hb,hk=>by
  obtain ⟨B,hB⟩:=OE b
  obtain ⟨A,hA⟩:=OE a
  obtain ⟨t1,t2⟩:=tb.top h0
  obtain ⟨r1,r2,_⟩:=KW t1 ta hA hB ha
  have hk2:=hk.against t1 t2
  rw[F4]
  by_cases e:against a b=[]
  ·rw[if_pos e]
   rw[e] at hk2
   exact ⟨b,[a],rfl,tb,h0,Nat.le_refl _,hk2⟩
  ·rw[if_neg e]
   obtain ⟨x,l,q1,q2,q3,q4,q5⟩:=ZY (f:=f) (a:=b) (b:=against a b) (p:=p) zo tb r1 e hb zo hk2.swap
   exact ⟨x,a::l,by rw[q1]; rfl,q2,q3,by omega,q5⟩
def A5 (st:Nat×Int) (s:Int):Nat×Int:=(if s*st.2<0 then st.1+1 else st.1,if s≠0 then s else st.2)
def D7 (l:List Int):Nat×Int:=l.foldl A5 (0,0)
theorem aD {l:List Int} {k:Nat} (hk:k<l.length):D7 (l.take (k+1))=A5 (D7 (l.take k)) (b6 l k):=by
 unfold D7
 rw[V5 hk,List.foldl_append]; rfl
theorem OH {l:List Int}:(D7 l).1<=l.length:=by
 have key:∀(l:List Int) (st:Nat×Int),(l.foldl A5 st).1<=st.1+l.length:=by
  intro l
  induction l with
  | nil=>intro st; exact Nat.le_refl _
  | cons s l ih =>
   intro st
   rw[List.foldl_cons]
   have:=ih (A5 st s)
   have h1:(A5 st s).1<=st.1+1:=by unfold A5; simp only; split<;>omega
   rw[List.length_cons]; omega
 have:=key l (0,0)
 unfold D7
 omega
theorem aB:∀{l:List Int} {st:Nat×Int},(∀s∈l,s=-1\/s=0\/s=1)->(st.2=-1\/st.2=1)->((l.foldl A5 st).2=-1\/(l.foldl A5 st).2=1)/\(((l.foldl A5 st).1+st.1)%2=0↔(l.foldl A5 st).2=st.2)
 | [],st,_,h=>⟨h,⟨fun _=>rfl,fun _=>by simp only[List.foldl_nil]; omega⟩⟩
 | s::l,st,hs,h=>by
  rw[List.foldl_cons]
  have hs1:=hs s List.mem_cons_self
  have h2:(A5 st s).2=-1\/(A5 st s).2=1:=by unfold A5; simp only; split<;>omega
  obtain ⟨q1,q2⟩:=aB (l:=l) (st:=A5 st s) (fun x hx=>hs x (List.mem_cons_of_mem _ hx)) h2
  refine ⟨q1,?_⟩
  have h3:((A5 st s).1=st.1/\(A5 st s).2=st.2)\/((A5 st s).1=st.1+1/\(A5 st s).2=-st.2):=by
   unfold A5; simp only
   rcases hs1 with rfl | rfl | rfl
   ·rcases h with e | e
    ·rw[e]; left; simp
    ·rw[e]; right; simp
   ·left; simp
   ·rcases h with e | e
    ·rw[e]; right; simp
    ·rw[e]; left; simp
  generalize (List.foldl A5 (A5 st s) l).1=n at *
  generalize (List.foldl A5 (A5 st s) l).2=v at *
  rcases h3 with ⟨e1,e2⟩ | ⟨e1,e2⟩<;>rw[e1,e2] at q2<;>omega
theorem oA {s e:Int} {l:List Int} (hs:s=-1\/s=1) (he:e=-1\/e=1) (hl:∀x∈l,x=-1\/x=0\/x=1) (hlast:s::l=[s]/\e=s\/∃l',s::l=l'++[e]):(D7 (s::l)).1%2=0↔e=s:=by
 have h0:A5 (0,0) s=(0,s):=by unfold A5; simp only[Int.mul_zero]; rcases hs with rfl | rfl<;>rfl
 unfold D7
 rw[List.foldl_cons,h0]
 obtain ⟨q1,q2⟩:=aB (st:=(0,s)) hl hs
 have hv:(l.foldl A5 (0,s)).2=e:=by
  rcases hlast with ⟨h1,h2⟩ | ⟨l',h1⟩
  ·have:l=[]:=by simpa using h1
   subst this; exact h2.symm
  ·rcases List.eq_nil_or_concat l with rfl | ⟨l2,x,rfl⟩
   ·have:l'=[]/\s=e:=by
     have hlen:=congrArg List.length h1
     simp at hlen
     subst hlen
     simp at h1
     exact ⟨rfl,h1⟩
    exact this.2
   ·rw[List.concat_eq_append] at h1 ⊢
    have hx:x=e:=by
     have h2:(s::l2++[x]).getLast?=(l'++[e]).getLast?:=congrArg List.getLast? h1
     rw[List.getLast?_concat,List.getLast?_concat] at h2
     exact Option.some.inj h2
    subst hx
    rw[List.foldl_append]
    show (A5 _ x).2=x
    unfold A5
    simp only
    rw[if_pos zo]
 rw[hv] at q2
 simpa using q2
def K8 (p:List Int) (a b:Int):List Int:=(v9 p).map fun q=>s8 (v8 a b q).1
theorem Q9 {p:List Int}:(C6 p).length=p.length-1:=p8
theorem PD {p:List Int} {i:Nat} (h:i<p.length-1):b6 (C6 p) i=b6 p (i+1)*((i:Int)+1):=q9 h
section
variable {p:List Int} (h3:3<=p.length) (h5:p.length<=5) (h1:b6 p (p.length-1)=1) (hs:∀i,(b6 p i).natAbs<=1000)
include h3 h5 h1
theorem PE:I5 p/\I5 (C6 p)/\C6 p≠[]:=by
 refine ⟨lI zo,lI ?_,fun e=>?_⟩
 ·rw[Q9,PD zo,show p.length-1-1+1=p.length-1 by omega,h1]; omega
 ·have:=congrArg List.length e
  rw[Q9] at this
  simp at this; omega
include hs
theorem dF:(∀i,dl (b6 p i)<=1)/\∀i,dl (b6 (C6 p) i)<=1:=by
 refine ⟨fun i=>O3 (by have:=hs i; have:=h3; have:=h1; simp[BP]; omega),fun i=>?_⟩
 by_cases hi:i<p.length-1
 ·rw[PD hi]
  have h2:(b6 p (i+1)*((i:Int)+1)).natAbs<=1000*5:=L9 (hs _) zo
  exact O3 (by simp[BP]; omega)
 ·rw[v6 (by rw[Q9]; omega)]; show dl 0<=1; rw[C5.2 rfl]; omega
theorem CS {j:Nat} (hj:j<(v9 p).length):I5 (b6 (v9 p) j)/\(b6 (v9 p) j).length+j<=p.length/\∀i,dl (b6 (b6 (v9 p) j) i)<=1681:=by
 obtain ⟨t1,t2,t3⟩:=PE h3 h5 h1
 obtain ⟨d1,d2⟩:=dF h3 h5 h1 hs
 have hj':j<(p::C6 p::F4 5 p (C6 p)).length:=hj
 obtain ⟨q1,q2,q3⟩:=nX (f:=5) (A:=1) (B:=1) t1 t2 t3 h5 (by rw[Q9]; omega) d1 d2 hj'
 refine ⟨q1,q2,fun i=>Nat.le_trans (q3 i) ?_⟩
 have:j<=5:=by omega
 by_cases h:j=5
 ·have hl:(b6 (p::C6 p::F4 5 p (C6 p)) j)=[]:=List.length_eq_zero_iff.1 zo
  exfalso
  have hn:=(TQ (f:=5) (a:=p) (b:=C6 p) (m:=j) (by rw[Q9]; omega) t1 t2 t3 h5 (by rw[Q9]; omega) zo zo).2 hj'
  exact hn hl
 ·rcases (show j=0\/j=1\/j=2\/j=3\/j=4 by omega) with rfl | rfl | rfl | rfl | rfl<;>decide
omit hs in
theorem II {m:Nat} (h2:2<=m) (hm:m<=(v9 p).length):against (b6 (v9 p) (m-2)) (b6 (v9 p) (m-1))=(if m<(v9 p).length then b6 (v9 p) m else [])/\(m<(v9 p).length->b6 (v9 p) m≠[]):=by
 obtain ⟨t1,t2,t3⟩:=PE h3 h5 h1
 exact TQ (f:=5) (by rw[Q9]; omega) t1 t2 t3 h5 (by rw[Q9]; omega) h2 hm
omit hs in
theorem OG {m:Nat} (hm:m<(v9 p).length):b6 (v9 p) m≠[]:=by
 obtain ⟨t1,t2,t3⟩:=PE h3 h5 h1
 match m,hm with
 | 0,_=>show p≠[]; intro e; rw[e] at h3; simp at h3
 | 1,_=>exact t3
 | m+2,hm=>exact (II h3 h5 h1 zo zo).2 hm
theorem ZX:(v9 p).length<=5:=by
 refine Classical.byContradiction fun hn=>?_
 have q:=(CS h3 h5 h1 hs (j:=5) zo).2.1
 exact OG h3 h5 h1 (m:=5) zo (List.length_eq_zero_iff.1 zo)
omit hs in
theorem ae7 (hred:¬GD (lP p) (p.length-1)) {lo hi den:Int} (hd:0<den) (hr:((D7 (K8 p lo den)).1:Int)-(D7 (K8 p hi den)).1=1):s8 (A3 p lo den)*s8 (A3 p hi den)<0:=by
 obtain ⟨t1,t2,t3⟩:=PE h3 h5 h1
 have hP1:lP p (p.length-1)=1:=by rw[FM,h1]
 have hbk:O6 (lP p) (lP p) (lP (C6 p)):=by
  refine ⟨1,AQ,P7,0,by decide,fun i hi=>by unfold AQ; rw[if_neg zo],fun i hi=>rfl,fun k=>?_⟩
  rw[OM,FC]; unfold P7; omega
 obtain ⟨e,l,q1,q2,q3,q4,q5⟩:=ZY (f:=5) (by rw[Q9]; omega) t1 t2 t3 h5 (by rw[Q9]; omega) hbk
 obtain ⟨e1,e2⟩:=q2.top q3
 rw[Q9] at q4
 have hel:e.length=1:=by
  refine Classical.byContradiction fun hn=>hred (UN zo zo JG hP1 ?_)
  obtain ⟨s,g1,g2,d,s0,dg1,dg2,hs⟩:=q5
  refine ⟨s,lP e,g2,e.length-1,d,s0,by omega,by omega,JG,by rw[FM]; exact e2,dg2,fun k=>?_⟩
  have hn:o9 g1 (lP [])=P7:=by
   have:lP []=P7:=by funext i; rw[FM]; rfl
   rw[this,IJ,FC]
  rw[hs k,hn,IJ (f:=lP e)]
  unfold P7; omega
 obtain ⟨c,rfl⟩:∃c,e=[c]:=List.length_eq_one_iff.1 hel
 have hc:c≠0:=e2
 have hcv:∀a b:Int,(v8 a b [c]).1=c:=fun a b=>by simp[v8]
 have hhv:∀a:Int,A3 p a den=(v8 a den p).1:=fun a=>(LW (a:=a) (b:=den) (cs:=p)).2.symm
 have hnr:∀a:Int,A3 p a den≠0:=fun a=>gO zo zo JG hP1 hred hd
 have sg1:∀z:Int,s8 z=-1\/s8 z=0\/s8 z=1:=fun z=>by rcases Z5 z with h | h | h<;>omega
 have sg2:∀z:Int,z≠0->s8 z=-1\/s8 z=1:=fun z hz=>by rcases Z5 z with h | h | h<;>omega
 have key:∀a:Int,(D7 (K8 p a den)).1%2=0↔s8 c=s8 (A3 p a den):=fun a=>by
  have hsl:K8 p a den=s8 (A3 p a den)::((C6 p::F4 5 p (C6 p)).map fun q=>s8 (v8 a den q).1):=by rw[hhv]; rfl
  rw[hsl]
  refine oA (sg2 _ (hnr a)) (sg2 _ hc) (fun x hx=>?_) (.inr ⟨l.map fun q=>s8 (v8 a den q).1,?_⟩)
  ·obtain ⟨q,_,rfl⟩:=List.mem_map.1 hx
   exact sg1 _
  ·rw[<- hsl]
   unfold K8 v9
   rw[q1,List.map_append,List.map_cons,List.map_nil,hcv]
 have k1:=key lo
 have k2:=key hi
 have a1:=sg2 _ (hnr lo)
 have a2:=sg2 _ (hnr hi)
 have a3:=sg2 _ hc
 have hne:s8 (A3 p lo den)≠s8 (A3 p hi den):=fun e=>by
  rw[e] at k1
  by_cases q:s8 c=s8 (A3 p hi den)
  ·have:=k1.2 q; have:=k2.2 q; omega
  ·have u1:¬(D7 (K8 p lo den)).1%2=0:=fun h=>q (k1.1 h)
   have u2:¬(D7 (K8 p hi den)).1%2=0:=fun h=>q (k2.1 h)
   omega
 rcases a1 with e1 | e1<;>rcases a2 with e2 | e2<;>rw[e1,e2]<;>first | decide | exact absurd (e1.trans e2.symm) hne
end
end Go.Fl

/- Contracts: values of polynomials, divisors. -/
namespace Go.Fl
open Go Go.Proofs
open b8 renaming op->tO
open j1 renaming op->rO
set_option maxRecDepth 100000

open Classical in
noncomputable def PF (n:Int) (q:Int->Bool) (m:Nat):Bool:=if AC n q m then true else false
theorem PG {n:Int} {q:Int->Bool} {m:Nat}:PF n q m=true↔AC n q m:=by unfold PF; split<;>simp_all
theorem tG {n:Int} {q:Int->Bool} {m:Nat} (h:¬AC n q m):PF n q m=false:=if_neg h
theorem tP {n:Int} {q:Int->Bool} {m:Nat} (h:¬AC n q m) (h2:¬((m:Int)∣n/\(q m=true\/q (-(m:Int))=true))):¬AC n q (m+1):=fun ⟨d,h3,h4,h5,h6⟩=>by
 by_cases e:d=m
 ·subst e; exact h2 ⟨h5,h6⟩
 ·exact h ⟨d,h3,by omega,h5,h6⟩
theorem PK {p:List Int} {x:Int} (hp:∀i,(b6 p i).natAbs<=1000) (hx:x.natAbs<=1001) (h5:p.length<=5) {k:Nat} (hk:k<=p.length):-1020000000000000<=W0 p x k/\W0 p x k<=1020000000000000:=by
 have h1:=dQ hp hx hk
 have h2:1002 ^ k<=1002 ^ 5:=Nat.pow_le_pow_right zo zo
 have h3:(1002:Nat) ^ 5=1010040080080032:=by decide
 omega
theorem qM (p:List Int) (x:Int) (h5:p.length<=5) (hs:∀i,(b6 p i).natAbs<=1000) (hx:x.natAbs<=1001):Ct Tryz.prog 211 [b7 (eL eI) p,kI x] (kI (J7 p x)):=by
 refine CtM.mk Tryz.func211 rfl Tryz.ntmps211 rfl (fun w J=>?_); refine g9 ?_; refine jb 3 rfl ?_; refine l8 ?_; refine ja 5 ?_; refine j6 ?_; refine tO (i6 (fun hp=>pJ _) (.a rfl uu<|.nil)) rfl rfl ?_; refine i7 ?_
 refine Tr.back (e:=eI) (xs:=p) nO [⟨3,true,_,_⟩,⟨4,true,_,_⟩,⟨5,true,_,_⟩,⟨9,true,_,_⟩] [3,5] (fun k=>[⟨3,[],j5 [kI x]⟩,⟨5,[],j5 [kI (W0 p x k)]⟩]) (fun k=>[⟨3,[],j5 [kI x]⟩,⟨5,[],j5 [kI (W0 p x k)]⟩]) (fun k=>True) (fun k=>False) (d6.mk (.k rfl rfl<|.k rfl rfl<|.k rfl rfl<|.k rfl rfl<|.nil) (.k rfl<|.e (by rw[PL]) rfl<|.nil) rfl) rfl rfl (fun _=>rfl) (fun _=>rfl) (fun _=>inferInstance) (fun _=>inferInstance) rfl zi ?_ ?_ ?_
 ·intro k hk9 hR9 l9 w9 J9 b9 bks9
  refine jn ?_
  have hb1:=PK hs hx h5 (k:=k) zo
  have hb2:=PK hs hx h5 (k:=k+1) zo
  rw[LN zo] at hb2
  have hb3:=hs (p.length-1-k)
  refine i7 ?_; refine g6.asg (fun w1009 J1009 b1009=>?_); refine jn ?_; refine u5 ?_; exact g6.rnd trivial (d6.mk (zk) (.k rfl<|.e (by rw[LN zo]) rfl<|.nil) rfl)
 ·intro hE9
  refine je ?_; refine m8 ?_; refine d9.mk ?_; exact d9.res1 (fn:=Tryz.f211) rfl (.i rfl (by rw[dR])<|.nil)
 ·intro k hk9 hX9
  exact absurd hX9 id

theorem aW (n:Int) (f:Int->Bool) (hn:n.natAbs<=1000) (h0:n≠0):Ct Tryz.prog 209 [kI n,JC Tryz.prog (fun x:Int=>x∣n) (fun x:Int=>[kI x]) (fun x:Int=>kB (f x))] (kB (PF n f (n.natAbs+1))):=by
 refine Ct.mk Tryz.func209 rfl Tryz.ntmps209 rfl (fun w J=>?_); refine y7 ?_
 refine Tr.for1 (σ:=Nat) [⟨0,true,_,_⟩,⟨1,true,_,_⟩] [] (fun k=>[⟨5,true,[],kI (k:Int)⟩]) (fun k=>[]) (fun k=>(1<=k/\k<=n.natAbs+1)/\¬AC n f k) (fun k=>¬AC n f (n.natAbs+1)) (fun k=>n.natAbs+1-k) (1) ⟨by omega,fun ⟨d,h1,h2,_⟩=>by omega⟩ (d6.mk (.i rfl zi<|zk) (.nil) rfl) ?_ ?_
 ·rintro k ⟨hk,hR⟩
  refine jn ?_; refine l6 ?_; refine tO (EF rfl uu (fun _=>zo)) rfl rfl ?_; refine tO (iA rfl uu rfl uu) rfl rfl ?_; refine i7 ?_; refine jq ?_ ?_
  ·intro h2
   refine j3 ?_; refine tO (EH rfl uu rfl uu (fun _=>zo)) rfl rfl ?_; refine g8 ?_; refine b8.gd rfl rfl rfl (WV (k:Int) rfl id (fun hp=>by simp at hp; exact Int.dvd_of_tmod_eq_zero hp) (.a rfl id<|.nil)) rfl rfl ?_; refine i7 ?_; refine b8.gd rfl rfl rfl (EF rfl id (fun hp=>by simp at hp; omega)) rfl rfl ?_; refine b8.gd rfl rfl rfl (WV (-(k:Int)) rfl id (fun hp=>by have hp:=uC hp; simp at hp; exact Int.neg_dvd.2 (Int.dvd_of_tmod_eq_zero hp)) (.a rfl id<|.nil)) rfl rfl ?_; refine b8.gd rfl rfl rfl (HH rfl id rfl (fun hp h=>GS (id hp) h)) rfl rfl ?_
   refine i7 ?_; refine Tr.cnd rfl ?_ ?_
   ·intro h4
    simp only[Bool.and_eq_true,Bool.or_eq_true,decide_eq_true_eq] at h4
    have hyes:AC n f (n.natAbs+1):=⟨k,hk.1,by omega,Int.dvd_of_tmod_eq_zero h4.1,h4.2⟩
    refine u9 ?_; exact d9.res1 (fn:=Tryz.f209) rfl (.b rfl (PG.2 hyes).symm<|.nil)
   ·intro h4
    have hno:¬((k:Int)∣n/\(f k=true\/f (-(k:Int))=true)):=fun ⟨q1,q2⟩=>by rw[decide_eq_true (Int.tmod_eq_zero_of_dvd q1)] at h4; rcases q2 with q2 | q2<;>simp[q2] at h4
    refine j3 ?_
    exact g6.lp (k+1) ⟨by omega,tP hR hno⟩ zo (d6.mk (.i rfl zi<|zk) (.nil) rfl)
  ·intro h2
   replace h2:=Int.not_le.1 h2
   refine g8 ?_
   exact g6.cut (k) (by have:k=n.natAbs+1:=(by split at h2<;>omega); rw[<- this]; exact hR) (d6.mk (.i rfl zi<|zk) (.nil) rfl)
 ·intro k hE
  refine je ?_; refine j6 ?_; exact d9.res1 (fn:=Tryz.f209) rfl (.b rfl (tG hE).symm<|.nil)

theorem pS (p:List Int) (x:Int) (h5:p.length<=5) (hs:∀i,(b6 p i).natAbs<=1000) (hx:x.natAbs<=1001):Ct Tryz.prog 210 [kI x,s6 (eL eI) p] (kB (decide (J7 p x=0))):=by
 refine Ct.mk Tryz.func210 rfl Tryz.ntmps210 rfl (fun w J=>?_); refine m8 ?_; refine jc (qM p x h5 hs hx) ?_; refine l8 ?_
 exact d9.res1 (fn:=Tryz.f210) rfl (.b rfl zi<|.nil)

theorem pT (p:List Int) (b:Int) (h5:p.length=5) (hs:∀i,(b6 p i).natAbs<=1000) (h0:b6 p 0≠0) (hb:b∣b6 p 0):Ct Tryz.prog 212 [kI b,s6 (eL eI) p] (kB (CD p b)):=by
 obtain ⟨d,hd⟩:=hb
 have hb0:b≠0:=fun e=>h0 (by rw[hd,e,Int.zero_mul])
 have hd0:d≠0:=fun e=>h0 (by rw[hd,e,Int.mul_zero])
 have hs0:=hs 0
 have hs1:=hs 1
 have hs2:=hs 2
 have hs3:=hs 3
 have hbb:=(IV (⟨d,hd⟩:b∣b6 p 0) h0).2
 have hdd:=(IV (⟨b,by rw[hd,Int.mul_comm]⟩:d∣b6 p 0) h0).2
 have hq:(b6 p 0).tdiv b=d:=by rw[hd,Int.mul_tdiv_cancel_left _ hb0]
 have hm3:(b*b6 p 3).natAbs<=1000*1000:=L9 zo zo
 refine Ct.mk Tryz.func212 rfl Tryz.ntmps212 rfl (fun w J=>?_); refine j3 ?_; refine tO (F2 (i:=0) rfl uu rfl uu rfl (fun _=>zo)) rfl rfl ?_; refine g9 ?_; refine tO (BY rfl uu rfl uu (fun _=>zo)) rfl rfl ?_
 rw[hq]
 refine y7 ?_; refine jq ?_ ?_
 ·intro h2
  have hne:d-b≠0:=by omega
  have hAb:((b6 p 1-b*b6 p 3).tdiv (d-b)).natAbs<=1001000:=by rw[Int.natAbs_tdiv]; exact Nat.le_trans (Nat.div_le_self _ _) zo
  have hAm:(((b6 p 1-b*b6 p 3).tdiv (d-b))*(b6 p 3-((b6 p 1-b*b6 p 3).tdiv (d-b)))).natAbs<=1001000*1002000:=L9 hAb zo
  have hqn:=yV hb0 hd hne
  refine i4 ?_; refine Tr.draw 8 n8 (by kernel_rfl) ?_; refine i4 ?_; refine rO (F2 (i:=1) rfl uu rfl uu rfl (fun _=>zo)) rfl rfl ?_; refine i7 ?_; refine rO (F2 (i:=3) rfl uu rfl uu rfl (fun _=>zo)) rfl rfl ?_; refine D2 ?_; refine tO (BY rfl uu rfl uu (fun _=>zo)) rfl rfl ?_; refine g8 ?_; refine Tr.draw 21 n8 (by kernel_rfl) ?_; refine g8 ?_; refine rO (EH rfl uu rfl uu (fun _=>zo)) rfl rfl ?_; refine g8 ?_; refine j1.gd rfl rfl rfl (HE rfl id rfl id (fun hp=>by simp at hp; omega)) rfl rfl ?_; refine g9 ?_
  refine j1.gd rfl rfl rfl (F2 (i:=3) rfl id rfl uu rfl (fun _=>zo)) rfl rfl ?_; refine g9 ?_; refine j1.gd rfl rfl rfl (AP rfl id rfl id (fun hp=>by simp at hp; omega)) rfl rfl ?_; refine j1.gd rfl rfl rfl (EE rfl id rfl id (fun hp=>by simp at hp; omega)) rfl rfl ?_; refine j1.gd rfl rfl rfl (HE rfl id rfl id (fun hp=>by simp at hp; omega)) rfl rfl ?_; refine i4 ?_; refine j1.gd rfl rfl rfl (F2 (i:=2) rfl id rfl uu rfl (fun _=>zo)) rfl rfl ?_; refine m8 ?_; exact d9.res1 (fn:=Tryz.f212) rfl (.b rfl (by rw[hqn])<|.nil)
 ·intro h2
  replace h2:=Classical.not_not.1 h2
  have hdb:d=b:=by omega
  subst hdb
  refine g8 ?_; refine Tr.draw 8 n8 (by kernel_rfl) ?_; refine i4 ?_; refine rO (F2 (i:=1) rfl uu rfl uu rfl (fun _=>zo)) rfl rfl ?_; refine i7 ?_; refine rO (F2 (i:=3) rfl uu rfl uu rfl (fun _=>zo)) rfl rfl ?_; refine l6 ?_; refine jq ?_ ?_
  ·intro h6
   have hcase:b6 p 1≠d*b6 p 3:=h6
   refine j6 ?_; exact d9.res1 (fn:=Tryz.f212) rfl (.b rfl (by rw[yS hb0 hd hcase])<|.nil)
  ·intro h6
   replace h6:=Classical.not_not.1 h6
   have hcase:b6 p 1=d*b6 p 3:=by omega
   refine j3 ?_
   refine Tr.for1 (σ:=Nat) [⟨0,true,_,_⟩,⟨1,true,_,_⟩] [] (fun k=>[⟨7,true,[],kI ((k:Int)-3000)⟩]) (fun k=>[]) (fun k=>k<=6001/\∀j:Nat,j<k->((j:Int)-3000)*((j:Int)-3000)-b6 p 3*((j:Int)-3000)+b6 p 2-2*d≠0) (fun k=>∀j:Nat,j<6001->((j:Int)-3000)*((j:Int)-3000)-b6 p 3*((j:Int)-3000)+b6 p 2-2*d≠0) (fun k=>6001-k) (0) ⟨by omega,fun j h=>absurd h (Nat.not_lt_zero _)⟩ (d6.mk (.i rfl zi<|zk) (.nil) rfl) ?_ ?_
   ·rintro k ⟨hk,hR⟩
    refine jn ?_
    have m1:(((k:Int)-3000)*((k:Int)-3000)).natAbs<=3002*3002:=L9 zo zo
    have m2:(b6 p 3*((k:Int)-3000)).natAbs<=1000*3002:=L9 zo zo
    refine j6 ?_; refine jq ?_ ?_
    ·intro h9
     refine l8 ?_; refine Tr.draw 15 n8 (by kernel_rfl) ?_; refine g8 ?_; refine rO (F2 (i:=3) rfl uu rfl uu rfl (fun _=>zo)) rfl rfl ?_; refine l8 ?_; refine rO (F2 (i:=2) rfl uu rfl uu rfl (fun _=>zo)) rfl rfl ?_; refine m8 ?_; refine jq ?_ ?_
     ·intro h11
      have hyes:=yT hd hcase (a:=(k:Int)-3000) zo
      refine u9 ?_; exact d9.res1 (fn:=Tryz.f212) rfl (.b rfl (by rw[hyes])<|.nil)
     ·intro h11
      have hno:((k:Int)-3000)*((k:Int)-3000)-b6 p 3*((k:Int)-3000)+b6 p 2-2*d≠0:=by omega
      refine j3 ?_
      exact g6.lp (k+1) ⟨by omega,fun j hj=>by by_cases e:j=k; (subst e; exact hno); exact hR j zo⟩ zo (d6.mk (.i rfl zi<|zk) (.nil) rfl)
    ·intro h9
     replace h9:=Int.not_le.1 h9
     refine g8 ?_
     exact g6.cut (k) (fun j hj=>hR j zo) (d6.mk (.i rfl zi<|zk) (.nil) rfl)
   ·intro k hE
    refine je ?_; refine j6 ?_; exact d9.res1 (fn:=Tryz.f212) rfl (.b rfl (by rw[yW hb0 hd hs0 hs2 hs3 (fun a h1 h2=>by have:=hE (a+3000).toNat zo; rw[show (((a+3000).toNat:Nat):Int)-3000=a by omega] at this; exact this)])<|.nil)

theorem pR (p:List Int) (h2:2<=p.length) (h5:p.length<=5) (hs:∀i,(b6 p i).natAbs<=1000):Ct Tryz.prog 188 [b7 (eL eI) p] (kB (X2 p)):=by
 have hs0:=hs 0
 refine Ct.mk Tryz.func188 rfl Tryz.ntmps188 rfl (fun w J=>?_); refine g9 ?_; refine jb 1 rfl ?_; refine g8 ?_; refine Tr.frzB 1 [1] (eL eI) ⟨rfl,trivial⟩ rfl ?_; refine jn ?_; refine S6 ?_; refine Tr.cnd rfl ?_ ?_
 ·intro h2
  try simp only[decide_eq_true_eq] at h2
  have hr:=JY (p:=p) (fun e=>e.1 zo)
  refine j3 ?_; exact d9.res1 (fn:=Tryz.f188) rfl (.b rfl (by rw[hr])<|.nil)
 ·intro h2
  try simp only[decide_eq_false_iff_not] at h2
  have hl3:3<=p.length:=by omega
  refine i7 ?_; refine tO (F2 (i:=0) rfl uu rfl uu rfl (fun _=>zo)) rfl rfl ?_; refine l8 ?_; refine Tr.cnd rfl ?_ ?_
  ·intro h4
   try simp only[decide_eq_true_eq] at h4
   have hr:=JZ (p:=p) ⟨by omega,.inl ⟨0,by rw[XS zo]; exact h4⟩⟩
   refine j3 ?_; exact d9.res1 (fn:=Tryz.f188) rfl (.b rfl (by rw[hr])<|.nil)
  ·intro h4
   try simp only[decide_eq_false_iff_not] at h4
   have hp0:b6 p 0≠0:=h4
   have hrp:=zL hl3 hp0
   refine i7 ?_; refine tO (F2 (i:=0) rfl uu rfl uu rfl (fun _=>zo)) rfl rfl ?_; refine i4 ?_; refine tO (FP (.cons rfl uu<|.nil)) rfl rfl ?_; refine tO (i6 (fun hp=>aW (b6 p 0) (fun d=>decide (J7 p d=0)) hs0 hp0) (.a rfl uu<|.cons rfl uu (fun g u h=>QA (fun a ha=>pS p a h5 hs (by have:=(IV ha hp0).2; omega)) g u h)<|.nil)) rfl rfl ?_; refine i7 ?_; refine Tr.cnd rfl ?_ ?_
   ·intro h6
    have hr:=JZ (hrp.2 (.inl (PG.1 h6)))
    refine j3 ?_; exact d9.res1 (fn:=Tryz.f188) rfl (.b rfl (by rw[hr])<|.nil)
   ·intro h6
    have hn6:¬AC (b6 p 0) (fun d=>decide (J7 p d=0)) ((b6 p 0).natAbs+1):=fun e=>by rw[PG.2 e] at h6; cases h6
    refine j6 ?_; refine Tr.cnd rfl ?_ ?_
    ·intro h8
     try simp only[decide_eq_true_eq] at h8
     have hr:=JY (fun e=>(hrp.1 e).elim hn6 (fun e=>by omega))
     refine j3 ?_; exact d9.res1 (fn:=Tryz.f188) rfl (.b rfl (by rw[hr])<|.nil)
    ·intro h8
     try simp only[decide_eq_false_iff_not,Int.not_lt] at h8
     have hl5:p.length=5:=by omega
     refine l6 ?_; refine tO (F2 (i:=0) rfl uu rfl uu rfl (fun _=>zo)) rfl rfl ?_; refine i4 ?_; refine tO (FP (.cons rfl uu<|.nil)) rfl rfl ?_; refine tO (i6 (fun hp=>aW (b6 p 0) (CD p) hs0 hp0) (.a rfl uu<|.cons rfl uu (fun g u h=>QA (fun a ha=>pT p a hl5 hs hp0 ha) g u h)<|.nil)) rfl rfl ?_; refine g8 ?_; exact d9.res1 (fn:=Tryz.f188) rfl (.b rfl (by rw[Bool.eq_iff_iff,PG]; constructor; (intro e; exact JZ (hrp.2 (.inr ⟨hl5,e⟩))); (intro e; by_cases e2:DM p; (exact ((hrp.1 e2).resolve_left hn6).2); (rw[JY e2] at e; cases e)))<|.nil)

end Go.Fl

/- Contracts: derivatives and remainders of polynomials. -/
namespace Go.Fl
open Go Go.Proofs
open b8 renaming op->tO
open j1 renaming op->rO
set_option maxRecDepth 100000

theorem dG {p:List Int} {k:Nat} (h1:1<=k) (hk:k<p.length):(C6 p).take (k-1)++[b6 p k*(k:Int)]=(C6 p).take k:=by
 obtain ⟨j,rfl⟩:∃j,k=j+1:=⟨k-1,by omega⟩
 rw[Nat.add_sub_cancel,V5 (xs:=C6 p) (by rw[Q9]; omega),PD zo]
 congr 3
def I7 (q ys:List Int) (m k:Nat):List Int:=j4 ys.length fun i=>if i<k then b6 (F9 q (ys.take m)) i else b6 ys i
theorem NV {q ys:List Int} {m k:Nat}:(I7 q ys m k).length=ys.length:=p8
theorem nD {q ys:List Int} {m:Nat}:ys=I7 q ys m 0:=by
 conv=>lhs; rw[T2 (rfl:ys.length=ys.length)]
 exact C9 fun i _=>(if_neg (Nat.not_lt_zero _)).symm
theorem nA {q ys:List Int} {m k:Nat} (hk:k<ys.length):b6 (I7 q ys m k) k=b6 ys k:=by unfold I7; rw[q9 hk,if_neg (Nat.lt_irrefl _)]
theorem ZK {q ys:List Int} {m k:Nat} {x:Int} (hx:x=b6 (F9 q (ys.take m)) k):(I7 q ys m k).set k x=I7 q ys m (k+1):=by
 subst hx
 unfold I7
 rw[FW]
 refine C9 fun i _=>?_
 by_cases e:i=k
 ·subst e; rw[if_pos rfl,if_pos zo]
 ·rw[if_neg e]
  by_cases h:i<k
  ·rw[if_pos h,if_pos zo]
  ·rw[if_neg h,if_neg zo]
theorem nB {q ys:List Int} {m k:Nat} {x y:Int} (hx:x=b6 (F9 q (ys.take m)) k):((I7 q ys m k).set k y).set k x=I7 q ys m (k+1):=by
 rw[List.set_set]; exact ZK hx
theorem IF {q ys:List Int} {m:Nat} (hm:m<=ys.length):(I7 q ys m m).take m=F9 q (ys.take m):=by
 have hl:(ys.take m).length=m:=by rw[List.length_take]; omega
 have h1:((I7 q ys m m).take m).length=m:=by rw[List.length_take,NV]; omega
 refine D1 (by rw[h1,GI,hl]) fun i hi=>?_
 rw[h1] at hi
 rw[P8 hi]
 unfold I7
 rw[q9 zo,if_pos hi]
theorem ZL {q ys:List Int} {m k:Nat} (hm:m<=ys.length) (hk:k<m):b6 (F9 q (ys.take m)) k=b6 ys k*(b6 q (q.length-1)*b6 q (q.length-1))+(if m-q.length<=k then -(b6 ys (m-1)*b6 q (q.length-1)*b6 q (k-(m-q.length))) else 0):=by
 have hl:(ys.take m).length=m:=by rw[List.length_take]; omega
 unfold F9
 rw[hl,q9 hk,P8 hk,P8 (show m-1<m by omega)]
theorem nH {q ys:List Int} {m:Nat} (hm:m<=ys.length):(I7 q ys m m).take (j7 ((I7 q ys m m).take m)).length=F8 q (ys.take m):=by
 rw[IF hm]
 have h1:(j7 (F9 q (ys.take m))).length<=m:=by
  have:=R8 (xs:=F9 q (ys.take m))
  rw[GI,List.length_take] at this
  omega
 have h2:=HP (xs:=F9 q (ys.take m))
 rw[<- IF hm,List.take_take,Nat.min_eq_left (by rw[IF hm]; exact h1),IF hm] at h2
 exact h2
theorem cR {ys:List Int} {m j:Nat} (hm:m<=ys.length) (hj:j<=m) (hR:∀i,j<=i->i<m->b6 ys i=0) (hnz:¬(0<j/\b6 ys (j-1)=0)):(j7 (ys.take m)).length=j:=by
 have hlm:(ys.take m).length=m:=by rw[List.length_take]; omega
 have:=FX (xs:=ys.take m) (m:=j) zo (fun i h1 h2=>by rw[P8 zo]; exact hR i h1 zo) (by
  by_cases e:j=0
  ·exact .inl e
  ·exact .inr (by rw[P8 zo]; exact fun e2=>hnz ⟨by omega,e2⟩))
 rw[this,List.length_take,List.length_take]; omega
theorem nG {p q ys:List Int} {m A B:Nat} (hq1:1<=q.length) (hyl:ys.length=p.length) (hm:m<=p.length) (hqm:q.length<=m) (hag:B8 q m (ys.take m)=B8 q p.length p) (hyb:∀i,i<m->dl (b6 ys i)<=A+(p.length-m)*(2*B+1)) (hB:∀i,dl (b6 q i)<=B) :
  (I7 q ys m m).length=p.length/\(F8 q (ys.take m)).length<=p.length/\B8 q (F8 q (ys.take m)).length ((I7 q ys m m).take (F8 q (ys.take m)).length)=B8 q p.length p/\∀i,i<(F8 q (ys.take m)).length->dl (b6 (I7 q ys m m) i)<=A+(p.length-(F8 q (ys.take m)).length)*(2*B+1):=by
 have htl:(ys.take m).length=m:=by rw[List.length_take]; omega
 have h1:=EY hq1 (r:=ys.take m) zo
 have h2:=nH (q:=q) (ys:=ys) (m:=m) zo
 rw[IF zo] at h2
 have h2':(I7 q ys m m).take (F8 q (ys.take m)).length=F8 q (ys.take m):=h2
 refine ⟨by rw[NV,hyl],by omega,?_,fun i hi=>?_⟩
 ·rw[h2',<- hag]
  have:=ZJ hq1 (r:=ys.take m) zo
  rw[htl] at this
  exact this.symm
 ·have e:b6 (I7 q ys m m) i=b6 (F9 q (ys.take m)) i:=by unfold I7; rw[q9 zo,if_pos zo]
  rw[e]
  have q1:=NW (q:=q) (r:=ys.take m) (X:=A+(p.length-m)*(2*B+1)) (fun j=>by
   by_cases hj:j<m
   ·rw[P8 hj]; exact hyb j hj
   ·rw[v6 (by rw[htl]; omega)]; show dl 0<=_; rw[C5.2 rfl]; omega) hB i
  have q2:=Nat.mul_le_mul_right (2*B+1) (show p.length-m+1<=p.length-(F8 q (ys.take m)).length by omega)
  rw[Nat.succ_mul] at q2
  omega
def Y2 (ys:List Int) (k:Nat):List Int:=j4 ys.length fun i=>if i<k then -b6 ys i else b6 ys i
theorem wS {ys:List Int}:ys=Y2 ys 0:=by
 conv=>lhs; rw[T2 (rfl:ys.length=ys.length)]
 exact C9 fun i _=>(if_neg (Nat.not_lt_zero _)).symm
theorem wP {ys:List Int} {k:Nat} (hk:k<ys.length):b6 (Y2 ys k) k=b6 ys k:=by unfold Y2; rw[q9 hk,if_neg (Nat.lt_irrefl _)]
theorem wQ {ys:List Int} {k:Nat} (hk:k<ys.length):(Y2 ys k).set k (-b6 (Y2 ys k) k)=Y2 ys (k+1):=by
 rw[wP hk]
 unfold Y2
 rw[FW]
 refine C9 fun i _=>?_
 by_cases e:i=k
 ·subst e; rw[if_pos rfl,if_pos zo]
 ·rw[if_neg e]
  by_cases h:i<k
  ·rw[if_pos h,if_pos zo]
  ·rw[if_neg h,if_neg zo]
theorem wR {ys:List Int} {m:Nat} (hm:m<=ys.length):(Y2 ys m).take m=(ys.take m).map fun z=>-z:=by
 have hl:(ys.take m).length=m:=by rw[List.length_take]; omega
 have h1:((Y2 ys m).take m).length=m:=by rw[List.length_take]; unfold Y2; rw[p8]; omega
 refine D1 (by rw[h1,List.length_map,hl]) fun i hi=>?_
 rw[h1] at hi
 rw[P8 hi,JL,P8 hi]
 unfold Y2
 rw[q9 zo,if_pos hi]
theorem qG (p:List Int) (h2:2<=p.length) (h5:p.length<=5) (hd:∀i,dl (b6 p i)<=1):Ct Tryz.prog 221 [b7 (eL eZ) p] (b7 (eL eZ) (C6 p)):=by
 refine Ct.mk Tryz.func221 rfl Tryz.ntmps221 rfl (fun w J=>?_); refine FL ?_; refine Tr.grow (s:=3) rfl rfl 33 rfl 160 eZ rfl ?_
 refine Tr.for1 (σ:=Nat) [⟨6,true,_,_⟩,⟨7,true,_,_⟩] [] (fun k=>[⟨3,true,[33],o5 33 (k-1)⟩,⟨8,true,[],kI (k:Int)⟩]) (fun k=>[⟨33,[],l3 true 160 eZ ((C6 p).take (k-1)) (k-1)⟩]) (fun k=>k<=p.length) (fun k=>k=p.length) (fun k=>p.length-k) (0) zi (d6.mk (.o rfl zi rfl<|.i rfl zi<|zk) (.a (by rfl) zi<|.nil) rfl) ?_ ?_
 ·intro k hR0
  refine jn ?_
  have hdk:=hd k
  refine l6 ?_; refine jq ?_ ?_
  ·intro h3
   refine m8 ?_; refine ja 5 ?_; refine u5 ?_; refine jq ?_ ?_
   ·intro h5
    refine Tr.draw 6 n8 (by kernel_rfl) ?_; refine i7 ?_; refine jd (P2 (k:Int) zo) ?_; refine jd (L3 (b6 p k) (k:Int) zo (by have:=J6 (F:=(k:Int)) zo zo; omega)) ?_; refine j1.new (w4 eZ 20 (fun hp=>.cons rfl<|.nil) rfl rfl rfl rfl) rfl rfl rfl rfl ?_; refine g9 ?_; refine jl ?_; refine j3 ?_
    exact g6.lp (k+1) zi zo (d6.mk (.o rfl (by simp only[List.length_cons,List.length_nil]; omega) rfl<|.i rfl zi<|zk) (.a (by rw[dG zo zo,Nat.add_sub_cancel]) (by simp only[List.length_cons,List.length_nil]; omega)<|.nil) rfl)
   ·intro h5
    replace h5:=Int.not_lt.1 h5
    refine j6 ?_
    exact g6.lp (k+1) zi zo (d6.mk (.o rfl zo rfl<|.i rfl zi<|zk) (.a (by rw[show k=0 by omega]) zo<|.nil) rfl)
  ·intro h3
   replace h3:=Int.not_lt.1 h3
   refine g8 ?_
   exact g6.cut (k) zo (d6.mk (.o rfl zi rfl<|.i rfl zi<|zk) (zk) rfl)
 ·rintro k hkn
  refine je ?_
  have htk:(C6 p).take (k-1)=C6 p:=List.take_of_length_le (by rw[Q9]; omega)
  refine j6 ?_; refine Tr.frz 33 [2] ⟨rfl,trivial⟩ (by simp only[p6]; omega) rfl ?_; refine i4 ?_; exact d9.res1 (fn:=Tryz.f221) rfl (.r rfl (by rw[htk])<|.nil)

theorem qF (ys:List Int) (m L:Nat) (hl:ys.length=L) (hm:m<=L) (hL:L<=1000000):KK Tryz.prog 228 [C8 0 2 0 m] (l3 false 160 eZ ys L) (l3 false 160 eZ ys L) (C8 0 2 0 (j7 (ys.take m)).length):=by
 refine KK.mk Tryz.func228 rfl Tryz.ntmps228 rfl rfl (fun w J bb cap=>?_); refine jn ?_; refine l8 ?_
 refine Tr.for (σ:=Nat) [⟨522,true,_,_⟩] [⟨0,_,_⟩] (fun j=>[⟨0,true,[0],C8 0 2 0 j⟩]) (fun j=>[]) (fun j=>j<=m/\∀i,j<=i->i<m->b6 ys i=0) (fun j=>(j7 (ys.take m)).length=j) (fun j=>j) (m) ⟨Nat.le_refl _,fun i h1 h2=>by omega⟩ (d6.mk (.q rfl zi zi rfl<|zk) (zk) rfl) ?_ ?_
 ·rintro j ⟨hj,hR⟩
  refine jn ?_; refine g8 ?_; refine tO (Y6 rfl uu) rfl rfl ?_; refine g8 ?_; refine b8.gd rfl rfl rfl (Y6 rfl id) rfl rfl ?_; refine b8.gd rfl rfl rfl (AP rfl id rfl uu (fun hp=>by simp at hp; omega)) rfl rfl ?_; refine b8.gd rfl rfl rfl (BW L rfl id rfl id (fun hp=>by simp at hp; omega)) rfl rfl ?_; refine b8.gd rfl rfl rfl (DF rfl id rfl rfl rfl rfl) rfl rfl ?_; refine b8.gd rfl rfl rfl (i6 (fun hp=>BK (b6 ys (0+((j:Int)-1).toNat))) (.a rfl id<|.nil)) rfl rfl ?_; refine g8 ?_; refine Tr.cnd rfl ?_ ?_
  ·intro h1
   try simp only[decide_eq_true_eq,Bool.and_eq_true] at h1
   have hz:0<j/\b6 ys (j-1)=0:=⟨by omega,by have:=Q8.1 h1.2; rwa [show 0+((j:Int)-1).toNat=j-1 by omega] at this⟩
   refine l6 ?_; refine tO (Y6 rfl uu) rfl rfl ?_; refine i4 ?_; refine tO (iD rfl uu rfl uu (fun _=>zo)) rfl rfl ?_; refine i7 ?_; exact g6.lp (j-1) ⟨by omega,fun i h1 h2=>by by_cases e:i=j-1; (rw[e]; exact hz.2); exact hR i zo h2⟩ zo (d6.mk (.q rfl rfl zo rfl<|zk) (zk) rfl)
  ·intro h1
   try simp only[decide_eq_true_eq,decide_eq_false_iff_not,Bool.and_eq_false_imp] at h1
   have hnz:¬(0<j/\b6 ys (j-1)=0):=fun ⟨q1,q2⟩=>h1 zo (Q8.2 (by rw[show 0+((j:Int)-1).toNat=j-1 by omega]; exact q2))
   refine g8 ?_
   exact g6.cut (j) (cR zo hj hR hnz) (d6.mk (.q rfl zi zi rfl<|zk) (zk) rfl)
 ·intro j hE
  refine jn ?_; refine j6 ?_; exact d9.loanR (fn:=Tryz.f228) (s:=522) (t:=2) rfl rfl rfl (fun _ _ h=>TM rfl h) (fun _ _ hm h=>iG hm ((by rw[hE]; exact h)))

theorem pN (p:List Int) (hn:p.length<=1000000):T9 Tryz.prog 227 [b7 (eL eZ) p] (fun t=>o5 t p.length) (l3 false 160 eZ p p.length):=by
 refine T9.mk Tryz.func227 rfl Tryz.ntmps227 rfl (fun w J=>?_); refine m8 ?_; refine tO (ML rfl uu) rfl rfl ?_; refine g9 ?_; refine Tr.exB (s:=4) rfl (fun b1 q1=>?_); refine Tr.cnd rfl ?_ ?_
 ·intro h1
  have he1:[]=p:=(q1 h1).symm
  have he2:0=p.length:=by rw[<- he1]; rfl
  refine l8 ?_; refine Tr.grow (s:=2) rfl rfl 9 rfl 160 eZ rfl ?_; refine g9 ?_
  exact d9.resN (fn:=Tryz.f227) (u:=9) rfl rfl (GL zi zi) (HI zi) inferInstance
 ·intro h1
  refine g8 ?_; refine b8.new (Y5 eZ 5) rfl rfl rfl rfl ?_; refine g9 ?_; refine jl ?_; refine g8 ?_
  exact d9.resN (fn:=Tryz.f227) (u:=5) rfl rfl (GL zi zi) (HI zi) inferInstance

set_option maxHeartbeats 2000000 in
theorem qD (p q:List Int) (A B:Nat) (hp1:1<=p.length) (h5:p.length<=5) (hq1:1<=q.length) (hq5:q.length<=5) (hA:∀i,dl (b6 p i)<=A) (hB:∀i,dl (b6 q i)<=B) (hA2:A<=10000) (hB2:B<=10000):Ct Tryz.prog 222 [b7 (eL eZ) p,b7 (eL eZ) q] (b7 (eL eZ) (against p q)):=by
 have hqt:((q.length:Int)-1).toNat=q.length-1:=by omega
 have hBt:=hB (q.length-1)
 have hBt2:=s9 (b6 q (q.length-1)) (b6 q (q.length-1))
 refine Ct.mk Tryz.func222 rfl Tryz.ntmps222 rfl (fun w J=>?_); refine j3 ?_; refine b8.new (ED 13 (fun hp=>pN _ zo) (.a rfl uu<|.nil)) rfl rfl rfl rfl ?_; refine u5 ?_
 rw[hqt]
 refine i4 ?_; refine ja 6 ?_; refine j6 ?_; refine jc (L3 (b6 q (q.length-1)) (b6 q (q.length-1)) zo zo) ?_; refine ja 7 ?_; refine i7 ?_; refine Tr.osq 5 2 rfl zo ?_
 refine Tr.for (σ:=List Int×Nat) [⟨1,true,_,_⟩,⟨6,true,_,_⟩,⟨7,true,_,_⟩] [⟨6,_,_⟩,⟨7,_,_⟩] (fun (ys,m)=>[⟨5,true,[13],C8 13 2 0 m⟩]) (fun (ys,m)=>[⟨13,[],l3 false 160 eZ ys p.length⟩]) (fun (ys,m)=>ys.length=p.length/\m<=p.length/\B8 q m (ys.take m)=B8 q p.length p/\∀i,i<m->dl (b6 ys i)<=A+(p.length-m)*(2*B+1)) (fun (ys,m)=>ys.length=p.length/\m<=p.length/\ys.take m=B8 q p.length p) (fun (ys,m)=>m) ((p,p.length)) ⟨rfl,Nat.le_refl _,by rw[List.take_length],fun i _=>by have:=hA i; omega⟩ (d6.mk (.q rfl zi zi rfl<|zk) (zk) rfl) ?_ ?_
 ·rintro ⟨ys,m⟩ ⟨hyl,hm,hag,hyb⟩
  refine jn ?_
  have htl:(ys.take m).length=m:=by rw[List.length_take]; omega
  have hmB:(p.length-m)*(2*B+1)<=5*20001:=Nat.mul_le_mul zo zo
  refine g8 ?_; refine tO (Y6 rfl uu) rfl rfl ?_; refine l8 ?_; refine jq ?_ ?_
  ·intro h4
   refine g8 ?_; refine Tr.draw 9 n8 (by kernel_rfl) ?_; refine g9 ?_; refine rO (Y6 rfl uu) rfl rfl ?_; refine i4 ?_; refine rO (BW p.length rfl uu rfl uu (fun _=>zo)) rfl rfl ?_; refine rO (DF rfl uu rfl rfl rfl rfl) rfl rfl ?_; refine i4 ?_; refine jd (L3 (b6 ys (0+((m:Int)-1).toNat)) (b6 q (q.length-1)) (by have h:=hyb (m-1) zo; rw[show 0+((m:Int)-1).toNat=m-1 by omega]; omega) zo) ?_; refine j1.new (HF 8) rfl rfl rfl rfl ?_; refine j6 ?_; refine tO (Y6 rfl uu) rfl rfl ?_; refine u5 ?_
   refine tO (Y6 rfl uu) rfl rfl ?_; refine i7 ?_
   refine Tr.for1 (σ:=Nat) [⟨1,true,_,_⟩,⟨5,true,_,_⟩,⟨6,true,_,_⟩,⟨7,true,_,_⟩,⟨8,true,_,_⟩,⟨9,true,_,_⟩,⟨42,true,_,_⟩] [⟨6,_,_⟩,⟨7,_,_⟩,⟨8,_,_⟩] (fun k=>[⟨43,true,[],kI (k:Int)⟩]) (fun k=>[⟨13,[],l3 false 160 eZ (I7 q ys m k) p.length⟩]) (fun k=>k<=m) (fun k=>k=m) (fun k=>m-k) (0) zi (d6.mk (.i rfl zi<|zk) (.a nD zi<|zk) rfl) ?_ ?_
   ·intro k hR1
    refine jn ?_
    have hyk:=fun (h:k<m)=>hyb k h
    have hat:=fun (h:k<ys.length)=>nA (q:=q) (ys:=ys) (m:=m) h
    have hst:=fun (h:k<m) (x:Int)=>(show b6 ((I7 q ys m k).set k x) k=x by rw[N1 (by rw[NV]; omega),if_pos rfl])
    refine l6 ?_; refine jq ?_ ?_
    ·intro h8
     refine y7 ?_; refine Tr.draw 8 n8 (by kernel_rfl) ?_; refine g8 ?_; refine rO (BW p.length rfl uu rfl uu (fun _=>zo)) rfl rfl ?_; refine rO (DF rfl uu rfl rfl rfl rfl) rfl rfl ?_; refine i4 ?_; refine jd (L3 (b6 (I7 q ys m k) (0+(k:Int).toNat)) ((b6 q (q.length-1))*(b6 q (q.length-1))) (by rw[show 0+(k:Int).toNat=k by omega,hat zo]; have:=hyk zo; omega) zo) ?_; refine i4 ?_; refine tO (BW p.length rfl uu rfl uu (fun _=>zo)) rfl rfl ?_; refine u5 ?_; refine jq ?_ ?_
     ·intro h11
      refine Tr.draw 16 n8 (by kernel_rfl) ?_; refine g8 ?_; refine rO (BW p.length rfl uu rfl uu (fun _=>zo)) rfl rfl ?_; refine rO (DF rfl uu rfl rfl rfl rfl) rfl rfl ?_; refine j6 ?_; refine rO (i6 (fun hp=>L3 (b6 ys (0+((m:Int)-1).toNat)*(b6 q (q.length-1))) (b6 q ((k:Int)-((m:Int)-(q.length:Int))).toNat) (by have h:=hyb (m-1) zo; rw[show 0+((m:Int)-1).toNat=m-1 by omega]; have h2:=s9 (b6 ys (m-1)) (b6 q (q.length-1)); omega) (Nat.le_trans (hB _) zo)) (.se rfl uu rfl rfl<|.a rfl uu<|.nil)) rfl rfl ?_
      refine jd (DS (b6 ys (0+((m:Int)-1).toNat)*(b6 q (q.length-1))*b6 q ((k:Int)-((m:Int)-(q.length:Int))).toNat)) ?_; refine rO (i6 (fun hp=>V9 _ _ (by rw[show 0+(k:Int).toNat=k by omega,hst zo,hat zo]; have:=hyk zo; have h2:=s9 (b6 ys k) (b6 q (q.length-1)*b6 q (q.length-1)); omega) (by rw[K4,show 0+((m:Int)-1).toNat=m-1 by omega]; have h:=hyb (m-1) zo; have h2:=s9 (b6 ys (m-1)) (b6 q (q.length-1)); have h3:=s9 (b6 ys (m-1)*b6 q (q.length-1)) (b6 q ((k:Int)-((m:Int)-(q.length:Int))).toNat); have h4:=hB ((k:Int)-((m:Int)-(q.length:Int))).toNat; omega)) (.a rfl uu<|.a rfl uu<|.nil)) rfl rfl ?_
      refine i4 ?_; refine tO (BW p.length rfl uu rfl uu (fun _=>zo)) rfl rfl ?_; refine j3 ?_
      exact g6.lp (k+1) zi zo (d6.mk (.i rfl zi<|zk) (.a (by rw[show 0+(k:Int).toNat=k by omega,hst zo,hat zo,show 0+((m:Int)-1).toNat=m-1 by omega,show ((k:Int)-((m:Int)-(q.length:Int))).toNat=k-(m-q.length) by omega]; exact nB (by rw[ZL zo zo,if_pos zo])) zi<|zk) rfl)
     ·intro h11
      replace h11:=Int.not_le.1 h11
      refine j6 ?_
      exact g6.lp (k+1) zi zo (d6.mk (.i rfl zi<|zk) (.a (by rw[show 0+(k:Int).toNat=k by omega,hat zo]; exact ZK (by rw[ZL zo zo,if_neg zo,Int.add_zero])) zi<|zk) rfl)
    ·intro h8
     replace h8:=Int.not_lt.1 h8
     refine g8 ?_
     exact g6.cut (k) zo (d6.mk (.i rfl zi<|zk) (zk) rfl)
   ·rintro k hkm
    refine je ?_; refine i7 ?_; refine b8.loanR (u:=13) (qF (I7 q ys m m) m p.length (by rw[NV]; omega) zo zo) (.a rfl<|.nil) zo (by rw[hkm]) rfl ?_; refine i7 ?_; exact g6.lp ((I7 q ys m m,(F8 q (ys.take m)).length)) (nG hq1 hyl hm zo hag hyb hB) (by have:=EY hq1 (r:=ys.take m) zo; show (F8 q (ys.take m)).length<m; omega) (d6.mk (.q rfl rfl (by rw[IF zo]; rfl) rfl<|zk) (zk) rfl)
  ·intro h4
   replace h4:=Int.not_le.1 h4
   refine g8 ?_
   exact g6.cut ((ys,m)) ⟨hyl,hm,by rw[<- hag]; have:=ZI (q:=q) (r:=ys.take m) zo; rw[htl] at this; exact this.symm⟩ (d6.mk (.q rfl zi zi rfl<|zk) (zk) rfl)
 ·rintro ⟨ys,m⟩ ⟨hyl,hm,hag⟩
  refine jn ?_
  have htl:(ys.take m).length=m:=by rw[List.length_take]; omega
  refine g8 ?_; refine tO (Y6 rfl uu) rfl rfl ?_; refine i7 ?_
  refine Tr.for1 (σ:=Nat) [⟨5,true,_,_⟩,⟨79,true,_,_⟩] [] (fun k=>[⟨80,true,[],kI (k:Int)⟩]) (fun k=>[⟨13,[],l3 false 160 eZ (Y2 ys k) p.length⟩]) (fun k=>k<=m) (fun k=>k=m) (fun k=>m-k) (0) zi (d6.mk (.i rfl zi<|zk) (.a wS zi<|.nil) rfl) ?_ ?_
  ·intro k hR2
   refine jn ?_; refine l6 ?_; refine jq ?_ ?_
   ·intro h16
    refine L4 ?_; refine tO (BW p.length rfl uu rfl uu (fun _=>zo)) rfl rfl ?_; refine tO (DF rfl uu rfl rfl rfl rfl) rfl rfl ?_; refine jc (DS (b6 (Y2 ys k) (0+(k:Int).toNat))) ?_; refine tO (BW p.length rfl uu rfl uu (fun _=>zo)) rfl rfl ?_; refine j3 ?_
    exact g6.lp (k+1) zi zo (d6.mk (.i rfl zi<|zk) (.a (by rw[show 0+(k:Int).toNat=k by omega]; exact wQ zo) zi<|.nil) rfl)
   ·intro h16
    replace h16:=Int.not_lt.1 h16
    refine g8 ?_
    exact g6.cut (k) zo (d6.mk (.i rfl zi<|zk) (zk) rfl)
  ·rintro k hkm2
   refine je ?_; refine g8 ?_; refine b8.frzQ 13 [92] ⟨rfl,trivial⟩ ⟨by omega,by simp only[p6]; omega⟩ rfl ?_; refine jl ?_; refine g8 ?_; exact d9.res1 (fn:=Tryz.f222) rfl (.r rfl (by unfold against; rw[<- hag,hkm2,wR zo])<|.nil)

end Go.Fl
