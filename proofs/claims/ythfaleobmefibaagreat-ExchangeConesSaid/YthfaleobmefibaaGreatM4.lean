/- Laws on walking typed knowledge through code, and contracts. -/
import Derived.Test.YthfaleobmefibaaGreatM3
import Derived.RangeFuncBox
import Derived.WalkKit
import Derived.TacticsInMore
import Derived.LoopNIn
import Derived.LoopIn

/- Contracts: numbers of a field as the package offers them. -/
namespace Go.Fl
open Go Go.Proofs
open d5 renaming op->tO
open i9 renaming op->rO
set_option maxRecDepth 100000

theorem PG (c:List Int) (d:Int) (hc:∀i,dl (b6 c i)<=900000) (hd:dl d<=900000):Ct Tryz.prog 120 [b8 K7 (c,d)] (b8 j7 (m8 (c,d))):=by
 refine Ct.mk Tryz.func120 rfl Tryz.ntmps120 rfl (fun w J=>?_); refine Tr.fact (s:=0) rfl (fun _ _ h=>PY h) (fun hl=>?_)
 have hl:c.length=4:=hl
 refine g8 ?_; refine jb 1 rfl ?_; refine ja 2 ?_; refine g9 ?_; refine ja 3 ?_; refine j3 ?_
 refine Tr.for (σ:=Nat) [⟨1,true,_,_⟩,⟨2,true,_,_⟩,⟨3,true,_,_⟩] [⟨1,_,_⟩,⟨2,_,_⟩,⟨3,_,_⟩] (fun n=>[⟨4,true,[],kI (n:Int)⟩]) (fun n=>[]) (fun n=>n<=4/\∀i,n<=i->i<c.length->b6 c i=0) (fun n=>n<=4/\j6 c=c.take n) (fun n=>n) (4) ⟨by omega,fun i h1 h2=>absurd h1 zo⟩ (d6.mk (.i rfl zi<|zk) (zk) rfl) ?_ ?_
 ·rintro n ⟨hn,hz⟩
  refine jn ?_; refine j3 ?_; refine d5.gd rfl rfl rfl (AZ rfl id rfl uu (fun hp=>by simp at hp; omega)) rfl rfl ?_; refine i5 ?_; refine d5.gd rfl rfl rfl (DI rfl id rfl id (fun hp=>by simp at hp; omega)) rfl rfl ?_; refine d5.gd rfl rfl rfl (KH (n-1) (fun hp=>by simp at hp; omega) (fun _=>zo) rfl id) rfl rfl ?_; refine d5.gd rfl rfl rfl (i6 (fun hp=>BQ (b6 c (n-1))) (.a rfl id<|.nil)) rfl rfl ?_; refine g9 ?_; refine Tr.cnd rfl ?_ ?_
  ·intro h3
   try simp only[decide_eq_true_eq,Bool.and_eq_true] at h3
   have h3z:=h3.2
   refine m9 ?_
   exact d9.lp (n-1) ⟨by omega,fun i h2 h3=>by (by_cases e:i=n-1; subst e; exact R8.1 h3z; exact hz i zo h3)⟩ zo (d6.mk (.i rfl zi<|zk) (zk) rfl)
  ·intro h3
   try simp only[decide_eq_true_eq,decide_eq_false_iff_not,Bool.and_eq_false_imp] at h3
   refine g9 ?_
   exact d9.cut (n) ⟨hn,GF zo hz (by by_cases e:n=0; exact .inl e; exact .inr (fun e2=>h3 zo (R8.2 e2)))⟩ (d6.mk (.i rfl zi<|zk) (zk) rfl)
 ·rintro n ⟨hn,ht⟩
  refine jn ?_
  have htk:(List.take (n:Int).toNat (j8 4 (b6 (c,d).1),(c,d).2).1).length=n:=by rw[Int.toNat_natCast,List.length_take]; show min n (j8 4 (b6 c)).length=n; rw[p8]; omega
  have hnt:∀i,i<n->b6 (List.take (n:Int).toNat (j8 4 (b6 (c,d).1),(c,d).2).1) i=b6 c i:=fun i h=>by rw[Int.toNat_natCast]; exact (M3 h).trans (r5 zo)
  refine g8 ?_; refine Tr.frzB 1 [1] K7 ⟨rfl,trivial⟩ rfl ?_; refine jn ?_; refine i7 ?_; refine tO (jB rfl uu rfl uu rfl rfl (fun _=>zo)) rfl rfl ?_; refine g9 ?_; refine Tr.growC 3 0 33 rfl (ks':=[o9 33 0,_]) rfl rfl 22 (eL eI) rfl (.cons inferInstance rfl<|.cons inferInstance rfl<|inferInstance) ?_
  refine Tr.for1 (σ:=Nat) [⟨1,true,_,_⟩,⟨2,true,_,_⟩,⟨3,true,_,_⟩,⟨22,true,_,_⟩,⟨23,true,_,_⟩] [⟨2,_,_⟩] (fun k=>[⟨24,true,[],kI (k:Int)⟩]) (fun k=>[⟨3,[33],j5 [o9 33 k,j4 (.slice none 0 0)]⟩,⟨33,[],l5 true 22 (eL eI) (j8 k fun i=>g7 (b6 c i)) k⟩]) (fun k=>k<=n) (fun k=>k=n) (fun k=>n-k) (0) zi (d6.mk (.i rfl zi<|zk) (.e (by rfl) rfl<|.a (by rfl) zi<|zk) rfl) ?_ ?_
  ·intro k hR1
   refine jn ?_
   have hck:=hc k
   refine l3 ?_; refine jq ?_ ?_
   ·intro h6
    refine j1 ?_; refine ja 6 ?_; refine i7 ?_; refine Tr.draw 5 o0 (by kernel_rfl) ?_; refine i7 ?_; refine rO (i6 (fun hp=>dV _ (by rw[hnt k zo]; omega)) (.se rfl uu rfl rfl<|.nil)) rfl rfl ?_; refine i9.new (y7 (eL eI) 32 (fun hp=>.cons rfl<|.nil) rfl rfl rfl rfl) rfl rfl rfl rfl ?_; refine i5 ?_; refine d5.wkC 3 (.any<|.k<|.nil) rfl ?_; refine i5 ?_; refine jl ?_; refine m9 ?_
    exact d9.lp (k+1) zi zo (d6.mk (.i rfl zi<|zk) (.e (by rfl) rfl<|.a ((congrArg (fun z=>j8 k (fun i=>g7 (b6 c i))++[g7 z]) (hnt k zo)).trans H0.symm) zi<|zk) rfl)
   ·intro h6
    replace h6:=Int.not_lt.1 h6
    refine g9 ?_
    exact d9.cut (k) zo (d6.mk (.i rfl zi<|zk) (zk) rfl)
  ·rintro k hkn
   refine je ?_; refine l6 ?_; refine jc (dV d zo) ?_; refine l6 ?_; refine Tr.frzC 33 3 (by simp only[p9]; omega) rfl rfl ?_; refine l3 ?_; exact g6.resC1 (fn:=Tryz.f120) rfl rfl (t7 rfl (by rw[hkn]; exact (vK ht).resolve_right zo))

theorem rF (n:Int) (hn:-9223372036854775808<=n/\n<=9223372036854775807):Ct Tryz.prog 165 [kI n] (b8 j7 (m8 ([n,0,0,0],1))):=by
 have hd:=VT hn
 refine Ct.mk Tryz.func165 rfl Tryz.ntmps165 rfl (fun w J=>?_); refine g8 ?_; refine ja 2 ?_; refine l6 ?_; refine jc (Q2 n hn) ?_; refine tO (iX [(0,2),(2,2),(4,2),(6,2)] rfl (fun hp=>.cons rfl rfl rfl<|.nil)) rfl rfl ?_; refine jc (Q2 1 zo) ?_; refine tO (A1 (fun hp=>.cons rfl rfl rfl<|.cons rfl rfl rfl<|.nil)) rfl rfl ?_; refine jc (PG [n,0,0,0] 1 (fun i=>uD (k:=899997) hd i) (by have:=VT (n:=1) zo; omega)) ?_; refine g9 ?_
 exact g6.resC1 (fn:=Tryz.f165) rfl rfl (t7 rfl zi)

theorem cH (r:C9) (x:s5) (k:Nat) (hpo:G6 r.2.1) (hx:y3 k x) (hk:k<=400000):Ct Tryz.prog 69 [r7 A5 r,b8 j7 x] (b8 j7 (m8 (j9 r.2.1 x))):=by
 have nx:=Y4 hpo hx
 refine Ct.mk Tryz.func69 rfl Tryz.ntmps69 rfl (fun w J=>?_); refine g8 ?_; refine jb 3 rfl ?_; refine ja 4 ?_; refine l3 ?_; refine tO (FU rfl uu) rfl rfl ?_; refine g8 ?_; refine Tr.cnd rfl ?_ ?_
 ·intro h1
  cases h1
 ·intro h1
  refine l3 ?_; refine jc (BO r x k hpo hx zo) ?_; refine jc (PG (j9 r.2.1 x).1 (j9 r.2.1 x).2 (fun i=>Nat.le_trans (nx.c i) zo) (Nat.le_trans nx.d zo)) ?_; refine g9 ?_
  exact g6.resC1 (fn:=Tryz.f69) rfl rfl (t7 rfl zi)

theorem qX (r:C9) (x y:s5) (k:Nat) (hpo:G6 r.2.1) (hx:y3 k x) (hy:y3 k y) (hk:k<=100000):Ct Tryz.prog 118 [r7 A5 r,b8 j7 x,b8 j7 y] (b8 j7 (m8 (C0 (j9 r.2.1 x) (j9 r.2.1 y)))):=by
 have nx:=Y4 hpo hx
 have ny:=Y4 hpo hy
 have nz:=OK nx ny
 refine Ct.mk Tryz.func118 rfl Tryz.ntmps118 rfl (fun w J=>?_); refine g8 ?_; refine jb 4 rfl ?_; refine jb 5 rfl ?_; refine ja 6 ?_; refine l3 ?_; refine tO (FU rfl uu) rfl rfl ?_; refine g8 ?_; refine Tr.cnd rfl ?_ ?_
 ·intro h1
  cases h1
 ·intro h1
  refine i7 ?_; refine Tr.draw 5 o0 (by kernel_rfl) ?_; refine g8 ?_; refine jd (BO r x k hpo hx zo) ?_; refine i7 ?_; refine jc (BO r y k hpo hy zo) ?_; refine jc (PH (j9 r.2.1 x) (j9 r.2.1 y) (fun i=>Nat.le_trans (nx.c i) zo) (fun i=>Nat.le_trans (ny.c i) zo) (Nat.le_trans nx.d zo) (Nat.le_trans ny.d zo) nx.pos ny.pos) ?_; refine jc (PG (C0 (j9 r.2.1 x) (j9 r.2.1 y)).1 (C0 (j9 r.2.1 x) (j9 r.2.1 y)).2 (fun i=>Nat.le_trans (nz.c i) zo) (Nat.le_trans nz.d zo)) ?_; refine g9 ?_
  exact g6.resC1 (fn:=Tryz.f118) rfl rfl (t7 rfl zi)

theorem cJ (r:C9) (x y:s5) (k:Nat) (hpo:G6 r.2.1) (hx:y3 k x) (hy:y3 k y) (hk:k<=100000):Ct Tryz.prog 116 [r7 A5 r,b8 j7 x,b8 j7 y] (b8 j7 (m8 (C0 (j9 r.2.1 x) ((j9 r.2.1 y).1.map (fun z=>-z),(j9 r.2.1 y).2)))):=by
 have nx:=Y4 hpo hx
 have ny:=Y4 hpo hy
 have nn:=RE ny
 have nz:=OK nx nn
 refine Ct.mk Tryz.func116 rfl Tryz.ntmps116 rfl (fun w J=>?_); refine g8 ?_; refine jb 4 rfl ?_; refine jb 5 rfl ?_; refine ja 6 ?_; refine l3 ?_; refine tO (FU rfl uu) rfl rfl ?_; refine g8 ?_; refine Tr.cnd rfl ?_ ?_
 ·intro h1
  cases h1
 ·intro h1
  refine i7 ?_; refine Tr.draw 5 o0 (by kernel_rfl) ?_; refine g8 ?_; refine jd (BO r x k hpo hx zo) ?_; refine i7 ?_; refine jc (BO r y k hpo hy zo) ?_; refine jc (VH (j9 r.2.1 y).1 (j9 r.2.1 y).2) ?_; refine jc (PH (j9 r.2.1 x) ((j9 r.2.1 y).1.map (fun z=>-z),(j9 r.2.1 y).2) (fun i=>Nat.le_trans (nx.c i) zo) (fun i=>Nat.le_trans (nn.c i) zo) (Nat.le_trans nx.d zo) (Nat.le_trans nn.d zo) nx.pos nn.pos) ?_; refine jc (PG (C0 (j9 r.2.1 x) ((j9 r.2.1 y).1.map (fun z=>-z),(j9 r.2.1 y).2)).1 (C0 (j9 r.2.1 x) ((j9 r.2.1 y).1.map (fun z=>-z),(j9 r.2.1 y).2)).2 (fun i=>Nat.le_trans (nz.c i) zo) (Nat.le_trans nz.d zo)) ?_
  refine g9 ?_
  exact g6.resC1 (fn:=Tryz.f116) rfl rfl (t7 rfl zi)

theorem rE (r:C9) (x:s5) (k:Nat) (hpo:G6 r.2.1) (h2:r.2.1.length=2) (hx:y3 k x) (hk:k<=400000):Ct Tryz.prog 82 [r7 A5 r,b8 j7 x] (kI (q9 (b6 (j9 r.2.1 x).1 0) 0)):=by
 refine Ct.mk Tryz.func82 rfl Tryz.ntmps82 rfl (fun w J=>?_); refine g8 ?_; refine jb 3 rfl ?_; refine j3 ?_; refine tO (FU rfl uu) rfl rfl ?_; refine g8 ?_; refine Tr.cnd rfl ?_ ?_
 ·intro h1
  cases h1
 ·intro h1
  refine j3 ?_; refine jc (BO r x k hpo hx zo) ?_; refine jc (dR r (j9 r.2.1 x).1 (j9 r.2.1 x).2 (SP h2)) ?_; refine g9 ?_
  exact g6.res1 (fn:=Tryz.f82) rfl (.i rfl zi<|.nil)

theorem rA (r:C9) (x y:s5) (k:Nat) (hpo:G6 r.2.1) (hx:y3 k x) (hy:y3 k y) (hk:k<=100000) (h2:r.2.1.length=2):Ct Tryz.prog 83 [r7 A5 r,b8 j7 x,b8 j7 y] (kI (q9 (b6 (C0 (j9 r.2.1 x) ((j9 r.2.1 y).1.map (fun z=>-z),(j9 r.2.1 y).2)).1 0) 0)):=by
 have nx:=Y4 hpo hx
 have ny:=Y4 hpo hy
 have nn:=RE ny
 have nz:=OK nx nn
 refine Ct.mk Tryz.func83 rfl Tryz.ntmps83 rfl (fun w J=>?_); refine g8 ?_; refine jb 4 rfl ?_; refine jb 5 rfl ?_; refine j3 ?_; refine tO (FU rfl uu) rfl rfl ?_; refine g8 ?_; refine Tr.cnd rfl ?_ ?_
 ·intro h1
  cases h1
 ·intro h1
  refine i7 ?_; refine Tr.draw 9 o0 (by kernel_rfl) ?_; refine i7 ?_; refine jd (BO r x k hpo hx zo) ?_; refine g8 ?_; refine jd (BO r y k hpo hy zo) ?_; refine jd (VH (j9 r.2.1 y).1 (j9 r.2.1 y).2) ?_; refine jd (PH (j9 r.2.1 x) ((j9 r.2.1 y).1.map (fun z=>-z),(j9 r.2.1 y).2) (fun i=>Nat.le_trans (nx.c i) zo) (fun i=>Nat.le_trans (nn.c i) zo) (Nat.le_trans nx.d zo) (Nat.le_trans nn.d zo) nx.pos nn.pos) ?_; refine i5 ?_; refine jc (dR r (C0 (j9 r.2.1 x) ((j9 r.2.1 y).1.map (fun z=>-z),(j9 r.2.1 y).2)).1 (C0 (j9 r.2.1 x) ((j9 r.2.1 y).1.map (fun z=>-z),(j9 r.2.1 y).2)).2 (jT (SP h2) (jU (SP h2)))) ?_
  refine g9 ?_
  exact g6.res1 (fn:=Tryz.f83) rfl (.i rfl zi<|.nil)

end Go.Fl

/- Contracts: the rational field is opened. -/
namespace Go.Fl
open Go Go.Proofs
open d5 renaming op->tO
open i9 renaming op->rO
set_option maxRecDepth 100000

theorem cZ (f:u8) (hf:∀i,-9223372036854775808<=b6 f.1 i/\b6 f.1 i<=9223372036854775807) (hl:f.1.length<=1000000):Ct Tryz.prog 158 [b8 A8 f] (b8 (eL eZ) f.1):=by
 refine Ct.mk Tryz.func158 rfl Tryz.ntmps158 rfl (fun w J=>?_); refine g8 ?_; refine jb 1 rfl ?_; refine P1 ?_; refine Tr.grow (s:=3) rfl rfl 3 rfl 160 eZ rfl ?_
 refine Tr.for1 (σ:=Nat) [⟨7,true,_,_⟩,⟨8,true,_,_⟩] [] (fun k=>[⟨3,true,[3],o9 3 k⟩,⟨9,true,[],kI (k:Int)⟩]) (fun k=>[⟨3,[],l5 true 160 eZ (f.1.take k) k⟩]) (fun k=>k<=f.1.length) (fun k=>k=f.1.length) (fun k=>f.1.length-k) (0) zi (d6.mk (.o rfl zi rfl<|.i rfl zi<|zk) (.a (by rfl) zi<|.nil) rfl) ?_ ?_
 ·intro k hR0
  refine jn ?_
  have hfk:=hf k
  refine l3 ?_; refine jq ?_ ?_
  ·intro h3
   refine D7 ?_; refine tO (i6 (fun hp=>Q2 _ zo) (.a rfl uu<|.nil)) rfl rfl ?_; refine d5.new (y7 eZ 16 (fun hp=>.cons rfl<|.nil) rfl rfl rfl rfl) rfl rfl rfl rfl ?_; refine i5 ?_; refine jl ?_; refine j1 ?_
   exact d9.lp (k+1) zi zo (d6.mk (.o rfl zi rfl<|.i rfl zi<|zk) (.a (by rw[W8 zo]) zi<|.nil) rfl)
  ·intro h3
   replace h3:=Int.not_lt.1 h3
   refine g9 ?_
   exact d9.cut (k) zo (d6.mk (.o rfl zi rfl<|.i rfl zi<|zk) (zk) rfl)
 ·rintro k hkn
  refine je ?_
  have htk:f.1.take k=f.1:=by rw[hkn,List.take_length]
  refine j3 ?_; refine Tr.frz 3 [2] ⟨rfl,trivial⟩ (by simp only[p9]; omega) rfl ?_; refine i5 ?_; exact g6.res1 (fn:=Tryz.f158) rfl (.r rfl (by rw[htk])<|.nil)

end Go.Fl


/- Texts of origamis, the steps of the code: lines, numerals, cutting, numbers. Plain Lean, no program in sight. -/
namespace Go.Fl
end Go.Fl

/- Reading a text, step by step. Plain Lean, no program in sight. -/
namespace Go.Fl
end Go.Fl

/- Texts of rows, in plain Lean: what is printed is read back, by words and by cutting. No program in sight. -/
namespace Go.Fl
def NN (ws:List Bt):Bt:=ws.flatMap fun w=>32::w
def A6 (p:List Int) (n:Nat):Prop:=FO p n/\p.Nodup/\p.length=n
instance (p:List Int) (n:Nat):Decidable (A6 p n):=by unfold A6; infer_instance
def H7 (r:o6):Int:=if r.2.length≠r.1.length\/r.1.length<2\/8<r.1.length then 10 else if ¬(A6 r.1 r.1.length/\A6 r.2 r.1.length) then 3 else 0
structure F2 (r:o6):Prop where
 len:r.2.length=r.1.length
 two:2<=r.1.length
 le:r.1.length<=8
 p1:A6 r.1 r.1.length
 p2:A6 r.2 r.1.length
theorem NJ {r:o6} (h:H7 r=0):F2 r:=by
 unfold H7 at h
 by_cases h1:r.2.length≠r.1.length\/r.1.length<2\/8<r.1.length
 ·rw[if_pos h1] at h; cases h
 rw[if_neg h1] at h
 by_cases h2:¬(A6 r.1 r.1.length/\A6 r.2 r.1.length)
 ·rw[if_pos h2] at h; cases h
 have h2:=Classical.not_not.1 h2
 exact ⟨by omega,by omega,by omega,h2.1,h2.2⟩
theorem oW {r:o6} (h:F2 r):H7 r=0:=by
 have h1:=h.len; have h2:=h.two; have h3:=h.le
 unfold H7
 rw[if_neg zo,if_neg (fun hh=>hh ⟨h.p1,h.p2⟩)]
theorem F2.b1 {r:o6} (h:F2 r):∀x∈r.1,0<=x/\x<100:=fun x hx=>by have:=WL h.p1.1 hx; have:=h.le; omega
theorem F2.b2 {r:o6} (h:F2 r):∀x∈r.2,0<=x/\x<100:=fun x hx=>by have:=WL h.p2.1 hx; have:=h.le; omega
def nL (r:o6):List Bt:=r.1.map num++[47]::r.2.map num
def YO (r:o6):Bt:=Lib.join (nL r) [32]
theorem lD {p:List Int}:NN (p.map num)=IB p:=by unfold NN IB; rw[List.flatMap_map]
theorem zV {x:Int} {t b:List Int}:YO (x::t,b)=num x++NN (t.map num++[47]::b.map num):=by
 unfold YO nL
 rw[List.map_cons,List.cons_append,Lib.join_cons]
 congr 1
theorem jP {r:o6} (h:F2 r):(YO r).length<=60:=by
 have h1:=h.len; have h2:=h.two; have h3:=h.le
 obtain ⟨a,b⟩:=r
 cases a with
 | nil=>simp at h2
 | cons x t =>
  have hx:=iV (n:=x)
  have ht:=nD (p:=t)
  have hb:=nD (p:=b)
  rw[zV]
  have e:NN (t.map num++[47]::b.map num)=IB t++32::47::IB b:=by rw[<- lD,<- lD]; simp[NN]
  rw[e]
  simp only[List.length_append,List.length_cons] at *
  omega
end Go.Fl

/- Reading rows, as the program and as the reference do: both read just what is printed of rows. Plain Lean, no program in sight. -/
namespace Go.Fl
end Go.Fl

/- Rows: what makes them valid, in the words of both programs; irreducible rows. Plain Lean, no program in sight. -/
namespace Go.Fl
theorem XX:∀{n:Nat} {l:List Int},l.Nodup->(∀x∈l,0<=x/\x<n)->l.length<=n
 | 0,l,_,hb=>by
  cases l with
  | nil=>simp
  | cons a l=>have:=hb a (by simp); omega
 | n+1,l,hd,hb=>by
  by_cases hm:(n:Int)∈l
  ·have h1:=XX (n:=n) (l:=l.erase (n:Int)) (hd.erase _) (fun x hx=>by
    have h2:=hb x (List.mem_of_mem_erase hx)
    have h3:x≠n:=fun e=>by subst e; exact (List.Nodup.not_mem_erase hd) hx
    omega)
   rw[List.length_erase_of_mem hm] at h1
   omega
  ·have:=XX (n:=n) (l:=l) hd (fun x hx=>by
    have h2:=hb x hx
    have h3:x≠n:=fun e=>hm (e▸hx)
    omega)
   omega
theorem vX {p:List Int} {n:Nat} (h:∀x∈p,0<=x/\x<n):FO p n:=fun _ hi=>h _ (E6 hi)
theorem jE:∀{n:Nat} {l:List Int},(∀i:Nat,i<n->(i:Int)∈l)->l.length=n->l.Nodup/\∀x∈l,0<=x/\x<n
 | 0,l,_,hl=>by
  obtain rfl:=List.eq_nil_of_length_eq_zero hl
  simp
 | n+1,l,h,hl=>by
  have hm:(n:Int)∈l:=h n zo
  have ih:=jE (n:=n) (l:=l.erase (n:Int)) (fun i hi=>(List.mem_erase_of_ne zo).2 (h i zo)) (by rw[List.length_erase_of_mem hm]; omega)
  have hp:=List.perm_cons_erase hm
  have hn:(n:Int)∉l.erase (n:Int):=fun hh=>by have:=ih.2 _ hh; omega
  refine ⟨hp.nodup_iff.2 (List.nodup_cons.2 ⟨hn,ih.1⟩),fun x hx=>?_⟩
  rcases List.mem_cons.1 (hp.mem_iff.1 hx) with rfl | hx
  ·omega
  ·have:=ih.2 x hx; omega
theorem jO {l:List Int} {n:Nat}:A6 l n↔(∀i:Nat,i<n->(i:Int)∈l)/\l.length=n:=by
 constructor
 ·rintro ⟨h1,h2,h3⟩
  refine ⟨fun i hi=>Classical.byContradiction fun hn=>?_,h3⟩
  have:=XX (n:=n) (l:=(i:Int)::l) (List.nodup_cons.2 ⟨hn,h2⟩) (fun x hx=>by
   rcases List.mem_cons.1 hx with rfl | hx
   ·omega
   ·exact WL h1 hx)
  rw[List.length_cons] at this; omega
 ·rintro ⟨h1,h2⟩
  obtain ⟨a,b⟩:=jE h1 h2
  exact ⟨vX b,a,h2⟩
theorem lT:∀{l m:List Int},l.Nodup->(∀x∈l,x∈m)->l.length<=m.length
 | [],_,_,_=>Nat.zero_le _
 | a::l,m,hd,h=>by
  have hc:=List.nodup_cons.1 hd
  have ha:a∈m:=h a (by simp)
  have ih:=lT (l:=l) (m:=m.erase a) hc.2 (fun x hx=>(List.mem_erase_of_ne (fun (e:x=a)=>hc.1 (e▸hx))).2 (h x (by simp[hx])))
  rw[List.length_erase_of_mem ha] at ih
  have:0<m.length:=List.length_pos_of_mem ha
  simp only[List.length_cons]; omega
theorem lQ {l m:List Int} (hd:l.Nodup) (hl:m.length<=l.length) (h:∀x∈l,x∈m):∀x∈m,x∈l:=fun x hx=>Classical.byContradiction fun hn=>by
 have:=lT (l:=x::l) (m:=m) (List.nodup_cons.2 ⟨hn,hd⟩) (fun y hy=>by
  rcases List.mem_cons.1 hy with rfl | hy
  ·exact hx
  ·exact h y hy)
 rw[List.length_cons] at this; omega
theorem yF {l:List Int} {k:Nat} (hd:l.Nodup) (h:k<l.length):b6 l k∉l.take k:=fun hm=>by
 have h1:(l.take (k+1)).Nodup:=hd.sublist (List.take_sublist _ _)
 rw[W8 h] at h1
 exact (List.nodup_append.1 h1).2.2 _ hm _ (by simp) rfl
def T8 (r:o6) (k:Nat):Bool:=(r.1.take k).any fun a=>!decide (a∈r.2.take k)
def z7 (r:o6):Bool:=decide (∀k,k<r.1.length->1<=k->T8 r k=true)
def DJ (r:o6) (k i:Nat):Bool:=(r.2.take i).all fun a=>decide (a∈r.1.take k)
theorem QT {r:o6} (h:F2 r) {k:Nat} (hk:k<=r.1.length):T8 r k=!DJ r k k:=by
 have hl:=h.len
 have d1:(r.1.take k).Nodup:=h.p1.2.1.sublist (List.take_sublist _ _)
 have d2:(r.2.take k).Nodup:=h.p2.2.1.sublist (List.take_sublist _ _)
 have l1:(r.1.take k).length=k:=by rw[List.length_take]; omega
 have l2:(r.2.take k).length=k:=by rw[List.length_take]; omega
 have key:(∀a∈r.1.take k,a∈r.2.take k)↔∀a∈r.2.take k,a∈r.1.take k:=by
  exact ⟨fun hh=>lQ d1 zo hh,fun hh=>lQ d2 zo hh⟩
 unfold T8 DJ
 rw[Bool.eq_iff_iff]
 simp only[List.any_eq_true,Bool.not_eq_true',decide_eq_false_iff_not,List.all_eq_false,decide_eq_true_eq]
 constructor
 ·rintro ⟨a,ha,hn⟩
  refine Classical.byContradiction fun hc=>hn (key.2 (fun b hb=>Classical.byContradiction fun hb2=>hc ⟨b,hb,hb2⟩) a ha)
 ·rintro ⟨a,ha,hn⟩
  refine Classical.byContradiction fun hc=>hn (key.1 (fun b hb=>Classical.byContradiction fun hb2=>hc ⟨b,hb,hb2⟩) a ha)
end Go.Fl

/- Contracts: the library, the base, rows (chapter 5). -/
namespace Go.Fl
open Go Go.Proofs
open d5 renaming op->tO
open i9 renaming op->rO
set_option maxRecDepth 100000


theorem IZ (a b:List Int):Ct Tryz.prog 23 [b8 (eL eI) a,b8 (eL eI) b] (kB (decide (a=b))):=by
 refine Ct.mk Tryz.func23 rfl Tryz.ntmps23 rfl (fun w J=>?_); refine Tr.fact (s:=0) rfl (fun _ _ h=>S4 h) (fun hb=>?_); refine K3 ?_; refine jq ?_ ?_
 ·intro h1
  refine j3 ?_; exact g6.res1 (fn:=Tryz.f23) rfl (.b rfl (by symm; rw[decide_eq_false_iff_not]; intro e; exact h1 (by rw[e]))<|.nil)
 ·intro h1
  replace h1:=Classical.not_not.1 h1
  refine j1 ?_
  refine Tr.for1 (σ:=Nat) [⟨0,true,_,_⟩,⟨1,true,_,_⟩] [] (fun k=>[⟨5,true,[],kI (k:Int)⟩]) (fun k=>[]) (fun k=>k<=a.length/\∀i,i<k->b6 a i=b6 b i) (fun k=>a=b) (fun k=>a.length-k) (0) ⟨Nat.zero_le _,fun i h=>absurd h zo⟩ (d6.mk (.i rfl zi<|zk) (.nil) rfl) ?_ ?_
  ·rintro k ⟨hk0,hR0⟩
   refine jn ?_; refine m9 ?_; refine jq ?_ ?_
   ·intro h4
    refine l6 ?_; refine Tr.draw 8 o0 (by kernel_rfl) ?_; refine v9 ?_; refine jq ?_ ?_
    ·intro h6
     refine v9 ?_; exact g6.res1 (fn:=Tryz.f23) rfl (.b rfl (by symm; rw[decide_eq_false_iff_not]; intro e; exact h6 (by rw[e]))<|.nil)
    ·intro h6
     replace h6:=Classical.not_not.1 h6
     refine j1 ?_
     exact d9.lp (k+1) ⟨by omega,OQ hR0 h6⟩ zo (d6.mk (.i rfl zi<|zk) (.nil) rfl)
   ·intro h4
    replace h4:=Int.not_lt.1 h4
    refine g9 ?_
    exact d9.cut (k) (D6 zo (fun i hi=>hR0 i zo)) (d6.mk (.i rfl zi<|zk) (.nil) rfl)
  ·intro k hE0
   refine je ?_; refine j3 ?_; exact g6.res1 (fn:=Tryz.f23) rfl (.b rfl (by symm; rw[decide_eq_true_eq]; exact hE0)<|.nil)

theorem cD (l:List Int) (x:Int):Ct Tryz.prog 152 [b8 (eL eI) l,kI x] (kB (decide (x∈l))):=by
 refine Ct.mk Tryz.func152 rfl Tryz.ntmps152 rfl (fun w J=>?_); refine Tr.fact (s:=0) rfl (fun _ _ h=>S4 h) (fun hb=>?_); refine y8 ?_
 refine Tr.for1 (σ:=Nat) [⟨0,true,_,_⟩,⟨1,true,_,_⟩] [] (fun k=>[⟨5,true,[],kI (k:Int)⟩]) (fun k=>[]) (fun k=>k<=l.length/\∀i,i<k->b6 l i≠x) (fun k=>∀i,i<l.length->b6 l i≠x) (fun k=>l.length-k) (0) ⟨Nat.zero_le _,fun i h=>absurd h zo⟩ (d6.mk (.i rfl zi<|zk) (.nil) rfl) ?_ ?_
 ·rintro k ⟨hk0,hR0⟩
  refine jn ?_; refine m9 ?_; refine jq ?_ ?_
  ·intro h2
   refine D7 ?_; refine jq ?_ ?_
   ·intro h4
    refine v9 ?_; exact g6.res1 (fn:=Tryz.f152) rfl (.b rfl (by symm; rw[decide_eq_true_eq,<- h4]; exact E6 zo)<|.nil)
   ·intro h4
    refine j1 ?_
    exact d9.lp (k+1) ⟨by omega,OQ hR0 h4⟩ zo (d6.mk (.i rfl zi<|zk) (.nil) rfl)
  ·intro h2
   replace h2:=Int.not_lt.1 h2
   refine g9 ?_
   exact d9.cut (k) (fun i hi=>hR0 i zo) (d6.mk (.i rfl zi<|zk) (.nil) rfl)
 ·intro k hE0
  refine je ?_; refine j3 ?_; exact g6.res1 (fn:=Tryz.f152) rfl (.b rfl (by symm; rw[decide_eq_false_iff_not]; intro hm; obtain ⟨i,hi,e⟩:=List.mem_iff_getElem.1 hm; exact hE0 i hi (by rw[BZ (List.getElem?_eq_getElem hi),e]))<|.nil)

theorem dG (l:List Int) (n:Nat) (hn:n<=100):Ct Tryz.prog 121 [b8 (eL eI) l,kI (n:Int)] (kB (decide (A6 l n))):=by
 refine Ct.mk Tryz.func121 rfl Tryz.ntmps121 rfl (fun w J=>?_); refine Tr.fact (s:=0) rfl (fun _ _ h=>S4 h) (fun hb=>?_); refine y8 ?_
 refine Tr.for1 (σ:=Nat) [⟨0,true,_,_⟩,⟨1,true,_,_⟩] [] (fun k=>[⟨5,true,[],kI (k:Int)⟩]) (fun k=>[]) (fun k=>k<=n/\∀i,i<k->(i:Int)∈l) (fun k=>∀i,i<n->(i:Int)∈l) (fun k=>n-k) (0) ⟨Nat.zero_le _,fun i h=>absurd h zo⟩ (d6.mk (.i rfl zi<|zk) (.nil) rfl) ?_ ?_
 ·rintro k ⟨hk0,hR0⟩
  refine jn ?_; refine j1 ?_; refine jq ?_ ?_
  ·intro h2
   refine j1 ?_; refine tO (i6 (fun hp=>cD _ _) (.a rfl uu<|.a rfl uu<|.nil)) rfl rfl ?_; refine i7 ?_; refine Tr.cnd rfl ?_ ?_
   ·intro h4
    try simp only[decide_eq_false_iff_not,Bool.not_eq_true'] at h4
    refine v9 ?_; exact g6.res1 (fn:=Tryz.f121) rfl (.b rfl (by symm; rw[decide_eq_false_iff_not,jO]; intro hh; exact h4 (hh.1 k zo))<|.nil)
   ·intro h4
    try simp only[decide_eq_true_eq,Bool.not_eq_false'] at h4
    refine j1 ?_
    exact d9.lp (k+1) ⟨by omega,OQ hR0 h4⟩ zo (d6.mk (.i rfl zi<|zk) (.nil) rfl)
  ·intro h2
   replace h2:=Int.not_lt.1 h2
   refine g9 ?_
   exact d9.cut (k) (fun i hi=>hR0 i zo) (d6.mk (.i rfl zi<|zk) (.nil) rfl)
 ·intro k hE0
  refine je ?_; refine y8 ?_; exact g6.res1 (fn:=Tryz.f121) rfl (.b rfl (by rw[Bool.eq_iff_iff,decide_eq_true_eq,decide_eq_true_eq,jO]; exact ⟨fun e=>⟨hE0,by omega⟩,fun e=>by have:=e.2; omega⟩)<|.nil)

theorem dB (r:o6):Ct Tryz.prog 70 [b8 eO r] (kI (H7 r)):=by
 refine Ct.mk Tryz.func70 rfl Tryz.ntmps70 rfl (fun w J=>?_); refine g8 ?_; refine jb 1 rfl ?_; refine wE ?_; refine Tr.cnd rfl ?_ ?_
 ·intro h2
  try simp only[decide_eq_true_eq,Bool.or_eq_true,ne_eq] at h2
  refine j3 ?_; exact g6.res1 (fn:=Tryz.f70) rfl (.i rfl (by unfold H7; rw[if_pos zo])<|.nil)
 ·intro h2
  try simp only[decide_eq_false_iff_not,Bool.or_eq_false_iff,Int.not_lt,ne_eq,Classical.not_not] at h2
  refine j1 ?_; refine tO (i6 (fun hp=>dG _ _ zo) (.a rfl uu<|.a rfl uu<|.nil)) rfl rfl ?_; refine l6 ?_; refine d5.gd rfl rfl rfl (i6 (fun hp=>dG _ _ zo) (.a rfl id<|.a rfl id<|.nil)) rfl rfl ?_; refine g9 ?_; refine Tr.cnd rfl ?_ ?_
  ·intro h4
   try simp only[decide_eq_false_iff_not,Bool.or_eq_true,Bool.not_eq_true'] at h4
   refine j3 ?_; exact g6.res1 (fn:=Tryz.f70) rfl (.i rfl (by unfold H7; rw[if_neg zo,if_pos (fun hh=>h4.elim (fun h=>h hh.1) (fun h=>h hh.2))])<|.nil)
  ·intro h4
   try simp only[decide_eq_true_eq,Bool.not_eq_false',Bool.or_eq_false_iff] at h4
   refine j1 ?_; exact g6.res1 (fn:=Tryz.f70) rfl (.i rfl (by unfold H7; rw[if_neg zo,if_neg (fun hh=>hh h4)])<|.nil)

theorem cX (l:List Int) (n:Nat) (hn:n<=100):Ct Tryz.prog 153 [b8 (eL eI) l,kI (n:Int)] (kB (decide (A6 l n))):=by
 refine Ct.mk Tryz.func153 rfl Tryz.ntmps153 rfl (fun w J=>?_); refine Tr.fact (s:=0) rfl (fun _ _ h=>S4 h) (fun hb=>?_); refine j1 ?_; refine d5.new (FX BU 9 rfl uu rfl uu rfl rfl rfl (fun _=>zo)) rfl rfl rfl rfl ?_; refine y8 ?_
 refine Tr.for1 (σ:=Nat) [⟨0,true,_,_⟩,⟨1,true,_,_⟩,⟨5,true,_,_⟩,⟨10,true,_,_⟩,⟨11,true,_,_⟩] [] (fun k=>[⟨12,true,[],kI (k:Int)⟩]) (fun k=>[⟨9,[],l5 false 4 BU (CK n (l.take k)) n⟩]) (fun k=>k<=l.length/\(∀i,i<k->0<=b6 l i/\b6 l i<n)/\(l.take k).Nodup) (fun k=>FO l n/\l.Nodup) (fun k=>l.length-k) (0) ⟨by omega,fun i h=>absurd h zo,by simp⟩ (d6.mk (.i rfl zi<|zk) (.a (by simp[ae2]) zi<|.nil) rfl) ?_ ?_
 ·rintro k ⟨hk,hR,hD⟩
  refine jn ?_; refine l3 ?_; refine jq ?_ ?_
  ·intro h3
   refine gK ?_
   first | refine d5.gd rfl rfl rfl (KG rfl id rfl id (fun hp=>by simp at hp; omega)) rfl rfl ?_ | refine d5.gd rfl rfl rfl (HN rfl id rfl id (fun hp=>by simp at hp; omega)) rfl rfl ?_
   refine g9 ?_; refine Tr.cnd rfl ?_ ?_
   ·intro h5
    have hbad:¬(0<=b6 l k/\b6 l k<n/\b6 l k∉l.take k):=by (rintro ⟨a,b,c⟩; simp only[Bool.or_eq_true,decide_eq_true_eq,iQ a b] at h5; rcases h5 with (h | h) | h; omega; omega; exact c h)
    refine B3 ?_; exact g6.res1 (fn:=Tryz.f153) rfl (.b rfl (by symm; rw[decide_eq_false_iff_not]; rintro ⟨hh1,hh2,_⟩; exact hbad ⟨(hh1 k zo).1,(hh1 k zo).2,yF hh2 zo⟩)<|.nil)
   ·intro h5
    have hgood:0<=b6 l k/\b6 l k<n/\b6 l k∉l.take k:=by (simp only[Bool.or_eq_false_iff,decide_eq_false_iff_not] at h5; obtain ⟨⟨q1,q2⟩,q3⟩:=h5; have a:0<=b6 l k:=zo; have b:b6 l k<n:=zo; rw[iQ a b] at q3; exact ⟨a,b,of_decide_eq_false q3⟩)
    refine D7 ?_
    exact d9.lp (k+1) ⟨by omega,OQ hR ⟨hgood.1,hgood.2.1⟩,by (rw[W8 zo]; exact yE hD (decide_eq_false hgood.2.2))⟩ zo (d6.mk (.i rfl zi<|zk) (.a (by rw[W8 zo,ae3 zo]) zi<|.nil) rfl)
  ·intro h3
   replace h3:=Int.not_lt.1 h3
   refine g9 ?_
   exact d9.cut (k) ⟨fun i hi=>hR i zo,by (rw[List.take_of_length_le zo] at hD; exact hD)⟩ (d6.mk (.i rfl zi<|zk) (.a zi zi<|.nil) rfl)
 ·rintro k ⟨hr,hd⟩
  refine je ?_; refine y8 ?_; exact g6.res1 (fn:=Tryz.f153) rfl (.b rfl (by rw[Bool.eq_iff_iff,decide_eq_true_eq,decide_eq_true_eq]; exact ⟨fun e=>⟨hr,hd,by omega⟩,fun e=>by have:=e.2.2; omega⟩)<|.nil)

theorem VC (r:o6):Ct Tryz.prog 108 [b8 eO r] (kI (H7 r)):=by
 refine Ct.mk Tryz.func108 rfl Tryz.ntmps108 rfl (fun w J=>?_); refine g8 ?_; refine jb 1 rfl ?_; refine wF ?_; refine Tr.cnd rfl ?_ ?_
 ·intro h2
  try simp only[decide_eq_true_eq,Bool.or_eq_true,ne_eq] at h2
  refine j1 ?_; exact g6.res1 (fn:=Tryz.f108) rfl (.i rfl (by unfold H7; rw[if_pos zo])<|.nil)
 ·intro h2
  try simp only[decide_eq_false_iff_not,Bool.or_eq_false_iff,Int.not_lt,ne_eq,Classical.not_not] at h2
  refine l6 ?_; refine tO (i6 (fun hp=>cX _ _ zo) (.a rfl uu<|.a rfl uu<|.nil)) rfl rfl ?_; refine l6 ?_; refine d5.gd rfl rfl rfl (i6 (fun hp=>cX _ _ zo) (.a rfl id<|.a rfl id<|.nil)) rfl rfl ?_; refine l6 ?_; refine Tr.cnd rfl ?_ ?_
  ·intro h4
   try simp only[decide_eq_false_iff_not,Bool.or_eq_true,Bool.not_eq_true'] at h4
   refine j1 ?_; exact g6.res1 (fn:=Tryz.f108) rfl (.i rfl (by unfold H7; rw[if_neg zo,if_pos (fun hh=>h4.elim (fun h=>h hh.1) (fun h=>h hh.2))])<|.nil)
  ·intro h4
   try simp only[decide_eq_true_eq,Bool.not_eq_false',Bool.or_eq_false_iff] at h4
   refine m9 ?_; exact g6.res1 (fn:=Tryz.f108) rfl (.i rfl (by unfold H7; rw[if_neg zo,if_neg (fun hh=>hh h4)])<|.nil)

end Go.Fl

/- Numbers of a field: what is handed back is taken as it was. No program in sight. -/
namespace Go.Fl
open Go
theorem fN:∀{cs:List Int} {g:Nat},gL g (cs.map fun z=>-z)=gL g cs
 | [],_=>rfl
 | c::cs,g=>by rw[List.map_cons,gL,gL,Int.natAbs_neg,fN]
theorem uV {a g:Int} (h:g∣a):-a/g=-(a/g):=by
 obtain ⟨q,rfl⟩:=h
 by_cases hg:g=0
 ·subst hg; simp
 ·rw[Int.mul_ediv_cancel_left _ hg,<- Int.mul_neg,Int.mul_ediv_cancel_left _ hg]
theorem QY {cs:List Int} {d:Int}:loN (cs.map fun z=>-z) d=((loN cs d).1.map (fun z=>-z),(loN cs d).2):=by
 have e:x9 d (cs.map fun z=>-z)=x9 d cs:=by unfold x9; rw[fN]
 unfold loN
 rw[e,List.map_map,List.map_map]
 refine Prod.ext (List.map_congr_left fun c hc=>?_) rfl
 exact uV (CL (.inr hc))
theorem wT {cs:List Int} {d:Int} (hd:d≠0):loN (loN cs d).1 (loN cs d).2=loN cs d:=by
 have h2:=EE (cs:=cs) hd
 refine JY zo hd ?_
 show ((cs.map fun c=>c/x9 d cs).map fun c=>c*d)=cs.map fun c=>c*(d/x9 d cs)
 rw[List.map_map]
 refine List.map_congr_left fun c hc=>?_
 obtain ⟨q,hq⟩:=CL (d:=d) (cs:=cs) (.inr hc)
 obtain ⟨t,ht⟩:=CL (d:=d) (cs:=cs) (.inl rfl)
 have h0:=HU (cs:=cs) hd
 show c/x9 d cs*d=c*(d/x9 d cs)
 have e1:c/x9 d cs=q:=by rw[congrArg (·/x9 d cs) hq]; exact Int.mul_ediv_cancel_left _ h0
 have e2:d/x9 d cs=t:=by rw[congrArg (·/x9 d cs) ht]; exact Int.mul_ediv_cancel_left _ h0
 rw[e1,e2]
 calc q*d=q*(x9 d cs*t):=by rw[<- ht]
  _=x9 d cs*q*t:=by rw[<- Int.mul_assoc,Int.mul_comm q]
  _=c*t:=by rw[<- hq]
abbrev l7:=List Int×Int
structure v7 (p:List Int) (v:l7):Prop where
 len:v.1.length=4
 pos:0<v.2
 hi:∀i,p.length-1<=i->b6 v.1 i=0
 loN:loN v.1 v.2=v
theorem zero_ediv {g:Int}:(0:Int)/g=0:=by simp
theorem wS {cs:List Int} {d:Int} {i:Nat} (h:b6 cs i=0):b6 (loN cs d).1 i=0:=by
 by_cases hl:i<cs.length
 ·rw[XY hl,h,zero_ediv]
 ·rw[v5 (by rw[DH]; omega)]; rfl
theorem gX {p cs:List Int} {d:Int} (hl:cs.length=4) (hd:d≠0) (h:∀i,p.length-1<=i->b6 cs i=0):v7 p (loN cs d):=⟨DH.trans hl,EE hd,fun i hi=>wS (h i hi),wT hd⟩
theorem HZ {p:List Int} {x:List (List Int)×List Int} (_:G6 p):v7 p (j9 p x):=gX HQ BT fun i hi=>by
 by_cases h:i<4
 ·rw[iO h,v5 (by rw[KQ]; exact hi)]; rfl
 ·rw[v5 (by rw[HQ]; omega)]; rfl
theorem LP {p:List Int} {x y:l7} (hx:v7 p x) (hy:v7 p y):v7 p (C0 x y):=gX p8 (by have:=Int.mul_pos hx.pos hy.pos; omega) fun i hi=>by
 by_cases h:i<4
 ·rw[r5 h,hx.hi i hi,hy.hi i hi]; simp
 ·rw[v5 (by rw[p8]; omega)]; rfl
def S5 (v:l7):l7:=(v.1.map (fun z=>-z),v.2)
def B0 (x y:l7):l7:=C0 x (S5 y)
theorem AW {xs:List Int} {i:Nat}:b6 (xs.map fun z=>-z) i=-b6 xs i:=by
 by_cases h:i<xs.length
 ·simp[b6,h]
 ·rw[v5 (by rw[List.length_map]; omega),v5 zo]; rfl
theorem RF {p:List Int} {x:l7} (hx:v7 p x):v7 p (S5 x):=by
 refine ⟨by show (x.1.map _).length=4; rw[List.length_map,hx.len],hx.pos,fun i hi=>by show b6 (x.1.map _) i=0; rw[AW,hx.hi i hi]; rfl,?_⟩
 show loN (x.1.map fun z=>-z) x.2=S5 x
 rw[QY,hx.loN]; rfl
theorem HW {p:List Int} {x y:l7} (hx:v7 p x) (hy:v7 p y):v7 p (B0 x y):=LP hx (RF hy)
theorem G5.mono {j k:Nat} {v:l7} (h:G5 j v) (hjk:j<=k):G5 k v:=⟨fun i=>Nat.le_trans (h.c i) hjk,Nat.le_trans h.d hjk,h.pos,h.len⟩
theorem mH {xs:List Int}:∃k,xs=j6 xs++List.replicate k 0/\xs.length=(j6 xs).length+k:=by
 induction xs with
 | nil=>exact ⟨0,rfl,rfl⟩
 | cons x xs ih =>
  obtain ⟨k,h1,h2⟩:=ih
  simp only[j6]
  split
  ·rename_i h
   obtain ⟨q1,q2⟩:j6 xs=[]/\x=0:=by first | exact h | simpa using h | exact ⟨by assumption,by assumption⟩
   rw[q1] at h1 h2
   refine ⟨k+1,?_,by simp at h2 ⊢; omega⟩
   rw[List.nil_append,List.replicate_succ,q2]
   rw[List.nil_append] at h1
   exact congrArg _ h1
  ·exact ⟨k,by rw[List.cons_append,<- h1],by simp only[List.length_cons]; omega⟩
theorem U0 {xs:List Int} {i:Nat}:b6 (j6 xs) i=b6 xs i:=by
 obtain ⟨k,h1,_⟩:=mH (xs:=xs)
 conv=>rhs; rw[h1]
 rw[KC]
 split
 ·rfl
 ·rw[v5 zo]; rfl
theorem ZS {xs:List Int} {n:Nat} (h:∀i,n<=i->b6 xs i=0):(j6 xs).length<=n:=by
 refine Classical.byContradiction fun hn=>?_
 have hne:j6 xs≠[]:=fun e=>by rw[e] at hn; simp at hn
 have hl:=KZ hne
 have:=h ((j6 xs).length-1) zo
 rw[<- U0] at this
 refine hl ?_
 rw[List.getLast_eq_getElem]
 have hlt:(j6 xs).length-1<(j6 xs).length:=by omega
 simpa [b6,List.getD,List.getElem?_eq_getElem hlt] using this
theorem gZ {xs:List Int}:((xs.map g7).map val)=xs:=by
 rw[List.map_map]
 conv=>rhs; rw[<- List.map_id xs]
 exact List.map_congr_left fun c _=>q8 c
theorem W7 {p:List Int} {v:l7} (hv:v7 p v):j9 p (m8 v)=v:=by
 unfold j9 m8
 show loN (I1 p (((j6 v.1).map g7).map val)) (w5 (g7 v.2))=v
 have h0:=hv.pos
 rw[gZ,show w5 (g7 v.2)=v.2 by unfold w5; rw[q8,if_neg zo]]
 have e:I1 p (j6 v.1)=v.1:=by
  unfold I1
  rw[SU rfl (ZS hv.hi)]
  conv=>rhs; rw[U5 hv.len]
  refine B5 fun i _=>?_
  rw[KC,U0]
  split
  ·rfl
  ·rw[<- U0,v5 zo]; rfl
 rw[e,hv.loN]
theorem X5 {v:l7} {k:Nat} (hv:G5 k v):y3 k (m8 v):=by
 refine ⟨?_,fun i=>?_,u7 _,by show (g7 v.2).length<=k; rw[r8]; exact hv.d⟩
 ·show ((j6 v.1).map g7).length<=6
  have:=T3 (xs:=v.1)
  rw[List.length_map]
  have:=hv.len
  omega
 ·show w8 (b6 ((j6 v.1).map g7) i)/\(b6 ((j6 v.1).map g7) i).length<=k
  have e:b6 ((j6 v.1).map g7) i=g7 (b6 v.1 i):=by
   rw[<- U0]
   by_cases h:i<(j6 v.1).length
   ·simp[b6,h]
   ·rw[v5 (by rw[List.length_map]; omega),v5 zo]; rfl
  rw[e]
  exact ⟨u7 _,by rw[r8]; exact hv.c i⟩
def w6 (n:Int):l7:=([n,0,0,0],1)
theorem ae7 {cs:List Int}:x9 1 cs=1:=by
 have h1:=WF (c:=cs) (g:=1) zo
 have h2:=QI (cs:=cs) (g:=1) zo
 unfold x9
 rw[if_neg zo]
 show ((gL 1 cs:Nat):Int)=1
 omega
theorem JZ {cs:List Int}:loN cs 1=(cs,1):=by
 unfold loN
 rw[ae7]
 simp
theorem QP {p:List Int} (hp:G6 p) (n:Int):v7 p (w6 n):=by
 refine ⟨rfl,by show (0:Int)<1; omega,fun i hi=>?_,JZ⟩
 have:=hp.1.1
 show b6 [n,0,0,0] i=0
 match i,hi with
 | 0,h=>omega
 | 1,_=>rfl
 | 2,_=>rfl
 | 3,_=>rfl
 | i+4,_=>rw[v5 (by simp)]; rfl
theorem nV {m n:Int}:C0 (w6 m) (w6 n)=w6 (m+n):=by
 unfold C0 w6
 rw[show (1:Int)*1=1 by rfl,JZ]
 simp[j8,List.range,List.range.loop,b6]
theorem lS {m n:Int}:B0 (w6 m) (w6 n)=w6 (m-n):=by
 have e:S5 (w6 n)=w6 (-n):=by simp[S5,w6]
 unfold B0
 rw[e,nV,Int.sub_eq_add_neg]
end Go.Fl

/- Places of intervals, and what is computed of an exchange. No program in sight. -/
namespace Go.Fl
open Go
def CH (ls:List l7) (row:List Int):Nat->l7
 | 0=>w6 0
 | k+1=>C0 (CH ls row k) (b6 ls (b6 row k).toNat)
def GA (ls:List l7) (row:List Int) (k:Nat):List (List (List Int)×List Int):=j8 row.length fun a=>if row.idxOf (a:Int)<k then m8 (CH ls row (row.idxOf (a:Int))) else ([],[])
def L0 (ls:List l7) (row:List Int):List l7:=j8 row.length fun a=>CH ls row (row.idxOf (a:Int))
def TI (ls:List l7) (row:List Int):l7:=CH ls row row.length
def aY (r:List Int×List Int) (ls:List l7) (k:Nat):List l7:=j8 k fun a=>B0 (b6 (L0 ls r.2) a) (b6 (L0 ls r.1) a)
theorem zP {ls:List l7} {row:List Int}:GA ls row 0=List.replicate row.length ([],[]):=by
 unfold GA
 rw[B5 (G:=fun _=>([],[])) fun a _=>by simp]
 simp[j8,List.map_const']
theorem WJ {row:List Int} {n k:Nat} (h:A6 row n) (hk:k<row.length):row.idxOf (b6 row k)=k:=vW hk fun i hi e=>by
 have:=KB h.2.1 zo hk e
 omega
theorem zO {ls:List l7} {row:List Int} {n k:Nat} (h:A6 row n) (hk:k<row.length):(GA ls row k).set (b6 row k).toNat (m8 (CH ls row k))=GA ls row (k+1):=by
 have hr:=h.1 k hk
 have hl:=h.2.2
 unfold GA
 rw[GE]
 refine B5 fun a ha=>?_
 by_cases e:a=(b6 row k).toNat
 ·subst e
  have hi:row.idxOf (((b6 row k).toNat:Nat):Int)=k:=by rw[show (((b6 row k).toNat:Nat):Int)=b6 row k by omega]; exact WJ h hk
  rw[if_pos rfl,hi,if_pos zo]
 ·have hne:row.idxOf (a:Int)≠k:=fun hi=>e (by
   obtain ⟨j,hj,hja⟩:=NF h.2.1 h.1 h.2.2 (x:=(a:Int)) zo zo
   have:=WJ h (k:=j) zo
   rw[hja,hi] at this
   subst this
   omega)
  rw[if_neg e]
  by_cases h1:row.idxOf (a:Int)<k
  ·rw[if_pos h1,if_pos zo]
  ·rw[if_neg h1,if_neg zo]
theorem zN {ls:List l7} {row:List Int} {n:Nat} (h:A6 row n):GA ls row row.length=(L0 ls row).map m8:=by
 unfold GA L0
 simp only[j8,List.map_map]
 refine List.map_congr_left fun a ha=>?_
 have ha:a<row.length:=List.mem_range.1 ha
 have hl:=h.2.2
 obtain ⟨j,hj,hja⟩:=NF h.2.1 h.1 h.2.2 (x:=(a:Int)) zo zo
 have hm:(a:Int)∈row:=by rw[<- hja]; exact E6 zo
 show (if _ then _ else _)=m8 (CH ls row (row.idxOf (a:Int)))
 rw[if_pos (List.idxOf_lt_length_of_mem hm)]
def HB (D:Int) (M:Nat) (v:l7):Prop:=∃cs:List Int,cs.length=4/\v=loN cs D/\∀i,(b6 cs i).natAbs<=M
theorem HH {cs:List Int} {D:Int} (hD:D≠0) (i:Nat):b6 (loN cs D).1 i*D=b6 cs i*(loN cs D).2:=by
 by_cases h:i<cs.length
 ·rw[XY h]
  obtain ⟨q,hq⟩:=CL (d:=D) (cs:=cs) (.inr (RJ h))
  obtain ⟨t,ht⟩:=CL (d:=D) (cs:=cs) (.inl rfl)
  have h0:=HU (cs:=cs) hD
  show b6 cs i/x9 D cs*D=b6 cs i*(D/x9 D cs)
  have e1:b6 cs i/x9 D cs=q:=by rw[congrArg (·/x9 D cs) hq]; exact Int.mul_ediv_cancel_left _ h0
  have e2:D/x9 D cs=t:=by rw[congrArg (·/x9 D cs) ht]; exact Int.mul_ediv_cancel_left _ h0
  rw[e1,e2]
  calc q*D=q*(x9 D cs*t):=by rw[<- ht]
   _=x9 D cs*q*t:=by rw[<- Int.mul_assoc,Int.mul_comm q]
   _=b6 cs i*t:=by rw[<- hq]
 ·rw[v5 (by rw[DH]; omega),v5 zo]
  show (0:Int)*D=0*_
  rw[Int.zero_mul,Int.zero_mul]
theorem KY {F:Nat->Int} {k:Nat} {m:Int}:(j8 k F).map (fun c=>c*m)=j8 k fun i=>F i*m:=by simp[j8]
theorem HB.add {D:Int} {M M':Nat} {x y:l7} (hD:0<D) (hx:HB D M x) (hy:HB D M' y):HB D (M+M') (C0 x y):=by
 obtain ⟨cs,h1,rfl,h3⟩:=hx
 obtain ⟨cs',h1',rfl,h3'⟩:=hy
 have hD0:D≠0:=by omega
 refine ⟨j8 4 fun i=>b6 cs i+b6 cs' i,p8,?_,fun i=>?_⟩
 ·have p1:=EE (cs:=cs) hD0
  have p2:=EE (cs:=cs') hD0
  have p3:=Int.mul_pos p1 p2
  refine JY zo hD0 ?_
  rw[KY,KY]
  refine B5 fun i _=>?_
  have e1:=HH (cs:=cs) hD0 i
  have e2:=HH (cs:=cs') hD0 i
  generalize b6 (loN cs D).1 i=a at *
  generalize b6 (loN cs' D).1 i=b at *
  generalize (loN cs D).2=c at *
  generalize (loN cs' D).2=d at *
  generalize b6 cs i=u at *
  generalize b6 cs' i=v at *
  calc (a*d+b*c)*D=(a*D)*d+(b*D)*c:=by rw[Int.add_mul,Int.mul_assoc,Int.mul_comm d D,<- Int.mul_assoc,Int.mul_assoc b,Int.mul_comm c D,<- Int.mul_assoc b]
   _=u*c*d+v*d*c:=by rw[e1,e2]
   _=(u+v)*(c*d):=by rw[Int.add_mul,Int.mul_assoc,Int.mul_assoc v,Int.mul_comm d c]
 ·by_cases h:i<4
  ·rw[r5 h]; have:=h3 i; have:=h3' i; omega
  ·rw[v5 (by rw[p8]; omega)]; show (0:Int).natAbs<=_; omega
theorem HB.neg {D:Int} {M:Nat} {x:l7} (hx:HB D M x):HB D M (S5 x):=by
 obtain ⟨cs,h1,rfl,h3⟩:=hx
 refine ⟨cs.map fun z=>-z,by rw[List.length_map,h1],QY.symm,fun i=>?_⟩
 rw[AW,Int.natAbs_neg]
 exact h3 i
theorem HB.sub {D:Int} {M M':Nat} {x y:l7} (hD:0<D) (hx:HB D M x) (hy:HB D M' y):HB D (M+M') (B0 x y):=hx.add hD hy.neg
theorem HB.mono {D:Int} {M M':Nat} {x:l7} (hx:HB D M x) (h:M<=M'):HB D M' x:=let ⟨cs,h1,h2,h3⟩:=hx; ⟨cs,h1,h2,fun i=>Nat.le_trans (h3 i) h⟩
theorem HB.nbd {D:Int} {M k:Nat} {x:l7} (hx:HB D M x) (hD:0<D) (h1:dl D<=k) (h2:dl (M:Int)<=k):G5 k x:=by
 obtain ⟨cs,l,rfl,h3⟩:=hx
 exact XC (fun i=>Nat.le_trans (N4 (h3 i)) h2) h1 zo l
theorem HB.scale {D m:Int} {M:Nat} {x:l7} (hx:HB D M x) (hD:0<D) (hm:0<m):HB (D*m) (M*m.natAbs) x:=by
 obtain ⟨cs,l,rfl,h3⟩:=hx
 refine ⟨cs.map fun c=>c*m,by rw[List.length_map,l],(MW zo zo).symm,fun i=>?_⟩
 by_cases h:i<cs.length
 ·have e:b6 (cs.map fun c=>c*m) i=b6 cs i*m:=by simp[b6,h]
  rw[e,Int.natAbs_mul]
  exact Nat.mul_le_mul_right _ (h3 i)
 ·rw[v5 (by rw[List.length_map]; omega)]; show (0:Int).natAbs<=_; omega
theorem HB.zero {D:Int} (hD:0<D):HB D 0 (w6 0):=by
 refine ⟨[0,0,0,0],rfl,?_,fun i=>?_⟩
 ·have:w6 0=loN [0,0,0,0] 1:=JZ.symm
  rw[this]
  refine JY (by decide) zo ?_
  simp
 ·match i with
  | 0=>exact Nat.le_refl _
  | 1=>exact Nat.le_refl _
  | 2=>exact Nat.le_refl _
  | 3=>exact Nat.le_refl _
  | i+4=>rw[v5 (by simp)]; exact Nat.le_refl _
theorem HB.self {p:List Int} {v:l7} {M:Nat} (h:v7 p v) (hM:∀i,(b6 v.1 i).natAbs<=M):HB v.2 M v:=⟨v.1,h.len,h.loN.symm,hM⟩
theorem xP {v:l7} {k:Nat} (h:G5 k v):∃M:Nat,dl (M:Int)<=k/\∀i,(b6 v.1 i).natAbs<=M:=by
 refine ⟨max (max (b6 v.1 0).natAbs (b6 v.1 1).natAbs) (max (b6 v.1 2).natAbs (b6 v.1 3).natAbs),?_,fun i=>?_⟩
 ·have e:∀z:Int,dl ((z.natAbs:Nat):Int)=dl z:=fun z=>by unfold dl; rw[Int.natAbs_natCast]
  have h0:=h.c 0; have h1:=h.c 1; have h2:=h.c 2; have h3:=h.c 3
  rw[<- e] at h0 h1 h2 h3
  rcases Nat.le_total (b6 v.1 0).natAbs (b6 v.1 1).natAbs with q1 | q1<;>rcases Nat.le_total (b6 v.1 2).natAbs (b6 v.1 3).natAbs with q2 | q2<;>simp only[Nat.max_eq_left q1,Nat.max_eq_right q1,Nat.max_eq_left q2,Nat.max_eq_right q2]<;>rw[Nat.max_def]<;>split<;>assumption
 ·by_cases hi:i<4
  ·rcases (show i=0\/i=1\/i=2\/i=3 by omega) with rfl | rfl | rfl | rfl<;>omega
  ·rw[v5 (by rw[h.len]; omega)]; show (0:Int).natAbs<=_; omega
theorem HB.all {p:List Int} {k:Nat}:∀{ls:List l7},(∀v∈ls,v7 p v/\G5 k v)->∃(D:Int) (M:Nat),0<D/\dl D<=ls.length*k+1/\dl (M:Int)<=ls.length*k+1/\∀v∈ls,HB D M v
 | [],_=>⟨1,1,by omega,by rw[List.length_nil,Nat.zero_mul]; exact K1 zo zo,by rw[List.length_nil,Nat.zero_mul]; exact K1 zo zo,fun v h=>by cases h⟩
 | v::ls,h=>by
  obtain ⟨D,M,h1,h2,h3,h4⟩:=HB.all (ls:=ls) fun x hx=>h x (List.mem_cons_of_mem _ hx)
  obtain ⟨hr,hb⟩:=h v List.mem_cons_self
  obtain ⟨Mv,m1,m2⟩:=xP hb
  have hs:=HB.self hr m2
  have e:(v::ls).length*k+1=ls.length*k+1+k:=by rw[List.length_cons,Nat.succ_mul]; omega
  have d1:=s7 D v.2
  have d2:=hb.d
  have d3:=s7 (M:Int) v.2
  have d4:=s7 (Mv:Int) D
  have hv:((v.2.natAbs:Nat):Int)=v.2:=by have:=hb.pos; omega
  have hDa:((D.natAbs:Nat):Int)=D:=by omega
  refine ⟨D*v.2,max (M*v.2.natAbs) (Mv*D.natAbs),Int.mul_pos h1 hb.pos,by omega,?_,fun x hx=>?_⟩
  ·rw[Nat.max_def]
   split
   ·rw[Int.natCast_mul,hDa]; omega
   ·rw[Int.natCast_mul,hv]; omega
  ·rcases List.mem_cons.1 hx with rfl | hx
   ·have:=hs.scale hb.pos h1
    rw[Int.mul_comm] at this
    exact this.mono (Nat.le_max_right _ _)
   ·exact ((h4 x hx).scale h1 hb.pos).mono (Nat.le_max_left _ _)
structure F8 (p:List Int) (D:Int) (M n:Nat) (ls:List l7):Prop where
 len:ls.length=n
 red:∀a,a<n->v7 p (b6 ls a)
 hb:∀a,a<n->HB D M (b6 ls a)
 pos:0<D
 bD:dl D<=200
 bM:dl ((100000*M:Nat):Int)<=200
theorem F8.nbd {p:List Int} {D:Int} {M n m:Nat} {ls:List l7} (h:F8 p D M n ls) {v:l7} (hv:HB D (m*M) v) (hm:m<=100000):G5 200 v :=
 hv.nbd h.pos h.bD (Nat.le_trans (N4 (by rw[Int.natAbs_natCast,Int.natAbs_natCast]; exact Nat.mul_le_mul_right _ hm)) h.bM)
theorem F8.one {p:List Int} {D:Int} {M n a:Nat} {ls:List l7} (h:F8 p D M n ls) (ha:a<n):G5 200 (b6 ls a):=h.nbd (m:=1) (by rw[Nat.one_mul]; exact h.hb a ha) zo
theorem YQ {p:List Int} {D:Int} {M n:Nat} {ls:List l7} {row:List Int} (hp:G6 p) (h:F8 p D M n ls) (hr:A6 row n):∀k,k<=n->v7 p (CH ls row k)/\HB D (k*M) (CH ls row k)
 | 0,_=>⟨QP hp 0,by rw[Nat.zero_mul]; exact HB.zero h.pos⟩
 | k+1,hk=>by
  obtain ⟨h1,h2⟩:=YQ hp h hr k zo
  have hrk:=hr.1 k (by have:=hr.2.2; omega)
  refine ⟨LP h1 (h.red _ zo),?_⟩
  rw[Nat.succ_mul]
  exact h2.add h.pos (h.hb _ zo)
theorem EI {xs:List l7} {i:Nat} (h:i<xs.length):b6 (xs.map m8) i=m8 (b6 xs i):=by simp[b6,h]
theorem SO {ls:List l7} {row:List Int}:(L0 ls row).length=row.length:=p8
theorem jN {p:List Int} {D:Int} {M n:Nat} {ls:List l7} {row:List Int} (hp:G6 p) (h:F8 p D M n ls) (hr:A6 row n) {a:Nat} (ha:a<n):v7 p (b6 (L0 ls row) a)/\HB D (n*M) (b6 (L0 ls row) a):=by
 have hl:=hr.2.2
 obtain ⟨j,hj,hja⟩:=NF hr.2.1 hr.1 hl (x:=(a:Int)) zo zo
 have hi:row.idxOf (a:Int)=j:=by rw[<- hja]; exact WJ hr zo
 unfold L0
 rw[r5 zo,hi]
 obtain ⟨h1,h2⟩:=YQ hp h hr j zo
 exact ⟨h1,h2.mono (Nat.mul_le_mul_right _ zo)⟩
theorem RI {p:List Int} {xs:List (List (List Int)×List Int)} {a:Nat} (h:a<xs.length):b6 (xs.map (j9 p)) a=j9 p (b6 xs a):=by simp[b6,h]
theorem ai5 {p:List Int} {xs:List (List (List Int)×List Int)} {n:Nat} (hp:G6 p) (hl:xs.length=n) (hn:n<=8) (h:∀a,a<n->y3 2 (b6 xs a)) {more:List l7} (hm:more.length<=2) (hmo:∀v∈more,v7 p v/\G5 17 v):∃(D:Int) (M:Nat),F8 p D M n (xs.map (j9 p))/\∀v∈more,HB D M v:=by
 have key:∀v∈xs.map (j9 p)++more,v7 p v/\G5 17 v:=fun v hv=>by
  rcases List.mem_append.1 hv with hv | hv
  ·obtain ⟨x,hx,rfl⟩:=List.mem_map.1 hv
   obtain ⟨i,hi,rfl⟩:=List.mem_iff_getElem.1 hx
   have e:b6 xs i=xs[i]:=by simp[b6,hi]
   rw[<- e]
   exact ⟨HZ hp,Y4 hp (h i zo)⟩
  ·exact hmo v hv
 obtain ⟨D,M,h1,h2,h3,h4⟩:=HB.all key
 have hll:(xs.map (j9 p)++more).length<=10:=by rw[List.length_append,List.length_map]; omega
 have hk:=Nat.mul_le_mul_right 17 hll
 have e:∀a,a<n->b6 (xs.map (j9 p)) a∈xs.map (j9 p)++more:=fun a ha=>List.mem_append_left _ (by rw[RI zo]; exact List.mem_map_of_mem (by simp[b6,hl,ha]))
 refine ⟨D,M,⟨by rw[List.length_map,hl],fun a ha=>(key _ (e a ha)).1,fun a ha=>h4 _ (e a ha),h1,by omega,?_⟩,fun v hv=>h4 v (List.mem_append_right _ hv)⟩
 have d1:=s7 (100000:Int) (M:Int)
 have d2:=K1 (F:=100000) zo zo
 rw[show ((100000*M:Nat):Int)=100000*(M:Int) by omega]
 omega
end Go.Fl

/- Contracts: exchanges: places of intervals, the machine. -/
namespace Go.Fl
open Go Go.Proofs
open d5 renaming op->tO
open i9 renaming op->rO
set_option maxRecDepth 100000

abbrev o8:=u8×List Int×List Int×List s5
abbrev CR:=C9×o6×List s5×List s5×List s5×List s5×s5
def eX:i8 o8:=eC (fun v:o8=>(v.1,v.2.1,v.2.2.1,v.2.2.2,())) (eP A8 (eP (eL eI) (eP (eL eI) (eP (eL j7) eU))))
instance {v:o8}:E9 (b8 eX v) [b8 (eL eI) (v.1.1),kI (v.1.2.1),kI (v.1.2.2.1),kI (v.1.2.2.2),b8 (eL eI) (v.2.1),b8 (eL eI) (v.2.2.1),b8 (eL j7) (v.2.2.2)]:=inferInstanceAs (E9 (b8 (eC (fun v:o8=>(v.1,v.2.1,v.2.2.1,v.2.2.2,())) (eP A8 (eP (eL eI) (eP (eL eI) (eP (eL j7) eU))))) v) _)
instance {v:o8}:P8 eX v (b8 eX v):=⟨fun h=>h⟩
instance {v:o8}:v6 eX v 0 A8 (v.1) 0:=inferInstanceAs (v6 (eC (fun v:o8=>(v.1,v.2.1,v.2.2.1,v.2.2.2,())) (eP A8 (eP (eL eI) (eP (eL eI) (eP (eL j7) eU))))) v 0 _ _ _)
instance {v:o8}:v6 eX v 1 (eL eI) (v.2.1) 4:=inferInstanceAs (v6 (eC (fun v:o8=>(v.1,v.2.1,v.2.2.1,v.2.2.2,())) (eP A8 (eP (eL eI) (eP (eL eI) (eP (eL j7) eU))))) v 1 _ _ _)
instance {v:o8}:v6 eX v 3 (eL j7) (v.2.2.2) 6:=inferInstanceAs (v6 (eC (fun v:o8=>(v.1,v.2.1,v.2.2.1,v.2.2.2,())) (eP A8 (eP (eL eI) (eP (eL eI) (eP (eL j7) eU))))) v 3 _ _ _)
instance {ks r:List d7} {f:u8} {a b:List Int} {c:List s5} [h:t6 ks (eP A8 (eP (eL eI) (eP (eL eI) (eP (eL j7) eU)))) (f,a,b,c,()) r]:t6 ks eX ((f,a,b,c)) r:=⟨fun h'=>h.imp h'⟩
def L8:i8 CR:=eC (fun v:CR=>(v.1,v.2.1,v.2.2.1,v.2.2.2.1,v.2.2.2.2.1,v.2.2.2.2.2.1,v.2.2.2.2.2.2,())) (eP (Z0 A5) (eP eO (eP (eL j7) (eP (eL j7) (eP (eL j7) (eP (eL j7) (eP j7 eU)))))))
instance {v:CR}:v6 L8 v 0 (Z0 A5) (v.1) 0:=inferInstanceAs (v6 (eC (fun v:CR=>(v.1,v.2.1,v.2.2.1,v.2.2.2.1,v.2.2.2.2.1,v.2.2.2.2.2.1,v.2.2.2.2.2.2,())) (eP (Z0 A5) (eP eO (eP (eL j7) (eP (eL j7) (eP (eL j7) (eP (eL j7) (eP j7 eU)))))))) v 0 _ _ _)
instance {v:CR}:v6 L8 v 1 eO (v.2.1) 1:=inferInstanceAs (v6 (eC (fun v:CR=>(v.1,v.2.1,v.2.2.1,v.2.2.2.1,v.2.2.2.2.1,v.2.2.2.2.2.1,v.2.2.2.2.2.2,())) (eP (Z0 A5) (eP eO (eP (eL j7) (eP (eL j7) (eP (eL j7) (eP (eL j7) (eP j7 eU)))))))) v 1 _ _ _)
instance {v:CR}:v6 L8 v 2 (eL j7) (v.2.2.1) 3:=inferInstanceAs (v6 (eC (fun v:CR=>(v.1,v.2.1,v.2.2.1,v.2.2.2.1,v.2.2.2.2.1,v.2.2.2.2.2.1,v.2.2.2.2.2.2,())) (eP (Z0 A5) (eP eO (eP (eL j7) (eP (eL j7) (eP (eL j7) (eP (eL j7) (eP j7 eU)))))))) v 2 _ _ _)
instance {ks r:List d7} {rr:C9} {o:o6} {a b c d:List s5} {t:s5} [h:t6 ks (eP (Z0 A5) (eP eO (eP (eL j7) (eP (eL j7) (eP (eL j7) (eP (eL j7) (eP j7 eU))))))) (rr,o,a,b,c,d,t,()) r]:t6 ks L8 ((rr,o,a,b,c,d,t)) r:=⟨fun h'=>h.imp h'⟩
instance:GS j7 (.agg #[.slice none 0 0,.slice none 0 0]) ([],[]):=⟨fun _=>⟨[.slice none 0 0],[.slice none 0 0],rfl,Y1,[.slice none 0 0],[],rfl,Y1,rfl⟩⟩
def Z3 (r:C9) (o:o6) (ls:List l7):CR:=(r,o,ls.map m8,(L0 ls o.1).map m8,(L0 ls o.2).map m8,(aY o ls o.1.length).map m8,m8 (TI ls o.1))
structure OF (r:C9) (sg:l7->Int):Prop where
 sign:∀x,y3 250 x->Ct Tryz.prog 82 [r7 A5 r,b8 j7 x] (kI (sg (j9 r.2.1 x)))
 cmp:∀x y,y3 250 x->y3 250 y->Ct Tryz.prog 83 [r7 A5 r,b8 j7 x,b8 j7 y] (kI (sg (B0 (j9 r.2.1 x) (j9 r.2.1 y))))
theorem tL (r:C9) (u v:l7) (k:Nat) (hpo:G6 r.2.1) (hu:v7 r.2.1 u) (hv:v7 r.2.1 v) (bu:G5 k u) (bv:G5 k v) (hk:k<=100000) {x y:s5} (hx:m8 u=x) (hy:m8 v=y):Ct Tryz.prog 118 [r7 A5 r,b8 j7 x,b8 j7 y] (b8 j7 (m8 (C0 u v))):=by
 have h:=qX r (m8 u) (m8 v) k hpo (X5 bu) (X5 bv) hk
 rw[W7 hu,W7 hv,hx,hy] at h
 exact h
theorem tM (r:C9) (u v:l7) (k:Nat) (hpo:G6 r.2.1) (hu:v7 r.2.1 u) (hv:v7 r.2.1 v) (bu:G5 k u) (bv:G5 k v) (hk:k<=100000) {x y:s5} (hx:m8 u=x) (hy:m8 v=y):Ct Tryz.prog 116 [r7 A5 r,b8 j7 x,b8 j7 y] (b8 j7 (m8 (B0 u v))):=by
 have h:=cJ r (m8 u) (m8 v) k hpo (X5 bu) (X5 bv) hk
 rw[W7 hu,W7 hv,hx,hy] at h
 exact h
theorem PL (x:o8):Ct Tryz.prog 114 [b8 eX x] (b8 eO (x.2.1,x.2.2.1)):=by
 refine Ct.mk Tryz.func114 rfl Tryz.ntmps114 rfl (fun w J=>?_); refine g8 ?_; refine jb 1 rfl ?_; refine ja 2 ?_; refine j1 ?_; refine tO (A1 (fun hp=>.cons rfl rfl rfl<|.cons rfl rfl rfl<|.nil)) rfl rfl ?_; refine g9 ?_; exact g6.resC1 (fn:=Tryz.f114) rfl rfl (t7 rfl (by rfl))

theorem VA (r:o6) (h1:r.1.length<=1000) (h2:r.2.length<=1000):Ct Tryz.prog 101 [b8 eO r] (b8 eO r):=by
 refine Ct.mk Tryz.func101 rfl Tryz.ntmps101 rfl (fun w J=>?_); refine g8 ?_; refine jb 1 rfl ?_; refine ja 2 ?_; refine i7 ?_; refine Tr.draw 5 o0 (by kernel_rfl) ?_; refine g8 ?_; refine rO (i6 (fun hp=>CY _ zo) (.a rfl uu<|.nil)) rfl rfl ?_; refine i7 ?_; refine tO (i6 (fun hp=>CY _ zo) (.a rfl uu<|.nil)) rfl rfl ?_; refine tO (A1 (fun hp=>.cons rfl rfl rfl<|.cons rfl rfl rfl<|.nil)) rfl rfl ?_; refine g9 ?_; exact g6.resC1 (fn:=Tryz.f101) rfl rfl (t7 rfl (by rfl))

theorem cY (r:C9) (ra rb:List Int) (ls:List l7) (k1 k2 k3 k4 k5:d7) [o5 k1 []] [o5 k2 []] [o5 k3 []] [o5 k4 []] [o5 k5 []] (row:List Int) (D:Int) (M n:Nat) (hpo:G6 r.2.1) (hls:F8 r.2.1 D M n ls) (hn:n<=8) (hpm:A6 row n):EV Tryz.prog 115 (y5 0 0) [b8 (eL eI) row] (j5 [r7 A5 r,b8 (eL eI) ra,b8 (eL eI) rb,b8 (eL j7) (ls.map m8),k1,k2,k3,k4,k5]) (j5 [r7 A5 r,b8 (eL eI) ra,b8 (eL eI) rb,b8 (eL j7) (ls.map m8),k1,k2,k3,k4,k5]) (z6 [b8 (eL j7) ((L0 ls row).map m8),b8 j7 (m8 (TI ls row))]):=by
 have hrl:=hpm.2.2
 have hll:=hls.len
 have hrk:=hpm.1
 have hml:(ls.map m8).length=n:=by rw[List.length_map,hll]
 refine EV.mk Tryz.func115 rfl Tryz.ntmps115 rfl (fun w J bb cap=>?_); refine i7 ?_; refine ja 5 ?_; refine i7 ?_; refine Tr.draw 5 o0 (by kernel_rfl) ?_; refine g8 ?_; refine i9.new (FX j7 12 rfl uu rfl uu rfl rfl rfl (fun _=>zo)) rfl rfl rfl rfl ?_; refine jd (rF 0 zo) ?_; refine i9.new (KE 7) rfl rfl rfl rfl ?_; refine B3 ?_
 refine Tr.for1 (σ:=Nat) [⟨0,true,_,_⟩,⟨5,true,_,_⟩,⟨7,true,_,_⟩,⟨14,true,_,_⟩,⟨15,true,_,_⟩] [⟨0,_,_⟩,⟨5,_,_⟩] (fun k=>[⟨6,true,[12],o9 12 row.length⟩,⟨16,true,[],kI (k:Int)⟩]) (fun k=>[⟨12,[],l5 false 30 j7 (GA ls row k) row.length⟩,⟨7,[],j5 [b8 (eL (eL eI)) (m8 (CH ls row k)).1,b8 (eL eI) (m8 (CH ls row k)).2]⟩]) (fun k=>k<=row.length) (fun k=>k=row.length) (fun k=>row.length-k) (0) zi (d6.mk (.o rfl zi rfl<|.i rfl zi<|zk) (.a zP.symm zi<|.e (by rfl) rfl<|zk) rfl) ?_ ?_
 ·intro k hR0
  refine jn ?_
  have hrk2:=hrk k
  have hpk:=YQ hpo hls hpm k zo
  refine l3 ?_; refine jq ?_ ?_
  ·intro h3
   refine JP ?_; refine Tr.draw 12 o0 (by kernel_rfl) ?_; refine i5 ?_; refine rO (N7 rfl uu) rfl rfl ?_; refine g9 ?_; refine rO (N7 rfl uu) rfl rfl ?_; refine l3 ?_; refine tO (i6 (fun hp=>tL r (CH ls row k) (b6 ls (b6 row k).toNat) 200 hpo hpk.1 (hls.red _ zo) (hls.nbd hpk.2 zo) (hls.one zo) zo rfl (EI zo).symm) (.a rfl uu<|.se rfl uu rfl rfl<|.a rfl uu<|.nil)) rfl rfl ?_; refine j1 ?_
   exact d9.lp (k+1) zi zo (d6.mk (.o rfl zi rfl<|.i rfl zi<|zk) (.a (by rw[<- zO hpm zo]) zi<|.e (by rfl) rfl<|zk) rfl)
  ·intro h3
   replace h3:=Int.not_lt.1 h3
   refine g9 ?_
   exact d9.cut (k) zo (d6.mk (.o rfl zi rfl<|.i rfl zi<|zk) (zk) rfl)
 ·rintro k hkn
  refine je ?_; refine g8 ?_; refine Tr.frzBo 12 [6] rfl rfl ⟨rfl,trivial⟩ (by simp only[p9]; omega) rfl ?_; refine Tr.draw 3 o0 (by kernel_rfl) ?_; refine j1 ?_; exact g6.mutTC (fn:=Tryz.f115) (t:=4) (a:=5) rfl rfl (.r rfl (by rw[hkn,zN hpm])<|.nil) rfl rfl (t7 rfl (by rw[hkn]; rfl))

end Go.Fl

/- Contracts: exchanges are opened; points of the interval. -/
namespace Go.Fl
open Go Go.Proofs
open d5 renaming op->tO
open i9 renaming op->rO
set_option maxRecDepth 100000

set_option maxHeartbeats 1000000 in
theorem tV (x:o8) (r:C9) (sg:l7->Int) (D:Int) (M:Nat) (hop:Ct Tryz.prog 113 [b8 A8 x.1] (z6 [r7 A5 r,kI 0])) (hpo:G6 r.2.1) (hs:OF r sg) (v:F2 (x.2.1,x.2.2.1)) (hl:x.2.2.2.length=x.2.1.length) (hnm:∀a,a<x.2.1.length->y3 250 (b6 x.2.2.2 a)) (hlo:F8 r.2.1 D M x.2.1.length (x.2.2.2.map (j9 r.2.1))) (hpos:∀a,a<x.2.1.length->0<sg (j9 r.2.1 (b6 x.2.2.2 a))):Ct Tryz.prog 66 [b8 eX x] (z6 [r7 L8 (Z3 r (x.2.1,x.2.2.1) (x.2.2.2.map (j9 r.2.1))),kI 0]):=by
 obtain ⟨ls,hls⟩:∃ls,ls=x.2.2.2.map (j9 r.2.1):=⟨_,rfl⟩
 rw[<- hls] at hlo
 have hll:=hlo.len
 have hle:x.2.1.length<=8:=v.le
 have hle2:x.2.2.1.length=x.2.1.length:=v.len
 have hp1:A6 x.2.1 x.2.1.length:=v.p1
 have hp2:A6 x.2.2.1 x.2.1.length:=v.p2
 have hpl1:((L0 ls x.2.1).map m8).length=x.2.1.length:=by rw[List.length_map,SO]
 have hpl2:((L0 ls x.2.2.1).map m8).length=x.2.1.length:=by rw[List.length_map,SO,hle2]
 rw[<- hls]
 have hnk:∀k,k<x.2.1.length->b6 ls k=j9 r.2.1 (b6 x.2.2.2 k):=fun k hk=>by rw[hls]; simp[b6,hl,hk]
 refine Ct.mk Tryz.func66 rfl Tryz.ntmps66 rfl (fun w J=>?_); refine g8 ?_; refine jb 1 rfl ?_; refine j1 ?_; refine jc hop ?_; refine D7 ?_; refine Tr.cnd rfl ?_ ?_
 ·intro h2
  exact absurd h2 (by decide)
 ·intro h2
  refine l3 ?_; refine tO (i6 (fun hp=>PL _) (.s rfl uu rfl<|.nil)) rfl rfl ?_; refine tO (i6 (fun hp=>VC _) (.a rfl uu<|.nil)) rfl rfl ?_; refine m9 ?_; refine Tr.cnd rfl ?_ ?_
  ·intro h5
   rw[oW v] at h5; exact absurd h5 (by decide)
  ·intro h5
   refine D7 ?_; refine jq ?_ ?_
   ·intro h7
    omega
   ·intro h7
    replace h7:=Classical.not_not.1 h7
    refine l3 ?_; refine tO (i6 (fun hp=>PL _) (.s rfl uu rfl<|.nil)) rfl rfl ?_; refine tO (i6 (fun hp=>VA _ (by show x.2.1.length<=1000; omega) (by show x.2.2.1.length<=1000; omega)) (.a rfl uu<|.nil)) rfl rfl ?_; refine tO (A1 (fun hp=>.cons rfl rfl rfl<|.cons rfl rfl rfl<|.nil)) rfl rfl ?_; refine jb 38 rfl ?_; refine v9 ?_; refine Tr.growC 38 3 139 rfl (ks':=[_,_,_,o9 139 0,_,_,_,_,_]) rfl rfl 30 j7 rfl (.cons inferInstance rfl<|.cons inferInstance rfl<|.cons inferInstance rfl<|.cons inferInstance rfl<|.cons inferInstance rfl<|.cons inferInstance rfl<|.cons inferInstance rfl<|.cons inferInstance rfl<|.cons inferInstance rfl<|inferInstance) ?_
    refine Tr.for1 (σ:=Nat) [⟨1,true,_,_⟩,⟨4,true,_,_⟩,⟨7,true,_,_⟩,⟨40,true,_,_⟩,⟨41,true,_,_⟩] [⟨1,_,_⟩] (fun k=>[⟨42,true,[],kI (k:Int)⟩]) (fun k=>[⟨38,[139],j5 [r7 A5 r,b8 (eL eI) x.2.1,b8 (eL eI) x.2.2.1,o9 139 k,j4 (.slice none 0 0),j4 (.slice none 0 0),j4 (.slice none 0 0),j4 (.slice none 0 0),j4 (.slice none 0 0)]⟩,⟨139,[],l5 true 30 j7 ((ls.take k).map m8) k⟩]) (fun k=>k<=x.2.1.length) (fun k=>k=x.2.1.length) (fun k=>x.2.1.length-k) (0) zi (d6.mk (.i rfl zi<|zk) (.e (by rfl) rfl<|.a (by rfl) zi<|zk) rfl) ?_ ?_
    ·intro k hR0
     refine jn ?_; refine l3 ?_; refine jq ?_ ?_
     ·intro h11
      refine j1 ?_; refine ja 9 ?_; refine j1 ?_; refine tO (i6 (fun hp=>hs.sign _ (hnm k zo)) (.a rfl uu<|.s rfl uu rfl<|.nil)) rfl rfl ?_; refine i7 ?_; refine jq ?_ ?_
      ·intro h13
       have:=hpos k zo; omega
      ·intro h13
       replace h13:=Int.not_le.1 h13
       refine g8 ?_; refine Tr.drawM (m:=9) o0 (by kernel_rfl) rfl (by kernel_rfl) (by kernel_rfl) (by kernel_rfl) ?_; refine g8 ?_; refine rO (R0 rfl uu) rfl rfl ?_; refine g9 ?_; refine rO (i6 (fun hp=>cH r _ _ hpo (hnm k zo) zo) (.a rfl uu<|.s rfl uu rfl<|.nil)) rfl rfl ?_; refine i9.new (y7 j7 58 (fun hp=>.cons rfl<|.nil) rfl rfl rfl rfl) rfl rfl rfl rfl ?_; refine i5 ?_; refine d5.wkC 38 (.k<|.k<|.k<|.any<|.k<|.k<|.k<|.k<|.k<|.nil) rfl ?_; refine i5 ?_; refine jl ?_; refine tO (R0 rfl uu) rfl rfl ?_
       refine g8 ?_; refine d5.finN ?_; refine l3 ?_
       exact d9.lp (k+1) zi zo (d6.mk (.i rfl zi<|zk) (.e (by rfl) rfl<|.a (by rw[W8 zo,List.map_append,hnk k zo]; rfl) zi<|zk) rfl)
     ·intro h11
      replace h11:=Int.not_lt.1 h11
      refine g9 ?_
      exact d9.cut (k) zo (d6.mk (.i rfl zi<|zk) (zk) rfl)
    ·rintro k hkn
     refine je ?_
     have htk:ls.take k=ls:=by rw[hkn,<- hll,List.take_length]
     rw[htk]
     refine g8 ?_; refine Tr.frzC 139 38 (by simp only[p9]; omega) rfl rfl ?_; refine jn ?_; refine l3 ?_; refine d5.mutQ (cY r _ _ ls _ _ _ _ _ x.2.1 D M x.2.1.length hpo hlo zo hp1) rfl (.a rfl uu<|.nil) rfl rfl ?_; refine i7 ?_; refine tO (R0 rfl uu) rfl rfl ?_; refine g8 ?_; refine tO (R0 rfl uu) rfl rfl ?_; refine u5 ?_; refine d5.mutQ (cY r _ _ ls _ _ _ _ _ x.2.2.1 D M x.2.1.length hpo hlo zo hp2) rfl (.a rfl uu<|.nil) rfl rfl ?_; refine i7 ?_; refine tO (R0 rfl uu) rfl rfl ?_; refine j1 ?_; refine tO (R0 rfl uu) rfl rfl ?_
     refine l3 ?_; refine Tr.growC 38 6 140 rfl (ks':=[_,_,_,_,_,_,o9 140 0,_,_]) rfl rfl 30 j7 rfl (.cons inferInstance rfl<|.cons inferInstance rfl<|.cons inferInstance rfl<|.cons inferInstance rfl<|.cons inferInstance rfl<|.cons inferInstance rfl<|.cons inferInstance rfl<|.cons inferInstance rfl<|.cons inferInstance rfl<|inferInstance) ?_
     refine Tr.for1 (σ:=Nat) [⟨4,true,_,_⟩,⟨7,true,_,_⟩,⟨90,true,_,_⟩] [] (fun k=>[⟨91,true,[],kI (k:Int)⟩]) (fun k=>[⟨38,[140],j5 [r7 A5 r,b8 (eL eI) x.2.1,b8 (eL eI) x.2.2.1,b8 (eL j7) (ls.map m8),b8 (eL j7) ((L0 ls x.2.1).map m8),b8 (eL j7) ((L0 ls x.2.2.1).map m8),o9 140 k,b8 (eL (eL eI)) (m8 (TI ls x.2.1)).1,b8 (eL eI) (m8 (TI ls x.2.1)).2]⟩,⟨140,[],l5 true 30 j7 (j8 k fun a=>m8 (B0 (b6 (L0 ls x.2.2.1) a) (b6 (L0 ls x.2.1) a))) k⟩]) (fun k=>k<=x.2.1.length) (fun k=>k=x.2.1.length) (fun k=>x.2.1.length-k) (0) zi (d6.mk (.i rfl zi<|zk) (.e (by rfl) rfl<|.a (by rfl) zi<|.nil) rfl) ?_ ?_
     ·intro k hR1
      refine jn ?_; refine l3 ?_; refine jq ?_ ?_
      ·intro h20
       refine u5 ?_; refine Tr.drawM (m:=22) o0 (by kernel_rfl) rfl (by kernel_rfl) (by kernel_rfl) (by kernel_rfl) ?_
       have hq1:=jN hpo hlo hp1 (a:=k) zo
       have hq2:=jN hpo hlo hp2 (a:=k) zo
       refine g8 ?_; refine rO (R0 rfl uu) rfl rfl ?_; refine g9 ?_; refine rO (R0 rfl uu) rfl rfl ?_; refine l3 ?_; refine rO (R0 rfl uu) rfl rfl ?_; refine l6 ?_; refine jd (tM r (b6 (L0 ls x.2.2.1) k) (b6 (L0 ls x.2.1) k) 200 hpo hq2.1 hq1.1 (hlo.nbd hq2.2 zo) (hlo.nbd hq1.2 zo) zo (EI (by rw[SO]; omega)).symm (EI (by rw[SO]; omega)).symm) ?_; refine i9.new (y7 j7 115 (fun hp=>.cons rfl<|.nil) rfl rfl rfl rfl) rfl rfl rfl rfl ?_; refine i5 ?_; refine d5.wkC 38 (.k<|.k<|.k<|.k<|.k<|.k<|.any<|.k<|.k<|.nil) rfl ?_
       refine i5 ?_; refine jl ?_; refine tO (R0 rfl uu) rfl rfl ?_; refine g8 ?_; refine d5.finN ?_; refine l3 ?_
       exact d9.lp (k+1) zi zo (d6.mk (.i rfl zi<|zk) (.e (by rfl) rfl<|.a (by rw[H0]) zi<|.nil) rfl)
      ·intro h20
       replace h20:=Int.not_lt.1 h20
       refine g9 ?_
       exact d9.cut (k) zo (d6.mk (.i rfl zi<|zk) (zk) rfl)
     ·rintro k hkn
      refine je ?_; refine g8 ?_; refine Tr.frzC 140 38 (by simp only[p9]; omega) rfl rfl ?_; refine jn ?_; refine Tr.frzB 38 [7] L8 ⟨rfl,trivial⟩ rfl ?_; refine jn ?_; refine j3 ?_; exact g6.res (fn:=Tryz.f66) (ts:=[2,3]) rfl rfl (.p rfl (by rw[hkn]; simp only[Z3,aY,j8,List.map_map]; rfl)<|.i rfl (by rfl)<|.nil)

end Go.Fl

/- What the walks of iterators lean on. -/

/- The letter of a point. No program in sight. -/
namespace Go.Fl
open Go
theorem y3.mono {j k:Nat} {x:List (List Int)×List Int} (h:y3 j x) (hjk:j<=k):y3 k x:=⟨h.len,fun i=>⟨(h.c i).1,Nat.le_trans (h.c i).2 hjk⟩,h.d.1,Nat.le_trans h.d.2 hjk⟩
def QV (sg:l7->Int) (tops:List l7) (row:List Int) (pv:l7):Nat->Int
 | 0=>b6 row 0
 | k+1=>if sg (B0 (b6 tops (b6 row (k+1)).toNat) pv)<=0 then b6 row (k+1) else QV sg tops row pv k
theorem zR:G6 [0,1]:=by
 refine ⟨by decide,fun i=>?_⟩
 match i with
 | 0=>show dl 0<=1; rw[C5.2 rfl]; omega
 | 1=>show dl 1<=1; exact K1 zo zo
 | i+2=>rw[v5 (by simp)]; show dl 0<=1; rw[C5.2 rfl]; omega
end Go.Fl

/- Contracts: loops over slices.Backward; points, their letters and images. -/
namespace Go.Fl
open Go Go.Proofs
open d5 renaming op->tO
open i9 renaming op->rO
set_option maxRecDepth 100000

instance {r:C9} {o:o6} {ls:List l7}:v6 L8 (Z3 r o ls) 0 (Z0 A5) (r) 0:=inferInstanceAs (v6 L8 (Z3 r o ls) 0 (Z0 A5) ((Z3 r o ls).1) _)
instance {r:C9} {o:o6} {ls:List l7}:v6 L8 (Z3 r o ls) 1 eO (o) 1:=inferInstanceAs (v6 L8 (Z3 r o ls) 1 eO ((Z3 r o ls).2.1) _)
instance {r:C9} {o:o6} {ls:List l7}:v6 L8 (Z3 r o ls) 2 (eL j7) (ls.map m8) 3:=inferInstanceAs (v6 L8 (Z3 r o ls) 2 (eL j7) ((Z3 r o ls).2.2.1) _)
section
open Go Go.RowKit Go.Proofs
attribute [local go_sem] Oper.semAt_some
set_option maxHeartbeats 2000000 in
theorem oK:NY Tryz.prog 194 eI:=by
 intro J W xs ptr him hp
 obtain ⟨bx,ox,ds,rfl,hrd,hcell⟩:=hp
 obtain ⟨ad,cap,rfl,⟨hlen,hcap⟩,hrow⟩:=hrd
 refine ⟨fun i=>.int .i64 (b6 xs i),fun i _=>⟨[.int .i64 (b6 xs i)],rfl,rfl⟩,?_⟩
 intro l Iv Ix hY h0
 have hbox:∀W',Im J W'->W'.cell? ⟨bx,ox,none⟩=some (.slice ad xs.length cap):=fun W' h=>h _ _ _ (by have:=hcell 0 _ rfl; simpa using this)
 simp only[p9] at hlen
 have hb0:=hbox W him
 refine (callsIn_wide (n:=3)).1 ?_; refine callsIn_of_wp Tryz.func194 rfl trivial ?_
 simp only[Tryz.ntmps194,List.size_toArray,List.length_cons,List.length_nil,Nat.reduceAdd,Nat.reduceSub,Array.replicate_succ,Array.replicate_zero,List.push_toArray,List.append_toArray,List.nil_append,List.cons_append]
 gi_wp2
 gi_loopw [3] (fun i wr=>∃k:Nat,k<=xs.length/\i=.int .i64 ((xs.length:Int)-1-k)/\Iv k wr/\Im J wr)
  (fun i _=>(intOf i+1).toNat)
 case atStart=>exact ⟨0,Nat.zero_le _,by simp,h0,him⟩
 case round =>
  obtain ⟨k,hk,rfl,hJs,himr⟩:=hrel
  have hbr:=hbox wr himr
  by_cases hlt:k<xs.length
  ·obtain ⟨fn,tmps,assign,body,hy,hR⟩:=hY k wr hlt himr hJs
   rw[show ((xs.length-1-k:Nat):Int)=(xs.length:Int)-1-k by omega] at hy
   obtain ⟨b,o,rfl,hrw⟩:=hrow.resolve_left (fun e=>by subst e; simp at hlt)
   have hcx:wr.cell? ⟨b,o+(xs.length-1-k),none⟩=some (.int .i64 (b6 xs (xs.length-1-k))):=by
    obtain ⟨ds,q1,q2⟩:=hrw (xs.length-1-k) _ (H1 zo)
    have q1:ds=[.int .i64 (b6 xs (xs.length-1-k))]:=q1
    subst q1
    have:=himr _ _ _ (q2 0 _ rfl)
    simpa [eI,FK] using this
   gi_wp2
   refine hR.mono ?_
   rintro e W3 (⟨rfl,hJ3,hk3⟩ | ⟨rfl,hJx3⟩)
   ·gi_wp2
    go_roundw
    case rel=>exact ⟨k+1,by omega,by congr 1; omega,hJ3,hk3⟩
    case measure=>simp[intOf]; omega
   ·gi_wp2
    refine bodyPost_ret (results_none rfl _ _ _) rfl ?_; exact ⟨⟨_,rfl⟩,.inr ⟨k,hlt,hJx3⟩⟩
  ·obtain rfl:k=xs.length:=by omega
   gi_wp2
   go_end0
   exact ⟨⟨_,rfl⟩,.inl hJs⟩
end
theorem qH (xs:List Int):Ct Tryz.prog 166 [b8 (eL eI) xs] (AU 194 [r7 (eL eI) xs]):=by
 refine Ct.mk Tryz.func166 rfl Tryz.ntmps166 rfl (fun w J=>?_); refine g8 ?_; refine jb 1 rfl ?_; refine g9 ?_; refine Tr.frzB 1 [1] (eL eI) ⟨rfl,trivial⟩ rfl ?_; refine jn ?_; refine i5 ?_; refine tO (EK (.cons rfl uu<|.nil)) rfl rfl ?_; refine g9 ?_; exact g6.res1 (fn:=Tryz.f166) rfl (zk)

end Go.Fl

/- Contracts: the image of a point. -/
namespace Go.Fl
open Go Go.Proofs
open d5 renaming op->tO
open i9 renaming op->rO
set_option maxRecDepth 100000

end Go.Fl

/- Lowest terms, as the reference of chapter 1 finds them. No program in sight. -/
namespace Go.Fl
open Go
theorem ZU {xs:List Int} {x:Int} (hx:x≠0):j6 (xs++[x])=xs++[x]:=by
 have:=GF (xs:=xs++[x]) (m:=xs.length+1) (by simp) (fun i h1 h2=>by simp at h2; omega) (.inr (by simpa [b6] using hx))
 rw[this,List.take_of_length_le (by simp)]
theorem aj4 {xs:List Int}:j6 (xs++[0])=j6 xs:=NS (k:=1)
theorem mM {xs:List Int} {k:Nat} (hk:k<xs.length):(j6 (xs.take (k+1))).length=if b6 xs k=0 then (j6 (xs.take k)).length else k+1:=by
 rw[W8 hk]
 split
 ·rename_i h; rw[h,aj4]
 ·rename_i h; rw[ZU h,List.length_append,List.length_take]; simp; omega
theorem uW {a g:Int} (hg:g≠0) (h:g∣a):a/g=0↔a=0:=by
 obtain ⟨q,rfl⟩:=h
 rw[Int.mul_ediv_cancel_left _ hg]
 constructor
 ·intro e; rw[e]; simp
 ·intro e; exact (Int.mul_eq_zero.1 e).resolve_left hg
theorem aj3 {g:Int} (hg:g≠0):∀{cs:List Int},(∀c∈cs,g∣c)->j6 (cs.map fun c=>c/g)=(j6 cs).map fun c=>c/g:=by
 intro cs h
 obtain ⟨k,h1,_⟩:=mH (xs:=cs)
 have hz:(cs.map fun c=>c/g)=((j6 cs).map fun c=>c/g)++List.replicate k 0:=by
  conv=>lhs; rw[h1]
  rw[List.map_append,List.map_replicate]
  simp
 rw[hz,NS]
 by_cases hn:j6 cs=[]
 ·rw[hn]; rfl
 ·obtain ⟨xs,x,hx⟩:∃xs x,j6 cs=xs++[x]:=⟨_,_,(List.dropLast_concat_getLast hn).symm⟩
  have hl:=KZ hn
  have hx0:x≠0:=by
   have e:(j6 cs).getLast hn=x:=by simp[hx]
   rw[<- e]; exact hl
  rw[hx,List.map_append]
  exact ZU fun e=>hx0 ((uW hg (h x (TJ (by rw[hx]; simp)))).1 e)
theorem wR {cs:List Int} {d:Int} (hd:d≠0):m8 (loN cs d)=(j8 (j6 cs).length (fun i=>g7 (b6 cs i/x9 d cs)),g7 (d/x9 d cs)):=by
 unfold m8 loN
 refine Prod.ext ?_ rfl
 show (j6 (cs.map fun c=>c/x9 d cs)).map g7=_
 rw[aj3 (HU hd) fun c hc=>CL (.inr hc)]
 refine D6 (by simp[j8]) fun i hi=>?_
 rw[List.length_map,List.length_map] at hi
 rw[r5 hi,<- U0]
 simp[b6,hi]
end Go.Fl

/- Contracts: numbers of the reference of chapter 1 in lowest terms. -/
namespace Go.Fl
open Go Go.Proofs
open d5 renaming op->tO
open i9 renaming op->rO
set_option maxRecDepth 100000

set_option maxHeartbeats 1000000 in
theorem PK (c:List (List Int)) (d:List Int) (hc:∀i,w8 (b6 c i)/\(b6 c i).length<=100000) (hd:w8 d/\d.length<=100000) (h0:val d≠0) (hcl:c.length<=1000):Ct Tryz.prog 81 [b8 (eL (eL eI)) c,b8 (eL eI) d] (b8 j7 (m8 (loN (c.map val) (val d)))):=by
 have hdd:dl (val d)<=100003:=by have:=N5 hd.1; have:=hd.2; omega
 have hgl:∀k,dl (gL (val d).natAbs ((c.map val).take k):Int)<=100003:=fun k=>Nat.le_trans (N4 (WF zo)) hdd
 have hvl:(c.map val).length=c.length:=List.length_map ..
 have hnv:∀k,b6 (c.map val) k=val (b6 c k):=fun k=>S7
 have hg0:(x9 (val d) (c.map val))≠0:=HU h0
 have hgd:dl (x9 (val d) (c.map val))<=100003:=by have:=hgl c.length; rw[List.take_of_length_le zo] at this; unfold x9; split; (rw[K6]; exact this); exact this
 have hgz:val []=0:=rfl
 have htl:(j6 (c.map val)).length<=c.length:=by have:=T3 (xs:=(c.map val)); omega
 refine Ct.mk Tryz.func81 rfl Tryz.ntmps81 rfl (fun w J=>?_); refine g8 ?_; refine ja 4 ?_; refine l6 ?_; refine tO (i6 (fun hp=>dD d [] hd.1 (fun _ h=>absurd h (Nat.not_lt_zero _)) (by have:=hd.2; omega) (by simp)) (.a rfl uu<|.n rfl uu<|.nil)) rfl rfl ?_; refine D7 ?_
 refine Tr.for1 (σ:=Nat) [⟨0,true,_,_⟩,⟨1,true,_,_⟩,⟨4,true,_,_⟩] [⟨4,_,_⟩] (fun k=>[⟨5,true,[],b8 (eL eI) (d8 (gL (val d).natAbs ((c.map val).take k)))⟩,⟨6,true,[],kI ((j6 ((c.map val).take k)).length:Int)⟩,⟨7,true,[],kI (k:Int)⟩]) (fun k=>[]) (fun k=>k<=c.length) (fun k=>k=c.length) (fun k=>c.length-k) (0) zi (d6.mk (.r rfl (by rw[hgz]; simp[gL])<|.i rfl (by rfl)<|.i rfl zi<|zk) (zk) rfl) ?_ ?_
 ·intro k hR0
  refine jn ?_
  have hck:=hc k
  refine m9 ?_; refine jq ?_ ?_
  ·intro h4
   refine y8 ?_; refine tO (i6 (fun hp=>dD (d8 (gL (val d).natAbs ((c.map val).take k))) (b6 c k) (y0 _).inI hck.1 (by have:=hgl k; unfold dl at this; simp only[Int.natAbs_natCast] at this; omega) (by have:=hck.2; omega)) (.a rfl uu<|.a rfl uu<|.nil)) rfl rfl ?_; refine m9 ?_; refine jc (BN (b6 c k) hck.1 (by have:=hck.2; omega)) ?_; refine i7 ?_; refine jq ?_ ?_
   ·intro h7
    have hnz:b6 (c.map val) k≠0:=fun e=>h7 (R8.2 (by rw[<- hnv]; exact e))
    refine v9 ?_
    exact d9.lp (k+1) zi zo (d6.mk (.r rfl (by rw[y4]; refine congrArg d8 ?_; have:=WG (c:=(c.map val)) (g:=(val d).natAbs) (k:=k) zo; rw[hnv] at this; simp only[Int.gcd,Int.natAbs_natCast] at this ⊢; omega)<|.i rfl (by rw[mM zo,if_neg hnz]; rfl)<|.i rfl zi<|zk) (zk) rfl)
   ·intro h7
    replace h7:=Classical.not_not.1 h7
    have hnz:b6 (c.map val) k=0:=by rw[hnv]; exact R8.1 h7
    refine j1 ?_
    exact d9.lp (k+1) zi zo (d6.mk (.r rfl (by rw[y4]; refine congrArg d8 ?_; have:=WG (c:=(c.map val)) (g:=(val d).natAbs) (k:=k) zo; rw[hnv] at this; simp only[Int.gcd,Int.natAbs_natCast] at this ⊢; omega)<|.i rfl (by rw[mM zo,if_pos hnz])<|.i rfl zi<|zk) (zk) rfl)
  ·intro h4
   replace h4:=Int.not_lt.1 h4
   refine g9 ?_
   exact d9.cut (k) zo (d6.mk (.r rfl zi<|.i rfl zi<|.i rfl zi<|zk) (zk) rfl)
 ·rintro _ rfl
  refine je ?_
  rw[show (c.map val).take c.length=(c.map val) from List.take_of_length_le zo]
  refine i5 ?_; refine Tr.meet2 (σ:=Unit) [⟨0,true,_,_⟩,⟨1,true,_,_⟩,⟨4,true,_,_⟩,⟨6,true,_,_⟩] [⟨4,_,_⟩] (zk) (zk) (fun _=>[⟨5,true,[],b8 (eL eI) (g7 (x9 (val d) (c.map val)))⟩]) (fun _=>[]) (fun _=>True) ?_ ?_
  ·skip
   refine i7 ?_; refine jc (BN d hd.1 (by have:=hd.2; omega)) ?_; refine i7 ?_; refine jq ?_ ?_
   ·intro h9
    have h9l:val d<0:=by unfold q9 at h9; split at h9; assumption; split at h9<;>omega
    refine g8 ?_; refine tO (i6 (fun hp=>FI (d8 (gL (val d).natAbs (c.map val))) (y0 _).inI (by have:=hgl c.length; rw[List.take_of_length_le zo] at this; unfold dl at this; simp only[Int.natAbs_natCast] at this; omega)) (.a rfl uu<|.nil)) rfl rfl ?_; refine g8 ?_
    exact d9.cut (()) zi (d6.mk (.r rfl (by rw[y4]; unfold x9; rw[if_pos h9l])<|zk) (zk) rfl)
   ·intro h9
    replace h9:=Int.not_lt.1 h9
    have h9l:¬val d<0:=fun e=>by unfold q9 at h9; rw[if_pos e] at h9; omega
    refine i5 ?_
    exact d9.cut (()) zi (d6.mk (.r rfl (by unfold x9; rw[if_neg h9l,RB])<|zk) (zk) rfl)
  ·intro _ hM
   refine jn ?_; refine g8 ?_; refine tO (A1 (fun hp=>.nil)) rfl rfl ?_; refine ja 8 ?_; refine m9 ?_; refine Tr.growC 8 0 108 rfl (ks':=[o9 108 0,_]) rfl rfl 22 (eL eI) rfl (.cons inferInstance rfl<|.cons inferInstance rfl<|inferInstance) ?_
   refine Tr.for1 (σ:=Nat) [⟨0,true,_,_⟩,⟨1,true,_,_⟩,⟨4,true,_,_⟩,⟨5,true,_,_⟩,⟨6,true,_,_⟩,⟨8,true,_,_⟩] [⟨4,_,_⟩] (fun k=>[⟨9,true,[],kI (k:Int)⟩]) (fun k=>[⟨8,[108],j5 [o9 108 k,j4 (.slice none 0 0)]⟩,⟨108,[],l5 true 22 (eL eI) (j8 k fun i=>g7 (b6 (c.map val) i/(x9 (val d) (c.map val)))) k⟩]) (fun k=>k<=(j6 (c.map val)).length) (fun k=>k=(j6 (c.map val)).length) (fun k=>(j6 (c.map val)).length-k) (0) zi (d6.mk (.i rfl zi<|zk) (.e (by rfl) rfl<|.a (by rfl) zi<|zk) rfl) ?_ ?_
   ·intro k hR1
    refine jn ?_
    have hck:=hc k
    refine j1 ?_; refine jq ?_ ?_
    ·intro h13
     refine y8 ?_; refine tO (i6 (fun hp=>(by have h:=dC (b6 c k) (g7 (x9 (val d) (c.map val))) hck.1 (u7 _) (by have:=hck.2; omega) (by rw[r8]; omega); simp only[q8,if_neg hg0] at h; exact h)) (.a rfl uu<|.a rfl uu<|.nil)) rfl rfl ?_; refine B3 ?_; refine d5.new (y7 (eL eI) 59 (fun hp=>.cons rfl<|.nil) rfl rfl rfl rfl) rfl rfl rfl rfl ?_; refine d5.wkC 8 (.any<|.k<|.nil) rfl ?_; refine i5 ?_; refine jl ?_; refine u5 ?_
     exact d9.lp (k+1) zi zo (d6.mk (.i rfl zi<|zk) (.e (by rfl) rfl<|.a (by rw[H0,hnv]) zi<|zk) rfl)
    ·intro h13
     replace h13:=Int.not_lt.1 h13
     refine g9 ?_
     exact d9.cut (k) zo (d6.mk (.i rfl zi<|zk) (zk) rfl)
   ·rintro k hkn
    refine je ?_; refine g8 ?_; refine Tr.frzC 108 8 (by simp only[p9]; omega) rfl rfl ?_; refine jn ?_; refine i7 ?_; refine tO (i6 (fun hp=>(by have h:=dC (d) (g7 (x9 (val d) (c.map val))) hd.1 (u7 _) (by have:=hd.2; omega) (by rw[r8]; omega); simp only[q8,if_neg hg0] at h; exact h)) (.a rfl uu<|.a rfl uu<|.nil)) rfl rfl ?_; refine K3 ?_; exact g6.resC1 (fn:=Tryz.f81) rfl rfl (t7 rfl (by rw[wR h0,hkn]))

theorem JC (n:Int) (hn:-9223372036854775808<=n/\n<=9223372036854775807):Ct Tryz.prog 28 [kI n] (b8 j7 (m8 (loN [n] 1))):=by
 refine Ct.mk Tryz.func28 rfl Tryz.ntmps28 rfl (fun w J=>?_); refine g8 ?_; refine ja 2 ?_; refine l6 ?_; refine d5.new (y7 eI 4 (fun hp=>.cons rfl<|.nil) rfl rfl rfl rfl) rfl rfl rfl rfl ?_; refine d5.frz 4 [4] ⟨rfl,trivial⟩ (by decide) rfl ?_; refine jl ?_; refine tO (N0 (eL eI) (fun hp=>.cons rfl<|.nil) rfl rfl rfl rfl) rfl rfl ?_; refine tO (N0 eI (fun hp=>.cons rfl<|.nil) rfl rfl rfl rfl) rfl rfl ?_; refine tO (i6 (fun hp=>PK [[n]] [1] (fun i=>by match i with | 0=>exact ⟨V7 zo,by show 1<=100000; omega⟩ | i+1=>exact ⟨fun _ h=>absurd h (Nat.not_lt_zero _),by show 0<=100000; omega⟩) ⟨V7 zo,by show 1<=100000; omega⟩ (by decide) (by simp)) (.a rfl uu<|.a rfl uu<|.nil)) rfl rfl ?_
 refine g9 ?_; exact g6.resC1 (fn:=Tryz.f28) rfl rfl (t7 rfl (by rw[show [[n]].map val=[n] by simp[val],I3]))

end Go.Fl

/- The exchange of two intervals, of lengths 3 and 2. No program in sight. -/
namespace Go.Fl
open Go
theorem QM {n:Int}:m8 (loN [n] 1)=m8 (w6 n):=by
 rw[JZ]
 unfold m8 w6
 have:j6 [n,0,0,0]=j6 [n]:=NS (xs:=[n]) (k:=3)
 simp only[this]
theorem ZL {n:Int}:j9 [0,1] (m8 (w6 n))=w6 n:=W7 (QP zR n)
abbrev ZR:List l7:=[w6 3,w6 2]
theorem aj7:([m8 (w6 3),m8 (w6 2)]:List (List (List Int)×List Int)).map (j9 [0,1])=ZR:=by simp[ZL]
end Go.Fl

/- Contracts: the exchange that the laws of chapter 5 begin with is mapped as it should. -/
namespace Go.Fl
open Go Go.Proofs
open d5 renaming op->tO
open i9 renaming op->rO
set_option maxRecDepth 100000

abbrev E3:o8:=(KN,[0,1],[1,0],[m8 (w6 3),m8 (w6 2)])
theorem qE (a b:List (List Int)):Ct Tryz.prog 51 [b8 (eL (eL eI)) a,b8 (eL (eL eI)) b] (kB (decide (a=b))):=by
 refine Ct.mk Tryz.func51 rfl Tryz.ntmps51 rfl (fun w J=>?_); refine Tr.fact (s:=0) rfl (fun _ _ h=>S4 h) (fun hb=>?_); refine K3 ?_; refine jq ?_ ?_
 ·intro h1
  have hne:a≠b:=fun e=>h1 (by rw[e])
  refine j3 ?_; exact g6.res1 (fn:=Tryz.f51) rfl (.b rfl (by symm; rw[decide_eq_false_iff_not]; exact hne)<|.nil)
 ·intro h1
  replace h1:=Classical.not_not.1 h1
  have hll:a.length=b.length:=by omega
  refine j1 ?_
  refine Tr.for1 (σ:=Nat) [⟨0,true,_,_⟩,⟨1,true,_,_⟩] [] (fun k=>[⟨5,true,[],kI (k:Int)⟩]) (fun k=>[]) (fun k=>k<=a.length/\∀i,i<k->b6 a i=b6 b i) (fun k=>∀i,i<a.length->b6 a i=b6 b i) (fun k=>a.length-k) (0) ⟨Nat.zero_le _,fun i h=>absurd h (Nat.not_lt_zero _)⟩ (d6.mk (.i rfl zi<|zk) (.nil) rfl) ?_ ?_
  ·rintro k ⟨hk,hR⟩
   refine jn ?_; refine m9 ?_; refine jq ?_ ?_
   ·intro h4
    refine l6 ?_; refine Tr.draw 8 o0 (by kernel_rfl) ?_; refine m9 ?_; refine jc (IZ (b6 a k) (b6 b k)) ?_; refine i7 ?_; refine Tr.cnd rfl ?_ ?_
    ·intro h6
     have hne:a≠b:=fun e=>by subst e; simp at h6
     refine v9 ?_; exact g6.res1 (fn:=Tryz.f51) rfl (.b rfl (by symm; rw[decide_eq_false_iff_not]; exact hne)<|.nil)
    ·intro h6
     have hkk:b6 a k=b6 b k:=by simpa using h6
     refine j1 ?_
     exact d9.lp (k+1) ⟨by omega,fun i hi=>by by_cases e:i=k; (rw[e]; exact hkk); exact hR i zo⟩ zo (d6.mk (.i rfl zi<|zk) (.nil) rfl)
   ·intro h4
    replace h4:=Int.not_lt.1 h4
    refine g9 ?_
    exact d9.cut (k) (fun i hi=>hR i zo) (d6.mk (.i rfl zi<|zk) (.nil) rfl)
  ·rintro k hE
   refine je ?_; refine j3 ?_; exact g6.res1 (fn:=Tryz.f51) rfl (.b rfl (by symm; rw[decide_eq_true_eq]; exact D6 hll hE)<|.nil)

theorem qF (a b:s5):Ct Tryz.prog 18 [b8 j7 a,b8 j7 b] (kB (decide (a=b))):=by
 refine Ct.mk Tryz.func18 rfl Tryz.ntmps18 rfl (fun w J=>?_); refine g8 ?_; refine jb 2 rfl ?_; refine jb 3 rfl ?_; refine m9 ?_; refine tO (i6 (fun hp=>qE _ _) (.a rfl uu<|.a rfl uu<|.nil)) rfl rfl ?_; refine l6 ?_; refine d5.gd rfl rfl rfl (i6 (fun hp=>IZ a.2 b.2) (.a rfl id<|.a rfl id<|.nil)) rfl rfl ?_; refine l6 ?_; exact g6.res1 (fn:=Tryz.f18) rfl (.b rfl (by rw[<- Bool.decide_and]; exact decide_eq_decide.2 (Prod.ext_iff).symm)<|.nil)

theorem tK  : Ct Tryz.prog 64 [] (b8 eX E3):=by
 refine Ct.mk Tryz.func64 rfl Tryz.ntmps64 rfl (fun w J=>?_); refine g8 ?_; refine ja 0 ?_; refine g9 ?_; refine jc sM ?_; refine d5.new (y7 eI 2 (fun hp=>.cons rfl<|.cons rfl<|.nil) rfl rfl rfl rfl) rfl rfl rfl rfl ?_; refine d5.frz 2 [2] ⟨rfl,trivial⟩ (by decide) rfl ?_; refine jl ?_; refine d5.new (y7 eI 3 (fun hp=>.cons rfl<|.cons rfl<|.nil) rfl rfl rfl rfl) rfl rfl rfl rfl ?_; refine d5.frz 3 [3] ⟨rfl,trivial⟩ (by decide) rfl ?_; refine jl ?_; refine jc (JC 3 zo) ?_; refine jc (JC 2 zo) ?_; refine d5.new (y7 j7 6 (fun hp=>.cons rfl<|.cons rfl<|.nil) rfl rfl rfl rfl) rfl rfl rfl rfl ?_
 refine d5.frz 6 [6] ⟨rfl,trivial⟩ (by decide) rfl ?_; refine jl ?_; refine tO (A1 (fun hp=>.cons rfl rfl rfl<|.cons rfl rfl rfl<|.cons rfl rfl rfl<|.cons rfl rfl rfl<|.nil)) rfl rfl ?_; refine g9 ?_; exact g6.resC1 (fn:=Tryz.f64) rfl rfl (t7 rfl (by rw[QM,QM]))

end Go.Fl

/- Intervals of a number: Horner's rule with ends, halving. Plain Lean, no program in sight. -/
namespace Go.Fl
def J4 (a b c d:Int):Int:=min (min a b) (min c d)
def I9 (a b c d:Int):Int:=max (max a b) (max c d)
theorem WZ {A B x y:Int} (h1:A<=x) (h2:x<=B):min (A*y) (B*y)<=x*y/\x*y<=max (A*y) (B*y):=by
 rcases Int.le_total 0 y with hy | hy
 ·have e1:=Int.mul_le_mul_of_nonneg_right h1 hy
  have e2:=Int.mul_le_mul_of_nonneg_right h2 hy
  omega
 ·have e1:=Int.mul_le_mul_of_nonpos_right h1 hy
  have e2:=Int.mul_le_mul_of_nonpos_right h2 hy
  omega
theorem QO {A B L H x y:Int} (h1:A<=x) (h2:x<=B) (h3:L<=y) (h4:y<=H):J4 (A*L) (A*H) (B*L) (B*H)<=x*y/\x*y<=I9 (A*L) (A*H) (B*L) (B*H):=by
 have e1:=WZ (y:=y) h1 h2
 have e2:=WZ (y:=A) h3 h4
 have e3:=WZ (y:=B) h3 h4
 rw[Int.mul_comm L,Int.mul_comm H,Int.mul_comm y] at e2 e3
 unfold J4 I9
 omega
theorem XK {A B L H:Int}:∃x y,(x=A\/x=B)/\(y=L\/y=H)/\J4 (A*L) (A*H) (B*L) (B*H)=x*y:=by
 unfold J4
 have h:min (min (A*L) (A*H)) (min (B*L) (B*H))=A*L\/min (min (A*L) (A*H)) (min (B*L) (B*H))=A*H\/min (min (A*L) (A*H)) (min (B*L) (B*H))=B*L\/min (min (A*L) (A*H)) (min (B*L) (B*H))=B*H:=by omega
 rcases h with h | h | h | h
 ·exact ⟨A,L,.inl rfl,.inl rfl,h⟩
 ·exact ⟨A,H,.inl rfl,.inr rfl,h⟩
 ·exact ⟨B,L,.inr rfl,.inl rfl,h⟩
 ·exact ⟨B,H,.inr rfl,.inr rfl,h⟩
theorem XH {A B L H:Int}:∃x y,(x=A\/x=B)/\(y=L\/y=H)/\I9 (A*L) (A*H) (B*L) (B*H)=x*y:=by
 unfold I9
 have h:max (max (A*L) (A*H)) (max (B*L) (B*H))=A*L\/max (max (A*L) (A*H)) (max (B*L) (B*H))=A*H\/max (max (A*L) (A*H)) (max (B*L) (B*H))=B*L\/max (max (A*L) (A*H)) (max (B*L) (B*H))=B*H:=by omega
 rcases h with h | h | h | h
 ·exact ⟨A,L,.inl rfl,.inl rfl,h⟩
 ·exact ⟨A,H,.inl rfl,.inr rfl,h⟩
 ·exact ⟨B,L,.inr rfl,.inl rfl,h⟩
 ·exact ⟨B,H,.inr rfl,.inr rfl,h⟩
theorem XS {Q a b:Int} (h:0<=Q):min (Q*a) (Q*b)=Q*min a b:=by
 rcases Int.le_total a b with h1 | h1
 ·have:=Int.mul_le_mul_of_nonneg_left h1 h
  rw[Int.min_eq_left h1,Int.min_eq_left this]
 ·have:=Int.mul_le_mul_of_nonneg_left h1 h
  rw[Int.min_eq_right h1,Int.min_eq_right this]
theorem XR {Q a b:Int} (h:0<=Q):max (Q*a) (Q*b)=Q*max a b:=by
 rcases Int.le_total a b with h1 | h1
 ·have:=Int.mul_le_mul_of_nonneg_left h1 h
  rw[Int.max_eq_right h1,Int.max_eq_right this]
 ·have:=Int.mul_le_mul_of_nonneg_left h1 h
  rw[Int.max_eq_left h1,Int.max_eq_left this]
theorem XL {Q a b c d:Int} (h:0<=Q):J4 (Q*a) (Q*b) (Q*c) (Q*d)=Q*J4 a b c d:=by
 unfold J4; rw[XS h,XS h,XS h]
theorem XJ {Q a b c d:Int} (h:0<=Q):I9 (Q*a) (Q*b) (Q*c) (Q*d)=Q*I9 a b c d:=by
 unfold I9; rw[XR h,XR h,XR h]
structure Iv where
 lo:Int
 hi:Int
 den:Int
def enc (I:Iv):List Int->Int×Int×Int
 | []=>(0,0,1)
 | c::cs =>
  let e:=enc I cs
  (J4 (e.1*I.lo) (e.1*I.hi) (e.2.1*I.lo) (e.2.1*I.hi)+c*(e.2.2*I.den),I9 (e.1*I.lo) (e.1*I.hi) (e.2.1*I.lo) (e.2.1*I.hi)+c*(e.2.2*I.den),e.2.2*I.den)
structure Iv.Ok (I:Iv):Prop where
 le:I.lo<=I.hi
 pos:0<I.den
theorem VZ {I:Iv}:∀{cs:List Int},(enc I cs).2.2=I.den ^ cs.length
 | []=>by simp[enc]
 | c::cs=>by rw[enc,List.length_cons,Int.pow_succ,<- VZ]
theorem MF {I:Iv}:∀{cs:List Int},(enc I cs).1<=(enc I cs).2.1
 | []=>Int.le_refl _
 | c::cs=>by
  rw[enc]
  simp only
  have:J4 ((enc I cs).1*I.lo) ((enc I cs).1*I.hi) ((enc I cs).2.1*I.lo) ((enc I cs).2.1*I.hi)<=I9 ((enc I cs).1*I.lo) ((enc I cs).1*I.hi) ((enc I cs).2.1*I.lo) ((enc I cs).2.1*I.hi):=by unfold J4 I9; omega
  omega
structure Iv.In (I' I:Iv) (m:Int):Prop where
 m0:0<m
 den:I'.den=m*I.den
 lo:m*I.lo<=I'.lo
 hi:I'.hi<=m*I.hi
theorem WA {I' I:Iv} {m:Int} (h:I'.In I m) (h':I'.lo<=I'.hi):∀{cs:List Int},m ^ cs.length*(enc I cs).1<=(enc I' cs).1/\(enc I' cs).2.1<=m ^ cs.length*(enc I cs).2.1/\(enc I' cs).2.2=m ^ cs.length*(enc I cs).2.2
 | []=>by simp[enc]
 | c::cs=>by
  obtain ⟨h1,h2,h3⟩:=WA h h' (cs:=cs)
  have hle:=MF (I:=I') (cs:=cs)
  have hm:=h.m0
  rw[enc,enc,List.length_cons,Int.pow_succ]
  simp only
  generalize (enc I cs).1=A at *
  generalize (enc I cs).2.1=B at *
  generalize (enc I cs).2.2=D at *
  generalize (enc I' cs).1=A' at *
  generalize (enc I' cs).2.1=B' at *
  generalize (enc I' cs).2.2=D' at *
  have hq:0<m ^ cs.length:=Int.pow_pos hm
  have hQ:=Int.mul_pos hq hm
  generalize m ^ cs.length=q at *
  have hd:D'*I'.den=q*m*(D*I.den):=by rw[h3,h.den]; simp only[Int.mul_left_comm,Int.mul_comm]
  have hc:c*(D'*I'.den)=q*m*(c*(D*I.den)):=by rw[hd]; simp only[Int.mul_left_comm,Int.mul_comm]
  have e:∀x y:Int,q*x*(m*y)=q*m*(x*y):=fun x y=>by simp only[Int.mul_left_comm,Int.mul_comm]
  have key:∀x y,(x=A'\/x=B')->(y=I'.lo\/y=I'.hi)->J4 (q*A*(m*I.lo)) (q*A*(m*I.hi)) (q*B*(m*I.lo)) (q*B*(m*I.hi))<=x*y/\x*y<=I9 (q*A*(m*I.lo)) (q*A*(m*I.hi)) (q*B*(m*I.lo)) (q*B*(m*I.hi)):=fun x y hx hy=>by
   have b1:q*A<=x/\x<=q*B:=by rcases hx with rfl | rfl<;>omega
   have b2:m*I.lo<=y/\y<=m*I.hi:=by have:=h.lo; have:=h.hi; rcases hy with rfl | rfl<;>omega
   exact QO b1.1 b1.2 b2.1 b2.2
  simp only[e,XL (Int.le_of_lt hQ),XJ (Int.le_of_lt hQ)] at key
  refine ⟨?_,?_,hd⟩
  ·obtain ⟨x,y,hx,hy,hxy⟩:=XK (A:=A') (B:=B') (L:=I'.lo) (H:=I'.hi)
   have:=(key x y hx hy).1
   rw[hxy,Int.mul_add,hc]; omega
  ·obtain ⟨x,y,hx,hy,hxy⟩:=XH (A:=A') (B:=B') (L:=I'.lo) (H:=I'.hi)
   have:=(key x y hx hy).2
   rw[hxy,Int.mul_add,hc]; omega
end Go.Fl

/- Signs of numbers: the intervals are halved until one decides. Plain Lean, no program in sight. -/
namespace Go.Fl
def u9 (a b:Int):List Int->Int×Int
 | []=>(0,1)
 | c::cs=>((u9 a b cs).1*a+c*(u9 a b cs).2,(u9 a b cs).2*b)
def s6 (z:Int):Int:=q9 z 0
def K8 (p:List Int) (I:Iv):Iv :=
 if s6 (u9 I.lo I.den p).1*s6 (u9 (I.lo+I.hi) (I.den+I.den) p).1<0 then ⟨I.lo+I.lo,I.lo+I.hi,I.den+I.den⟩ else ⟨I.lo+I.hi,I.hi+I.hi,I.den+I.den⟩
theorem vR {p:List Int} {I:Iv} (h:I.Ok):(K8 p I).Ok:=by
 have h1:=h.le; have h2:=h.pos
 unfold K8
 split
 ·exact ⟨by simp only; omega,by simp only; omega⟩
 ·exact ⟨by simp only; omega,by simp only; omega⟩
theorem vQ {p:List Int} {I:Iv} (h:I.Ok):(K8 p I).In I 2:=by
 have h1:=h.le
 unfold K8
 split
 ·exact ⟨by omega,by simp only; omega,by simp only; omega,by simp only; omega⟩
 ·exact ⟨by omega,by simp only; omega,by simp only; omega,by simp only; omega⟩
theorem Iv.In.trans {A B C:Iv} {m n:Int} (h1:A.In B m) (h2:B.In C n):A.In C (m*n):=by
 have a1:=h1.m0; have a2:=h2.m0
 refine ⟨Int.mul_pos a1 a2,by rw[h1.den,h2.den,Int.mul_assoc],?_,?_⟩
 ·have:=Int.mul_le_mul_of_nonneg_left h2.lo (Int.le_of_lt a1)
  have:=h1.lo
  rw[Int.mul_assoc]; omega
 ·have:=Int.mul_le_mul_of_nonneg_left h2.hi (Int.le_of_lt a1)
  have:=h1.hi
  rw[Int.mul_assoc]; omega
def i2 (p:List Int) (I:Iv):Nat->Iv
 | 0=>I
 | k+1=>K8 p (i2 p I k)
theorem V8 {p:List Int} {I:Iv} (h:I.Ok):∀{k:Nat},(i2 p I k).Ok
 | 0=>h
 | _+1=>vR (V8 h)
theorem WQ {p:List Int} {I:Iv} (h:I.Ok) {j:Nat}:∀{n:Nat},∃m,(i2 p I (j+n)).In (i2 p I j) m
 | 0=>⟨1,by omega,by rw[Nat.add_zero]; omega,by rw[Nat.add_zero]; omega,by rw[Nat.add_zero]; omega⟩
 | n+1=>by
  obtain ⟨m,hm⟩:=WQ h (j:=j) (n:=n)
  exact ⟨2*m,(vQ (V8 h)).trans hm⟩
section
variable {p:List Int} {I:Iv} {cs:List Int} {j k:Nat}
theorem QA (h:I.Ok) (hjk:j<=k) (hp:0<(enc (i2 p I j) cs).1):0<(enc (i2 p I k) cs).1:=by
 obtain ⟨n,rfl⟩:=Nat.exists_eq_add_of_le hjk
 obtain ⟨m,hm⟩:=WQ (p:=p) h (j:=j) (n:=n)
 have h1:=(WA hm (V8 h).le (cs:=cs)).1
 have h2:=Int.mul_pos (show 0<m ^ cs.length from Int.pow_pos hm.m0) hp
 omega
theorem eY (h:I.Ok) (hjk:j<=k) (hp:(enc (i2 p I j) cs).2.1<0):(enc (i2 p I k) cs).2.1<0:=by
 obtain ⟨n,rfl⟩:=Nat.exists_eq_add_of_le hjk
 obtain ⟨m,hm⟩:=WQ (p:=p) h (j:=j) (n:=n)
 have h1:=(WA hm (V8 h).le (cs:=cs)).2.1
 have h2:=Int.mul_neg_of_pos_of_neg (show 0<m ^ cs.length from Int.pow_pos hm.m0) hp
 omega
theorem uY (h:I.Ok) (hp:0<(enc (i2 p I j) cs).1) (hn:(enc (i2 p I k) cs).2.1<0):False:=by
 have h1:=QA h (Nat.le_max_left j k) hp
 have h2:=eY h (Nat.le_max_right j k) hn
 have h3:=MF (I:=i2 p I (max j k)) (cs:=cs)
 omega
end
open Classical in
noncomputable def E8 (p:List Int) (I:Iv) (cs:List Int):Int:=if ∃k,0<(enc (i2 p I k) cs).1 then 1 else if ∃k,(enc (i2 p I k) cs).2.1<0 then -1 else 0
theorem HV {p:List Int} {I:Iv} {cs:List Int} {k:Nat} (h:0<(enc (i2 p I k) cs).1):E8 p I cs=1:=if_pos ⟨k,h⟩
theorem KV {p:List Int} {I:Iv} {cs:List Int} {k:Nat} (hI:I.Ok) (h:(enc (i2 p I k) cs).2.1<0):E8 p I cs=-1:=by
 unfold E8
 rw[if_neg (fun ⟨j,hj⟩=>uY hI hj h),if_pos ⟨k,h⟩]
theorem MG {I:Iv} {m:Int} (hm:0<=m):∀{cs:List Int},enc I (cs.map fun c=>c*m)=(m*(enc I cs).1,m*(enc I cs).2.1,(enc I cs).2.2)
 | []=>by simp[enc]
 | c::cs=>by
  rw[List.map_cons,enc,MG hm,enc]
  simp only[Int.mul_assoc,XL hm,XJ hm]
  refine Prod.ext ?_ (Prod.ext ?_ rfl)
  ·simp only
   rw[Int.mul_add,Int.mul_left_comm]
  ·simp only
   rw[Int.mul_add,Int.mul_left_comm]
theorem MH {I:Iv}:∀{cs:List Int},enc I (cs.map fun c=>-c)=(-(enc I cs).2.1,-(enc I cs).1,(enc I cs).2.2)
 | []=>by simp[enc]
 | c::cs=>by
  rw[List.map_cons,enc,MH,enc]
  simp only[Int.neg_mul]
  refine Prod.ext ?_ (Prod.ext ?_ rfl)
  ·simp only[J4,I9]; omega
  ·simp only[J4,I9]; omega
theorem fA {I:Iv} (hI:I.lo<=I.hi):∀{xs ys:List Int},xs.length=ys.length->(enc I xs).1+(enc I ys).1<=(enc I (List.zipWith (·+·) xs ys)).1/\(enc I (List.zipWith (·+·) xs ys)).2.1<=(enc I xs).2.1+(enc I ys).2.1/\(enc I (List.zipWith (·+·) xs ys)).2.2=(enc I xs).2.2/\(enc I ys).2.2=(enc I xs).2.2
 | [],[],_=>by simp[enc]
 | [],_::_,h=>by simp at h
 | _::_,[],h=>by simp at h
 | x::xs,y::ys,h=>by
  obtain ⟨h1,h2,h3,h4⟩:=fA hI (xs:=xs) (ys:=ys) (by simpa using h)
  have hx:=MF (I:=I) (cs:=xs); have hy:=MF (I:=I) (cs:=ys); have hz:=MF (I:=I) (cs:=List.zipWith (·+·) xs ys)
  rw[List.zipWith_cons_cons,enc,enc,enc]
  simp only
  rw[h3,h4]
  generalize (enc I xs).1=A at *
  generalize (enc I xs).2.1=B at *
  generalize (enc I ys).1=A' at *
  generalize (enc I ys).2.1=B' at *
  generalize (enc I (List.zipWith (·+·) xs ys)).1=A2 at *
  generalize (enc I (List.zipWith (·+·) xs ys)).2.1=B2 at *
  generalize (enc I xs).2.2*I.den=D at *
  rw[Int.add_mul]
  have key:∀u v,A+A'<=u->u<=B+B'->(v=I.lo\/v=I.hi)->J4 (A*I.lo) (A*I.hi) (B*I.lo) (B*I.hi)+J4 (A'*I.lo) (A'*I.hi) (B'*I.lo) (B'*I.hi)<=u*v/\u*v<=I9 (A*I.lo) (A*I.hi) (B*I.lo) (B*I.hi)+I9 (A'*I.lo) (A'*I.hi) (B'*I.lo) (B'*I.hi):=fun u v e1 e2 hv=>by
   obtain ⟨s,hs⟩:∃s,s=min B (u-A'):=⟨_,rfl⟩
   have b1:A<=s/\s<=B:=by omega
   have b2:A'<=u-s/\u-s<=B':=by omega
   have b3:I.lo<=v/\v<=I.hi:=by rcases hv with rfl | rfl<;>omega
   have c1:=QO b1.1 b1.2 b3.1 b3.2
   have c2:=QO b2.1 b2.2 b3.1 b3.2
   rw[Int.sub_mul] at c2
   omega
  refine ⟨?_,?_,rfl,rfl⟩
  ·obtain ⟨u,v,hu,hv,huv⟩:=XK (A:=A2) (B:=B2) (L:=I.lo) (H:=I.hi)
   have:=(key u v (by rcases hu with rfl | rfl<;>omega) (by rcases hu with rfl | rfl<;>omega) hv).1
   rw[huv]; omega
  ·obtain ⟨u,v,hu,hv,huv⟩:=XH (A:=A2) (B:=B2) (L:=I.lo) (H:=I.hi)
   have:=(key u v (by rcases hu with rfl | rfl<;>omega) (by rcases hu with rfl | rfl<;>omega) hv).2
   rw[huv]; omega
theorem af6 {p:List Int} {I:Iv} {xs ys:List Int} (hI:I.Ok) (hl:xs.length=ys.length) (hx:E8 p I xs=1) (hy:E8 p I ys=1):E8 p I (List.zipWith (·+·) xs ys)=1:=by
 have f:∀cs,E8 p I cs=1->∃k,0<(enc (i2 p I k) cs).1:=fun cs h=>by
  unfold E8 at h
  split at h
  ·assumption
  ·split at h<;>omega
 obtain ⟨j,hj⟩:=f xs hx
 obtain ⟨k,hk⟩:=f ys hy
 have h1:=QA hI (Nat.le_max_left j k) hj
 have h2:=QA hI (Nat.le_max_right j k) hk
 have h3:=(fA (V8 hI (p:=p) (k:=max j k)).le hl).1
 exact HV (k:=max j k) zo
theorem TA {p:List Int} {I:Iv} {cs:List Int} {m:Int} (hm:0<m):E8 p I (cs.map fun c=>c*m)=E8 p I cs:=by
 unfold E8
 have e1:(∃k,0<(enc (i2 p I k) (cs.map fun c=>c*m)).1)↔∃k,0<(enc (i2 p I k) cs).1:=by
  refine exists_congr fun k=>?_
  rw[MG (Int.le_of_lt hm)]
  exact ⟨fun h=>Classical.byContradiction fun hn=>by have:=Int.mul_nonneg (Int.le_of_lt hm) (show 0<=-(enc (i2 p I k) cs).1 by omega); rw[Int.mul_neg] at this; simp only at h; omega,fun h=>Int.mul_pos hm h⟩
 have e2:(∃k,(enc (i2 p I k) (cs.map fun c=>c*m)).2.1<0)↔∃k,(enc (i2 p I k) cs).2.1<0:=by
  refine exists_congr fun k=>?_
  rw[MG (Int.le_of_lt hm)]
  exact ⟨fun h=>Classical.byContradiction fun hn=>by have:=Int.mul_nonneg (Int.le_of_lt hm) (show 0<=(enc (i2 p I k) cs).2.1 by omega); simp only at h; omega,fun h=>Int.mul_neg_of_pos_of_neg hm h⟩
 by_cases a1:∃k,0<(enc (i2 p I k) cs).1
 ·rw[if_pos a1,if_pos (e1.2 a1)]
 ·rw[if_neg a1,if_neg (fun h=>a1 (e1.1 h))]
  by_cases a2:∃k,(enc (i2 p I k) cs).2.1<0
  ·rw[if_pos a2,if_pos (e2.2 a2)]
  ·rw[if_neg a2,if_neg (fun h=>a2 (e2.1 h))]
end Go.Fl

/- Polynomials with integer coefficients (by coefficient functions): Gauss' lemma, common divisors and combinations. Plain Lean, no program in sight. -/
namespace Go.Fl
abbrev u4:=Nat->Int
def A4 (f:u4) (d:Nat):Prop:=∀i,d<i->f i=0
def p7 (f g:u4):u4:=fun k=>r6 (fun i=>f i*g (k-i)) (k+1)
theorem HY {f:Nat->Int}:∀{k:Nat},(∀i,i<k->f i=0)->r6 f k=0
 | 0,_=>rfl
 | k+1,h=>by rw[M5,HY fun i hi=>h i zo,h k zo]; rfl
theorem HX {f:Nat->Int} {m:Int}:∀{k:Nat},r6 (fun i=>m*f i) k=m*r6 f k
 | 0=>by simp[r6]
 | k+1=>by rw[M5,M5,HX,Int.mul_add]
theorem lW {f:Nat->Int} {m:Int}:∀{k:Nat},(∀i,i<k->m∣f i)->m∣r6 f k
 | 0,_=>⟨0,by simp[r6]⟩
 | k+1,h=>by rw[M5]; exact Int.dvd_add (lW fun i hi=>h i zo) (h k zo)
theorem lV {f:Nat->Int} {m:Int} {j:Nat}:∀{k:Nat},j<k->(∀i,i<k->i≠j->m∣f i)->∃q,r6 f k=f j+m*q
 | 0,h,_=>absurd h zo
 | k+1,h,hd=>by
  by_cases e:j=k
  ·subst e
   obtain ⟨q,hq⟩:=lW (f:=f) (m:=m) (k:=j) fun i hi=>hd i zo zo
   exact ⟨q,by rw[M5,hq]; omega⟩
  ·obtain ⟨q,hq⟩:=lV (f:=f) (m:=m) (k:=k) zo fun i hi hne=>hd i zo hne
   obtain ⟨r,hr⟩:=hd k zo (fun e'=>e e'.symm)
   exact ⟨q+r,by rw[M5,hq,hr,Int.mul_add]; omega⟩
theorem TF {f:Nat->Int} {j:Nat}:∀{k:Nat},j<k->(∀i,i<k->i≠j->f i=0)->r6 f k=f j
 | 0,h,_=>absurd h zo
 | k+1,h,hd=>by
  by_cases e:j=k
  ·subst e; rw[M5,HY fun i hi=>hd i zo zo]; omega
  ·rw[M5,TF zo fun i hi hne=>hd i zo hne,hd k zo (fun e'=>e e'.symm)]; omega
theorem pQ {f g:u4} {a b:Nat} (hf:A4 f a) (hg:A4 g b):p7 f g (a+b)=f a*g b:=by
 unfold p7
 rw[TF (j:=a) zo]
 ·rw[Nat.add_sub_cancel_left]
 ·intro i hi hne
  by_cases h:a<i
  ·rw[hf i h,Int.zero_mul]
  ·rw[hg (a+b-i) zo,Int.mul_zero]
theorem bV {f g:u4} {a b:Nat} (hf:A4 f a) (hg:A4 g b):A4 (p7 f g) (a+b):=fun k hk=>by
 unfold p7
 refine HY fun i _=>?_
 by_cases h:a<i
 ·rw[hf i h,Int.zero_mul]
 ·rw[hg (k-i) zo,Int.mul_zero]
theorem IY {f g:u4} {m:Int}:p7 (fun i=>m*f i) g=fun k=>m*p7 f g k:=by
 funext k; unfold p7
 rw[<- HX]
 exact R4 fun i _=>by rw[Int.mul_assoc]
theorem LX {f g:u4} {m:Int}:p7 f (fun i=>m*g i)=fun k=>m*p7 f g k:=by
 funext k; unfold p7
 rw[<- HX]
 exact R4 fun i _=>by rw[Int.mul_left_comm]
theorem zW {s:Nat} (h:1<s):∃q,1<q/\q∣s/\∀a b:Int,(q:Int)∣a*b->(q:Int)∣a\/(q:Int)∣b:=by
 have key:∀k,∀j,j+k=s->1<j->(∀i,1<i->i<j->¬i∣s)->∃q,1<q/\q∣s/\∀i,1<i->i<q->¬i∣s:=by
  intro k
  induction k with
  | zero=>intro j h1 h2 h3; exact ⟨s,h,Nat.dvd_refl _,fun i a b=>h3 i a zo⟩
  | succ k ih =>
   intro j h1 h2 h3
   by_cases hd:j∣s
   ·exact ⟨j,h2,hd,h3⟩
   ·refine ih (j+1) zo zo fun i a b=>?_
    by_cases e:i=j
    ·subst e; exact hd
    ·exact h3 i a zo
 obtain ⟨q,h1,h2,h3⟩:=key (s-2) 2 zo zo fun i a b=>by omega
 refine ⟨q,h1,h2,fun a b hab=>?_⟩
 have hab':q∣a.natAbs*b.natAbs:=by
  have:=Int.natAbs_dvd_natAbs.2 hab
  rwa [Int.natAbs_natCast,Int.natAbs_mul] at this
 have hg:Nat.gcd q a.natAbs∣q:=Nat.gcd_dvd_left _ _
 by_cases e:Nat.gcd q a.natAbs=1
 ·exact .inr (Int.ofNat_dvd_left.2 (Nat.Coprime.dvd_of_dvd_mul_left e hab'))
 ·have hpos:0<Nat.gcd q a.natAbs:=Nat.gcd_pos_of_pos_left _ zo
  have hle:=Nat.le_of_dvd zo hg
  have heq:Nat.gcd q a.natAbs=q:=Classical.byContradiction fun hne=>h3 _ zo zo (Nat.dvd_trans hg h2)
  exact .inl (Int.ofNat_dvd_left.2 (by rw[<- heq]; exact Nat.gcd_dvd_right _ _))
theorem gR {P:Nat->Prop} (h:∃i,P i):∃i,P i/\∀j,j<i->¬P j:=by
 obtain ⟨i,hi⟩:=h
 induction i using Nat.strongRecOn with
 | _ i ih =>
  by_cases e:∃j,j<i/\P j
  ·obtain ⟨j,h1,h2⟩:=e; exact ih j h1 h2
  ·exact ⟨i,hi,fun j hj hp=>e ⟨j,hj,hp⟩⟩
theorem vF {q:Int} (hp:∀a b:Int,q∣a*b->q∣a\/q∣b) {r t:u4} (h:∀k,q∣p7 r t k):(∀k,q∣r k)\/∀k,q∣t k:=by
 refine Classical.byContradiction fun hn=>?_
 rw[not_or] at hn
 obtain ⟨i,hi,hi'⟩:=gR (Classical.not_forall.1 hn.1)
 obtain ⟨j,hj,hj'⟩:=gR (Classical.not_forall.1 hn.2)
 obtain ⟨m,hm⟩:=lV (f:=fun k=>r k*t (i+j-k)) (m:=q) (j:=i) (k:=i+j+1) zo fun k hk hne=>by
  by_cases hlt:k<i
  ·exact Int.dvd_trans (Classical.not_not.1 (hi' k hlt)) (Int.dvd_mul_right _ _)
  ·exact Int.dvd_trans (Classical.not_not.1 (hj' (i+j-k) zo)) (Int.dvd_mul_left _ _)
 have h1:q∣p7 r t (i+j):=h _
 have h2:p7 r t (i+j)=r i*t (i+j-i)+q*m:=hm
 rw[h2,Nat.add_sub_cancel_left] at h1
 have h3:q∣r i*t j:=(Int.dvd_add_left (Int.dvd_mul_right q m)).1 h1
 rcases hp _ _ h3 with h | h
 ·exact hi h
 ·exact hj h
theorem vG {p:u4} {a b:Nat}:∀(n:Nat) {s:Int} {r t:u4},s.natAbs=n->s≠0->A4 r a->r a≠0->A4 t b->(∀k,s*p k=p7 r t k)->∃r' t',A4 r' a/\r' a≠0/\A4 t' b/\((∀k,p k=p7 r' t' k)\/∀k,-p k=p7 r' t' k):=by
 intro n
 induction n using Nat.strongRecOn with
 | _ n ih =>
  intro s r t hn hs hr hra ht h
  by_cases h1:n=1
  ·rcases (show s=1\/s=-1 by omega) with rfl | rfl
   ·exact ⟨r,t,hr,hra,ht,.inl fun k=>by rw[<- h k,Int.one_mul]⟩
   ·exact ⟨r,t,hr,hra,ht,.inr fun k=>by rw[<- h k,Int.neg_mul,Int.one_mul]⟩
  ·obtain ⟨q,q1,q2,q3⟩:=zW (s:=n) zo
   have hqs:(q:Int)∣s:=Int.ofNat_dvd_left.2 (by rw[hn]; exact q2)
   obtain ⟨s',hs'⟩:=hqs
   have hq0:(q:Int)≠0:=by omega
   have hlt:s'.natAbs<n:=by
    rw[<- hn,hs',Int.natAbs_mul,Int.natAbs_natCast]
    have h0:0<s'.natAbs:=by
     refine Nat.pos_of_ne_zero fun e=>hs ?_
     rw[hs',show s'=0 by omega,Int.mul_zero]
    have:=Nat.mul_lt_mul_of_pos_right q1 h0
    omega
   have hs0:s'≠0:=fun e=>hs (by rw[hs',e,Int.mul_zero])
   have hall:∀k,(q:Int)∣p7 r t k:=fun k=>⟨s'*p k,by rw[<- h k,hs',Int.mul_assoc]⟩
   rcases vF q3 hall with hd | hd
   ·have e:∀k,r k=(q:Int)*(r k/q):=fun k=>(Int.mul_ediv_cancel' (hd k)).symm
    refine ih _ hlt (r:=fun k=>r k/q) (t:=t) rfl hs0 (fun i hi=>by show r i/_=0; rw[hr i hi,Int.zero_ediv]) (fun e0=>hra (by rw[e a,show r a/(q:Int)=0 from e0,Int.mul_zero])) ht fun k=>?_
    have h2:p7 r t k=(q:Int)*p7 (fun k=>r k/q) t k:=by
     have:r=fun k=>(q:Int)*(r k/q):=funext e
     conv=>lhs; rw[this,IY]
    have h3:(q:Int)*(s'*p k)=q*p7 (fun k=>r k/q) t k:=by rw[<- h2,<- h k,hs',Int.mul_assoc]
    exact Int.eq_of_mul_eq_mul_left hq0 h3
   ·have e:∀k,t k=(q:Int)*(t k/q):=fun k=>(Int.mul_ediv_cancel' (hd k)).symm
    refine ih _ hlt (r:=r) (t:=fun k=>t k/q) rfl hs0 hr hra (fun i hi=>by show t i/_=0; rw[ht i hi,Int.zero_ediv]) fun k=>?_
    have h2:p7 r t k=(q:Int)*p7 r (fun k=>t k/q) k:=by
     have:t=fun k=>(q:Int)*(t k/q):=funext e
     conv=>lhs; rw[this,LX]
    have h3:(q:Int)*(s'*p k)=q*p7 r (fun k=>t k/q) k:=by rw[<- h2,<- h k,hs',Int.mul_assoc]
    exact Int.eq_of_mul_eq_mul_left hq0 h3
end Go.Fl

/- Euclid's algorithm on polynomials, with multiples instead of fractions: a common divisor, or a combination that is a number. Plain Lean, no program in sight. -/
namespace Go.Fl
def G9 (k:Nat) (g:u4):u4:=fun i=>if k<=i then g (i-k) else 0
def O2 (a b:Int) (k:Nat) (f g:u4):u4:=fun i=>a*f i-b*G9 k g i
theorem ZH {f:Nat->Int} {m:Nat}:∀{j:Nat},(∀i,m<=i->i<m+j->f i=0)->r6 f (m+j)=r6 f m
 | 0,_=>rfl
 | j+1,h=>by rw[show m+(j+1)=m+j+1 by omega,M5,ZH fun i h1 h2=>h i h1 zo,h (m+j) zo zo]; omega
theorem ZG {f:Nat->Int} {k:Nat}:∀{j:Nat},(∀i,i<k->f i=0)->r6 f (k+j)=r6 (fun i=>f (k+i)) j
 | 0,h=>by rw[Nat.add_zero,HY h]; rfl
 | j+1,h=>by rw[show k+(j+1)=k+j+1 by omega,M5,M5,ZG h]
theorem bX {f g:u4} {k:Nat}:p7 (G9 k f) g=G9 k (p7 f g):=by
 funext i
 unfold p7 G9
 by_cases h:k<=i
 ·rw[if_pos h,show i+1=k+(i-k+1) by omega,ZG]
  ·refine R4 fun j hj=>?_
   rw[if_pos zo,Nat.add_sub_cancel_left,show i-(k+j)=i-k-j by omega]
  ·intro j hj; rw[if_neg zo,Int.zero_mul]
 ·rw[if_neg h]
  exact HY fun j hj=>by rw[if_neg zo,Int.zero_mul]
theorem pO {f g:u4} {k:Nat}:p7 f (G9 k g)=G9 k (p7 f g):=by
 funext i
 unfold p7 G9
 by_cases h:k<=i
 ·rw[if_pos h,show i+1=(i-k+1)+k by omega,ZH]
  ·refine R4 fun j hj=>?_
   rw[if_pos zo,show i-j-k=i-k-j by omega]
  ·intro j h1 h2; rw[if_neg zo,Int.mul_zero]
 ·rw[if_neg h]
  exact HY fun j hj=>by rw[if_neg zo,Int.mul_zero]
theorem pP {f g h:u4}:p7 (fun i=>f i-g i) h=fun i=>p7 f h i-p7 g h i:=by
 funext i; unfold p7
 rw[<- lX]
 exact R4 fun j _=>by rw[Int.sub_mul]
theorem pM {f g h:u4}:p7 (fun i=>f i+g i) h=fun i=>p7 f h i+p7 g h i:=by
 funext i; unfold p7
 rw[<- TE]
 exact R4 fun j _=>by rw[Int.add_mul]
theorem pN {f g h:u4}:p7 h (fun i=>f i+g i)=fun i=>p7 h f i+p7 h g i:=by
 funext i; unfold p7
 rw[<- TE]
 exact R4 fun j _=>by rw[Int.mul_add]
theorem ag4 {g:u4} {k:Nat} {b:Int}:(fun i=>b*G9 k g i)=G9 k fun i=>b*g i:=by
 funext i; unfold G9
 split
 ·rfl
 ·rw[Int.mul_zero]
theorem bY {a b:Int} {k:Nat} {f g h:u4}:p7 (O2 a b k f g) h=O2 a b k (p7 f h) (p7 g h):=by
 unfold O2
 rw[pP,IY,IY,bX]
def BA:u4:=fun i=>if i=0 then 1 else 0
def Q8:u4:=fun _=>0
theorem PC {f:u4}:p7 BA f=f:=by
 funext k; unfold p7
 rw[TF (j:=0) zo]
 ·unfold BA; rw[if_pos rfl,Int.one_mul]; rfl
 ·intro i _ hne; unfold BA; rw[if_neg hne,Int.zero_mul]
theorem FH {f:u4}:p7 Q8 f=Q8:=by
 funext k; unfold p7
 exact HY fun i _=>by unfold Q8; rw[Int.zero_mul]
structure BH (p c:u4) (X E:Nat) (f u v:u4):Prop where
 eq:∀k,f k=p7 u p k+p7 v c k
 du:A4 u E
 dv:A4 v E
 bf:∀k,(f k).natAbs<=X
 bu:∀k,(u k).natAbs<=X
 bv:∀k,(v k).natAbs<=X
theorem ZF {a b:Int} {k X:Nat} {f g:u4} (ha:a.natAbs<=X) (hb:b.natAbs<=X) (hf:∀i,(f i).natAbs<=X) (hg:∀i,(g i).natAbs<=X) (i:Nat):(O2 a b k f g i).natAbs<=2*X*X:=by
 have h1:(a*f i).natAbs<=X*X:=by rw[Int.natAbs_mul]; exact Nat.mul_le_mul ha (hf i)
 have h2:(b*G9 k g i).natAbs<=X*X:=by
  rw[Int.natAbs_mul]
  refine Nat.mul_le_mul hb ?_
  unfold G9; split
  ·exact hg _
  ·exact Nat.zero_le _
 unfold O2
 rw[show 2*X*X=X*X+X*X by rw[Nat.mul_assoc,Nat.two_mul]]
 omega
theorem lO {a b:Int} {k d e:Nat} {f g:u4} (hf:A4 f d) (hg:A4 g e) (h1:d<=e+k):A4 (O2 a b k f g) (e+k):=fun i hi=>by
 unfold O2 G9
 rw[hf i zo,if_pos zo,hg (i-k) zo]; omega
theorem BH.stp {p c:u4} {X E k:Nat} {f u v g u' v':u4} {a b:Int} (h:BH p c X E f u v) (h':BH p c X E g u' v') (ha:a.natAbs<=X) (hb:b.natAbs<=X):BH p c (2*X*X) (E+k) (O2 a b k f g) (O2 a b k u u') (O2 a b k v v'):=by
 refine ⟨fun i=>?_,lO h.du h'.du zo,lO h.dv h'.dv zo,ZF ha hb h.bf h'.bf,ZF ha hb h.bu h'.bu,ZF ha hb h.bv h'.bv⟩
 rw[bY,bY]
 unfold O2 G9
 rw[h.eq i]
 split
 ·rw[h'.eq (i-k)]; simp only[Int.mul_add]; omega
 ·simp only[Int.mul_add,Int.mul_zero]; omega
def P3 (p f g:u4):Prop:=∃s q1 q2 d,s≠0/\A4 q1 d/\A4 q2 d/\∀k,s*p k=p7 q1 f k+p7 q2 g k
theorem P3.swap {p f g:u4} (h:P3 p f g):P3 p g f:=by
 obtain ⟨s,q1,q2,d,h1,h2,h3,h4⟩:=h
 exact ⟨s,q2,q1,d,h1,h3,h2,fun k=>by rw[h4 k,Int.add_comm]⟩
theorem P3.stp {p f g:u4} (h:P3 p f g) {a b:Int} {k:Nat} (ha:a≠0):P3 p (O2 a b k f g) g:=by
 obtain ⟨s,q1,q2,d,h1,h2,h3,h4⟩:=h
 refine ⟨a*s,q1,fun i=>G9 k (fun i=>b*q1 i) i+a*q2 i,d+k,Int.mul_ne_zero ha h1,fun i hi=>h2 i zo,fun i hi=>?_,fun i=>?_⟩
 ·show (if k<=i then b*q1 (i-k) else 0)+a*q2 i=0
  rw[if_pos zo,h2 (i-k) zo,h3 i zo]; omega
 ·have e1:p7 q1 (O2 a b k f g)=fun i=>a*p7 q1 f i-b*G9 k (p7 q1 g) i:=by
   have hs:O2 a b k f g=fun i=>a*f i+(-b)*G9 k g i:=by funext i; unfold O2; rw[Int.neg_mul]; omega
   rw[hs,pN,LX,LX,pO]
   funext i
   show a*p7 q1 f i+-b*G9 k (p7 q1 g) i=_
   rw[Int.neg_mul]; omega
  have e2:p7 (fun i=>G9 k (fun i=>b*q1 i) i+a*q2 i) g=fun i=>b*G9 k (p7 q1 g) i+a*p7 q2 g i:=by
   rw[pM,IY]
   funext i
   congr 1
   rw[bX,IY,<- ag4]
  rw[e1,e2,Int.mul_assoc,h4 i,Int.mul_add]
  simp only
  omega
theorem PQ {f:u4}:∀{d:Nat},A4 f d->(∀i,f i=0)\/∃e,e<=d/\A4 f e/\f e≠0
 | 0,h=>by
  by_cases e:f 0=0
  ·exact .inl fun i=>by
    rcases Nat.eq_zero_or_pos i with rfl | hi
    ·exact e
    ·exact h i hi
  ·exact .inr ⟨0,Nat.le_refl _,h,e⟩
 | d+1,h=>by
  by_cases e:f (d+1)=0
  ·rcases PQ (d:=d) (fun i hi=>by
    by_cases e2:i=d+1
    ·subst e2; exact e
    ·exact h i zo) with h1 | ⟨q,h1,h2,h3⟩
   ·exact .inl h1
   ·exact .inr ⟨q,by omega,h2,h3⟩
  ·exact .inr ⟨d+1,Nat.le_refl _,h,e⟩
def XI (X:Nat):Nat->Nat
 | 0=>X
 | m+1=>XI (2*X*X) m
theorem aK {X:Nat} (h:1<=X):∀{m:Nat},X<=XI X m
 | 0=>Nat.le_refl _
 | m+1=>by
  have h1:X*1<=X*X:=Nat.mul_le_mul_left _ h
  have h2:X<=2*X*X:=by rw[Nat.mul_assoc]; omega
  exact Nat.le_trans h2 (aK zo)
def GM (p c:u4) (X E:Nat):Prop:=∃D u v,D≠0/\(∀k,p7 u p k+p7 v c k=if k=0 then D else 0)/\A4 u E/\A4 v E/\(∀k,(u k).natAbs<=X)/\∀k,(v k).natAbs<=X
theorem GM.mono {p c:u4} {X Y E F:Nat} (h:GM p c X E) (h1:X<=Y) (h2:E<=F):GM p c Y F:=by
 obtain ⟨D,u,v,a1,a2,a3,a4,a5,a6⟩:=h
 exact ⟨D,u,v,a1,a2,fun i hi=>a3 i zo,fun i hi=>a4 i zo,fun k=>Nat.le_trans (a5 k) h1,fun k=>Nat.le_trans (a6 k) h1⟩
theorem BH.bez {p c:u4} {X E:Nat} {f u v:u4} (h:BH p c X E f u v) (hd:A4 f 0) (h0:f 0≠0):GM p c X E :=
 ⟨f 0,u,v,h0,fun k=>by
  rw[<- h.eq k]
  split
  ·rename_i e; rw[e]
  ·exact hd k zo,h.du,h.dv,h.bu,h.bv⟩
def OA (p:u4) (n:Nat):Prop:=∃s r t a b,s≠0/\1<=a/\a<=n-1/\A4 r a/\r a≠0/\A4 t b/\∀k,s*p k=p7 r t k
theorem IX {f g:u4}:p7 f g=p7 g f:=by
 funext k; unfold p7
 have key:∀(h:Nat->Int) (m:Nat),r6 h m=r6 (fun i=>h (m-1-i)) m:=fun h m=>by
  induction m generalizing h with
  | zero=>rfl
  | succ m ih =>
   rw[M5]
   have e:=ZG (f:=fun i=>h (m-i)) (k:=1) (j:=m)
   have e2:r6 (fun i=>h (m-i)) (m+1)=h m+r6 (fun i=>h (m-(1+i))) m:=by
    clear ih e
    have:∀j,r6 (fun i=>h (m-i)) (j+1)=h m+r6 (fun i=>h (m-(1+i))) j:=by
     intro j
     induction j with
     | zero=>show 0+h (m-0)=h m+0; rw[Nat.sub_zero]; omega
     | succ j ihj=>rw[M5,ihj,M5,show 1+j=j+1 by omega]; omega
    exact this m
   show r6 h m+h m=r6 (fun i=>h (m+1-1-i)) (m+1)
   rw[Nat.add_sub_cancel,e2,ih h,Int.add_comm]
   congr 1
   exact R4 fun i hi=>by rw[show m-1-i=m-(1+i) by omega]
 rw[key]
 refine R4 fun i hi=>?_
 rw[Nat.add_sub_cancel,show k-(k-i)=i by omega,Int.mul_comm]
theorem WB {p c:u4} {n:Nat}:∀(m:Nat) {f g:u4} {u v u' v':u4} {df dg X E:Nat},1<=X->df+dg<=m->dg<=df->df<=4->dg<=n-1->A4 f df->f df≠0->A4 g dg->g dg≠0->BH p c X E f u v->BH p c X E g u' v'->P3 p f g->OA p n\/GM p c (XI X m) (E+4*m)
 | m,f,g,u,v,u',v',df,dg,X,E,hX,hm,hd,h4,hn,hf,hf0,hg,hg0,cf,cg,bk=>by
  rcases Nat.eq_zero_or_pos dg with rfl | hpos
  ·exact .inr ((cg.bez hg hg0).mono (aK hX) zo)
  ·obtain ⟨m,rfl⟩:∃q,m=q+1:=⟨m-1,by omega⟩
   have c2:=cf.stp (k:=df-dg) cg (a:=g dg) (b:=f df) (cg.bf _) (cf.bf _)
   have b2:=bk.stp (a:=g dg) (b:=f df) (k:=df-dg) hg0
   have hX2:1<=2*X*X:=by
    have:X*1<=X*X:=Nat.mul_le_mul_left _ hX
    rw[Nat.mul_assoc]; omega
   have hXX:X<=2*X*X:=by
    have:X*1<=X*X:=Nat.mul_le_mul_left _ hX
    rw[Nat.mul_assoc]; omega
   have cg2:BH p c (2*X*X) (E+(df-dg)) g u' v':=⟨cg.eq,fun i hi=>cg.du i zo,fun i hi=>cg.dv i zo,fun k=>Nat.le_trans (cg.bf k) hXX,fun k=>Nat.le_trans (cg.bu k) hXX,fun k=>Nat.le_trans (cg.bv k) hXX⟩
   have hdg:A4 (O2 (g dg) (f df) (df-dg) f g) (df-1):=fun i hi=>by
    unfold O2 G9
    by_cases e:i=df
    ·subst e
     rw[if_pos zo,show i-(i-dg)=dg by omega,Int.mul_comm]; omega
    ·rw[hf i zo,if_pos (show df-dg<=i by omega),hg (i-(df-dg)) zo]; omega
   rcases PQ hdg with hz | ⟨e,e1,e2,e3⟩
   ·-- nothing is left: g divides
    obtain ⟨s,q1,q2,d,s1,s2,s3,s4⟩:=b2
    refine .inl ⟨s,g,q2,dg,d,s1,hpos,hn,hg,hg0,s3,fun k=>?_⟩
    rw[s4 k,IX (f:=q1),show O2 (g dg) (f df) (df-dg) f g=Q8 from funext hz,FH,IX]
    show 0+_=_; omega
   ·have hfin:OA p n\/GM p c (XI (2*X*X) m) (E+(df-dg)+4*m):=by
     by_cases hle:dg<=e
     ·exact WB m hX2 zo hle zo hn e2 e3 hg hg0 c2 cg2 b2
     ·exact WB m hX2 zo zo zo zo hg hg0 e2 e3 cg2 c2 b2.swap
    exact hfin.imp id fun h=>h.mono (Nat.le_refl _) zo
theorem aZ {p c:u4} {n X:Nat} (hn:1<=n) (h4:n<=4) (hX:1<=X) (hp:A4 p n) (hp1:p n=1) (hc:A4 c (n-1)) (hc0:¬∀i,c i=0) (bp:∀k,(p k).natAbs<=X) (bc:∀k,(c k).natAbs<=X):OA p n\/GM p c (XI X 7) 28:=by
 obtain ⟨e,e1,e2,e3⟩:=(PQ hc).resolve_left hc0
 have h1:∀k,(BA k).natAbs<=X:=fun k=>by unfold BA; split<;>simp<;>omega
 have h2:∀k,(Q8 k).natAbs<=X:=fun k=>by unfold Q8; simp
 have o1:A4 BA 0:=fun i hi=>by unfold BA; rw[if_neg zo]
 have o2:A4 Q8 0:=fun i _=>rfl
 have cp:BH p c X 0 p BA Q8:=⟨fun k=>by rw[PC,FH]; show p k=p k+0; omega,o1,o2,bp,h1,h2⟩
 have cc:BH p c X 0 c Q8 BA:=⟨fun k=>by rw[PC,FH]; show c k=0+c k; omega,o2,o1,bc,h2,h1⟩
 have bk:P3 p p c:=⟨1,BA,Q8,0,by omega,o1,o2,fun k=>by rw[PC,FH]; show 1*p k=p k+0; omega⟩
 have:=WB 7 (n:=n) hX (show n+e<=7 by omega) zo h4 e1 hp (by rw[hp1]; omega) e2 e3 cp cc bk
 simpa using this
end Go.Fl

/- Divisors of small degrees; homogeneous values. Plain Lean, no program in sight. -/
namespace Go.Fl
def FM (p:u4) (n:Nat) (x:Int):Int:=r6 (fun i=>p i*x ^ i) (n+1)
def GP (p:u4) (n:Nat):Prop:=(∃x,FM p n x=0)\/(n=4/\∃a b c d:Int,p 3=a+c/\p 2=b+d+a*c/\p 1=a*d+b*c/\p 0=b*d)
theorem gU {p r t:u4} {n:Nat} (hn:1<=n) (hn4:n<=4) (hr:A4 r 1) (ht:A4 t (n-1)) (h:∀k,p k=p7 r t k) (he:r 1*r 1=1):∃x,FM p n x=0:=by
 refine ⟨-(r 0*r 1),?_⟩
 have e0:p 0=r 0*t 0:=by rw[h]; simp[p7,r6]
 have e1:p 1=r 0*t 1+r 1*t 0:=by rw[h]; simp[p7,r6]
 have h2:r 2=0:=hr 2 zo
 have h3:r 3=0:=hr 3 zo
 have h4:r 4=0:=hr 4 zo
 have e2:p 2=r 0*t 2+r 1*t 1:=by rw[h]; simp[p7,r6,h2]
 have e3:p 3=r 0*t 3+r 1*t 2:=by rw[h]; simp[p7,r6,h2,h3]
 have e4:p 4=r 0*t 4+r 1*t 3:=by rw[h]; simp[p7,r6,h2,h3,h4]
 rcases (show n=1\/n=2\/n=3\/n=4 by omega) with rfl | rfl | rfl | rfl
 ·have z1:t 1=0:=ht 1 zo
  simp only[FM,r6,e0,e1,z1]; grind
 ·have z2:t 2=0:=ht 2 zo
  simp only[FM,r6,e0,e1,e2,z2]; grind
 ·have z3:t 3=0:=ht 3 zo
  simp only[FM,r6,e0,e1,e2,e3,z3]; grind
 ·have z4:t 4=0:=ht 4 zo
  simp only[FM,r6,e0,e1,e2,e3,e4,z4]; grind
theorem ZY {a b:Int} (h:a*b=1):a*a=1/\a=b:=by
 have h1:a.natAbs*b.natAbs=1:=by rw[<- Int.natAbs_mul,h]; rfl
 have h2:a.natAbs=1:=Nat.eq_one_of_mul_eq_one_right h1
 rcases (show a=1\/a=-1 by omega) with rfl | rfl
 ·exact ⟨rfl,by omega⟩
 ·exact ⟨rfl,by omega⟩
theorem aa4 {p r t:u4} (hr:A4 r 2) (ht:A4 t 2) (h:∀k,p k=p7 r t k) (he:r 2*t 2=1):∃a b c d:Int,p 3=a+c/\p 2=b+d+a*c/\p 1=a*d+b*c/\p 0=b*d:=by
 obtain ⟨u1,u2⟩:=ZY he
 have h3:r 3=0:=hr 3 zo
 have g3:t 3=0:=ht 3 zo
 have e0:p 0=r 0*t 0:=by rw[h]; simp[p7,r6]
 have e1:p 1=r 0*t 1+r 1*t 0:=by rw[h]; simp[p7,r6]
 have e2:p 2=r 0*t 2+r 1*t 1+r 2*t 0:=by rw[h]; simp[p7,r6]
 have e3:p 3=r 1*t 2+r 2*t 1:=by rw[h]; simp[p7,r6,h3,g3]
 refine ⟨r 1*r 2,r 0*r 2,t 1*r 2,t 0*r 2,?_,?_,?_,?_⟩<;>grind
theorem VS {p:u4} {n:Nat} (h2:2<=n) (h4:n<=4) (hp:A4 p n) (hp1:p n=1) (h:OA p n):GP p n:=by
 obtain ⟨s,r,t,a,b,h1,a1,a2,hr,hra,ht,hst⟩:=h
 obtain ⟨r',t',d1,d0,d2,d3⟩:=vG _ rfl h1 hr hra ht hst
 obtain ⟨t2,f2,f3⟩:∃t2,A4 t2 b/\∀k,p k=p7 r' t2 k:=by
  rcases d3 with d3 | d3
  ·exact ⟨t',d2,d3⟩
  ·refine ⟨fun i=>-1*t' i,fun i hi=>by show -1*t' i=0; rw[d2 i hi]; rfl,fun k=>?_⟩
   rw[LX]
   show p k=-1*p7 r' t' k
   rw[<- d3 k]; omega
 obtain ⟨e,e1,e2,e3⟩:=(PQ f2).resolve_left fun hz=>by
  have:p n=0:=by rw[f3 n,show t2=Q8 from funext hz,IX,FH]; rfl
  omega
 have htop:p (a+e)=r' a*t2 e:=by rw[f3,pQ d1 e2]
 have hne:p (a+e)≠0:=by rw[htop]; exact Int.mul_ne_zero d0 e3
 have hle:a+e<=n:=Nat.le_of_not_lt fun hh=>hne (hp _ hh)
 have heq:a+e=n:=Classical.byContradiction fun hh=>by
  have:p n=0:=by rw[f3]; exact bV d1 e2 n zo
  omega
 have hu:r' a*t2 e=1:=by rw[<- htop,heq,hp1]
 have hu':=ZY hu
 have hv':=ZY ((Int.mul_comm _ _).trans hu)
 by_cases c1:a=1
 ·subst c1
  exact .inl (gU zo h4 d1 (by rw[show n-1=e by omega]; exact e2) f3 hu'.1)
 ·by_cases c2:e=1
  ·subst c2
   exact .inl (gU zo h4 e2 (by rw[show n-1=a by omega]; exact d1) (fun k=>by rw[f3,IX]) hv'.1)
  ·obtain rfl:a=2:=by omega
   obtain rfl:e=2:=by omega
   exact .inr ⟨by omega,aa4 d1 e2 f3 hu⟩
def hm (f:u4) (m:Nat) (a b:Int):Int:=r6 (fun i=>f i*a ^ i*b ^ (m-i)) (m+1)
theorem WI {f g:u4} {m:Nat} {a b:Int}:hm (fun i=>f i+g i) m a b=hm f m a b+hm g m a b:=by
 unfold hm; rw[<- TE]
 exact R4 fun i _=>by rw[Int.add_mul,Int.add_mul]
theorem fS {f:u4} {m:Nat} {a b c:Int}:hm (fun i=>c*f i) m a b=c*hm f m a b:=by
 unfold hm; rw[<- HX]
 exact R4 fun i _=>by rw[Int.mul_assoc,Int.mul_assoc,Int.mul_assoc]
theorem MP {f:u4} {m j:Nat} {a b:Int} (h:A4 f m):hm f (m+j) a b=b ^ j*hm f m a b:=by
 unfold hm
 rw[show m+j+1=m+1+j by omega,ZH fun i h1 _=>by rw[h i zo,Int.zero_mul,Int.zero_mul],<- HX]
 refine R4 fun i hi=>?_
 rw[show m+j-i=j+(m-i) by omega,Int.pow_add]
 simp only[Int.mul_assoc,Int.mul_left_comm]
def AG (f:u4):u4:=fun i=>f (i+1)
theorem QN {f:u4} {m:Nat} {a b:Int}:hm f (m+1) a b=f 0*b ^ (m+1)+a*hm (AG f) m a b:=by
 unfold hm
 rw[show m+1+1=1+(m+1) by omega]
 have key:∀(g:Nat->Int) (k:Nat),r6 g (1+k)=g 0+r6 (fun i=>g (1+i)) k:=fun g k=>by
  induction k with
  | zero=>show 0+g 0=g 0+0; omega
  | succ k ih=>rw[show 1+(k+1)=1+k+1 by omega,M5,ih,M5]; omega
 rw[key,<- HX]
 congr 1
 ·rw[Int.pow_zero,Int.mul_one,Nat.sub_zero]
 ·refine R4 fun i hi=>?_
  rw[show m+1-(1+i)=m-i by omega,show 1+i=i+1 by omega,Int.pow_succ]
  unfold AG
  simp only[Int.mul_assoc,Int.mul_left_comm,Int.mul_comm]
theorem bU {f g:u4}:p7 f g=fun k=>f 0*g k+G9 1 (p7 (AG f) g) k:=by
 funext k
 unfold p7 G9
 have key:∀(h:Nat->Int) (k:Nat),r6 h (1+k)=h 0+r6 (fun i=>h (1+i)) k:=fun h k=>by
  induction k with
  | zero=>show 0+h 0=h 0+0; omega
  | succ k ih=>rw[show 1+(k+1)=1+k+1 by omega,M5,ih,M5]; omega
 rw[show k+1=1+k by omega,key,Nat.sub_zero]
 congr 1
 by_cases h:1<=k
 ·rw[if_pos h]
  show _=r6 (fun i=>AG f i*g (k-1-i)) (k-1+1)
  rw[show k-1+1=k by omega]
  refine R4 fun i hi=>?_
  unfold AG
  rw[show 1+i=i+1 by omega,show k-(i+1)=k-1-i by omega]
 ·rw[if_neg h,show k=0 by omega]; rfl
theorem vV {f:u4} {m:Nat} {a b:Int}:hm (G9 1 f) (m+1) a b=a*hm f m a b:=by
 rw[QN]
 have e:AG (G9 1 f)=f:=by funext i; unfold AG G9; rw[if_pos zo,Nat.add_sub_cancel]
 rw[e]
 unfold G9
 rw[if_neg zo]; omega
theorem aj0 {f:u4} {m:Nat} (h:A4 f (m+1)):A4 (AG f) m:=fun i hi=>h (i+1) zo
theorem MO {g:u4} {l:Nat} {a b:Int} (hg:A4 g l):∀{m:Nat} {f:u4},A4 f m->hm (p7 f g) (m+l) a b=hm f m a b*hm g l a b
 | 0,f,hf=>by
  have e:p7 f g=fun k=>f 0*g k:=by
   rw[bU]
   funext k
   have:AG f=Q8:=funext fun i=>hf (i+1) zo
   rw[this,FH]
   unfold G9 Q8
   split<;>omega
  rw[e,Nat.zero_add,fS]
  congr 1
  unfold hm; simp[r6]
 | m+1,f,hf=>by
  rw[bU,show m+1+l=m+l+1 by omega]
  have e1:hm (fun k=>f 0*g k+G9 1 (p7 (AG f) g) k) (m+l+1) a b=f 0*hm g (m+l+1) a b+a*hm (p7 (AG f) g) (m+l) a b:=by
   rw[WI,fS,vV]
  rw[e1,MO hg (aj0 hf),show m+l+1=l+(m+1) by omega,MP hg,QN]
  rw[Int.add_mul]
  simp only[Int.mul_assoc,Int.mul_left_comm,Int.mul_comm]
def lP (cs:List Int):u4:=fun i=>if i<cs.length then b6 cs i else 0
theorem JW {cs:List Int}:A4 (lP cs) (cs.length-1):=fun i hi=>by unfold lP; rw[if_neg zo]
theorem gQ {c:Int} {cs:List Int}:AG (lP (c::cs))=lP cs:=by
 funext i; unfold AG lP
 by_cases h:i<cs.length
 ·rw[if_pos (by simpa using h),if_pos h]; rfl
 ·rw[if_neg (by simpa using h),if_neg h]
theorem MT {a b:Int}:∀{cs:List Int},(u9 a b cs).2=b ^ cs.length/\(u9 a b cs).1=hm (lP cs) (cs.length-1) a b
 | []=>⟨by simp[u9],by simp[u9,hm,r6,lP]⟩
 | [c]=>⟨by simp[u9,Int.pow_succ],by simp[u9,hm,r6,lP,b6]⟩
 | c::d::cs=>by
  obtain ⟨h1,h2⟩:=MT (a:=a) (b:=b) (cs:=d::cs)
  rw[u9]
  refine ⟨by simp only; rw[h1,List.length_cons (a:=c),Int.pow_succ],?_⟩
  simp only
  rw[h1,h2,List.length_cons (a:=c),Nat.add_sub_cancel,show (d::cs).length=(d::cs).length-1+1 by simp,QN,gQ,Nat.add_sub_cancel]
  have e0:lP (c::d::cs) 0=c:=by unfold lP; simp[b6]
  rw[e0,Int.mul_comm a]; omega
theorem iL {p:u4} {n:Nat} (h2:2<=n) (h4:n<=4) (hp:A4 p n) (hp1:p n=1) (hred:¬GP p n) {a b:Int} (hb:0<b):hm p n a b≠0:=fun h0=>by
 have hc:A4 (fun i=>if i=0 then -a else if i=1 then b else 0) (n-1):=fun i hi=>by
  show (if i=0 then -a else if i=1 then b else 0)=0
  rw[if_neg zo,if_neg zo]
 obtain ⟨X,hX,hbp,hbc⟩:∃X:Nat,1<=X/\(∀k,(p k).natAbs<=X)/\∀k,((fun i=>if i=0 then -a else if i=1 then b else 0:u4) k).natAbs<=X:=by
  refine ⟨1+(p 0).natAbs+(p 1).natAbs+(p 2).natAbs+(p 3).natAbs+(p 4).natAbs+a.natAbs+b.natAbs,by omega,fun k=>?_,fun k=>?_⟩
  ·by_cases h:k<=4
   ·rcases (show k=0\/k=1\/k=2\/k=3\/k=4 by omega) with rfl | rfl | rfl | rfl | rfl<;>omega
   ·rw[hp k zo]; simp
  ·show (if k=0 then -a else if k=1 then b else 0:Int).natAbs<=_
   split
   ·omega
   ·split
    ·omega
    ·simp
 rcases aZ zo h4 hX hp hp1 hc (fun hz=>by have:=hz 1; simp at this; omega) hbp hbc with h | ⟨D,u,v,d0,h1,hu,hv,_,_⟩
 ·exact hred (VS h2 h4 hp hp1 h)
 ·have e1:=MO (a:=a) (b:=b) hp hu
  have e2:=MO (a:=a) (b:=b) (l:=n) (fun i hi=>hc i zo) hv
  have e3:hm (fun i=>if i=0 then -a else if i=1 then b else 0) n a b=0:=by
   obtain ⟨q,rfl⟩:∃q,n=q+1:=⟨n-1,by omega⟩
   rw[show q+1=1+q by omega,MP (m:=1) (fun i hi=>by show (if i=0 then -a else if i=1 then b else 0)=0; rw[if_neg zo,if_neg zo])]
   have:hm (fun i=>if i=0 then -a else if i=1 then b else 0) 1 a b=0:=by
    simp[hm,r6,Int.pow_succ]; rw[Int.neg_mul,Int.mul_comm a]; omega
   rw[this,Int.mul_zero]
  rw[h0,Int.mul_zero] at e1
  rw[e3,Int.mul_zero] at e2
  have e4:hm (fun k=>p7 u p k+p7 v (fun i=>if i=0 then -a else if i=1 then b else 0) k) (28+n) a b=0:=by rw[WI,e1,e2]; rfl
  rw[show (fun k=>p7 u p k+p7 v (fun i=>if i=0 then -a else if i=1 then b else 0) k)=fun k=>if k=0 then D else 0 from funext h1] at e4
  have e5:hm (fun k=>if k=0 then D else 0) (28+n) a b=D*b ^ (28+n):=by
   have:=MP (f:=fun k=>if k=0 then D else 0) (m:=0) (j:=28+n) (a:=a) (b:=b) (fun i hi=>by show (if i=0 then D else 0)=0; rw[if_neg zo])
   rw[Nat.zero_add] at this
   rw[this,Int.mul_comm]
   congr 1
   simp[hm,r6]
  rw[e5] at e4
  have:=Int.pow_pos (n:=b) (m:=28+n) hb
  exact absurd e4 (Int.mul_ne_zero d0 zo)
end Go.Fl

/- Halving ends: a number other than a fraction is told from 0 after so many halvings. Plain Lean, no program in sight. -/
namespace Go.Fl
theorem QB {I:Iv} {a:Int} (h1:I.lo<=a) (h2:a<=I.hi):∀{cs:List Int},(enc I cs).1<=(if cs.length=0 then 0 else I.den*hm (lP cs) (cs.length-1) a I.den)/\(if cs.length=0 then 0 else I.den*hm (lP cs) (cs.length-1) a I.den)<=(enc I cs).2.1
 | []=>by simp[enc]
 | c::cs=>by
  obtain ⟨e1,e2⟩:=QB h1 h2 (cs:=cs)
  have e0:lP (c::cs) 0=c:=by unfold lP; simp[b6]
  have hv:I.den*hm (lP (c::cs)) cs.length a I.den=(if cs.length=0 then 0 else I.den*hm (lP cs) (cs.length-1) a I.den)*a+c*(I.den ^ cs.length*I.den):=by
   by_cases h:cs.length=0
   ·rw[if_pos h,h]
    simp[hm,r6,e0,Int.mul_comm]
   ·rw[if_neg h]
    have e:cs.length=cs.length-1+1:=by omega
    conv=>lhs; rw[e,QN,gQ,e0,<- e]
    rw[Int.mul_add,Int.add_comm]
    congr 1
    ·simp only[Int.mul_left_comm,Int.mul_comm]
    ·simp only[Int.mul_left_comm,Int.mul_comm]
  rw[if_neg (by simp),List.length_cons,Nat.add_sub_cancel,hv,enc]
  simp only
  rw[VZ]
  have:=QO e1 e2 h1 h2
  omega
theorem M9 {x y:Int} {m n:Nat} (h1:x.natAbs<=m) (h2:y.natAbs<=n):(x*y).natAbs<=m*n:=by rw[Int.natAbs_mul]; exact Nat.mul_le_mul h1 h2
set_option maxHeartbeats 2000000 in
theorem VY {I:Iv} {A F W:Nat} (hlo:I.lo.natAbs<=A) (hhi:I.hi.natAbs<=A) (hden:I.den.natAbs<=A) (hw:(I.hi-I.lo).natAbs<=W):∀{cs:List Int},(∀c∈cs,c.natAbs<=F)->(enc I cs).1.natAbs<=cs.length*F*A ^ cs.length/\(enc I cs).2.1.natAbs<=cs.length*F*A ^ cs.length/\((enc I cs).2.1-(enc I cs).1).natAbs*A<=cs.length*cs.length*F*W*A ^ cs.length
 | [],_=>by simp[enc]
 | c::cs,h=>by
  obtain ⟨b1,b2,b3⟩:=VY hlo hhi hden hw (cs:=cs) fun x hx=>h x (List.mem_cons_of_mem _ hx)
  have hc:=h c List.mem_cons_self
  have hd:(c*((enc I cs).2.2*I.den)).natAbs<=F*A ^ (cs.length+1):=by
   rw[VZ]
   refine M9 hc ?_
   rw[Nat.pow_succ]
   refine M9 ?_ hden
   rw[Int.natAbs_pow]
   exact Nat.pow_le_pow_left hden _
  rw[enc]
  simp only[List.length_cons]
  generalize hX:(enc I cs).1=X at *
  generalize hY:(enc I cs).2.1=Y at *
  generalize c*((enc I cs).2.2*I.den)=D at *
  generalize hL:cs.length=L at *
  have hpw:A ^ (L+1)=A ^ L*A:=Nat.pow_succ ..
  generalize hM:L*F*A ^ L=M at *
  have hMA:(L+1)*F*A ^ (L+1)=M*A+F*A ^ (L+1):=by
   rw[<- hM,hpw]; simp only[Nat.add_mul,Nat.one_mul,Nat.mul_assoc]
  have corner:∀x y,(x=X\/x=Y)->(y=I.lo\/y=I.hi)->(x*y).natAbs<=M*A:=fun x y hx hy=>by
   refine M9 ?_ ?_
   ·rcases hx with rfl | rfl<;>assumption
   ·rcases hy with rfl | rfl<;>assumption
  have diff:∀x y x' y',(x=X\/x=Y)->(y=I.lo\/y=I.hi)->(x'=X\/x'=Y)->(y'=I.lo\/y'=I.hi)->(x*y-x'*y').natAbs<=M*W+(Y-X).natAbs*A:=fun x y x' y' hx hy hx' hy'=>by
   have e:x*y-x'*y'=x*(y-y')+(x-x')*y':=by rw[Int.mul_sub,Int.sub_mul]; omega
   have h1:(x*(y-y')).natAbs<=M*W:=by
    refine M9 ?_ ?_
    ·rcases hx with rfl | rfl<;>assumption
    ·rcases hy with rfl | rfl<;>rcases hy' with rfl | rfl<;>omega
   have h2:((x-x')*y').natAbs<=(Y-X).natAbs*A:=by
    refine M9 ?_ ?_
    ·rcases hx with rfl | rfl<;>rcases hx' with rfl | rfl<;>omega
    ·rcases hy' with rfl | rfl<;>assumption
   rw[e]; omega
  obtain ⟨x,y,hx,hy,e1⟩:=XK (A:=X) (B:=Y) (L:=I.lo) (H:=I.hi)
  obtain ⟨x',y',hx',hy',e2⟩:=XH (A:=X) (B:=Y) (L:=I.lo) (H:=I.hi)
  have k1:=corner x y hx hy
  have k2:=corner x' y' hx' hy'
  have k3:=diff x' y' x y hx' hy' hx hy
  rw[e1,e2,hMA]
  refine ⟨by omega,by omega,?_⟩
  rw[show x'*y'+D-(x*y+D)=x'*y'-x*y by omega]
  refine Nat.le_trans (Nat.mul_le_mul_right A k3) ?_
  rw[Nat.add_mul]
  have k4:(Y-X).natAbs*A*A<=L*L*F*W*A ^ L*A:=Nat.mul_le_mul_right _ b3
  have e5:M*W*A=L*F*W*A ^ (L+1):=by
   rw[<- hM,hpw]; simp only[Nat.mul_assoc,Nat.mul_left_comm,Nat.mul_comm]
  have e6:L*L*F*W*A ^ L*A=L*L*F*W*A ^ (L+1):=by rw[hpw]; simp only[Nat.mul_assoc]
  have e7:(L+1)*(L+1)*F*W*A ^ (L+1)=L*L*F*W*A ^ (L+1)+L*F*W*A ^ (L+1)+(L+1)*F*W*A ^ (L+1):=by
   have:(L+1)*(L+1)=L*L+L+(L+1):=by simp only[Nat.add_mul,Nat.mul_add,Nat.one_mul,Nat.mul_one]
   rw[this]; simp only[Nat.add_mul]
  rw[e5]; rw[e6] at k4
  omega
theorem fR {f:u4} {m A F:Nat} {a b:Int} (ha:a.natAbs<=A) (hb:b.natAbs<=A) (hf:∀i,(f i).natAbs<=F):(hm f m a b).natAbs<=(m+1)*(F*A ^ m):=by
 unfold hm
 have key:∀k,k<=m+1->(r6 (fun i=>f i*a ^ i*b ^ (m-i)) k).natAbs<=k*(F*A ^ m):=by
  intro k
  induction k with
  | zero=>intro _; simp[r6]
  | succ k ih =>
   intro hk
   have h1:=ih zo
   have h2:(f k*a ^ k*b ^ (m-k)).natAbs<=F*A ^ m:=by
    have e:A ^ m=A ^ k*A ^ (m-k):=by rw[<- Nat.pow_add]; congr 1; omega
    rw[e,<- Nat.mul_assoc]
    refine M9 (M9 (hf k) ?_) ?_
    ·rw[Int.natAbs_pow]; exact Nat.pow_le_pow_left ha _
    ·rw[Int.natAbs_pow]; exact Nat.pow_le_pow_left hb _
   rw[M5,Nat.add_mul,Nat.one_mul]
   omega
 exact key _ (Nat.le_refl _)
end Go.Fl

/- Halving ends: so often, and a number other than 0 is told from 0. Plain Lean, no program in sight. -/
namespace Go.Fl
theorem WP {p:List Int} {I:Iv}:∀{k:Nat},(i2 p I k).den=I.den*2 ^ k
 | 0=>by simp[i2]
 | k+1=>by
  have ih:=WP (p:=p) (I:=I) (k:=k)
  have:(K8 p (i2 p I k)).den=(i2 p I k).den+(i2 p I k).den:=by unfold K8; split<;>rfl
  rw[i2,this,ih,Int.pow_succ,<- Int.mul_assoc]; omega
theorem gE {p:List Int} {I:Iv}:∀{k:Nat},(i2 p I k).hi-(i2 p I k).lo=I.hi-I.lo
 | 0=>rfl
 | k+1=>by
  have ih:=gE (p:=p) (I:=I) (k:=k)
  rw[i2]
  unfold K8
  split<;>simp only<;>omega
theorem WO {p:List Int} {I:Iv} (hI:I.Ok) {R:Int} (h1:-(R*I.den)<=I.lo) (h2:I.hi<=R*I.den):∀{k:Nat},-(R*(i2 p I k).den)<=(i2 p I k).lo/\(i2 p I k).hi<=R*(i2 p I k).den
 | 0=>⟨h1,h2⟩
 | k+1=>by
  have ih:=WO hI h1 h2 (p:=p) (k:=k)
  have hle:=(V8 hI (p:=p) (k:=k)).le
  rw[i2]
  unfold K8
  split<;>simp only<;>rw[Int.mul_add]<;>omega
def z8 (p:List Int) (a b:Int):Int:=hm (lP p) (p.length-1) a b
theorem AE (z:Int):(z<0/\s6 z=-1)\/(z=0/\s6 z=0)\/(0<z/\s6 z=1):=by
 unfold s6 q9
 rcases Int.lt_trichotomy z 0 with h | h | h
 ·exact .inl ⟨h,by simp[h]⟩
 ·exact .inr (.inl ⟨h,by simp[h]⟩)
 ·exact .inr (.inr ⟨h,by rw[if_neg zo,if_pos h]⟩)
theorem gD {p:List Int} {I:Iv} (hI:I.Ok) (hnr:∀a b:Int,0<b->z8 p a b≠0) (h:s6 (z8 p I.lo I.den)*s6 (z8 p I.hi I.den)<0):∀{k:Nat},s6 (z8 p (i2 p I k).lo (i2 p I k).den)*s6 (z8 p (i2 p I k).hi (i2 p I k).den)<0
 | 0=>h
 | k+1=>by
  have ih:=gD hI hnr h (k:=k)
  have hpos:=(V8 hI (p:=p) (k:=k)).pos
  have dbl:∀a b:Int,0<b->s6 (z8 p (a+a) (b+b))=s6 (z8 p a b):=fun a b hb=>by
   have e:z8 p (a+a) (b+b)=2 ^ (p.length-1)*z8 p a b:=by
    unfold z8 hm
    rw[<- HX]
    refine R4 fun i hi=>?_
    rw[<- Int.two_mul,<- Int.two_mul,Int.mul_pow,Int.mul_pow]
    have:(2:Int) ^ (p.length-1)=2 ^ i*2 ^ (p.length-1-i):=by rw[<- Int.pow_add]; congr 1; omega
    rw[this]
    simp only[Int.mul_assoc,Int.mul_left_comm,Int.mul_comm]
   have h2:(0:Int)<2 ^ (p.length-1):=Int.pow_pos zo
   rw[e]
   generalize (2:Int) ^ (p.length-1)=q at *
   rcases AE (z8 p a b) with ⟨h1,h3⟩ | ⟨h1,h3⟩ | ⟨h1,h3⟩
   ·have:=Int.mul_neg_of_pos_of_neg h2 h1
    rcases AE (q*z8 p a b) with ⟨h4,h5⟩ | ⟨h4,h5⟩ | ⟨h4,h5⟩<;>omega
   ·rw[h1,Int.mul_zero]
   ·have:=Int.mul_pos h2 h1
    rcases AE (q*z8 p a b) with ⟨h4,h5⟩ | ⟨h4,h5⟩ | ⟨h4,h5⟩<;>omega
  have hv:∀a b,(u9 a b p).1=z8 p a b:=fun a b=>MT.2
  have hm0:=hnr ((i2 p I k).lo+(i2 p I k).hi) ((i2 p I k).den+(i2 p I k).den) zo
  rw[i2]
  unfold K8
  rw[hv,hv]
  split
  ·rename_i hc
   simp only
   rw[dbl _ _ hpos]; exact hc
  ·rename_i hc
   simp only
   rw[dbl _ _ hpos]
   have a1:=AE (z8 p (i2 p I k).lo (i2 p I k).den)
   have a2:=AE (z8 p (i2 p I k).hi (i2 p I k).den)
   have a3:=AE (z8 p ((i2 p I k).lo+(i2 p I k).hi) ((i2 p I k).den+(i2 p I k).den))
   rcases a1 with ⟨_,q1⟩ | ⟨_,q1⟩ | ⟨_,q1⟩<;>rcases a2 with ⟨_,q2⟩ | ⟨_,q2⟩ | ⟨_,q2⟩<;>rcases a3 with ⟨_,q3⟩ | ⟨q4,q3⟩ | ⟨_,q3⟩<;>rw[q1,q3] at hc<;>rw[q1,q2] at ih<;>rw[q2,q3]<;>omega
def FJ (n F R W:Nat):Nat:=2*(29*XI F 7*((n+1)*(n+1)*F)*W*R ^ (28+n))+1
theorem aj1 {n R B F W X7:Nat} {den D U V P C e1 e2:Int} {wp:Nat} (hn:2<=n) (hR:1<=R) (hB:den=B) (hden:((2*(29*X7*((n+1)*(n+1)*F)*W*R ^ (28+n))+1:Nat):Int)<=den) (hT:0<R*B)
  (e4:U*P+den*(V*C)=D*den ^ (28+n)) (d0:D≠0) (hub:U.natAbs<=(28+1)*(X7*(R*B) ^ 28)) (hvb:V.natAbs<=(28+1)*(X7*(R*B) ^ 28))
  (hwp:wp<=(n+1)*(n+1)*F*W*(R*B) ^ n) (hwc:(e2-e1).natAbs<=n*n*F*W*(R*B) ^ (n-1)) (hsm:(den*P).natAbs<=wp) (cl1:e1<=den*C) (cl2:den*C<=e2):0<e1\/e2<0:=by
 subst hB
 have hB0:0<B:=Nat.pos_of_ne_zero fun e=>by subst e; simp at hT
 have hK:2*(29*X7*((n+1)*(n+1)*F)*W*R ^ (28+n))+1<=B:=by omega
 have hpw:∀k,(R*B) ^ k=R ^ k*B ^ k:=fun k=>Nat.mul_pow ..
 have h1:(U*(B*P)).natAbs<=29*X7*((n+1)*(n+1)*F)*W*R ^ (28+n)*B ^ (28+n):=by
  rw[Int.natAbs_mul]
  refine Nat.le_trans (Nat.mul_le_mul hub (Nat.le_trans hsm hwp)) (Nat.le_of_eq ?_)
  rw[hpw,hpw,Nat.pow_add,Nat.pow_add]
  simp only[Nat.mul_assoc,Nat.mul_left_comm,Nat.mul_comm,Nat.reduceAdd]
 have h2:2*(U*(B*P)).natAbs<B ^ (28+n)*B:=by
  have hp:=Nat.pow_pos (n:=28+n) hB0
  have:(2*(29*X7*((n+1)*(n+1)*F)*W*R ^ (28+n))+1)*B ^ (28+n)<=B*B ^ (28+n):=Nat.mul_le_mul_right _ hK
  rw[Nat.add_mul,Nat.one_mul,Nat.mul_assoc,Nat.mul_comm B] at this
  omega
 have h3:U*(B*P)+V*(B*C)*B=D*(B ^ (28+n)*B):=by
  have e:(U*P+B*(V*C))*B=D*B ^ (28+n)*B:=by rw[e4]
  rw[Int.add_mul] at e
  have q1:U*P*B=U*(B*P):=by rw[Int.mul_assoc,Int.mul_comm P]
  have q2:(B:Int)*(V*C)=V*(B*C):=by rw[Int.mul_left_comm]
  rw[q1,q2,Int.mul_assoc D] at e
  exact e
 have h4:B ^ (28+n)*B<=(U*(B*P)).natAbs+(V*(B*C)).natAbs*B:=by
  have e:(D*((B:Int) ^ (28+n)*B)).natAbs=D.natAbs*(B ^ (28+n)*B):=by
   rw[Int.natAbs_mul,Int.natAbs_mul,Int.natAbs_pow,Int.natAbs_natCast]
  have h5:1*(B ^ (28+n)*B)<=D.natAbs*(B ^ (28+n)*B):=Nat.mul_le_mul_right _ zo
  have h6:(U*(B*P)+V*(B*C)*B).natAbs<=(U*(B*P)).natAbs+(V*(B*C)*B).natAbs:=Int.natAbs_add_le _ _
  rw[h3,e,Int.natAbs_mul (V*(B*C)),Int.natAbs_natCast] at h6
  omega
 have h7:B ^ (28+n)<2*(V*(B*C)).natAbs:=by
  refine Nat.lt_of_mul_lt_mul_right (a:=B) ?_
  rw[Nat.mul_assoc]
  omega
 have h8:B ^ n<2*(29*X7*R ^ 28)*(B*C).natAbs:=by
  rw[Int.natAbs_mul] at h7
  have h9:V.natAbs*(B*C).natAbs<=(28+1)*(X7*(R*B) ^ 28)*(B*C).natAbs:=Nat.mul_le_mul_right _ hvb
  refine Nat.lt_of_mul_lt_mul_left (a:=B ^ 28) ?_
  rw[<- Nat.pow_add]
  refine Nat.lt_of_lt_of_le h7 (Nat.le_trans (Nat.mul_le_mul_left 2 h9) (Nat.le_of_eq ?_))
  rw[hpw]
  simp only[Nat.mul_assoc,Nat.mul_left_comm,Nat.mul_comm,Nat.reduceAdd]
 have h9:(e2-e1).natAbs<(B*C).natAbs:=by
  refine Nat.lt_of_not_le fun hle=>?_
  have h10:(B*C).natAbs<=n*n*F*W*(R*B) ^ (n-1):=Nat.le_trans hle hwc
  have h11:B ^ n<2*(29*X7*R ^ 28)*(n*n*F*W*(R*B) ^ (n-1)):=Nat.lt_of_lt_of_le h8 (Nat.mul_le_mul_left _ h10)
  have e:B ^ n=B ^ (n-1)*B:=by rw[<- Nat.pow_succ]; congr 1; omega
  have e5:2*(29*X7*R ^ 28)*(n*n*F*W*(R*B) ^ (n-1))=B ^ (n-1)*(2*(29*X7*(n*n*F)*W*(R ^ 28*R ^ (n-1)))):=by
   rw[hpw]; simp only[Nat.mul_assoc,Nat.mul_left_comm,Nat.mul_comm]
  rw[e,e5] at h11
  have h12:=Nat.lt_of_mul_lt_mul_left h11
  have h13:29*X7*(n*n*F)*W*(R ^ 28*R ^ (n-1))<=29*X7*((n+1)*(n+1)*F)*W*R ^ (28+n):=by
   rw[<- Nat.pow_add]
   refine Nat.mul_le_mul (Nat.mul_le_mul_right _ (Nat.mul_le_mul_left _ (Nat.mul_le_mul_right _ (Nat.mul_le_mul zo zo)))) (Nat.pow_le_pow_right hR zo)
  omega
 omega
theorem told {p cs:List Int} {I:Iv} {n F R W:Nat} (hn:2<=n) (h4:n<=4) (hpl:p.length=n+1) (hp1:b6 p n=1) (hred:¬GP (lP p) n) (hcl:cs.length=n) (hc0:∃c∈cs,c≠0)
  (hF:1<=F) (hpF:∀c∈p,c.natAbs<=F) (hcF:∀c∈cs,c.natAbs<=F) (hR:1<=R) (hI:I.Ok) (hlo:-((R:Int)*I.den)<=I.lo) (hhi:I.hi<=R*I.den) (hW:(I.hi-I.lo).natAbs<=W) (hsg:s6 (z8 p I.lo I.den)*s6 (z8 p I.hi I.den)<0)
  (hden:(FJ n F R W:Int)<=I.den):0<(enc I cs).1\/(enc I cs).2.1<0:=by
 have hb:=hI.pos
 have hle:=hI.le
 obtain ⟨B,hB⟩:∃B:Nat,I.den=B:=⟨I.den.toNat,by omega⟩
 have hPd:A4 (lP p) n:=by have:=JW (cs:=p); rwa [hpl,Nat.add_sub_cancel] at this
 have hCd:A4 (lP cs) (n-1):=by have:=JW (cs:=cs); rwa [hcl] at this
 have hPF:∀k,(lP p k).natAbs<=F:=fun k=>by
  unfold lP; split
  ·exact hpF _ (E6 zo)
  ·simp
 have hCF:∀k,(lP cs k).natAbs<=F:=fun k=>by
  unfold lP; split
  ·exact hcF _ (E6 zo)
  ·simp
 have hP1:lP p n=1:=by unfold lP; rw[if_pos zo,hp1]
 have hC0:¬∀i,lP cs i=0:=fun hz=>by
  obtain ⟨c,hc,hne⟩:=hc0
  obtain ⟨i,hi,rfl⟩:=BY hc
  have:=hz i
  unfold lP at this
  rw[if_pos hi] at this
  exact hne this
 rcases aZ zo h4 hF hPd hP1 hCd hC0 hPF hCF with h | ⟨D,u,v,d0,hbz,hu,hv,bu,bv⟩
 ·exact absurd (VS hn h4 hPd hP1 h) hred
 have hA1:I.lo.natAbs<=R*B:=by rw[hB] at hlo hhi; have:((R*B:Nat):Int)=R*B:=Int.natCast_mul .. ; omega
 have hA2:I.hi.natAbs<=R*B:=by rw[hB] at hlo hhi; have:((R*B:Nat):Int)=R*B:=Int.natCast_mul .. ; omega
 have hA3:I.den.natAbs<=R*B:=by
  have:1*B<=R*B:=Nat.mul_le_mul_right _ hR
  rw[hB,Int.natAbs_natCast]; omega
 obtain ⟨p1,p2,p3⟩:=VY hA1 hA2 hA3 hW (cs:=p) hpF
 obtain ⟨c1,c2,c3⟩:=VY hA1 hA2 hA3 hW (cs:=cs) hcF
 have pl:=QB (I:=I) (a:=I.lo) (Int.le_refl _) hle (cs:=p)
 have ph:=QB (I:=I) (a:=I.hi) hle (Int.le_refl _) (cs:=p)
 have cl:=QB (I:=I) (a:=I.lo) (Int.le_refl _) hle (cs:=cs)
 rw[if_neg zo] at pl ph cl
 rw[hpl] at pl ph p3
 rw[hcl] at cl c3
 rw[Nat.add_sub_cancel] at pl ph
 have hpe:p.length-1=n:=by omega
 unfold z8 at hsg
 rw[hpe] at hsg
 have hsm:(I.den*hm (lP p) n I.lo I.den).natAbs<=((enc I p).2.1-(enc I p).1).natAbs:=by
  have s1:=AE (hm (lP p) n I.lo I.den)
  have s2:=AE (hm (lP p) n I.hi I.den)
  rcases s1 with ⟨q1,r1⟩ | ⟨q1,r1⟩ | ⟨q1,r1⟩<;>rcases s2 with ⟨q2,r2⟩ | ⟨q2,r2⟩ | ⟨q2,r2⟩<;>rw[r1,r2] at hsg<;>try omega
  ·have:=Int.mul_neg_of_pos_of_neg hb q1
   have:=Int.mul_pos hb q2
   omega
  ·have:=Int.mul_pos hb q1
   have:=Int.mul_neg_of_pos_of_neg hb q2
   omega
 have hT:0<R*B:=Nat.mul_pos zo zo
 have hwp:((enc I p).2.1-(enc I p).1).natAbs<=(n+1)*(n+1)*F*W*(R*B) ^ n:=by
  have e:(n+1)*(n+1)*F*W*(R*B) ^ (n+1)=(n+1)*(n+1)*F*W*(R*B) ^ n*(R*B):=by rw[Nat.pow_succ,<- Nat.mul_assoc ((n+1)*(n+1)*F*W)]
  rw[e] at p3
  exact Nat.le_of_mul_le_mul_right p3 hT
 have hwc:((enc I cs).2.1-(enc I cs).1).natAbs<=n*n*F*W*(R*B) ^ (n-1):=by
  have e:(R*B) ^ n=(R*B) ^ (n-1)*(R*B):=by rw[<- Nat.pow_succ]; congr 1; omega
  rw[e,<- Nat.mul_assoc (n*n*F*W)] at c3
  exact Nat.le_of_mul_le_mul_right c3 hT
 have hub:=fR (m:=28) hA1 hA3 bu
 have hvb:=fR (m:=28) hA1 hA3 bv
 have e1:=MO (a:=I.lo) (b:=I.den) hPd hu
 have e2:=MO (a:=I.lo) (b:=I.den) hCd hv
 have e3:=MP (j:=1) (a:=I.lo) (b:=I.den) (bV hv hCd)
 have e4:hm (fun k=>p7 u (lP p) k+p7 v (lP cs) k) (28+n) I.lo I.den=D*I.den ^ (28+n):=by
  rw[show (fun k=>p7 u (lP p) k+p7 v (lP cs) k)=fun k=>if k=0 then D else 0 from funext hbz]
  have:=MP (f:=fun k=>if k=0 then D else 0) (m:=0) (j:=28+n) (a:=I.lo) (b:=I.den) (fun i hi=>by show (if i=0 then D else 0)=0; rw[if_neg zo])
  rw[Nat.zero_add] at this
  rw[this,Int.mul_comm]
  congr 1
  simp[hm,r6]
 rw[WI,e1,show 28+n=28+(n-1)+1 by omega,e3,e2,show 28+(n-1)+1=28+n by omega,Int.pow_one] at e4
 exact aj1 (n:=n) (F:=F) (W:=W) (X7:=XI F 7) hn hR hB hden hT e4 d0 hub hvb hwp hwc hsm cl.1 cl.2
end Go.Fl

/- Values of polynomials at fractions, from the last coefficient on: sizes. No program in sight. -/
namespace Go.Fl
open Go
def A9 (a d:Int) (p:List Int) (k:Nat):Int×Int:=u9 a d (p.drop (p.length-k))
theorem VX {p:List Int} {k:Nat} (hk:k<p.length):p.drop (p.length-(k+1))=b6 p (p.length-1-k)::p.drop (p.length-k):=by
 have h:=List.drop_eq_getElem_cons (l:=p) (i:=p.length-(k+1)) zo
 rw[h,show p.length-(k+1)+1=p.length-k by omega]
 refine congrArg (·::_) ?_
 rw[BZ (List.getElem?_eq_getElem (show p.length-1-k<p.length by omega))]
 congr 1
 omega
theorem MR {a d:Int} {p:List Int} {k:Nat} (hk:k<p.length):A9 a d p (k+1)=((A9 a d p k).1*a+b6 p (p.length-1-k)*(A9 a d p k).2,(A9 a d p k).2*d):=by
 unfold A9
 rw[VX hk]
 rfl
theorem MS {a d:Int} {p:List Int}:A9 a d p 0=(0,1):=by
 unfold A9
 rw[Nat.sub_zero,List.drop_length]
 rfl
theorem MQ {a d:Int} {p:List Int}:A9 a d p p.length=u9 a d p:=by
 unfold A9
 rw[Nat.sub_self,List.drop_zero]
theorem JM {a d:Int} {p:List Int} {B C:Nat} (hp:∀i,dl (b6 p i)<=C) (ha:dl a<=B) (hd:dl d<=B):∀{k:Nat},k<=p.length->dl (A9 a d p k).1<=k*(B+1)+C+1/\dl (A9 a d p k).2<=k*B+1
 | 0,_=>by
  rw[MS]
  have h0:dl (0:Int)=0:=C5.2 rfl
  have h1:=K1 (F:=1) zo zo
  exact ⟨by show dl 0<=_; omega,by show dl 1<=_; omega⟩
 | k+1,hk=>by
  obtain ⟨h1,h2⟩:=JM (p:=p) hp ha hd (k:=k) zo
  rw[MR zo]
  have q1:=s7 (A9 a d p k).1 a
  have q2:=s7 (b6 p (p.length-1-k)) (A9 a d p k).2
  have q3:=Q3 ((A9 a d p k).1*a) (b6 p (p.length-1-k)*(A9 a d p k).2)
  have q4:=s7 (A9 a d p k).2 d
  have q5:=hp (p.length-1-k)
  have e1:(k+1)*(B+1)=k*(B+1)+B+1:=by rw[Nat.succ_mul]; omega
  have e2:(k+1)*B=k*B+B:=Nat.succ_mul _ _
  have e3:k*(B+1)=k*B+k:=by rw[Nat.mul_add,Nat.mul_one]
  exact ⟨by show dl ((A9 a d p k).1*a+_)<=_; omega,by show dl ((A9 a d p k).2*d)<=_; omega⟩
end Go.Fl

/- Contracts: signs of polynomials, enclosures, halving. -/
namespace Go.Fl
open Go Go.Proofs
open d5 renaming op->tO
open i9 renaming op->rO
set_option maxRecDepth 100000

section
open Go Go.RowKit Go.Proofs
attribute [local go_sem] Oper.semAt_some
set_option maxHeartbeats 2000000 in
theorem oL:NY Tryz.prog 225 eZ:=by
 intro J W xs ptr him hp
 obtain ⟨bx,ox,ds,rfl,hrd,hcell⟩:=hp
 obtain ⟨ad,cap,rfl,⟨hlen,hcap⟩,hrow⟩:=hrd
 obtain ⟨cv,hcv⟩:∃cv:Nat->List Value,∀i,i<xs.length->eZ.rd J (cv i) (b6 xs i)/\∃b o,ad=some ⟨b,o,none⟩/\∀j v,(cv i)[j]?=some v->J b (o+i*2+j)=some v:=by
  have:∀i,∃l:List Value,i<xs.length->eZ.rd J l (b6 xs i)/\∃b o,ad=some ⟨b,o,none⟩/\∀j v,l[j]?=some v->J b (o+i*2+j)=some v:=fun i=>by
   by_cases hi:i<xs.length
   ·obtain ⟨b,o,rfl,hrw⟩:=hrow.resolve_left (fun e=>by subst e; simp at hi)
    obtain ⟨l,q1,q2⟩:=hrw i _ (H1 hi)
    exact ⟨l,fun _=>⟨q1,b,o,rfl,q2⟩⟩
   ·exact ⟨[],fun h=>absurd h hi⟩
  exact ⟨fun i=>(this i).choose,fun i hi=>(this i).choose_spec hi⟩
 refine ⟨fun i=>.agg (cv i).toArray,fun i hi=>⟨cv i,(hcv i hi).1,rfl⟩,?_⟩
 intro l Iv Ix hY h0
 have hbox:∀W',Im J W'->W'.cell? ⟨bx,ox,none⟩=some (.slice ad xs.length cap):=fun W' h=>h _ _ _ (by have:=hcell 0 _ rfl; simpa using this)
 simp only[p9] at hlen
 have hb0:=hbox W him
 refine (callsIn_wide (n:=3)).1 ?_; refine callsIn_of_wp Tryz.func225 rfl trivial ?_
 simp only[Tryz.ntmps225,List.size_toArray,List.length_cons,List.length_nil,Nat.reduceAdd,Nat.reduceSub,Array.replicate_succ,Array.replicate_zero,List.push_toArray,List.append_toArray,List.nil_append,List.cons_append]
 gi_wp2
 gi_loopw [3] (fun i wr=>∃k:Nat,k<=xs.length/\i=.int .i64 ((xs.length:Int)-1-k)/\Iv k wr/\Im J wr)
  (fun i _=>(intOf i+1).toNat)
 case atStart=>exact ⟨0,Nat.zero_le _,by simp,h0,him⟩
 case round =>
  obtain ⟨k,hk,rfl,hJs,himr⟩:=hrel
  have hbr:=hbox wr himr
  by_cases hlt:k<xs.length
  ·obtain ⟨fn,tmps,assign,body,hy,hR⟩:=hY k wr hlt himr hJs
   rw[show ((xs.length-1-k:Nat):Int)=(xs.length:Int)-1-k by omega] at hy
   obtain ⟨q1,b,o,rfl,q2⟩:=hcv (xs.length-1-k) zo
   obtain ⟨c1,c2,hc12⟩:∃c1 c2,cv (xs.length-1-k)=[c1,c2]:=by
    have hl2:(cv (xs.length-1-k)).length=2:=eZ.len q1
    match hcc:cv (xs.length-1-k),hl2 with
    | [c1,c2],_=>exact ⟨c1,c2,rfl⟩
   rw[hc12] at q2
   simp only[hc12] at hy
   have hx1:wr.cell? ⟨b,o+(xs.length-1-k)*2,none⟩=some c1:=himr _ _ _ (by have:=q2 0 c1 rfl; simpa using this)
   have hx2:wr.cell? ⟨b,o+(xs.length-1-k)*2+1,none⟩=some c2:=himr _ _ _ (q2 1 c2 rfl)
   gi_wp2
   refine hR.mono ?_
   rintro e W3 (⟨rfl,hJ3,hk3⟩ | ⟨rfl,hJx3⟩)
   ·gi_wp2
    go_roundw
    case rel=>exact ⟨k+1,by omega,by congr 1; omega,hJ3,hk3⟩
    case measure=>simp[intOf]; omega
   ·gi_wp2
    refine bodyPost_ret (results_none rfl _ _ _) rfl ?_; exact ⟨⟨_,rfl⟩,.inr ⟨k,hlt,hJx3⟩⟩
  ·obtain rfl:k=xs.length:=by omega
   gi_wp2
   go_end0
   exact ⟨⟨_,rfl⟩,.inl hJs⟩
end
theorem UM {z:Int} (h:0=z):∀g b o,j5 [j4 (.bool false),j4 (.slice none 0 0)] g b o->j5 [kB (decide (z<0)),b8 (eL eI) (d8 z.natAbs)] g b o:=fun g b o h'=>by
 subst h
 obtain ⟨cs,ty,h1,h2⟩:=h'
 refine ⟨cs,ty,h1,?_⟩
 match hcs:cs.toList,h2 with
 | [c1,c2],⟨k1,k2,_⟩=>exact ⟨k1,⟨_,Y1 (c:=0),k2⟩,trivial⟩
theorem qI (xs:List Int):Ct Tryz.prog 215 [b8 (eL eZ) xs] (AU 225 [r7 (eL eZ) xs]):=by
 refine Ct.mk Tryz.func215 rfl Tryz.ntmps215 rfl (fun w J=>?_); refine g8 ?_; refine jb 1 rfl ?_; refine g9 ?_; refine Tr.frzB 1 [1] (eL eZ) ⟨rfl,trivial⟩ rfl ?_; refine jn ?_; refine i5 ?_; refine tO (EK (.cons rfl uu<|.nil)) rfl rfl ?_; refine g9 ?_; exact g6.res1 (fn:=Tryz.f215) rfl (zk)

theorem VO (p:List Int) (a d:Int) (B C:Nat) (hl:p.length<=6) (hpp:∀i,dl (b6 p i)<=C) (ha:dl a<=B) (hd:dl d<=B) (hB:B<=100000) (hC:C<=100000):Ct Tryz.prog 193 [b8 (eL eZ) p,b8 eW (wh a),b8 eW (wh d)] (kI (s6 (u9 a d p).1)):=by
 refine CtM.mk Tryz.func193 rfl Tryz.ntmps193 rfl (fun w J=>?_); refine g8 ?_; refine jb 4 rfl ?_; refine jb 5 rfl ?_; refine l6 ?_; refine tO (A1 (fun hp=>.nil)) rfl rfl ?_; refine jc (Q2 1 zo) ?_; refine ja 7 ?_; refine ja 8 ?_; refine j1 ?_; refine tO (i6 (fun hp=>qI _) (.a rfl uu<|.nil)) rfl rfl ?_; refine i7 ?_
 refine Tr.back (e:=eZ) (xs:=p) oL [⟨4,true,_,_⟩,⟨5,true,_,_⟩,⟨6,true,_,_⟩,⟨7,true,_,_⟩,⟨8,true,_,_⟩,⟨14,true,_,_⟩] [4,5,7,8] (fun k=>[⟨4,[],j5 [kB (decide (a<0)),b8 (eL eI) (d8 (a).natAbs)]⟩,⟨5,[],j5 [kB (decide (d<0)),b8 (eL eI) (d8 (d).natAbs)]⟩,⟨7,[],j5 [kB (decide ((A9 a d p k).1<0)),b8 (eL eI) (d8 ((A9 a d p k).1).natAbs)]⟩,⟨8,[],j5 [kB (decide ((A9 a d p k).2<0)),b8 (eL eI) (d8 ((A9 a d p k).2).natAbs)]⟩]) (fun k=>[⟨4,[],j5 [kB (decide (a<0)),b8 (eL eI) (d8 (a).natAbs)]⟩,⟨5,[],j5 [kB (decide (d<0)),b8 (eL eI) (d8 (d).natAbs)]⟩,⟨7,[],j5 [kB (decide ((A9 a d p k).1<0)),b8 (eL eI) (d8 ((A9 a d p k).1).natAbs)]⟩,⟨8,[],j5 [kB (decide ((A9 a d p k).2<0)),b8 (eL eI) (d8 ((A9 a d p k).2).natAbs)]⟩]) (fun k=>True) (fun k=>False) (d6.mk (.k rfl rfl<|.k rfl rfl<|.k rfl rfl<|.k rfl rfl<|.k rfl rfl<|.k rfl rfl<|.nil) (.k rfl<|.k rfl<|.conv (UM (by rw[MS])) rfl<|.conv (AQ (BR (by rw[MS]))) rfl<|.nil) rfl) rfl rfl (fun _=>rfl) (fun _=>rfl) (fun _=>inferInstance) (fun _=>inferInstance) rfl zi ?_ ?_ ?_
 ·intro k hk14 hR14 l14 w14 J14 b14 bks14
  refine jn ?_
  have hb:=JM hpp ha hd (k:=k) zo
  have hk5:k*(B+1)<=5*100001:=Nat.mul_le_mul zo zo
  have hk6:k*B<=5*100000:=Nat.mul_le_mul zo zo
  have hcp:=hpp (p.length-1-k)
  have hm1:=s7 (A9 a d p k).1 a
  have hm2:=s7 (b6 p (p.length-1-k)) (A9 a d p k).2
  refine i5 ?_; refine ja 10 ?_; refine g8 ?_; refine d9.asg (fun w1014 J1014 b1014=>?_); refine jn ?_; refine g8 ?_; refine Tr.draw 5 o0 (by kernel_rfl) ?_; refine g8 ?_; refine jd (L7 (A9 a d p k).1 a zo zo) ?_; refine i7 ?_; refine jc (L7 (b6 p (p.length-1-k)) (A9 a d p k).2 zo zo) ?_; refine jc (X3 ((A9 a d p k).1*a) (b6 p (p.length-1-k)*(A9 a d p k).2) zo zo) ?_; refine l3 ?_; refine jc (L7 (A9 a d p k).2 d zo zo) ?_; refine i7 ?_; exact d9.rnd trivial (d6.mk (zk) (.k rfl<|.k rfl<|.conv (AQ (BR (by rw[MR zo]))) rfl<|.conv (AQ (BR (by rw[MR zo]))) rfl<|.nil) rfl)
 ·intro hE14
  refine je ?_; refine l6 ?_; refine jc (BQ (A9 a d p p.length).1) ?_; refine g9 ?_; refine g6.mk ?_; exact g6.res1 (fn:=Tryz.f193) rfl (.i rfl (by rw[MQ]; rfl)<|.nil)
 ·intro k hk14 hX14
  exact absurd hX14 id

end Go.Fl

/- Contracts: halving. -/
namespace Go.Fl
open Go Go.Proofs
open d5 renaming op->tO
open i9 renaming op->rO
set_option maxRecDepth 100000

theorem bB {ks:List d7} {dep:List Nat} [hd:B9 ks dep] [hn:J8 dep] {g:Gh} {bk:Bk} {o:Option Obj} {b cap:Nat} (h:j5 ks g bk o):j5 ks (g1 g.J b cap) (.blk b cap) o :=
 let ⟨cs,ty,h1,h2⟩:=h; ⟨cs,ty,h1,hd.dep (g:=g) (g':=g1 g.J b cap) (JV.le_refl _) (fun t ht=>by rw[hn.eq] at ht; cases ht) h2⟩
theorem KW (z:Int):-1<=s6 z/\s6 z<=1:=by unfold s6 q9; split; omega; split<;>omega
theorem ag1 (y z:Int):-1<=s6 y*s6 z/\s6 y*s6 z<=1:=by
 obtain ⟨h1,h2⟩:=KW y
 obtain ⟨h3,h4⟩:=KW z
 rcases (show s6 y=-1\/s6 y=0\/s6 y=1 by omega) with h | h | h<;>rw[h]<;>omega
theorem cQ (k1 k2 k3 k4 k5:d7) [o5 k1 []] [o5 k2 []] [o5 k3 []] [o5 k4 []] [o5 k5 []] (p:List Int) (I:Iv) (B:Nat) (hl:p.length<=6) (hpp:∀i,dl (b6 p i)<=1) (h1:dl I.lo<=B) (h2:dl I.hi<=B) (h3:dl I.den<=B) (hB:B<=90000):EV Tryz.prog 164 (y5 0 0) [] (j5 [k1,k2,k3,k4,b8 (eL eZ) p,k5,kB (decide (I.lo<0)),b8 (eL eI) (d8 (I.lo).natAbs),kB (decide (I.hi<0)),b8 (eL eI) (d8 (I.hi).natAbs),kB (decide (I.den<0)),b8 (eL eI) (d8 (I.den).natAbs)]) (j5 [k1,k2,k3,k4,b8 (eL eZ) p,k5,kB (decide ((K8 p I).lo<0)),b8 (eL eI) (d8 ((K8 p I).lo).natAbs),kB (decide ((K8 p I).hi<0)),b8 (eL eI) (d8 ((K8 p I).hi).natAbs),kB (decide ((K8 p I).den<0)),b8 (eL eI) (d8 ((K8 p I).den).natAbs)]) (j4 (.tuple #[])):=by
 have a1:=Q3 I.lo I.hi
 have a2:=Q3 I.den I.den
 have a3:=Q3 I.lo I.lo
 have a4:=Q3 I.hi I.hi
 refine EV.mk Tryz.func164 rfl Tryz.ntmps164 rfl (fun w J bb cap=>?_); refine i5 ?_; refine Tr.draw 20 o0 (by kernel_rfl) ?_; refine i5 ?_; refine rO (N7 rfl uu) rfl rfl ?_; refine i7 ?_; refine rO (N7 rfl uu) rfl rfl ?_; refine g8 ?_; refine jd (X3 I.lo I.hi zo zo) ?_; refine i5 ?_; refine rO (N7 rfl uu) rfl rfl ?_; refine i7 ?_; refine rO (N7 rfl uu) rfl rfl ?_; refine g8 ?_; refine jd (X3 I.den I.den zo zo) ?_; refine i9.new (KE 2) rfl rfl rfl rfl ?_; refine i9.new (KE 3) rfl rfl rfl rfl ?_
 refine j3 ?_; refine Tr.draw 19 o0 (by kernel_rfl) ?_; refine i5 ?_; refine rO (N7 rfl uu) rfl rfl ?_; refine i7 ?_; refine rO (N7 rfl uu) rfl rfl ?_; refine i7 ?_; refine rO (N7 rfl uu) rfl rfl ?_; refine g8 ?_; refine jd (VO p I.lo I.den 100000 1 hl hpp zo zo zo zo) ?_; refine i5 ?_; refine rO (N7 rfl uu) rfl rfl ?_; refine l6 ?_; refine jc (VO p (I.lo+I.hi) (I.den+I.den) 100000 1 hl hpp zo zo zo zo) ?_; refine tO (EL rfl uu rfl uu (fun _=>by have:=ag1 (u9 I.lo I.den p).1 (u9 (I.lo+I.hi) (I.den+I.den) p).1; omega)) rfl rfl ?_
 refine i7 ?_; refine jq ?_ ?_
 ·intro h1
  have hi:K8 p I=⟨I.lo+I.lo,I.lo+I.hi,I.den+I.den⟩:=if_pos h1
  rw[hi]
  refine Tr.drawS 14 0 o0 (by kernel_rfl) ?_; refine n8.opA (G7 rfl uu) (by kernel_rfl) rfl rfl ?_; refine n8.op (G7 rfl uu) rfl rfl ?_; refine n8.opA (G7 rfl uu) (by kernel_rfl) rfl rfl ?_; refine n8.opA (N7 rfl uu) (by kernel_rfl) rfl rfl ?_; refine n8.opA (S9 rfl uu) (by kernel_rfl) rfl rfl ?_; refine n8.opA (Q9 rfl uu) (by kernel_rfl) rfl rfl ?_; refine n8.opA (G7 rfl uu) (by kernel_rfl) rfl rfl ?_; refine n8.opA (N7 rfl uu) (by kernel_rfl) rfl rfl ?_; refine n8.opA (S9 rfl uu) (by kernel_rfl) rfl rfl ?_; refine n8.opA (Q9 rfl uu) (by kernel_rfl) rfl rfl ?_
  refine n8.opA (i6 (fun hp=>X3 I.lo I.lo zo zo) (.se rfl uu rfl rfl<|.se rfl uu rfl rfl<|.nil)) (by kernel_rfl) rfl rfl ?_; refine n8.op (Q9 rfl uu) rfl rfl ?_; refine n8.opA (N7 rfl uu) (by kernel_rfl) rfl rfl ?_; refine n8.opA (S9 rfl uu) (by kernel_rfl) rfl rfl ?_; refine n8.z (DL rfl rfl rfl) rfl rfl rfl ?_; refine tO (N7 rfl uu) rfl rfl ?_; refine j3 ?_; refine tO (N7 rfl uu) rfl rfl ?_; refine i7 ?_; exact d9.mutB (t:=0) rfl rfl (fun _ _ _ h=>bB h)
 ·intro h1
  replace h1:=Int.not_lt.1 h1
  have hi:K8 p I=⟨I.lo+I.hi,I.hi+I.hi,I.den+I.den⟩:=if_neg zo
  rw[hi]
  refine Tr.drawS 14 0 o0 (by kernel_rfl) ?_; refine n8.opA (G7 rfl uu) (by kernel_rfl) rfl rfl ?_; refine n8.op (G7 rfl uu) rfl rfl ?_; refine n8.opA (Q9 rfl uu) (by kernel_rfl) rfl rfl ?_; refine n8.opA (G7 rfl uu) (by kernel_rfl) rfl rfl ?_; refine n8.opA (N7 rfl uu) (by kernel_rfl) rfl rfl ?_; refine n8.opA (S9 rfl uu) (by kernel_rfl) rfl rfl ?_; refine n8.opA (Q9 rfl uu) (by kernel_rfl) rfl rfl ?_; refine n8.opA (G7 rfl uu) (by kernel_rfl) rfl rfl ?_; refine n8.opA (N7 rfl uu) (by kernel_rfl) rfl rfl ?_; refine n8.opA (S9 rfl uu) (by kernel_rfl) rfl rfl ?_
  refine n8.opA (Q9 rfl uu) (by kernel_rfl) rfl rfl ?_; refine n8.opA (i6 (fun hp=>X3 I.hi I.hi zo zo) (.se rfl uu rfl rfl<|.se rfl uu rfl rfl<|.nil)) (by kernel_rfl) rfl rfl ?_; refine n8.opA (N7 rfl uu) (by kernel_rfl) rfl rfl ?_; refine n8.opA (S9 rfl uu) (by kernel_rfl) rfl rfl ?_; refine n8.z (DL rfl rfl rfl) rfl rfl rfl ?_; refine tO (N7 rfl uu) rfl rfl ?_; refine j3 ?_; refine tO (N7 rfl uu) rfl rfl ?_; refine i7 ?_; exact d9.mutB (t:=0) rfl rfl (fun _ _ _ h=>bB h)

end Go.Fl

/- Contracts: loops over lists of integers of any size. -/
namespace Go.Fl
open Go Go.Proofs
open d5 renaming op->tO
open i9 renaming op->rO
set_option maxRecDepth 100000

section
open Go Go.RowKit Go.Proofs
attribute [local go_sem] Oper.semAt_some
set_option maxHeartbeats 2000000 in
theorem oM:NY Tryz.prog 217 eZ:=by
 intro J W xs ptr him hp
 obtain ⟨bx,ox,ds,rfl,hrd,hcell⟩:=hp
 obtain ⟨ad,cap,rfl,⟨hlen,hcap⟩,hrow⟩:=hrd
 obtain ⟨cv,hcv⟩:∃cv:Nat->List Value,∀i,i<xs.length->eZ.rd J (cv i) (b6 xs i)/\∃b o,ad=some ⟨b,o,none⟩/\∀j v,(cv i)[j]?=some v->J b (o+i*2+j)=some v:=by
  have:∀i,∃l:List Value,i<xs.length->eZ.rd J l (b6 xs i)/\∃b o,ad=some ⟨b,o,none⟩/\∀j v,l[j]?=some v->J b (o+i*2+j)=some v:=fun i=>by
   by_cases hi:i<xs.length
   ·obtain ⟨b,o,rfl,hrw⟩:=hrow.resolve_left (fun e=>by subst e; simp at hi)
    obtain ⟨l,q1,q2⟩:=hrw i _ (H1 hi)
    exact ⟨l,fun _=>⟨q1,b,o,rfl,q2⟩⟩
   ·exact ⟨[],fun h=>absurd h hi⟩
  exact ⟨fun i=>(this i).choose,fun i hi=>(this i).choose_spec hi⟩
 refine ⟨fun i=>.agg (cv i).toArray,fun i hi=>⟨cv i,(hcv i hi).1,rfl⟩,?_⟩
 intro l Iv Ix hY h0
 have hbox:∀W',Im J W'->W'.cell? ⟨bx,ox,none⟩=some (.slice ad xs.length cap):=fun W' h=>h _ _ _ (by have:=hcell 0 _ rfl; simpa using this)
 simp only[p9] at hlen
 have hb0:=hbox W him
 refine (callsIn_wide (n:=3)).1 ?_; refine callsIn_of_wp Tryz.func217 rfl trivial ?_
 simp only[Tryz.ntmps217,List.size_toArray,List.length_cons,List.length_nil,Nat.reduceAdd,Nat.reduceSub,Array.replicate_succ,Array.replicate_zero,List.push_toArray,List.append_toArray,List.nil_append,List.cons_append]
 gi_wp2
 gi_loopw [3] (fun i wr=>∃k:Nat,k<=xs.length/\i=.int .i64 ((xs.length:Int)-1-k)/\Iv k wr/\Im J wr)
  (fun i _=>(intOf i+1).toNat)
 case atStart=>exact ⟨0,Nat.zero_le _,by simp,h0,him⟩
 case round =>
  obtain ⟨k,hk,rfl,hJs,himr⟩:=hrel
  have hbr:=hbox wr himr
  by_cases hlt:k<xs.length
  ·obtain ⟨fn,tmps,assign,body,hy,hR⟩:=hY k wr hlt himr hJs
   rw[show ((xs.length-1-k:Nat):Int)=(xs.length:Int)-1-k by omega] at hy
   obtain ⟨q1,b,o,rfl,q2⟩:=hcv (xs.length-1-k) zo
   obtain ⟨c1,c2,hc12⟩:∃c1 c2,cv (xs.length-1-k)=[c1,c2]:=by
    have hl2:(cv (xs.length-1-k)).length=2:=eZ.len q1
    match hcc:cv (xs.length-1-k),hl2 with
    | [c1,c2],_=>exact ⟨c1,c2,rfl⟩
   rw[hc12] at q2
   simp only[hc12] at hy
   have hx1:wr.cell? ⟨b,o+(xs.length-1-k)*2,none⟩=some c1:=himr _ _ _ (by have:=q2 0 c1 rfl; simpa using this)
   have hx2:wr.cell? ⟨b,o+(xs.length-1-k)*2+1,none⟩=some c2:=himr _ _ _ (q2 1 c2 rfl)
   gi_wp2
   refine hR.mono ?_
   rintro e W3 (⟨rfl,hJ3,hk3⟩ | ⟨rfl,hJx3⟩)
   ·gi_wp2
    go_roundw
    case rel=>exact ⟨k+1,by omega,by congr 1; omega,hJ3,hk3⟩
    case measure=>simp[intOf]; omega
   ·gi_wp2
    refine bodyPost_ret (results_none rfl _ _ _) rfl ?_; exact ⟨⟨_,rfl⟩,.inr ⟨k,hlt,hJx3⟩⟩
  ·obtain rfl:k=xs.length:=by omega
   gi_wp2
   go_end0
   exact ⟨⟨_,rfl⟩,.inl hJs⟩
end
theorem qJ (xs:List Int):Ct Tryz.prog 201 [b8 (eL eZ) xs] (AU 217 [r7 (eL eZ) xs]):=by
 refine Ct.mk Tryz.func201 rfl Tryz.ntmps201 rfl (fun w J=>?_); refine g8 ?_; refine jb 1 rfl ?_; refine g9 ?_; refine Tr.frzB 1 [1] (eL eZ) ⟨rfl,trivial⟩ rfl ?_; refine jn ?_; refine i5 ?_; refine tO (EK (.cons rfl uu<|.nil)) rfl rfl ?_; refine g9 ?_; exact g6.res1 (fn:=Tryz.f201) rfl (zk)

end Go.Fl

/- Contracts: signs of numbers. -/
namespace Go.Fl
open Go Go.Proofs
open d5 renaming op->tO
open i9 renaming op->rO
set_option maxRecDepth 100000

def R2 (a b o:Int):Int:=if 0<q9 a 0 then 1 else if q9 b 0<0 then -1 else o
theorem tG (a b c o:Int):CP Tryz.prog 182 [b8 eW (wh a),b8 eW (wh b),b8 eW (wh c),y5 0 0] (j5 [kI o]) (j5 [kI (R2 a b o)]) (kB (decide (R2 a b o≠0))):=by
 refine CP.mk Tryz.func182 rfl Tryz.ntmps182 rfl rfl (fun w J bb cap=>?_); refine jn ?_; refine g8 ?_; refine jb 4 rfl ?_; refine jb 5 rfl ?_; refine jb 6 rfl ?_; refine j3 ?_; refine jc (BQ a) ?_; refine i7 ?_; refine jq ?_ ?_
 ·intro h1
  refine v9 ?_
  have e:R2 a b o=1:=if_pos zo
  exact g6.loan1 (fn:=Tryz.f182) (s:=516) rfl rfl (.b rfl (by rw[e])<|.nil) (by rw[e])
 ·intro h1
  replace h1:=Int.not_lt.1 h1
  refine i7 ?_; refine jc (BQ b) ?_; refine i7 ?_; refine jq ?_ ?_
  ·intro h3
   refine v9 ?_
   have e:R2 a b o=-1:=by unfold R2; rw[if_neg zo,if_pos zo]
   exact g6.loan1 (fn:=Tryz.f182) (s:=516) rfl rfl (.b rfl (by rw[e])<|.nil) (by rw[e])
  ·intro h3
   replace h3:=Int.not_lt.1 h3
   refine u5 ?_
   have e:R2 a b o=o:=by unfold R2; rw[if_neg zo,if_neg zo]
   exact g6.loan1 (fn:=Tryz.f182) (s:=516) rfl rfl (.b rfl (by rw[e])<|.nil) (by rw[e])

end Go.Fl

/- How long it takes until the sign of a number of a field is told. No program in sight. -/
namespace Go.Fl
open Go
structure X0 (p:List Int) (I:Iv):Prop where
 pol:G6 p
 three:3<=p.length
 top:b6 p (p.length-1)=1
 small:∀c∈p,c.natAbs<=1000
 iv:I.Ok
 lo:-(1000000*I.den)<=I.lo
 hi:I.hi<=1000000*I.den
 wid:I.hi-I.lo<=2000000
 den:I.den<=1000000
 red:¬GP (lP p) (p.length-1)
 sg:s6 (z8 p I.lo I.den)*s6 (z8 p I.hi I.den)<0
theorem uI {x:Nat}:dl ((x:Nat):Int)=(d8 x).length:=by unfold dl; rw[Int.natAbs_natCast]
theorem CZ (x y:Nat):dl ((x*y:Nat):Int)<=dl (x:Int)+dl (y:Int):=by rw[Int.natCast_mul]; exact s7 _ _
theorem eB {x y:Nat} (h:x<=y):dl (x:Int)<=dl (y:Int):=N4 (by rw[Int.natAbs_natCast,Int.natAbs_natCast]; exact h)
theorem DA {x:Nat} (h:x<100000000):dl (x:Int)<=1:=K1 zo zo
theorem eD {x k:Nat} (h:dl (x:Int)<=1):dl ((x ^ k:Nat):Int)<=k+1:=by
 induction k with
 | zero=>rw[Nat.pow_zero]; exact Nat.le_trans (DA zo) zo
 | succ k ih=>rw[Nat.pow_succ]; have:=CZ (x ^ k) x; omega
theorem eE:∀{m X:Nat},dl ((XI X m:Nat):Int)<=2 ^ m*dl (X:Int)+2 ^ m
 | 0,X=>by rw[XI]; omega
 | m+1,X=>by
  have h1:=eE (m:=m) (X:=2*X*X)
  have h2:=CZ (2*X) X
  have h3:=CZ 2 X
  have h4:=DA (x:=2) zo
  rw[XI,Nat.pow_succ]
  have h5:2 ^ m*dl ((2*X*X:Nat):Int)<=2 ^ m*(1+2*dl (X:Int)):=Nat.mul_le_mul_left _ zo
  rw[Nat.mul_add,Nat.mul_one,<- Nat.mul_assoc] at h5
  omega
theorem uC {n F:Nat} (hn:n<=4):dl ((FJ n F 1000000 2000000:Nat):Int)<=129*dl (F:Int)+180:=by
 unfold FJ
 have a1:=eE (m:=7) (X:=F)
 have a2:=CZ 29 (XI F 7)
 have a3:=CZ (29*XI F 7) ((n+1)*(n+1)*F)
 have a4:=CZ ((n+1)*(n+1)) F
 have a5:=CZ (29*XI F 7*((n+1)*(n+1)*F)) 2000000
 have a6:=CZ (29*XI F 7*((n+1)*(n+1)*F)*2000000) (1000000 ^ (28+n))
 have a7:=CZ 2 (29*XI F 7*((n+1)*(n+1)*F)*2000000*1000000 ^ (28+n))
 have a8:=eD (x:=1000000) (k:=28+n) (DA zo)
 have b1:=DA (x:=29) zo
 have b2:=DA (x:=2) zo
 have b3:=DA (x:=2000000) zo
 have b4:dl (((n+1)*(n+1):Nat):Int)<=1:=DA (Nat.lt_of_le_of_lt (Nat.mul_le_mul (show n+1<=5 by omega) (show n+1<=5 by omega)) zo)
 have a9:=Q3 ((2*(29*XI F 7*((n+1)*(n+1)*F)*2000000*1000000 ^ (28+n)):Nat):Int) 1
 have b5:=K1 (F:=1) zo zo
 rw[show ((2*(29*XI F 7*((n+1)*(n+1)*F)*2000000*1000000 ^ (28+n))+1:Nat):Int)=((2*(29*XI F 7*((n+1)*(n+1)*F)*2000000*1000000 ^ (28+n)):Nat):Int)+1 from rfl]
 have e:(2:Nat) ^ 7=128:=by decide
 rw[e] at a1
 generalize dl ((XI F 7:Nat):Int)=x1 at *
 generalize dl ((29*XI F 7:Nat):Int)=x2 at *
 generalize dl ((29*XI F 7*((n+1)*(n+1)*F):Nat):Int)=x3 at *
 generalize dl (((n+1)*(n+1)*F:Nat):Int)=x4 at *
 generalize dl ((29*XI F 7*((n+1)*(n+1)*F)*2000000:Nat):Int)=x5 at *
 generalize dl ((29*XI F 7*((n+1)*(n+1)*F)*2000000*1000000 ^ (28+n):Nat):Int)=x6 at *
 generalize dl ((2*(29*XI F 7*((n+1)*(n+1)*F)*2000000*1000000 ^ (28+n)):Nat):Int)=x7 at *
 generalize dl ((1000000 ^ (28+n):Nat):Int)=x8 at *
 omega
theorem tZ {n F R W:Nat}:FJ n F R W≠0:=by unfold FJ; omega
section
variable {p:List Int} {I:Iv} (h:X0 p I)
include h
theorem X0.len4:p.length<=5:=h.pol.1.2
theorem X0.noroot (a b:Int) (hb:0<b):z8 p a b≠0:=by
 have h3:=h.three
 have h5:=h.pol.1.2
 refine iL (n:=p.length-1) zo zo JW ?_ h.red hb
 show (if p.length-1<p.length then b6 p (p.length-1) else 0)=1
 rw[if_pos zo,h.top]
theorem X0.told {cs:List Int} {F k:Nat} (hcl:cs.length=p.length-1) (hc0:∃c∈cs,c≠0) (hF:1000<=F) (hcF:∀c∈cs,c.natAbs<=F) (hk:(FJ (p.length-1) F 1000000 2000000:Int)<=I.den*2 ^ k):0<(enc (i2 p I k) cs).1\/(enc (i2 p I k) cs).2.1<0:=by
 have h3:=h.three
 have h5:=h.pol.1.2
 obtain ⟨b1,b2⟩:=WO h.iv (R:=1000000) h.lo h.hi (p:=p) (k:=k)
 have hw:=gE (p:=p) (I:=I) (k:=k)
 have hle:=(V8 h.iv (p:=p) (k:=k)).le
 have h6:=h.wid
 exact Go.Fl.told (n:=p.length-1) (F:=F) (R:=1000000) (W:=2000000) zo zo zo h.top h.red hcl hc0 zo (fun c hc=>Nat.le_trans (h.small c hc) hF) hcF zo (V8 h.iv) b1 b2 zo (gD h.iv (h.noroot) h.sg) (by rw[WP]; exact hk)
theorem X0.bound {cs:List Int} {M:Nat} (hcl:cs.length=p.length-1) (hc0:∃c∈cs,c≠0) (hM:∀c∈cs,dl c<=M) (hM1:1<=M) (hM2:M<=560):∃K,64<=K/\(∀k,K<=k->0<(enc (i2 p I k) cs).1\/(enc (i2 p I k) cs).2.1<0)/\∀k,k<=K->dl (i2 p I k).lo<=73000/\dl (i2 p I k).hi<=73000/\dl (i2 p I k).den<=73000:=by
 have h3:=h.three
 have h5:=h.pol.1.2
 have hpos:=h.iv.pos
 obtain ⟨F,hF1,hF2,hF3⟩:∃F:Nat,1000<=F/\dl (F:Int)<=M/\∀c∈cs,c.natAbs<=F:=by
  have key:∀l:List Int,(∀c∈l,dl c<=M)->∃F:Nat,1000<=F/\dl (F:Int)<=M/\∀c∈l,c.natAbs<=F:=by
   intro l
   induction l with
   | nil=>intro _; exact ⟨1000,Nat.le_refl _,Nat.le_trans (DA zo) hM1,fun c hc=>by cases hc⟩
   | cons x l ih =>
    intro hl
    obtain ⟨F,q1,q2,q3⟩:=ih fun c hc=>hl c (List.mem_cons_of_mem _ hc)
    refine ⟨max F x.natAbs,by omega,?_,fun c hc=>?_⟩
    ·rw[Nat.max_def]
     split
     ·have:=hl x List.mem_cons_self
      rw[uI]; exact this
     ·exact q2
    ·rcases List.mem_cons.1 hc with rfl | hc
     ·omega
     ·have:=q3 c hc; omega
  exact key cs hM
 obtain ⟨d,hd⟩:∃d,d=FJ (p.length-1) F 1000000 2000000:=⟨_,rfl⟩
 have hd0:d≠0:=hd▸tZ
 have hdl:dl (d:Int)<=129*560+180:=by
  rw[hd]
  have:=uC (n:=p.length-1) (F:=F) zo
  have:129*dl (F:Int)<=129*560:=Nat.mul_le_mul_left _ zo
  omega
 have hden:((I.den.natAbs:Nat):Int)=I.den:=by omega
 have size:∀k:Nat,dl ((2 ^ k:Nat):Int)<=72422->dl (i2 p I k).lo<=73000/\dl (i2 p I k).hi<=73000/\dl (i2 p I k).den<=73000:=fun k hk=>by
  obtain ⟨b1,b2⟩:=WO h.iv (R:=1000000) h.lo h.hi (p:=p) (k:=k)
  have hle:=(V8 h.iv (p:=p) (k:=k)).le
  have hp:=(V8 h.iv (p:=p) (k:=k)).pos
  have hdk:dl (i2 p I k).den<=72423:=by
   rw[WP]
   have q1:=s7 I.den (2 ^ k)
   have q2:dl I.den<=1:=K1 zo (by have:=h.den; omega)
   have q3:dl ((2:Int) ^ k)<=72422:=by rw[show ((2:Int) ^ k)=((2 ^ k:Nat):Int) by rw[Int.natCast_pow]; rfl]; exact hk
   omega
  have q4:=s7 1000000 (i2 p I k).den
  have q5:=K1 (F:=1000000) zo zo
  have mono:∀z:Int,z.natAbs<=(1000000*(i2 p I k).den).natAbs->dl z<=73000:=fun z hz=>Nat.le_trans (N4 hz) (by show dl (1000000*(i2 p I k).den)<=73000; omega)
  exact ⟨mono _ zo,mono _ zo,by omega⟩
 have hK:(d:Int)<=I.den*2 ^ (d.log2+1):=by
  have q1:=Nat.lt_log2_self (n:=d)
  have q2:((d:Nat):Int)<((2 ^ (d.log2+1):Nat):Int):=Int.ofNat_lt.2 q1
  rw[Int.natCast_pow] at q2
  have q3:=Int.mul_le_mul_of_nonneg_right (show 1<=I.den by omega) (show (0:Int)<=2 ^ (d.log2+1) from Int.le_of_lt (Int.pow_pos zo))
  rw[Int.one_mul] at q3
  have q4:((2:Nat):Int)=2:=rfl
  rw[q4] at q2
  omega
 refine ⟨max 64 (d.log2+1),Nat.le_max_left _ _,fun k hk=>?_,fun k hk=>?_⟩
 ·refine h.told hcl hc0 hF1 hF3 ?_
  rw[<- hd]
  refine Int.le_trans hK (Int.mul_le_mul_of_nonneg_left ?_ zo)
  have:(2:Nat) ^ (d.log2+1)<=2 ^ k:=Nat.pow_le_pow_right zo zo
  have:=Int.ofNat_le.2 this
  rw[Int.natCast_pow,Int.natCast_pow] at this
  exact this
 ·refine size k ?_
  have hm:dl ((2 ^ k:Nat):Int)<=dl ((2 ^ (max 64 (d.log2+1)):Nat):Int):=eB (Nat.pow_le_pow_right zo hk)
  refine Nat.le_trans hm ?_
  rcases Nat.le_total 64 (d.log2+1) with q | q
  ·rw[Nat.max_eq_right q]
   have q1:=Nat.log2_self_le hd0
   have q2:2 ^ (d.log2+1)<=2*d:=by rw[Nat.pow_succ]; omega
   have q3:=eB q2
   have q4:=CZ 2 d
   have q5:=DA (x:=2) zo
   omega
  ·rw[Nat.max_eq_left q]
   exact Nat.le_trans (eD (x:=2) (k:=64) (DA zo)) zo
end
theorem HG {p:List Int} {I:Iv} {j:Nat}:∀{k:Nat},i2 p (i2 p I j) k=i2 p I (j+k)
 | 0=>rfl
 | k+1=>by rw[i2,HG]; rfl
theorem af7 {p:List Int} {I:Iv} {cs:List Int} {j:Nat} (hI:I.Ok):E8 p (i2 p I j) cs=E8 p I cs:=by
 unfold E8
 have e1:(∃k,0<(enc (i2 p (i2 p I j) k) cs).1)↔∃k,0<(enc (i2 p I k) cs).1 :=
  ⟨fun ⟨k,hk⟩=>⟨j+k,by rw[<- HG]; exact hk⟩,fun ⟨k,hk⟩=>⟨k,by rw[HG]; exact QA hI (Nat.le_add_left k j) hk⟩⟩
 have e2:(∃k,(enc (i2 p (i2 p I j) k) cs).2.1<0)↔∃k,(enc (i2 p I k) cs).2.1<0 :=
  ⟨fun ⟨k,hk⟩=>⟨j+k,by rw[<- HG]; exact hk⟩,fun ⟨k,hk⟩=>⟨k,by rw[HG]; exact eY hI (Nat.le_add_left k j) hk⟩⟩
 by_cases h1:∃k,0<(enc (i2 p I k) cs).1
 ·rw[if_pos (e1.2 h1),if_pos h1]
 ·rw[if_neg (fun h=>h1 (e1.1 h)),if_neg h1]
  by_cases h2:∃k,(enc (i2 p I k) cs).2.1<0
  ·rw[if_pos (e2.2 h2),if_pos h2]
  ·rw[if_neg (fun h=>h2 (e2.1 h)),if_neg h2]
noncomputable def A7 (p:List Int) (I:Iv) (v:l7):Int:=if N1 v.1=true then q9 (b6 v.1 0) 0 else E8 p I (v.1.take (p.length-1))
theorem jV {p:List Int} {v:l7} (_:3<=p.length) (hv:v7 p v) (h:N1 v.1≠true):(v.1.take (p.length-1)).length=min (p.length-1) 4/\∃c∈v.1.take (p.length-1),c≠0:=by
 have hl:=hv.len
 refine ⟨by rw[List.length_take,hl],?_⟩
 refine Classical.byContradiction fun hn=>h (HR fun i h1 h2=>?_)
 by_cases hi:i<p.length-1
 ·refine Classical.byContradiction fun h0=>hn ⟨b6 v.1 i,?_,h0⟩
  rw[<- M3 hi]
  exact RJ (by rw[List.length_take,hl]; omega)
 ·exact hv.hi i zo
theorem eH {a b c d:Int} {n:Nat} (h1:dl a<=n) (h2:dl b<=n) (h3:dl c<=n) (h4:dl d<=n):dl (J4 a b c d)<=n/\dl (I9 a b c d)<=n:=by
 have key:∀x:Int,x=a\/x=b\/x=c\/x=d->dl x<=n:=fun x hx=>by rcases hx with rfl | rfl | rfl | rfl<;>assumption
 exact ⟨key _ (by unfold J4; omega),key _ (by unfold I9; omega)⟩
def n7 (I:Iv) (cs:List Int) (k:Nat):Int×Int×Int:=enc I (cs.drop (cs.length-k))
theorem HE {I:Iv} {cs:List Int}:n7 I cs 0=(0,0,1):=by unfold n7; rw[Nat.sub_zero,List.drop_length]; rfl
theorem PZ {I:Iv} {cs:List Int}:n7 I cs cs.length=enc I cs:=by unfold n7; rw[Nat.sub_self,List.drop_zero]
theorem HD {I:Iv} {cs:List Int} {k:Nat} (hk:k<cs.length):n7 I cs (k+1)=(J4 ((n7 I cs k).1*I.lo) ((n7 I cs k).1*I.hi) ((n7 I cs k).2.1*I.lo) ((n7 I cs k).2.1*I.hi)+b6 cs (cs.length-1-k)*((n7 I cs k).2.2*I.den),I9 ((n7 I cs k).1*I.lo) ((n7 I cs k).1*I.hi) ((n7 I cs k).2.1*I.lo) ((n7 I cs k).2.1*I.hi)+b6 cs (cs.length-1-k)*((n7 I cs k).2.2*I.den),(n7 I cs k).2.2*I.den):=by
 unfold n7
 rw[VX hk]
 rfl
theorem ME {I:Iv} {cs:List Int} {A C:Nat} (h1:dl I.lo<=A) (h2:dl I.hi<=A) (h3:dl I.den<=A) (hc:∀i,dl (b6 cs i)<=C):∀{k:Nat},k<=cs.length->dl (n7 I cs k).1<=k*(A+1)+C+1/\dl (n7 I cs k).2.1<=k*(A+1)+C+1/\dl (n7 I cs k).2.2<=k*A+1
 | 0,_=>by
  rw[HE]
  have h0:dl (0:Int)=0:=C5.2 rfl
  have h1:=K1 (F:=1) zo zo
  exact ⟨by show dl 0<=_; omega,by show dl 0<=_; omega,by show dl 1<=_; omega⟩
 | k+1,hk=>by
  obtain ⟨q1,q2,q3⟩:=ME h1 h2 h3 hc (k:=k) zo
  rw[HD zo]
  have m1:=s7 (n7 I cs k).1 I.lo
  have m2:=s7 (n7 I cs k).1 I.hi
  have m3:=s7 (n7 I cs k).2.1 I.lo
  have m4:=s7 (n7 I cs k).2.1 I.hi
  have m5:=s7 (n7 I cs k).2.2 I.den
  have m6:=s7 (b6 cs (cs.length-1-k)) ((n7 I cs k).2.2*I.den)
  have m7:=hc (cs.length-1-k)
  have e1:(k+1)*(A+1)=k*(A+1)+A+1:=by rw[Nat.succ_mul]; omega
  have e2:(k+1)*A=k*A+A:=Nat.succ_mul _ _
  have e3:k*(A+1)=k*A+k:=by rw[Nat.mul_add,Nat.mul_one]
  obtain ⟨u1,u2⟩:=eH (n:=k*(A+1)+C+1+A) (a:=(n7 I cs k).1*I.lo) (b:=(n7 I cs k).1*I.hi) (c:=(n7 I cs k).2.1*I.lo) (d:=(n7 I cs k).2.1*I.hi) zo zo zo zo
  have s1:=Q3 (J4 ((n7 I cs k).1*I.lo) ((n7 I cs k).1*I.hi) ((n7 I cs k).2.1*I.lo) ((n7 I cs k).2.1*I.hi)) (b6 cs (cs.length-1-k)*((n7 I cs k).2.2*I.den))
  have s2:=Q3 (I9 ((n7 I cs k).1*I.lo) ((n7 I cs k).1*I.hi) ((n7 I cs k).2.1*I.lo) ((n7 I cs k).2.1*I.hi)) (b6 cs (cs.length-1-k)*((n7 I cs k).2.2*I.den))
  refine ⟨?_,?_,?_⟩
  ·show dl (_+_)<=_; omega
  ·show dl (_+_)<=_; omega
  ·show dl (_*_)<=_; omega
end Go.Fl

/- Contracts: enclosures are halved until the sign is told. -/
namespace Go.Fl
open Go Go.Proofs
open d5 renaming op->tO
open i9 renaming op->rO
set_option maxRecDepth 100000

def M8 (xs:List Int):Nat->Int
 | 0=>b6 xs 0
 | k+1=>if b6 xs (k+1)<M8 xs k then b6 xs (k+1) else M8 xs k
def J5 (xs:List Int):Nat->Int
 | 0=>b6 xs 0
 | k+1=>if J5 xs k<b6 xs (k+1) then b6 xs (k+1) else J5 xs k
theorem HJ {xs:List Int}:∀{k:Nat},k<xs.length->M8 xs k∈xs/\J5 xs k∈xs
 | 0,h=>⟨E6 h,E6 h⟩
 | k+1,h=>by
  obtain ⟨h1,h2⟩:=HJ (xs:=xs) (k:=k) zo
  rw[M8,J5]
  constructor
  ·split; exact E6 h; exact h1
  ·split; exact E6 h; exact h2
theorem XN {a b c d:Int}:M8 [a,b,c,d] 3=J4 a b c d/\J5 [a,b,c,d] 3=I9 a b c d:=by
 simp only[M8,J5,J4,I9,b6,List.getD_cons_succ,List.getD_cons_zero]
 constructor<;>(repeat' split)<;>omega
theorem FG {a b:Int}:q9 a b<0↔a<b:=by unfold q9; split<;>(try split)<;>omega
theorem CV {a b:Int}:0<q9 a b↔b<a:=by unfold q9; split<;>(try split)<;>omega
theorem ae4 {p cs:List Int} {I:Iv} {k:Nat} (hI:I.Ok) (h:R2 (enc (i2 p I k) cs).1 (enc (i2 p I k) cs).2.1 0≠0):R2 (enc (i2 p I k) cs).1 (enc (i2 p I k) cs).2.1 0=E8 p I cs:=by
 unfold R2 at h ⊢
 by_cases h1:0<q9 (enc (i2 p I k) cs).1 0
 ·rw[if_pos h1,HV (CV.1 h1)]
 ·rw[if_neg h1] at h ⊢
  by_cases h2:q9 (enc (i2 p I k) cs).2.1 0<0
  ·rw[if_pos h2,KV hI (FG.1 h2)]
  ·rw[if_neg h2] at h; exact absurd rfl h
theorem ae5 {a b:Int} (h:0<a\/b<0):R2 a b 0≠0:=by
 unfold R2
 by_cases h1:0<q9 a 0
 ·rw[if_pos h1]; decide
 ·rw[if_neg h1,if_pos (FG.2 (h.resolve_left fun e=>h1 (CV.2 e)))]; decide
theorem qC (xs:List Int) (f:FuncId) [f0 Tryz.prog f] (hl:1<=xs.length) (hf:∀a b,a∈xs->b∈xs->Ct Tryz.prog f [b8 eW (wh a),b8 eW (wh b)] (kI (q9 a b))):Ct Tryz.prog 202 [b8 (eL eZ) xs,j4 (.func (.func f) #[] #[])] (b8 eW (wh (M8 xs (xs.length-1)))):=by
 refine Ct.mk Tryz.func202 rfl Tryz.ntmps202 rfl (fun w J=>?_); refine Tr.fact (s:=0) rfl (fun _ _ h=>S4 h) (fun hb=>?_); refine g8 ?_; refine ja 4 ?_; refine u5 ?_; refine jq ?_ ?_
 ·intro h1
  omega
 ·intro h1
  replace h1:=Int.not_lt.1 h1
  refine j3 ?_; refine ja 5 ?_; refine m9 ?_
  refine Tr.for1 (σ:=Nat) [⟨0,true,_,_⟩,⟨1,true,_,_⟩,⟨4,true,_,_⟩,⟨5,true,_,_⟩] [⟨4,_,_⟩] (fun j=>[⟨6,true,[],kI ((j:Int)+1)⟩]) (fun j=>[⟨5,[],j5 [kB (decide ((M8 xs j)<0)),b8 (eL eI) (d8 ((M8 xs j)).natAbs)]⟩]) (fun j=>j+1<=xs.length) (fun j=>j+1=xs.length) (fun j=>xs.length-j) (0) zi (d6.mk (.i rfl zi<|zk) (zk) rfl) ?_ ?_
  ·intro j hR0
   refine jn ?_
   have hjn:((j:Int)+1).toNat=j+1:=by omega
   refine m9 ?_; refine jq ?_ ?_
   ·intro h5
    refine l6 ?_; refine Tr.draw 6 o0 (by kernel_rfl) ?_; refine j3 ?_; refine tO (KF rfl uu (fun hp=>hf _ _ (E6 (i:=j+1) zo) (HJ zo).1) (.a rfl uu<|.se rfl uu rfl rfl<|.nil)) rfl rfl ?_; refine i7 ?_; refine jq ?_ ?_
    ·intro h7
     have hK:M8 xs (j+1)=b6 xs (j+1):=by rw[M8,if_pos (FG.1 h7)]
     refine D7 ?_
     exact d9.lp (j+1) zi zo (d6.mk (.i rfl zi<|zk) (.e (by rw[hK,hjn]) rfl<|zk) rfl)
    ·intro h7
     replace h7:=Int.not_lt.1 h7
     have hK:M8 xs (j+1)=M8 xs j:=by rw[M8,if_neg (fun e=>absurd (FG.2 e) zo)]
     refine j1 ?_
     exact d9.lp (j+1) zi zo (d6.mk (.i rfl zi<|zk) (.e (by rw[hK]) rfl<|zk) rfl)
   ·intro h5
    replace h5:=Int.not_lt.1 h5
    refine g9 ?_
    exact d9.cut (j) zo (d6.mk (.i rfl zi<|zk) (zk) rfl)
  ·intro j hE0
   refine je ?_; refine j1 ?_; exact g6.resC1 (fn:=Tryz.f202) rfl rfl (t7 rfl (by rw[show xs.length-1=j by omega]; rfl))

theorem qB (xs:List Int) (f:FuncId) [f0 Tryz.prog f] (hl:1<=xs.length) (hf:∀a b,a∈xs->b∈xs->Ct Tryz.prog f [b8 eW (wh a),b8 eW (wh b)] (kI (q9 a b))):Ct Tryz.prog 204 [b8 (eL eZ) xs,j4 (.func (.func f) #[] #[])] (b8 eW (wh (J5 xs (xs.length-1)))):=by
 refine Ct.mk Tryz.func204 rfl Tryz.ntmps204 rfl (fun w J=>?_); refine Tr.fact (s:=0) rfl (fun _ _ h=>S4 h) (fun hb=>?_); refine g8 ?_; refine ja 4 ?_; refine u5 ?_; refine jq ?_ ?_
 ·intro h1
  omega
 ·intro h1
  replace h1:=Int.not_lt.1 h1
  refine j3 ?_; refine ja 5 ?_; refine m9 ?_
  refine Tr.for1 (σ:=Nat) [⟨0,true,_,_⟩,⟨1,true,_,_⟩,⟨4,true,_,_⟩,⟨5,true,_,_⟩] [⟨4,_,_⟩] (fun j=>[⟨6,true,[],kI ((j:Int)+1)⟩]) (fun j=>[⟨5,[],j5 [kB (decide ((J5 xs j)<0)),b8 (eL eI) (d8 ((J5 xs j)).natAbs)]⟩]) (fun j=>j+1<=xs.length) (fun j=>j+1=xs.length) (fun j=>xs.length-j) (0) zi (d6.mk (.i rfl zi<|zk) (zk) rfl) ?_ ?_
  ·intro j hR0
   refine jn ?_
   have hjn:((j:Int)+1).toNat=j+1:=by omega
   refine m9 ?_; refine jq ?_ ?_
   ·intro h5
    refine l6 ?_; refine Tr.draw 6 o0 (by kernel_rfl) ?_; refine j3 ?_; refine tO (KF rfl uu (fun hp=>hf _ _ (E6 (i:=j+1) zo) (HJ zo).2) (.a rfl uu<|.se rfl uu rfl rfl<|.nil)) rfl rfl ?_; refine i7 ?_; refine jq ?_ ?_
    ·intro h7
     have hK:J5 xs (j+1)=b6 xs (j+1):=by rw[J5,if_pos (CV.1 h7)]
     refine D7 ?_
     exact d9.lp (j+1) zi zo (d6.mk (.i rfl zi<|zk) (.e (by rw[hK,hjn]) rfl<|zk) rfl)
    ·intro h7
     replace h7:=Int.not_lt.1 h7
     have hK:J5 xs (j+1)=J5 xs j:=by rw[J5,if_neg (fun e=>absurd (CV.2 e) zo)]
     refine j1 ?_
     exact d9.lp (j+1) zi zo (d6.mk (.i rfl zi<|zk) (.e (by rw[hK]) rfl<|zk) rfl)
   ·intro h5
    replace h5:=Int.not_lt.1 h5
    refine g9 ?_
    exact d9.cut (j) zo (d6.mk (.i rfl zi<|zk) (zk) rfl)
  ·intro j hE0
   refine je ?_; refine j1 ?_; exact g6.resC1 (fn:=Tryz.f204) rfl rfl (t7 rfl (by rw[show xs.length-1=j by omega]; rfl))

set_option maxHeartbeats 2000000 in
theorem qT (r:C9) (v:l7) (I:Iv) (cs:List Int) (K:Nat) (sg:Int) (hpo:G6 r.2.1) (hI:I=⟨r.2.2.2.1,r.2.2.2.2.1,r.2.2.2.2.2⟩) (hcs:cs=v.1.take (r.2.1.length-1)) (hvl:v.1.length=4) (hvb:G5 540 v) (hsz:∀k,k<=K->dl (i2 r.2.1 I k).lo<=73000/\dl (i2 r.2.1 I k).hi<=73000/\dl (i2 r.2.1 I k).den<=73000) (htl:∀k,K<=k->R2 (enc (i2 r.2.1 I k) cs).1 (enc (i2 r.2.1 I k) cs).2.1 0≠0) (hsg:∀k,R2 (enc (i2 r.2.1 I k) cs).1 (enc (i2 r.2.1 I k) cs).2.1 0≠0->R2 (enc (i2 r.2.1 I k) cs).1 (enc (i2 r.2.1 I k) cs).2.1 0=sg):CP Tryz.prog 181 [r7 A5 r,b8 K7 v,AU 182 [y5 0 0]] (j5 [kI 0]) (j5 [kI sg]) (j4 (.tuple #[])):=by
 have hp5:=hpo.1.2
 have hp2:=hpo.1.1
 have hcl:cs.length=r.2.1.length-1:=by rw[hcs,List.length_take,hvl]; omega
 have hcx:List.take ((r.2.1.length:Int)-1).toNat (j8 4 (b6 v.1),v.2).1=cs:=by rw[hcs]; show List.take _ (j8 4 (b6 v.1))=_; rw[<- U5 hvl]; congr 1; omega
 have hcd:∀i,dl (b6 cs i)<=540:=fun i=>by rw[hcs]; by_cases h:i<r.2.1.length-1; (rw[M3 h]; exact hvb.c i); (rw[v5 (by rw[List.length_take]; omega)]; show dl 0<=540; rw[C5.2 rfl]; omega)
 have hI0:i2 r.2.1 I 0=I:=rfl
 refine CP.mkM Tryz.func181 rfl Tryz.ntmps181 rfl rfl (fun w J bb cap=>?_); refine jn ?_; refine g8 ?_; refine jb 4 rfl ?_; refine i7 ?_; refine Tr.frzBL 4 [4] K7 (s:=568) rfl rfl ⟨rfl,trivial⟩ rfl ?_; refine jn ?_; refine g8 ?_; refine tO (CB rfl uu) rfl rfl ?_; refine i5 ?_; refine ja 6 ?_; refine i7 ?_
 refine Tr.for1 (σ:=Nat) [⟨0,true,_,_⟩,⟨2,true,_,_⟩,⟨4,true,_,_⟩,⟨568,true,_,_⟩] [] (fun k=>[⟨6,true,[6],y5 6 0⟩]) (fun k=>[⟨6,[],j5 [b8 (eL eI) r.1.1,kI r.1.2.1,kI r.1.2.2.1,kI r.1.2.2.2,b8 (eL eZ) r.2.1,b8 (eL eZ) r.2.2.1,kB (decide ((i2 r.2.1 I k).lo<0)),b8 (eL eI) (d8 ((i2 r.2.1 I k).lo).natAbs),kB (decide ((i2 r.2.1 I k).hi<0)),b8 (eL eI) (d8 ((i2 r.2.1 I k).hi).natAbs),kB (decide ((i2 r.2.1 I k).den<0)),b8 (eL eI) (d8 ((i2 r.2.1 I k).den).natAbs)]⟩,⟨0,[],j5 [kI 0]⟩]) (fun k=>k<=K) (fun k=>False) (fun k=>K-k) (0) zi (d6.mk (zk) (.e (by rw[hI0,hI]) rfl<|zk) rfl) ?_ ?_
 ·intro k hR0
  refine jn ?_
  have hz:=hsz k hR0
  refine g9 ?_; refine tO (A1 (fun hp=>.nil)) rfl rfl ?_; refine tO (A1 (fun hp=>.nil)) rfl rfl ?_; refine jc (Q2 1 zo) ?_; refine ja 7 ?_; refine ja 8 ?_; refine ja 9 ?_; refine u5 ?_; refine jc (VB r hpo.1) ?_; refine tO (jB rfl uu rfl uu rfl rfl (fun _=>zo)) rfl rfl ?_; refine tO (i6 (fun hp=>qJ _) (.a rfl uu<|.nil)) rfl rfl ?_
  rw[hcx]
  refine i7 ?_
  refine Tr.back (e:=eZ) (xs:=cs) oM [⟨0,true,_,_⟩,⟨2,true,_,_⟩,⟨4,true,_,_⟩,⟨6,true,_,_⟩,⟨7,true,_,_⟩,⟨8,true,_,_⟩,⟨9,true,_,_⟩,⟨24,true,_,_⟩,⟨568,true,_,_⟩] [6,7,8,9,0] (fun j=>[⟨6,[],j5 [b8 (eL eI) r.1.1,kI r.1.2.1,kI r.1.2.2.1,kI r.1.2.2.2,b8 (eL eZ) r.2.1,b8 (eL eZ) r.2.2.1,kB (decide ((i2 r.2.1 I k).lo<0)),b8 (eL eI) (d8 ((i2 r.2.1 I k).lo).natAbs),kB (decide ((i2 r.2.1 I k).hi<0)),b8 (eL eI) (d8 ((i2 r.2.1 I k).hi).natAbs),kB (decide ((i2 r.2.1 I k).den<0)),b8 (eL eI) (d8 ((i2 r.2.1 I k).den).natAbs)]⟩,⟨7,[],j5 [kB (decide ((n7 (i2 r.2.1 I k) cs j).1<0)),b8 (eL eI) (d8 ((n7 (i2 r.2.1 I k) cs j).1).natAbs)]⟩,⟨8,[],j5 [kB (decide ((n7 (i2 r.2.1 I k) cs j).2.1<0)),b8 (eL eI) (d8 ((n7 (i2 r.2.1 I k) cs j).2.1).natAbs)]⟩,⟨9,[],j5 [kB (decide ((n7 (i2 r.2.1 I k) cs j).2.2<0)),b8 (eL eI) (d8 ((n7 (i2 r.2.1 I k) cs j).2.2).natAbs)]⟩,⟨0,[],j5 [kI 0]⟩]) (fun j=>[⟨6,[],j5 [b8 (eL eI) r.1.1,kI r.1.2.1,kI r.1.2.2.1,kI r.1.2.2.2,b8 (eL eZ) r.2.1,b8 (eL eZ) r.2.2.1,kB (decide ((i2 r.2.1 I k).lo<0)),b8 (eL eI) (d8 ((i2 r.2.1 I k).lo).natAbs),kB (decide ((i2 r.2.1 I k).hi<0)),b8 (eL eI) (d8 ((i2 r.2.1 I k).hi).natAbs),kB (decide ((i2 r.2.1 I k).den<0)),b8 (eL eI) (d8 ((i2 r.2.1 I k).den).natAbs)]⟩,⟨7,[],j5 [kB (decide ((n7 (i2 r.2.1 I k) cs j).1<0)),b8 (eL eI) (d8 ((n7 (i2 r.2.1 I k) cs j).1).natAbs)]⟩,⟨8,[],j5 [kB (decide ((n7 (i2 r.2.1 I k) cs j).2.1<0)),b8 (eL eI) (d8 ((n7 (i2 r.2.1 I k) cs j).2.1).natAbs)]⟩,⟨9,[],j5 [kB (decide ((n7 (i2 r.2.1 I k) cs j).2.2<0)),b8 (eL eI) (d8 ((n7 (i2 r.2.1 I k) cs j).2.2).natAbs)]⟩,⟨0,[],j5 [kI 0]⟩]) (fun j=>True) (fun j=>False) (d6.mk (.k rfl rfl<|.k rfl rfl<|.k rfl rfl<|.k rfl rfl<|.k rfl rfl<|.k rfl rfl<|.k rfl rfl<|.k rfl rfl<|.k rfl rfl<|.nil) (.k rfl<|.conv (UM (by rw[HE])) rfl<|.conv (UM (by rw[HE])) rfl<|.conv (AQ (BR (by rw[HE]))) rfl<|.k rfl<|.nil) rfl) rfl rfl (fun _=>rfl) (fun _=>rfl) (fun _=>inferInstance) (fun _=>inferInstance) rfl zi ?_ ?_ ?_
  ·intro j hk24 hR24 l24 w24 J24 b24 bks24
   refine jn ?_
   have hb:=ME (A:=73000) (C:=540) hz.1 hz.2.1 hz.2.2 hcd (k:=j) zo
   have hj5:j*(73000+1)<=4*73001:=Nat.mul_le_mul zo zo
   have hj6:j*73000<=4*73000:=Nat.mul_le_mul zo zo
   have hcj:=hcd (cs.length-1-j)
   have hm1:=s7 (n7 (i2 r.2.1 I k) cs j).1 (i2 r.2.1 I k).lo
   have hm2:=s7 (n7 (i2 r.2.1 I k) cs j).1 (i2 r.2.1 I k).hi
   have hm3:=s7 (n7 (i2 r.2.1 I k) cs j).2.1 (i2 r.2.1 I k).lo
   have hm4:=s7 (n7 (i2 r.2.1 I k) cs j).2.1 (i2 r.2.1 I k).hi
   have hm5:=s7 (n7 (i2 r.2.1 I k) cs j).2.2 (i2 r.2.1 I k).den
   have hm6:=s7 (b6 cs (cs.length-1-j)) ((n7 (i2 r.2.1 I k) cs j).2.2*(i2 r.2.1 I k).den)
   have hco:∀x∈([(n7 (i2 r.2.1 I k) cs j).1*(i2 r.2.1 I k).lo,(n7 (i2 r.2.1 I k) cs j).1*(i2 r.2.1 I k).hi,(n7 (i2 r.2.1 I k) cs j).2.1*(i2 r.2.1 I k).lo,(n7 (i2 r.2.1 I k) cs j).2.1*(i2 r.2.1 I k).hi]:List Int),dl x<=800000:=fun x hx=>by simp only[List.mem_cons,List.not_mem_nil,or_false] at hx; rcases hx with rfl | rfl | rfl | rfl<;>omega
   refine i5 ?_; refine ja 11 ?_; refine g8 ?_; refine d9.asg (fun w1024 J1024 b1024=>?_); refine jn ?_; refine g8 ?_; refine Tr.draw 15 o0 (by kernel_rfl) ?_; refine i7 ?_; refine jd (L7 (n7 (i2 r.2.1 I k) cs j).1 (i2 r.2.1 I k).lo zo zo) ?_; refine i7 ?_; refine jd (L7 (n7 (i2 r.2.1 I k) cs j).1 (i2 r.2.1 I k).hi zo zo) ?_; refine i7 ?_; refine jd (L7 (n7 (i2 r.2.1 I k) cs j).2.1 (i2 r.2.1 I k).lo zo zo) ?_; refine g9 ?_; refine jc (L7 (n7 (i2 r.2.1 I k) cs j).2.1 (i2 r.2.1 I k).hi zo zo) ?_
   refine tO (N0 eZ (fun hp=>.cons rfl<|.cons rfl<|.cons rfl<|.cons rfl<|.nil) rfl rfl rfl rfl) rfl rfl ?_; refine j1 ?_; refine jc (L7 (n7 (i2 r.2.1 I k) cs j).2.2 (i2 r.2.1 I k).den zo zo) ?_; refine j3 ?_; refine jc (L7 (b6 cs (cs.length-1-j)) ((n7 (i2 r.2.1 I k) cs j).2.2*(i2 r.2.1 I k).den) zo zo) ?_; refine i7 ?_; refine Tr.draw 7 o0 (by kernel_rfl) ?_; refine i5 ?_; refine jd (qC [(n7 (i2 r.2.1 I k) cs j).1*(i2 r.2.1 I k).lo,(n7 (i2 r.2.1 I k) cs j).1*(i2 r.2.1 I k).hi,(n7 (i2 r.2.1 I k) cs j).2.1*(i2 r.2.1 I k).lo,(n7 (i2 r.2.1 I k) cs j).2.1*(i2 r.2.1 I k).hi] 203 (by simp) (fun x y hx hy=>cK x y (hco x hx) (hco y hy))) ?_
   refine i5 ?_; refine rO (i6 (fun hp=>X3 (M8 [(n7 (i2 r.2.1 I k) cs j).1*(i2 r.2.1 I k).lo,(n7 (i2 r.2.1 I k) cs j).1*(i2 r.2.1 I k).hi,(n7 (i2 r.2.1 I k) cs j).2.1*(i2 r.2.1 I k).lo,(n7 (i2 r.2.1 I k) cs j).2.1*(i2 r.2.1 I k).hi] 3) ((b6 cs (cs.length-1-j))*((n7 (i2 r.2.1 I k) cs j).2.2*(i2 r.2.1 I k).den)) (Nat.le_trans (hco _ (HJ (by simp)).1) zo) zo) (.a rfl uu<|.se rfl uu rfl rfl<|.nil)) rfl rfl ?_; refine i5 ?_; refine jd (qB [(n7 (i2 r.2.1 I k) cs j).1*(i2 r.2.1 I k).lo,(n7 (i2 r.2.1 I k) cs j).1*(i2 r.2.1 I k).hi,(n7 (i2 r.2.1 I k) cs j).2.1*(i2 r.2.1 I k).lo,(n7 (i2 r.2.1 I k) cs j).2.1*(i2 r.2.1 I k).hi] 203 (by simp) (fun x y hx hy=>cK x y (hco x hx) (hco y hy))) ?_
   refine g8 ?_; refine tO (i6 (fun hp=>X3 (J5 [(n7 (i2 r.2.1 I k) cs j).1*(i2 r.2.1 I k).lo,(n7 (i2 r.2.1 I k) cs j).1*(i2 r.2.1 I k).hi,(n7 (i2 r.2.1 I k) cs j).2.1*(i2 r.2.1 I k).lo,(n7 (i2 r.2.1 I k) cs j).2.1*(i2 r.2.1 I k).hi] 3) ((b6 cs (cs.length-1-j))*((n7 (i2 r.2.1 I k) cs j).2.2*(i2 r.2.1 I k).den)) (Nat.le_trans (hco _ (HJ (by simp)).2) zo) zo) (.a rfl uu<|.se rfl uu rfl rfl<|.nil)) rfl rfl ?_; refine g9 ?_; exact d9.rnd trivial (d6.mk (zk) (.k rfl<|.conv (AQ (BR (by rw[HD zo,XN.1]))) rfl<|.conv (AQ (BR (by rw[HD zo,XN.2]))) rfl<|.conv (AQ (BR (by rw[HD zo]))) rfl<|zk) rfl)
  ·intro hE24
   refine je ?_
   have hbe:=ME (A:=73000) (C:=540) hz.1 hz.2.1 hz.2.2 hcd (k:=cs.length) (Nat.le_refl _)
   have hj7:cs.length*(73000+1)<=4*73001:=Nat.mul_le_mul zo zo
   have hj8:cs.length*73000<=4*73000:=Nat.mul_le_mul zo zo
   have hvd:=hvb.d
   refine i7 ?_; refine Tr.draw 7 o0 (by kernel_rfl) ?_; refine l3 ?_; refine jd (L7 (n7 (i2 r.2.1 I k) cs cs.length).2.2 v.2 zo zo) ?_; refine i5 ?_; refine d5.loanLK (u:=0) (tG (enc (i2 r.2.1 I k) cs).1 (enc (i2 r.2.1 I k) cs).2.1 ((n7 (i2 r.2.1 I k) cs cs.length).2.2*v.2) 0) rfl (.se rfl rfl (by rw[PZ]; rfl)<|.se rfl rfl (by rw[PZ]; rfl)<|.a rfl<|.nil) rfl rfl rfl ?_; refine g8 ?_; refine Tr.cnd rfl ?_ ?_
   ·intro h10
    try simp only[decide_eq_true_eq,ne_eq] at h10
    have hsk:=hsg k h10
    refine l3 ?_; refine g6.mk ?_; exact g6.loan0 (fn:=Tryz.f181) (s:=568) rfl rfl (by rw[hsk])
   ·intro h10
    try simp only[decide_eq_false_iff_not,ne_eq,Classical.not_not] at h10
    refine m9 ?_; refine Tr.ent (S':=[⟨0,true,_,_⟩,⟨2,true,_,_⟩,⟨4,true,_,_⟩,⟨7,true,_,_⟩,⟨8,true,_,_⟩,⟨9,true,_,_⟩,⟨24,true,_,_⟩,⟨568,true,_,_⟩,⟨59,true,_,_⟩,⟨60,true,_,_⟩,⟨61,true,_,_⟩,⟨62,true,_,_⟩,⟨63,true,_,_⟩,⟨64,true,_,_⟩,⟨65,true,_,_⟩,⟨66,true,_,_⟩,⟨67,true,_,_⟩]) (M':=[⟨7,_,_⟩,⟨8,_,_⟩,⟨9,_,_⟩,⟨0,_,_⟩]) (d6.mk (zk) (zk) rfl) ?_; refine i5 ?_; refine ja 6 ?_; refine g9 ?_; refine d5.mutP (cQ (b8 (eL eI) r.1.1) (kI r.1.2.1) (kI r.1.2.2.1) (kI r.1.2.2.2) (b8 (eL eZ) r.2.2.1) r.2.1 (i2 r.2.1 I k) 73000 zo hpo.2 hz.1 hz.2.1 hz.2.2 zo) rfl (.nil) (fun g b cap o h=>AR (g:=g) (g':=g1 g.J b cap) rfl h) (fun {J b cap o g} h=>AR (g:=g1 J b cap) (g':=⟨J,g.M⟩) rfl h) rfl ?_
    refine i5 ?_; exact d9.lp (k+1) (by have:k≠K:=fun e=>htl k zo h10; omega) (by have:k≠K:=fun e=>htl k zo h10; omega) (d6.mk (zk) (.e (by rfl) rfl<|.e (by rw[h10]) rfl<|.nil) rfl)
  ·intro j hk24 hX24
   exact absurd hX24 id
 ·intro k hE0
  exact hE0.elim

end Go.Fl

/- Contracts: signs and comparisons of numbers of any field. -/
namespace Go.Fl
open Go Go.Proofs
open d5 renaming op->tO
open i9 renaming op->rO
set_option maxRecDepth 100000

theorem ag6 {p:List Int} {I:Iv} {v:l7} (hf:X0 p I) (hv:v7 p v) (hb:G5 540 v) (h:N1 v.1≠true):∃K,(∀k,k<=K->dl (i2 p (i2 p I 64) k).lo<=73000/\dl (i2 p (i2 p I 64) k).hi<=73000/\dl (i2 p (i2 p I 64) k).den<=73000)/\(∀k,K<=k->R2 (enc (i2 p (i2 p I 64) k) (v.1.take (p.length-1))).1 (enc (i2 p (i2 p I 64) k) (v.1.take (p.length-1))).2.1 0≠0)/\∀k,R2 (enc (i2 p (i2 p I 64) k) (v.1.take (p.length-1))).1 (enc (i2 p (i2 p I 64) k) (v.1.take (p.length-1))).2.1 0≠0->R2 (enc (i2 p (i2 p I 64) k) (v.1.take (p.length-1))).1 (enc (i2 p (i2 p I 64) k) (v.1.take (p.length-1))).2.1 0=A7 p I v:=by
 obtain ⟨h1,h2⟩:=jV hf.three hv h
 have h5:=hf.len4
 obtain ⟨K,q1,q2,q3⟩:=hf.bound (M:=540) zo h2 (fun c hc=>by
  obtain ⟨i,hi,rfl⟩:=List.mem_iff_getElem.1 hc
  have e:(v.1.take (p.length-1))[i]=b6 v.1 i:=by
   rw[List.length_take] at hi
   rw[List.getElem_take]
   have:i<v.1.length:=by omega
   simp[b6,this]
  rw[e]; exact hb.c i) zo zo
 refine ⟨K-64,fun k hk=>?_,fun k hk=>?_,fun k hk=>?_⟩
 ·rw[HG]; exact q3 (64+k) zo
 ·rw[HG]; exact ae5 (q2 (64+k) zo)
 ·rw[ae4 (V8 hf.iv) hk,af7 hf.iv]
  unfold A7
  rw[if_neg h]
theorem cP (r:C9) (I:Iv) (v:l7) (hf:X0 r.2.1 I) (hI:i2 r.2.1 I 64=⟨r.2.2.2.1,r.2.2.2.2.1,r.2.2.2.2.2⟩) (hv:v7 r.2.1 v) (hb:G5 540 v):Ct Tryz.prog 139 [r7 A5 r,b8 K7 v] (kI (A7 r.2.1 I v)):=by
 have hl:v.1.length=4:=hv.len
 refine Ct.mk Tryz.func139 rfl Tryz.ntmps139 rfl (fun w J=>?_); refine g8 ?_; refine jb 3 rfl ?_; refine j3 ?_; refine tO (i6 (fun hp=>dI v.1 v.2) (.se rfl uu rfl (FL hl)<|.nil)) rfl rfl ?_; refine g8 ?_; refine Tr.cnd rfl ?_ ?_
 ·intro h1
  have hs:A7 r.2.1 I v=q9 (b6 v.1 0) 0:=if_pos h1
  refine i7 ?_; refine tO (DI rfl uu rfl uu (fun _=>by decide)) rfl rfl ?_; refine tO (KH (0) (fun _=>zo) (fun _=>zo) rfl uu) rfl rfl ?_; refine jc (BQ (b6 v.1 0)) ?_; refine l6 ?_; exact g6.res1 (fn:=Tryz.f139) rfl (.i rfl (by rw[hs])<|.nil)
 ·intro h1
  obtain ⟨K,k1,k2,k3⟩:=ag6 hf hv hb (by rw[h1]; decide)
  refine g9 ?_; refine ja 5 ?_; refine j3 ?_; refine tO (EK (.cons rfl uu<|.nil)) rfl rfl ?_; refine d5.loanL (u:=5) (qT r v (i2 r.2.1 I 64) (v.1.take (r.2.1.length-1)) K (A7 r.2.1 I v) hf.pol hI rfl hl hb k1 k2 k3) (.a rfl<|.se rfl rfl (FL hl)<|.a rfl<|.nil) rfl rfl ?_; refine m9 ?_; exact g6.res1 (fn:=Tryz.f139) rfl (.i rfl (by rfl)<|.nil)

theorem rD (r:C9) (I:Iv) (x:s5) (hf:X0 r.2.1 I) (hI:i2 r.2.1 I 64=⟨r.2.2.2.1,r.2.2.2.2.1,r.2.2.2.2.2⟩) (hx:y3 250 x):Ct Tryz.prog 82 [r7 A5 r,b8 j7 x] (kI (A7 r.2.1 I (j9 r.2.1 x))):=by
 have hpo:=hf.pol
 have nx:=Y4 hpo hx
 have rx:=HZ (p:=r.2.1) (x:=x) hpo
 refine Ct.mk Tryz.func82 rfl Tryz.ntmps82 rfl (fun w J=>?_); refine g8 ?_; refine jb 3 rfl ?_; refine j3 ?_; refine tO (FU rfl uu) rfl rfl ?_; refine g8 ?_; refine Tr.cnd rfl ?_ ?_
 ·intro h1
  cases h1
 ·intro h1
  refine j3 ?_; refine jc (BO r x 250 hpo hx zo) ?_; refine jc (cP r I (j9 r.2.1 x) hf hI rx (nx.mono zo)) ?_; refine g9 ?_
  exact g6.res1 (fn:=Tryz.f82) rfl (.i rfl zi<|.nil)

theorem qZ (r:C9) (I:Iv) (x y:s5) (hf:X0 r.2.1 I) (hI:i2 r.2.1 I 64=⟨r.2.2.2.1,r.2.2.2.2.1,r.2.2.2.2.2⟩) (hx:y3 250 x) (hy:y3 250 y):Ct Tryz.prog 83 [r7 A5 r,b8 j7 x,b8 j7 y] (kI (A7 r.2.1 I (B0 (j9 r.2.1 x) (j9 r.2.1 y)))):=by
 have hpo:=hf.pol
 have hk:250<=100000:=by omega
 have nx:=Y4 hpo hx
 have ny:=Y4 hpo hy
 have nn:=RE ny
 have nz:=OK nx nn
 have rx:=HZ (p:=r.2.1) (x:=x) hpo
 have ry:=HZ (p:=r.2.1) (x:=y) hpo
 have rz:=HW rx ry
 refine Ct.mk Tryz.func83 rfl Tryz.ntmps83 rfl (fun w J=>?_); refine g8 ?_; refine jb 4 rfl ?_; refine jb 5 rfl ?_; refine j3 ?_; refine tO (FU rfl uu) rfl rfl ?_; refine g8 ?_; refine Tr.cnd rfl ?_ ?_
 ·intro h1
  cases h1
 ·intro h1
  refine i7 ?_; refine Tr.draw 9 o0 (by kernel_rfl) ?_; refine i7 ?_; refine jd (BO r x 250 hpo hx zo) ?_; refine g8 ?_; refine jd (BO r y 250 hpo hy zo) ?_; refine jd (VH (j9 r.2.1 y).1 (j9 r.2.1 y).2) ?_; refine jd (PH (j9 r.2.1 x) ((j9 r.2.1 y).1.map (fun z=>-z),(j9 r.2.1 y).2) (fun i=>Nat.le_trans (nx.c i) zo) (fun i=>Nat.le_trans (nn.c i) zo) (Nat.le_trans nx.d zo) (Nat.le_trans nn.d zo) nx.pos nn.pos) ?_; refine i5 ?_; refine jc (cP r I (C0 (j9 r.2.1 x) ((j9 r.2.1 y).1.map (fun z=>-z),(j9 r.2.1 y).2)) hf hI rz (nz.mono zo)) ?_
  refine g9 ?_
  exact g6.res1 (fn:=Tryz.f83) rfl (.i rfl zi<|.nil)

end Go.Fl

/- Divisors of polynomials with the leading coefficient 1, as the program and the reference look for them. No program in sight. -/
namespace Go.Fl
open Go
def K2 (p:List Int) (x:Int):Int:=p.foldr (fun c v=>v*x+c) 0
theorem WC {c x:Int} {p:List Int}:K2 (c::p) x=K2 p x*x+c:=rfl
def X4 (p:List Int) (x:Int) (k:Nat):Int:=K2 (p.drop (p.length-k)) x
theorem QE {p:List Int} {x:Int}:X4 p x 0=0:=by unfold X4; rw[Nat.sub_zero,List.drop_length]; rfl
theorem MJ {p:List Int} {x:Int} {k:Nat} (hk:k<p.length):X4 p x (k+1)=X4 p x k*x+b6 p (p.length-1-k):=by unfold X4; rw[VX hk]; rfl
theorem fF {p:List Int} {x:Int}:X4 p x p.length=K2 p x:=by unfold X4; rw[Nat.sub_self,List.drop_zero]
theorem fE {p:List Int} {x:Int} (hp:∀i,(b6 p i).natAbs<=1000) (hx:x.natAbs<=1001):∀{k:Nat},k<=p.length->(X4 p x k).natAbs<=1002 ^ k
 | 0,_=>by rw[QE]; decide
 | k+1,hk=>by
  have h1:=fE hp hx (k:=k) zo
  rw[MJ zo]
  have h2:=hp (p.length-1-k)
  have h3:(X4 p x k*x).natAbs<=1002 ^ k*1001:=M9 h1 hx
  have h4:1002 ^ (k+1)=1002 ^ k*1001+1002 ^ k:=by rw[Nat.pow_succ]; omega
  by_cases h:k=0
  ·subst h
   rw[QE,Int.zero_mul,Int.zero_add]
   omega
  ·have h5:1002<=1002 ^ k:=Nat.le_self_pow h 1002
   omega
theorem fD {x:Int}:∀{p:List Int},u9 x 1 p=(K2 p x,1)
 | []=>rfl
 | c::p=>by rw[u9,fD (p:=p),WC]; simp
theorem uZ {p:List Int} {x:Int} (_:1<=p.length):K2 p x=FM (lP p) (p.length-1) x:=by
 have h1:=(MT (a:=x) (b:=1) (cs:=p)).2
 rw[fD] at h1
 simp only at h1
 rw[h1]
 unfold hm FM
 refine R4 fun i _=>?_
 rw[Int.one_pow,Int.mul_one]
def DO (p:List Int):Prop:=p.length≠2/\((∃x,K2 p x=0)\/(p.length=5/\∃a b c d:Int,b6 p 3=a+c/\b6 p 2=b+d+a*c/\b6 p 1=a*d+b*c/\b6 p 0=b*d))
open Classical in
noncomputable def Y3 (p:List Int):Bool:=if DO p then true else false
theorem KP {p:List Int} (h:DO p):Y3 p=true:=if_pos h
theorem KO {p:List Int} (h:¬DO p):Y3 p=false:=if_neg h
theorem ab5 {p:List Int} (h3:3<=p.length) (h:¬DO p):¬GP (lP p) (p.length-1):=by
 have e:∀i,i<p.length->lP p i=b6 p i:=fun i hi=>if_pos hi
 rintro (⟨x,hx⟩ | ⟨h4,a,b,c,d,q3,q2,q1,q0⟩)
 ·exact h ⟨by omega,.inl ⟨x,by rw[uZ zo]; exact hx⟩⟩
 ·exact h ⟨by omega,.inr ⟨by omega,a,b,c,d,by rw[<- e 3 zo]; exact q3,by rw[<- e 2 zo]; exact q2,by rw[<- e 1 zo]; exact q1,by rw[<- e 0 zo]; exact q0⟩⟩
theorem kS {p:List Int} {x:Int} (hp:1<=p.length) (h:K2 p x=0):x∣b6 p 0:=by
 match p,hp with
 | c::p,_ =>
  rw[WC] at h
  show x∣c
  exact ⟨-K2 p x,by rw[Int.mul_neg,Int.mul_comm]; omega⟩
theorem YY {p:List Int} (hp:1<=p.length):K2 p 0=b6 p 0:=by
 match p,hp with
 | c::p,_=>rw[WC,Int.mul_zero,Int.zero_add]; rfl
theorem JI {x y:Int} (h:x∣y) (hy:y≠0):x≠0/\x.natAbs<=y.natAbs:=by
 obtain ⟨q,rfl⟩:=h
 refine ⟨fun e=>hy (by rw[e,Int.zero_mul]),?_⟩
 rw[Int.natAbs_mul]
 exact Nat.le_mul_of_pos_right _ (by have:q≠0:=fun e=>hy (by rw[e,Int.mul_zero]); omega)
def AK (n:Int) (q:Int->Bool) (m:Nat):Prop:=∃d:Nat,1<=d/\d<m/\(d:Int)∣n/\(q d=true\/q (-(d:Int))=true)
theorem eS {n:Int} {q:Int->Bool} (hn:n≠0):AK n q (n.natAbs+1)↔∃x:Int,x∣n/\q x=true:=by
 constructor
 ·rintro ⟨d,h1,h2,h3,h4 | h4⟩
  ·exact ⟨d,h3,h4⟩
  ·exact ⟨-d,Int.neg_dvd.2 h3,h4⟩
 ·rintro ⟨x,h1,h2⟩
  obtain ⟨h3,h4⟩:=JI h1 hn
  refine ⟨x.natAbs,by omega,by omega,Int.ofNat_dvd_left.2 (Int.natAbs_dvd_natAbs.2 h1),?_⟩
  rcases Int.natAbs_eq x with e | e
  ·left; rw[<- e]; exact h2
  ·right; rw[<- e]; exact h2
theorem ah9 {b d:Int} (hb:b≠0) (hd:d≠0):b.natAbs+d.natAbs<=(b*d).natAbs+1:=by
 rw[Int.natAbs_mul]
 obtain ⟨m,hm⟩:∃m,b.natAbs=m+1:=⟨b.natAbs-1,by omega⟩
 obtain ⟨n,hn⟩:∃n,d.natAbs=n+1:=⟨d.natAbs-1,by omega⟩
 rw[hm,hn,Nat.succ_mul,Nat.mul_succ]
 omega
theorem jS {p2 p3 a b d:Int} (h2:p2.natAbs<=1000) (h3:p3.natAbs<=1000) (hb:b≠0) (hd:d≠0) (h0:(b*d).natAbs<=1000) (h:b+d+a*(p3-a)=p2):a.natAbs<=2001:=by
 have h1:=ah9 hb hd
 by_cases e:p3-a=0
 ·omega
 ·have h4:(a*(p3-a)).natAbs<=2001:=by omega
  rw[Int.natAbs_mul] at h4
  have:=Nat.le_mul_of_pos_right a.natAbs (show 0<(p3-a).natAbs by omega)
  omega
def IL (p:List Int) (b:Int):Prop:=∃a d:Int,b6 p 0=b*d/\a*(d-b)=b6 p 1-b*b6 p 3/\b+d+a*(b6 p 3-a)=b6 p 2
theorem aa1 {p:List Int} (_:b6 p 0≠0):(∃b,b∣b6 p 0/\IL p b)↔∃a b c d:Int,b6 p 3=a+c/\b6 p 2=b+d+a*c/\b6 p 1=a*d+b*c/\b6 p 0=b*d:=by
 constructor
 ·rintro ⟨b,_,a,d,h1,h2,h3⟩
  refine ⟨a,b,b6 p 3-a,d,by omega,h3.symm,?_,h1⟩
  rw[Int.mul_sub] at h2 ⊢
  rw[Int.mul_comm b a]
  omega
 ·rintro ⟨a,b,c,d,h3,h2,h1,h0'⟩
  refine ⟨b,⟨d,h0'⟩,a,d,h0',?_,?_⟩
  ·rw[h1,h3,Int.mul_sub,Int.mul_add,Int.mul_comm b a]; omega
  ·rw[h2,h3,show a+c-a=c by omega]
open Classical in
noncomputable def CI (p:List Int) (b:Int):Bool:=if IL p b then true else false
theorem YR {p:List Int} {b:Int}:CI p b=true↔IL p b:=by unfold CI; split<;>simp_all
theorem jR {p:List Int} {b:Int} (h:¬IL p b):CI p b=false:=if_neg h
section
variable {p:List Int} {b d:Int}
theorem aa2 (hb:b≠0) (hd:b6 p 0=b*d) (hne:d-b≠0):CI p b=(decide ((b6 p 1-b*b6 p 3).tmod (d-b)=0)&&decide (b+d+(b6 p 1-b*b6 p 3).tdiv (d-b)*(b6 p 3-(b6 p 1-b*b6 p 3).tdiv (d-b))=b6 p 2)):=by
 have key:IL p b↔((b6 p 1-b*b6 p 3).tmod (d-b)=0/\b+d+(b6 p 1-b*b6 p 3).tdiv (d-b)*(b6 p 3-(b6 p 1-b*b6 p 3).tdiv (d-b))=b6 p 2):=by
  constructor
  ·rintro ⟨a,d',h1,h2,h3⟩
   have e:d'=d:=by
    have:b*d'=b*d:=by rw[<- h1,<- hd]
    exact Int.eq_of_mul_eq_mul_left hb this
   subst e
   rw[<- h2,Int.mul_tmod_left,Int.mul_tdiv_cancel _ hne]
   exact ⟨rfl,h3⟩
  ·rintro ⟨h1,h2⟩
   refine ⟨_,d,hd,?_,h2⟩
   have:=Int.mul_tdiv_add_tmod (b6 p 1-b*b6 p 3) (d-b)
   rw[h1,Int.add_zero,Int.mul_comm] at this
   exact this
 rw[<- Bool.decide_and,Bool.eq_iff_iff,YR,decide_eq_true_eq]
 exact key
theorem zZ (hb:b≠0) (hd:b6 p 0=b*b) (h:b6 p 1≠b*b6 p 3):CI p b=false:=by
 refine jR ?_
 rintro ⟨a,d',h1,h2,h3⟩
 have e:d'=b:=Int.eq_of_mul_eq_mul_left hb (by rw[<- h1,<- hd])
 subst e
 rw[Int.sub_self,Int.mul_zero] at h2
 omega
theorem aa0 {a:Int} (hd:b6 p 0=b*b) (h:b6 p 1=b*b6 p 3) (ha:a*a-b6 p 3*a+b6 p 2-2*b=0):CI p b=true:=by
 refine YR.2 ⟨a,b,hd,by rw[Int.sub_self,Int.mul_zero]; omega,?_⟩
 rw[Int.mul_sub,Int.mul_comm a (b6 p 3)]
 omega
theorem aa3 (hb:b≠0) (hd:b6 p 0=b*b) (h0:(b6 p 0).natAbs<=1000) (h2:(b6 p 2).natAbs<=1000) (h3:(b6 p 3).natAbs<=1000) (h:∀a:Int,-3000<=a->a<=3000->a*a-b6 p 3*a+b6 p 2-2*b≠0):CI p b=false:=by
 refine jR ?_
 rintro ⟨a,d',h1,_,q3⟩
 have e:d'=b:=Int.eq_of_mul_eq_mul_left hb (by rw[<- h1,<- hd])
 subst e
 have hbd:=jS h2 h3 hb hb (by rw[<- h1]; exact h0) q3
 refine h a zo zo ?_
 rw[Int.mul_sub,Int.mul_comm a (b6 p 3)] at q3
 omega
end
theorem ab8 {p:List Int} (hl:3<=p.length) (h0:b6 p 0≠0):DO p↔AK (b6 p 0) (fun d=>decide (K2 p d=0)) ((b6 p 0).natAbs+1)\/(p.length=5/\AK (b6 p 0) (CI p) ((b6 p 0).natAbs+1)):=by
 rw[eS h0,eS h0]
 have e1:(∃x,x∣b6 p 0/\decide (K2 p x=0)=true)↔∃x,K2 p x=0:=⟨fun ⟨x,_,h⟩=>⟨x,of_decide_eq_true h⟩,fun ⟨x,h⟩=>⟨x,kS zo h,decide_eq_true h⟩⟩
 have e2:(∃x,x∣b6 p 0/\CI p x=true)↔∃b,b∣b6 p 0/\IL p b:=exists_congr fun x=>and_congr_right fun _=>YR
 rw[e1,e2,aa1 h0]
 unfold DO
 constructor
 ·rintro ⟨_,h⟩; exact h
 ·intro h; exact ⟨by omega,h⟩
theorem ab9 {p:List Int} (hl:1<=p.length) (hp:(b6 p 0).natAbs<=1000):(∃x,K2 p x=0)↔∃x,-1001<=x/\x<=1001/\K2 p x=0:=by
 refine ⟨fun ⟨x,hx⟩=>?_,fun ⟨x,_,_,h⟩=>⟨x,h⟩⟩
 by_cases h:b6 p 0=0
 ·exact ⟨0,by omega,by omega,by rw[YY hl,h]⟩
 ·have:=(JI (kS hl hx) h).2
  exact ⟨x,by omega,by omega,hx⟩
def IM (p:List Int) (b a:Int):Prop:=b*(b6 p 2-b-a*(b6 p 3-a))=b6 p 0/\a*(b6 p 2-b-a*(b6 p 3-a))+b*(b6 p 3-a)=b6 p 1
theorem kP {p:List Int} (h0:b6 p 0≠0) (hp:(b6 p 0).natAbs<=1000) (h2:(b6 p 2).natAbs<=1000) (h3:(b6 p 3).natAbs<=1000):(∃a b c d:Int,b6 p 3=a+c/\b6 p 2=b+d+a*c/\b6 p 1=a*d+b*c/\b6 p 0=b*d)↔∃b,-1000<=b/\b<=1000/\b≠0/\b∣b6 p 0/\∃a,-2002<=a/\a<=2002/\IM p b a:=by
 constructor
 ·rintro ⟨a,b,c,d,q3,q2,q1,q0⟩
  have hb:b≠0:=fun e=>h0 (by rw[q0,e,Int.zero_mul])
  have hd:d≠0:=fun e=>h0 (by rw[q0,e,Int.mul_zero])
  have hc:c=b6 p 3-a:=by omega
  have hbd:=jS h2 h3 hb hd (by rw[<- q0]; exact hp) (a:=a) (by rw[<- hc]; exact q2.symm)
  have hbb:=(JI (⟨d,q0⟩:b∣b6 p 0) h0).2
  have hdd:b6 p 2-b-a*(b6 p 3-a)=d:=by rw[<- hc]; omega
  exact ⟨b,by omega,by omega,hb,⟨d,q0⟩,a,by omega,by omega,by rw[hdd]; exact q0.symm,by rw[hdd,<- hc]; exact q1.symm⟩
 ·rintro ⟨b,_,_,_,_,a,_,_,r1,r2⟩
  exact ⟨a,b,b6 p 3-a,b6 p 2-b-a*(b6 p 3-a),by omega,by omega,r2.symm,r1.symm⟩
end Go.Fl

/- Chains of remainders (Sturm), as the program and the reference compute them: one root between two fractions means different signs. No program in sight. -/
namespace Go.Fl
open Go
theorem FR {xs:List Int} {i:Nat}:lP xs i=b6 xs i:=by
 unfold lP
 split
 ·rfl
 ·rename_i h; rw[v5 zo]; rfl
def I4 (xs:List Int):Prop:=j6 xs=xs
theorem mN {xs:List Int}:I4 (j6 xs):=by
 by_cases h:j6 xs=[]
 ·unfold I4; rw[h]; rfl
 ·obtain ⟨ys,y,hy⟩:∃ys y,j6 xs=ys++[y]:=⟨_,_,(List.dropLast_concat_getLast h).symm⟩
  have hl:=KZ h
  have hy0:y≠0:=by
   have e:(j6 xs).getLast h=y:=by simp[hy]
   rw[<- e]; exact hl
  unfold I4
  rw[hy]; exact ZU hy0
theorem I4.top {xs:List Int} (h:I4 xs) (h0:xs≠[]):1<=xs.length/\b6 xs (xs.length-1)≠0:=by
 have hl:1<=xs.length:=List.length_pos_iff.2 h0
 refine ⟨hl,?_⟩
 have h1:j6 xs≠[]:=by rw[h]; exact h0
 have h2:=KZ h1
 have e:(j6 xs).getLast h1=b6 xs (xs.length-1):=by
  simp only[show j6 xs=xs from h]
  rw[List.getLast_eq_getElem]
  have:xs.length-1<xs.length:=by omega
  simp[b6,this]
 rw[<- e]; exact h2
theorem I4.neg {xs:List Int} (h:I4 xs):I4 (xs.map fun z=>-z):=by unfold I4; rw[ZT,h]
theorem mD {xs:List Int} (h:b6 xs (xs.length-1)≠0):I4 xs:=by
 unfold I4
 have:=GF (xs:=xs) (m:=xs.length) (Nat.le_refl _) (fun i h1 h2=>by omega) (.inr h)
 rw[this,List.take_length]
def G2 (q r:List Int):List Int:=j8 r.length fun i=>b6 r i*(b6 q (q.length-1)*b6 q (q.length-1))+(if r.length-q.length<=i then -(b6 r (r.length-1)*b6 q (q.length-1)*b6 q (i-(r.length-q.length))) else 0)
def G1 (q r:List Int):List Int:=j6 (G2 q r)
theorem GU {q r:List Int}:(G2 q r).length=r.length:=p8
theorem oC {q r:List Int} {i:Nat} (hq:1<=q.length) (hr:q.length<=r.length) (hi:r.length-1<=i):b6 (G2 q r) i=0:=by
 by_cases h:i<r.length
 ·have e:i=r.length-1:=by omega
  subst e
  unfold G2
  rw[r5 h,if_pos zo,show r.length-1-(r.length-q.length)=q.length-1 by omega,Int.mul_assoc]; omega
 ·rw[v5 (by rw[GU]; omega)]; rfl
theorem FD {q r:List Int} (hq:1<=q.length) (hr:q.length<=r.length):(G1 q r).length<=r.length-1:=ZS fun _ hi=>oC hq hr hi
def B7 (q:List Int):Nat->List Int->List Int
 | 0,r=>r
 | f+1,r=>if r.length<q.length then r else B7 q f (G1 q r)
theorem UB {q:List Int} (hq:1<=q.length):∀{f:Nat} {r:List Int},r.length<=f->B7 q f r=B7 q r.length r
 | 0,r,h=>by rw[show r.length=0 by omega]
 | f+1,r,h=>by
  by_cases hl:r.length<q.length
  ·rw[B7,if_pos hl]
   cases e:r.length with
   | zero=>rfl
   | succ m=>rw[B7,if_pos hl]
  ·have h1:=FD hq (r:=r) zo
   obtain ⟨m,hm⟩:∃m,r.length=m+1:=⟨r.length-1,by omega⟩
   rw[hm,B7,B7,if_neg hl,if_neg hl,UB hq (f:=f) zo,UB hq (f:=m) zo]
theorem aP {q r:List Int} (h:r.length<q.length):B7 q r.length r=r:=by
 cases e:r.length with
 | zero=>rfl
 | succ m=>rw[B7,if_pos h]
theorem aQ {q r:List Int} (hq:1<=q.length) (h:q.length<=r.length):B7 q r.length r=B7 q (G1 q r).length (G1 q r):=by
 have h1:=FD hq h
 obtain ⟨m,hm⟩:∃m,r.length=m+1:=⟨r.length-1,by omega⟩
 rw[hm,B7,if_neg zo,UB hq zo]
theorem UA {q:List Int} (hq:1<=q.length) (P:List Int->Prop) (hP:∀r,q.length<=r.length->P r->P (G1 q r)):∀{f:Nat} {r:List Int},r.length<=f->P r->P (B7 q f r)/\(B7 q f r).length<q.length
 | 0,r,h,hr=>⟨hr,by rw[B7]; omega⟩
 | f+1,r,h,hr=>by
  by_cases hl:r.length<q.length
  ·rw[B7,if_pos hl]; exact ⟨hr,hl⟩
  ·have h1:=FD hq (r:=r) zo
   rw[B7,if_neg hl]
   exact UA hq P hP zo (hP r zo hr)
def against (p q:List Int):List Int:=(B7 q p.length p).map fun z=>-z
theorem OM {q r:List Int} {X B:Nat} (hr:∀i,dl (b6 r i)<=X) (hq:∀i,dl (b6 q i)<=B) (i:Nat):dl (b6 (G2 q r) i)<=X+(2*B+1):=by
 by_cases hi:i<r.length
 ·unfold G2
  rw[r5 hi]
  have h1:=hr i
  have h2:=hr (r.length-1)
  have h3:=hq (q.length-1)
  have h4:=hq (i-(r.length-q.length))
  have m1:=s7 (b6 q (q.length-1)) (b6 q (q.length-1))
  have m2:=s7 (b6 r i) (b6 q (q.length-1)*b6 q (q.length-1))
  have m3:=s7 (b6 r (r.length-1)) (b6 q (q.length-1))
  have m4:=s7 (b6 r (r.length-1)*b6 q (q.length-1)) (b6 q (i-(r.length-q.length)))
  split
  ·have:=Q3 (b6 r i*(b6 q (q.length-1)*b6 q (q.length-1))) (-(b6 r (r.length-1)*b6 q (q.length-1)*b6 q (i-(r.length-q.length))))
   rw[K6] at this
   omega
  ·rw[Int.add_zero]; omega
 ·rw[v5 (by rw[GU]; omega)]
  show dl 0<=_
  rw[C5.2 rfl]; omega
theorem LQ {p q:List Int} {A B:Nat} (hq:1<=q.length) (hp:I4 p) (hA:∀i,dl (b6 p i)<=A) (hB:∀i,dl (b6 q i)<=B) (h5:p.length<=5):I4 (against p q)/\(against p q).length<q.length/\∀i,dl (b6 (against p q) i)<=A+5*(2*B+1):=by
 obtain ⟨⟨h1,h2⟩,h3⟩:=UA hq (fun r=>I4 r/\r.length<=p.length/\∀i,dl (b6 r i)<=A+(p.length-r.length)*(2*B+1)) (fun r hl ⟨_,hn,hr⟩=>by
  have e:=FD hq hl
  refine ⟨mN,by omega,fun i=>?_⟩
  unfold G1 at e ⊢
  rw[U0]
  have:=OM hr hB i
  have k:=Nat.mul_le_mul_right (2*B+1) (show p.length-r.length+1<=p.length-(j6 (G2 q r)).length by omega)
  rw[Nat.succ_mul] at k
  omega) (f:=p.length) (r:=p) (Nat.le_refl _) ⟨hp,Nat.le_refl _,fun i=>by have:=hA i; omega⟩
 refine ⟨h1.neg,by unfold against; rw[List.length_map]; exact h3,fun i=>?_⟩
 unfold against
 rw[AW,K6]
 have k:=Nat.mul_le_mul_right (2*B+1) (show p.length-(B7 q p.length p).length<=5 by omega)
 have:=h2.2 i
 omega
theorem oB {q r:List Int} (hr:q.length<=r.length):lP (G1 q r)=O2 (b6 q (q.length-1)*b6 q (q.length-1)) (b6 r (r.length-1)*b6 q (q.length-1)) (r.length-q.length) (lP r) (lP q):=by
 funext i
 unfold O2 G9
 rw[FR,FR,FR]
 unfold G1
 rw[U0]
 by_cases hi:i<r.length
 ·unfold G2
  rw[r5 hi,Int.mul_comm (b6 r i)]
  split
  ·rw[Int.sub_eq_add_neg]
  ·rw[Int.mul_zero,Int.sub_zero,Int.add_zero]
 ·rw[v5 (by rw[GU]; omega),v5 (xs:=r) zo]
  have e:b6 q (i-(r.length-q.length))=0:=v5 zo
  rw[e]
  show (0:Int)=_*0-_
  split<;>simp
theorem P3.neg {p f g:u4} (h:P3 p f g):P3 p (fun i=>-f i) g:=by
 obtain ⟨s,q1,q2,d,h1,h2,h3,h4⟩:=h
 refine ⟨s,fun i=>-1*q1 i,q2,d,h1,fun i hi=>by show -1*q1 i=0; rw[h2 i hi]; rfl,h3,fun k=>?_⟩
 have e1:(fun i=>-f i)=fun i=>-1*f i:=by funext i; omega
 rw[e1,IY,LX,h4 k]
 show _=-1*(-1*p7 q1 f k)+_
 omega
theorem P3.against {p:u4} {a b:List Int} (hb:1<=b.length) (h0:b6 b (b.length-1)≠0) (h:P3 p (lP a) (lP b)):P3 p (lP (Go.Fl.against a b)) (lP b):=by
 have:=(UA hb (fun r=>P3 p (lP r) (lP b)) (fun r hl hr=>by rw[oB hl]; exact hr.stp (Int.mul_ne_zero h0 h0)) (f:=a.length) (r:=a) (Nat.le_refl _) h).1.neg
 have e:lP (Go.Fl.against a b)=fun i=>-lP (B7 b a.length a) i:=by
  funext i
  rw[FR,FR]
  unfold Go.Fl.against
  exact AW
 rw[e]; exact this
theorem OT (l:List Int):∃B:Nat,∀i,dl (b6 l i)<=B:=by
 induction l with
 | nil=>exact ⟨0,fun i=>by rw[RK]; show dl 0<=0; rw[C5.2 rfl]; omega⟩
 | cons x l ih =>
  obtain ⟨B,hB⟩:=ih
  refine ⟨max (dl x) B,fun i=>?_⟩
  match i with
  | 0=>exact Nat.le_max_left _ _
  | i+1=>exact Nat.le_trans (hB i) (Nat.le_max_right _ _)
def F9:Nat->List Int->List Int->List (List Int)
 | 0,_,_=>[]
 | f+1,a,b=>if against a b=[] then [] else against a b::F9 f b (against a b)
def C6 (p:List Int):List Int:=j8 (p.length-1) fun i=>b6 p (i+1)*((i:Int)+1)
def w4 (p:List Int):List (List Int):=p::C6 p::F9 5 p (C6 p)
theorem UP:∀{f:Nat} {a b:List Int} {m:Nat},b.length<=f->I4 a->I4 b->b≠[]->a.length<=5->b.length<=5->2<=m->m<=(a::b::F9 f a b).length ->
  against (b6 (a::b::F9 f a b) (m-2)) (b6 (a::b::F9 f a b) (m-1))=(if m<(a::b::F9 f a b).length then b6 (a::b::F9 f a b) m else [])/\(m<(a::b::F9 f a b).length->b6 (a::b::F9 f a b) m≠[])
 | 0,a,b,m,h,_,_,h0,_,_,_,_=>absurd (List.length_eq_zero_iff.1 zo) h0
 | f+1,a,b,m,h,ta,tb,h0,ha,hb,h2,hm=>by
  obtain ⟨B,hB⟩:∃B:Nat,∀i,dl (b6 b i)<=B:=OT b
  obtain ⟨A,hA⟩:∃A:Nat,∀i,dl (b6 a i)<=A:=OT a
  obtain ⟨r1,r2,_⟩:=LQ (List.length_pos_iff.2 h0) ta hA hB ha
  rw[F9] at hm ⊢
  by_cases e:against a b=[]
  ·rw[if_pos e] at hm ⊢
   have:m=2:=by simp at hm; omega
   subst this
   exact ⟨by rw[if_neg (by simp)]; exact e,fun h=>by simp at h⟩
  ·rw[if_neg e] at hm ⊢
   by_cases h3:m=2
   ·subst h3
    exact ⟨by rw[if_pos (by simp)]; rfl,fun _=>e⟩
   ·have ih:=UP (f:=f) (a:=b) (b:=against a b) (m:=m-1) zo tb r1 e hb zo zo (by simp at hm ⊢; omega)
    obtain ⟨n,rfl⟩:∃n,m=n+3:=⟨m-3,by omega⟩
    simp only[show n+3-1=n+2 by omega,show n+2-2=n by omega,show n+2-1=n+1 by omega,show n+3-2=n+1 by omega] at ih ⊢
    have s:∀(x:List Int) (l:List (List Int)) (k:Nat),b6 (x::l) (k+1)=b6 l k:=fun _ _ _=>rfl
    have hl:(n+3<(a::b::against a b::F9 f b (against a b)).length)=(n+2<(b::against a b::F9 f b (against a b)).length):=propext ⟨fun h=>by simp at h ⊢; omega,fun h=>by simp at h ⊢; omega⟩
    rw[s a,s a,s a]
    simp only[hl]
    exact ih
def bA (A B:Nat):Nat->Nat
 | 0=>A
 | j+1=>bA B (A+5*(2*B+1)) j
theorem oS:∀{f:Nat} {a b:List Int} {A B:Nat} {j:Nat},I4 a->I4 b->b≠[]->a.length<=5->b.length<a.length->(∀i,dl (b6 a i)<=A)->(∀i,dl (b6 b i)<=B)->j<(a::b::F9 f a b).length ->
  I4 (b6 (a::b::F9 f a b) j)/\(b6 (a::b::F9 f a b) j).length+j<=a.length/\∀i,dl (b6 (b6 (a::b::F9 f a b) j) i)<=bA A B j:=by
 intro f
 induction f with
 | zero =>
  intro a b A B j ta tb h0 ha hb hA hB hj
  rw[F9] at hj ⊢
  match j,hj with
  | 0,_=>exact ⟨ta,by show a.length+0<=_; omega,hA⟩
  | 1,_=>exact ⟨tb,by show b.length+1<=_; omega,hB⟩
  | j+2,hj=>exact absurd hj (by show ¬j+2<2; omega)
 | succ f ih =>
  intro a b A B j ta tb h0 ha hb hA hB hj
  obtain ⟨r1,r2,r3⟩:=LQ (List.length_pos_iff.2 h0) ta hA hB ha
  match j,hj with
  | 0,_=>exact ⟨ta,by show a.length+0<=_; omega,hA⟩
  | 1,_=>exact ⟨tb,by show b.length+1<=_; omega,hB⟩
  | j+2,hj =>
   rw[F9] at hj ⊢
   by_cases e:against a b=[]
   ·rw[if_pos e] at hj
    exact absurd (show j+2<2 from hj) zo
   ·rw[if_neg e] at hj ⊢
    have s:∀(x:List Int) (l:List (List Int)) (k:Nat),b6 (x::l) (k+1)=b6 l k:=fun _ _ _=>rfl
    have q:=ih (a:=b) (b:=against a b) (A:=B) (B:=A+5*(2*B+1)) (j:=j+1) tb r1 e zo r2 hB r3 (by simp at hj ⊢; omega)
    rw[s a]
    obtain ⟨q1,q2,q3⟩:=q
    exact ⟨q1,by omega,q3⟩
theorem bG:∀{f:Nat} {a b:List Int} {p:u4},b.length<=f->I4 a->I4 b->b≠[]->a.length<=5->b.length<=5->P3 p (lP a) (lP b)->∃e l,a::b::F9 f a b=l++[e]/\I4 e/\e≠[]/\e.length<=b.length/\P3 p (lP []) (lP e)
 | 0,a,b,p,h,_,_,h0,_,_,_=>absurd (List.length_eq_zero_iff.1 zo) h0
 | f+1,a,b,p,h,ta,tb,h0,ha,hb,hk=>by
  obtain ⟨B,hB⟩:=OT b
  obtain ⟨A,hA⟩:=OT a
  obtain ⟨t1,t2⟩:=tb.top h0
  obtain ⟨r1,r2,_⟩:=LQ t1 ta hA hB ha
  have hk2:=hk.against t1 t2
  rw[F9]
  by_cases e:against a b=[]
  ·rw[if_pos e]
   rw[e] at hk2
   exact ⟨b,[a],rfl,tb,h0,Nat.le_refl _,hk2⟩
  ·rw[if_neg e]
   obtain ⟨x,l,q1,q2,q3,q4,q5⟩:=bG (f:=f) (a:=b) (b:=against a b) (p:=p) zo tb r1 e hb zo hk2.swap
   exact ⟨x,a::l,by rw[q1]; rfl,q2,q3,by omega,q5⟩
def A3 (st:Nat×Int) (s:Int):Nat×Int:=(if s*st.2<0 then st.1+1 else st.1,if s≠0 then s else st.2)
def D9 (l:List Int):Nat×Int:=l.foldl A3 (0,0)
theorem bL {l:List Int} {k:Nat} (hk:k<l.length):D9 (l.take (k+1))=A3 (D9 (l.take k)) (b6 l k):=by
 unfold D9
 rw[W8 hk,List.foldl_append]; rfl
theorem OW {l:List Int}:(D9 l).1<=l.length:=by
 have key:∀(l:List Int) (st:Nat×Int),(l.foldl A3 st).1<=st.1+l.length:=by
  intro l
  induction l with
  | nil=>intro st; exact Nat.le_refl _
  | cons s l ih =>
   intro st
   rw[List.foldl_cons]
   have:=ih (A3 st s)
   have h1:(A3 st s).1<=st.1+1:=by unfold A3; simp only; split<;>omega
   rw[List.length_cons]; omega
 have:=key l (0,0)
 unfold D9
 omega
theorem bJ:∀{l:List Int} {st:Nat×Int},(∀s∈l,s=-1\/s=0\/s=1)->(st.2=-1\/st.2=1)->((l.foldl A3 st).2=-1\/(l.foldl A3 st).2=1)/\(((l.foldl A3 st).1+st.1)%2=0↔(l.foldl A3 st).2=st.2)
 | [],st,_,h=>⟨h,⟨fun _=>rfl,fun _=>by simp only[List.foldl_nil]; omega⟩⟩
 | s::l,st,hs,h=>by
  rw[List.foldl_cons]
  have hs1:=hs s List.mem_cons_self
  have h2:(A3 st s).2=-1\/(A3 st s).2=1:=by unfold A3; simp only; split<;>omega
  obtain ⟨q1,q2⟩:=bJ (l:=l) (st:=A3 st s) (fun x hx=>hs x (List.mem_cons_of_mem _ hx)) h2
  refine ⟨q1,?_⟩
  have h3:((A3 st s).1=st.1/\(A3 st s).2=st.2)\/((A3 st s).1=st.1+1/\(A3 st s).2=-st.2):=by
   unfold A3; simp only
   rcases hs1 with rfl | rfl | rfl
   ·rcases h with e | e
    ·rw[e]; left; simp
    ·rw[e]; right; simp
   ·left; simp
   ·rcases h with e | e
    ·rw[e]; right; simp
    ·rw[e]; left; simp
  generalize (List.foldl A3 (A3 st s) l).1=n at *
  generalize (List.foldl A3 (A3 st s) l).2=v at *
  rcases h3 with ⟨e1,e2⟩ | ⟨e1,e2⟩<;>rw[e1,e2] at q2<;>omega
theorem oV {s e:Int} {l:List Int} (hs:s=-1\/s=1) (he:e=-1\/e=1) (hl:∀x∈l,x=-1\/x=0\/x=1) (hlast:s::l=[s]/\e=s\/∃l',s::l=l'++[e]):(D9 (s::l)).1%2=0↔e=s:=by
 have h0:A3 (0,0) s=(0,s):=by unfold A3; simp only[Int.mul_zero]; rcases hs with rfl | rfl<;>rfl
 unfold D9
 rw[List.foldl_cons,h0]
 obtain ⟨q1,q2⟩:=bJ (st:=(0,s)) hl hs
 have hv:(l.foldl A3 (0,s)).2=e:=by
  rcases hlast with ⟨h1,h2⟩ | ⟨l',h1⟩
  ·have:l=[]:=by simpa using h1
   subst this; exact h2.symm
  ·rcases List.eq_nil_or_concat l with rfl | ⟨l2,x,rfl⟩
   ·have:l'=[]/\s=e:=by
     have hlen:=congrArg List.length h1
     simp at hlen
     subst hlen
     simp at h1
     exact ⟨rfl,h1⟩
    exact this.2
   ·rw[List.concat_eq_append] at h1 ⊢
    have hx:x=e:=by
     have h2:(s::l2++[x]).getLast?=(l'++[e]).getLast?:=congrArg List.getLast? h1
     rw[List.getLast?_concat,List.getLast?_concat] at h2
     exact Option.some.inj h2
    subst hx
    rw[List.foldl_append]
    show (A3 _ x).2=x
    unfold A3
    simp only
    rw[if_pos zo]
 rw[hv] at q2
 simpa using q2
def L1 (p:List Int) (a b:Int):List Int:=(w4 p).map fun q=>s6 (u9 a b q).1
theorem R9 {p:List Int}:(C6 p).length=p.length-1:=p8
theorem PU {p:List Int} {i:Nat} (h:i<p.length-1):b6 (C6 p) i=b6 p (i+1)*((i:Int)+1):=r5 h
section
variable {p:List Int} (h3:3<=p.length) (h5:p.length<=5) (h1:b6 p (p.length-1)=1) (hs:∀i,(b6 p i).natAbs<=1000)
include h3 h5 h1
theorem PV:I4 p/\I4 (C6 p)/\C6 p≠[]:=by
 refine ⟨mD zo,mD ?_,fun e=>?_⟩
 ·rw[R9,PU zo,show p.length-1-1+1=p.length-1 by omega,h1]; omega
 ·have:=congrArg List.length e
  rw[R9] at this
  simp at this; omega
include hs
theorem eN:(∀i,dl (b6 p i)<=1)/\∀i,dl (b6 (C6 p) i)<=1:=by
 refine ⟨fun i=>O9 (by have:=hs i; have:=h3; have:=h1; simp[BP]; omega),fun i=>?_⟩
 by_cases hi:i<p.length-1
 ·rw[PU hi]
  have h2:(b6 p (i+1)*((i:Int)+1)).natAbs<=1000*5:=M9 (hs _) zo
  exact O9 (by simp[BP]; omega)
 ·rw[v5 (by rw[R9]; omega)]; show dl 0<=1; rw[C5.2 rfl]; omega
theorem CU {j:Nat} (hj:j<(w4 p).length):I4 (b6 (w4 p) j)/\(b6 (w4 p) j).length+j<=p.length/\∀i,dl (b6 (b6 (w4 p) j) i)<=1681:=by
 obtain ⟨t1,t2,t3⟩:=PV h3 h5 h1
 obtain ⟨d1,d2⟩:=eN h3 h5 h1 hs
 have hj':j<(p::C6 p::F9 5 p (C6 p)).length:=hj
 obtain ⟨q1,q2,q3⟩:=oS (f:=5) (A:=1) (B:=1) t1 t2 t3 h5 (by rw[R9]; omega) d1 d2 hj'
 refine ⟨q1,q2,fun i=>Nat.le_trans (q3 i) ?_⟩
 have:j<=5:=by omega
 by_cases h:j=5
 ·have hl:(b6 (p::C6 p::F9 5 p (C6 p)) j)=[]:=List.length_eq_zero_iff.1 zo
  exfalso
  have hn:=(UP (f:=5) (a:=p) (b:=C6 p) (m:=j) (by rw[R9]; omega) t1 t2 t3 h5 (by rw[R9]; omega) zo zo).2 hj'
  exact hn hl
 ·rcases (show j=0\/j=1\/j=2\/j=3\/j=4 by omega) with rfl | rfl | rfl | rfl | rfl<;>decide
omit hs in
theorem IV {m:Nat} (h2:2<=m) (hm:m<=(w4 p).length):against (b6 (w4 p) (m-2)) (b6 (w4 p) (m-1))=(if m<(w4 p).length then b6 (w4 p) m else [])/\(m<(w4 p).length->b6 (w4 p) m≠[]):=by
 obtain ⟨t1,t2,t3⟩:=PV h3 h5 h1
 exact UP (f:=5) (by rw[R9]; omega) t1 t2 t3 h5 (by rw[R9]; omega) h2 hm
omit hs in
theorem OV {m:Nat} (hm:m<(w4 p).length):b6 (w4 p) m≠[]:=by
 obtain ⟨t1,t2,t3⟩:=PV h3 h5 h1
 match m,hm with
 | 0,_=>show p≠[]; intro e; rw[e] at h3; simp at h3
 | 1,_=>exact t3
 | m+2,hm=>exact (IV h3 h5 h1 zo zo).2 hm
theorem bF:(w4 p).length<=5:=by
 refine Classical.byContradiction fun hn=>?_
 have q:=(CU h3 h5 h1 hs (j:=5) zo).2.1
 exact OV h3 h5 h1 (m:=5) zo (List.length_eq_zero_iff.1 zo)
omit hs in
theorem ah6 (hred:¬GP (lP p) (p.length-1)) {lo hi den:Int} (hd:0<den) (hr:((D9 (L1 p lo den)).1:Int)-(D9 (L1 p hi den)).1=1):s6 (z8 p lo den)*s6 (z8 p hi den)<0:=by
 obtain ⟨t1,t2,t3⟩:=PV h3 h5 h1
 have hP1:lP p (p.length-1)=1:=by rw[FR,h1]
 have hbk:P3 (lP p) (lP p) (lP (C6 p)):=by
  refine ⟨1,BA,Q8,0,by decide,fun i hi=>by unfold BA; rw[if_neg zo],fun i hi=>rfl,fun k=>?_⟩
  rw[PC,FH]; unfold Q8; omega
 obtain ⟨e,l,q1,q2,q3,q4,q5⟩:=bG (f:=5) (by rw[R9]; omega) t1 t2 t3 h5 (by rw[R9]; omega) hbk
 obtain ⟨e1,e2⟩:=q2.top q3
 rw[R9] at q4
 have hel:e.length=1:=by
  refine Classical.byContradiction fun hn=>hred (VS zo zo JW hP1 ?_)
  obtain ⟨s,g1,g2,d,s0,dg1,dg2,hs⟩:=q5
  refine ⟨s,lP e,g2,e.length-1,d,s0,by omega,by omega,JW,by rw[FR]; exact e2,dg2,fun k=>?_⟩
  have hn:p7 g1 (lP [])=Q8:=by
   have:lP []=Q8:=by funext i; rw[FR]; rfl
   rw[this,IX,FH]
  rw[hs k,hn,IX (f:=lP e)]
  unfold Q8; omega
 obtain ⟨c,rfl⟩:∃c,e=[c]:=List.length_eq_one_iff.1 hel
 have hc:c≠0:=e2
 have hcv:∀a b:Int,(u9 a b [c]).1=c:=fun a b=>by simp[u9]
 have hhv:∀a:Int,z8 p a den=(u9 a den p).1:=fun a=>(MT (a:=a) (b:=den) (cs:=p)).2.symm
 have hnr:∀a:Int,z8 p a den≠0:=fun a=>iL zo zo JW hP1 hred hd
 have sg1:∀z:Int,s6 z=-1\/s6 z=0\/s6 z=1:=fun z=>by rcases AE z with h | h | h<;>omega
 have sg2:∀z:Int,z≠0->s6 z=-1\/s6 z=1:=fun z hz=>by rcases AE z with h | h | h<;>omega
 have key:∀a:Int,(D9 (L1 p a den)).1%2=0↔s6 c=s6 (z8 p a den):=fun a=>by
  have hsl:L1 p a den=s6 (z8 p a den)::((C6 p::F9 5 p (C6 p)).map fun q=>s6 (u9 a den q).1):=by rw[hhv]; rfl
  rw[hsl]
  refine oV (sg2 _ (hnr a)) (sg2 _ hc) (fun x hx=>?_) (.inr ⟨l.map fun q=>s6 (u9 a den q).1,?_⟩)
  ·obtain ⟨q,_,rfl⟩:=List.mem_map.1 hx
   exact sg1 _
  ·rw[<- hsl]
   unfold L1 w4
   rw[q1,List.map_append,List.map_cons,List.map_nil,hcv]
 have k1:=key lo
 have k2:=key hi
 have a1:=sg2 _ (hnr lo)
 have a2:=sg2 _ (hnr hi)
 have a3:=sg2 _ hc
 have hne:s6 (z8 p lo den)≠s6 (z8 p hi den):=fun e=>by
  rw[e] at k1
  by_cases q:s6 c=s6 (z8 p hi den)
  ·have:=k1.2 q; have:=k2.2 q; omega
  ·have u1:¬(D9 (L1 p lo den)).1%2=0:=fun h=>q (k1.1 h)
   have u2:¬(D9 (L1 p hi den)).1%2=0:=fun h=>q (k2.1 h)
   omega
 rcases a1 with e1 | e1<;>rcases a2 with e2 | e2<;>rw[e1,e2]<;>first | decide | exact absurd (e1.trans e2.symm) hne
end
end Go.Fl

/- Contracts: values of polynomials, divisors. -/
namespace Go.Fl
open Go Go.Proofs
open d5 renaming op->tO
open i9 renaming op->rO
set_option maxRecDepth 100000

open Classical in
noncomputable def PW (n:Int) (q:Int->Bool) (m:Nat):Bool:=if AK n q m then true else false
theorem PX {n:Int} {q:Int->Bool} {m:Nat}:PW n q m=true↔AK n q m:=by unfold PW; split<;>simp_all
theorem uM {n:Int} {q:Int->Bool} {m:Nat} (h:¬AK n q m):PW n q m=false:=if_neg h
theorem uU {n:Int} {q:Int->Bool} {m:Nat} (h:¬AK n q m) (h2:¬((m:Int)∣n/\(q m=true\/q (-(m:Int))=true))):¬AK n q (m+1):=fun ⟨d,h3,h4,h5,h6⟩=>by
 by_cases e:d=m
 ·subst e; exact h2 ⟨h5,h6⟩
 ·exact h ⟨d,h3,by omega,h5,h6⟩
theorem QD {p:List Int} {x:Int} (hp:∀i,(b6 p i).natAbs<=1000) (hx:x.natAbs<=1001) (h5:p.length<=5) {k:Nat} (hk:k<=p.length):-1020000000000000<=X4 p x k/\X4 p x k<=1020000000000000:=by
 have h1:=fE hp hx hk
 have h2:1002 ^ k<=1002 ^ 5:=Nat.pow_le_pow_right zo zo
 have h3:(1002:Nat) ^ 5=1010040080080032:=by decide
 omega
theorem rQ (p:List Int) (x:Int) (h5:p.length<=5) (hs:∀i,(b6 p i).natAbs<=1000) (hx:x.natAbs<=1001):Ct Tryz.prog 211 [b8 (eL eI) p,kI x] (kI (K2 p x)):=by
 refine CtM.mk Tryz.func211 rfl Tryz.ntmps211 rfl (fun w J=>?_); refine g8 ?_; refine jb 3 rfl ?_; refine l6 ?_; refine ja 5 ?_; refine j3 ?_; refine tO (i6 (fun hp=>qH _) (.a rfl uu<|.nil)) rfl rfl ?_; refine i7 ?_
 refine Tr.back (e:=eI) (xs:=p) oK [⟨3,true,_,_⟩,⟨4,true,_,_⟩,⟨5,true,_,_⟩,⟨9,true,_,_⟩] [3,5] (fun k=>[⟨3,[],j5 [kI x]⟩,⟨5,[],j5 [kI (X4 p x k)]⟩]) (fun k=>[⟨3,[],j5 [kI x]⟩,⟨5,[],j5 [kI (X4 p x k)]⟩]) (fun k=>True) (fun k=>False) (d6.mk (.k rfl rfl<|.k rfl rfl<|.k rfl rfl<|.k rfl rfl<|.nil) (.k rfl<|.e (by rw[QE]) rfl<|.nil) rfl) rfl rfl (fun _=>rfl) (fun _=>rfl) (fun _=>inferInstance) (fun _=>inferInstance) rfl zi ?_ ?_ ?_
 ·intro k hk9 hR9 l9 w9 J9 b9 bks9
  refine jn ?_
  have hb1:=QD hs hx h5 (k:=k) zo
  have hb2:=QD hs hx h5 (k:=k+1) zo
  rw[MJ zo] at hb2
  have hb3:=hs (p.length-1-k)
  refine i7 ?_; refine d9.asg (fun w1009 J1009 b1009=>?_); refine jn ?_; refine u5 ?_; exact d9.rnd trivial (d6.mk (zk) (.k rfl<|.e (by rw[MJ zo]) rfl<|.nil) rfl)
 ·intro hE9
  refine je ?_; refine m9 ?_; refine g6.mk ?_; exact g6.res1 (fn:=Tryz.f211) rfl (.i rfl (by rw[fF])<|.nil)
 ·intro k hk9 hX9
  exact absurd hX9 id

theorem cF (n:Int) (f:Int->Bool) (hn:n.natAbs<=1000) (h0:n≠0):Ct Tryz.prog 209 [kI n,FQ Tryz.prog (fun x:Int=>x∣n) (fun x:Int=>[kI x]) (fun x:Int=>kB (f x))] (kB (PW n f (n.natAbs+1))):=by
 refine Ct.mk Tryz.func209 rfl Tryz.ntmps209 rfl (fun w J=>?_); refine y8 ?_
 refine Tr.for1 (σ:=Nat) [⟨0,true,_,_⟩,⟨1,true,_,_⟩] [] (fun k=>[⟨5,true,[],kI (k:Int)⟩]) (fun k=>[]) (fun k=>(1<=k/\k<=n.natAbs+1)/\¬AK n f k) (fun k=>¬AK n f (n.natAbs+1)) (fun k=>n.natAbs+1-k) (1) ⟨by omega,fun ⟨d,h1,h2,_⟩=>by omega⟩ (d6.mk (.i rfl zi<|zk) (.nil) rfl) ?_ ?_
 ·rintro k ⟨hk,hR⟩
  refine jn ?_; refine l3 ?_; refine tO (EM rfl uu (fun _=>zo)) rfl rfl ?_; refine tO (iZ rfl uu rfl uu) rfl rfl ?_; refine i7 ?_; refine jq ?_ ?_
  ·intro h2
   refine j1 ?_; refine tO (EN rfl uu rfl uu (fun _=>zo)) rfl rfl ?_; refine g9 ?_; refine d5.gd rfl rfl rfl (RS (k:Int) rfl id (fun hp=>by simp at hp; exact Int.dvd_of_tmod_eq_zero hp) (.a rfl id<|.nil)) rfl rfl ?_; refine i7 ?_; refine d5.gd rfl rfl rfl (EM rfl id (fun hp=>by simp at hp; omega)) rfl rfl ?_; refine d5.gd rfl rfl rfl (RS (-(k:Int)) rfl id (fun hp=>by have hp:=vJ hp; simp at hp; exact Int.neg_dvd.2 (Int.dvd_of_tmod_eq_zero hp)) (.a rfl id<|.nil)) rfl rfl ?_; refine d5.gd rfl rfl rfl (SJ rfl id rfl (fun hp h=>QJ (id hp) h)) rfl rfl ?_
   refine i7 ?_; refine Tr.cnd rfl ?_ ?_
   ·intro h4
    simp only[Bool.and_eq_true,Bool.or_eq_true,decide_eq_true_eq] at h4
    have hyes:AK n f (n.natAbs+1):=⟨k,hk.1,by omega,Int.dvd_of_tmod_eq_zero h4.1,h4.2⟩
    refine v9 ?_; exact g6.res1 (fn:=Tryz.f209) rfl (.b rfl (PX.2 hyes).symm<|.nil)
   ·intro h4
    have hno:¬((k:Int)∣n/\(f k=true\/f (-(k:Int))=true)):=fun ⟨q1,q2⟩=>by rw[decide_eq_true (Int.tmod_eq_zero_of_dvd q1)] at h4; rcases q2 with q2 | q2<;>simp[q2] at h4
    refine j1 ?_
    exact d9.lp (k+1) ⟨by omega,uU hR hno⟩ zo (d6.mk (.i rfl zi<|zk) (.nil) rfl)
  ·intro h2
   replace h2:=Int.not_le.1 h2
   refine g9 ?_
   exact d9.cut (k) (by have:k=n.natAbs+1:=(by split at h2<;>omega); rw[<- this]; exact hR) (d6.mk (.i rfl zi<|zk) (.nil) rfl)
 ·intro k hE
  refine je ?_; refine j3 ?_; exact g6.res1 (fn:=Tryz.f209) rfl (.b rfl (uM hE).symm<|.nil)

theorem qV (p:List Int) (x:Int) (h5:p.length<=5) (hs:∀i,(b6 p i).natAbs<=1000) (hx:x.natAbs<=1001):Ct Tryz.prog 210 [kI x,r7 (eL eI) p] (kB (decide (K2 p x=0))):=by
 refine Ct.mk Tryz.func210 rfl Tryz.ntmps210 rfl (fun w J=>?_); refine m9 ?_; refine jc (rQ p x h5 hs hx) ?_; refine l6 ?_
 exact g6.res1 (fn:=Tryz.f210) rfl (.b rfl zi<|.nil)

theorem qW (p:List Int) (b:Int) (h5:p.length=5) (hs:∀i,(b6 p i).natAbs<=1000) (h0:b6 p 0≠0) (hb:b∣b6 p 0):Ct Tryz.prog 212 [kI b,r7 (eL eI) p] (kB (CI p b)):=by
 obtain ⟨d,hd⟩:=hb
 have hb0:b≠0:=fun e=>h0 (by rw[hd,e,Int.zero_mul])
 have hd0:d≠0:=fun e=>h0 (by rw[hd,e,Int.mul_zero])
 have hs0:=hs 0
 have hs1:=hs 1
 have hs2:=hs 2
 have hs3:=hs 3
 have hbb:=(JI (⟨d,hd⟩:b∣b6 p 0) h0).2
 have hdd:=(JI (⟨b,by rw[hd,Int.mul_comm]⟩:d∣b6 p 0) h0).2
 have hq:(b6 p 0).tdiv b=d:=by rw[hd,Int.mul_tdiv_cancel_left _ hb0]
 have hm3:(b*b6 p 3).natAbs<=1000*1000:=M9 zo zo
 refine Ct.mk Tryz.func212 rfl Tryz.ntmps212 rfl (fun w J=>?_); refine j1 ?_; refine tO (F6 (i:=0) rfl uu rfl uu rfl (fun _=>zo)) rfl rfl ?_; refine g8 ?_; refine tO (CC rfl uu rfl uu (fun _=>zo)) rfl rfl ?_
 rw[hq]
 refine y8 ?_; refine jq ?_ ?_
 ·intro h2
  have hne:d-b≠0:=by omega
  have hAb:((b6 p 1-b*b6 p 3).tdiv (d-b)).natAbs<=1001000:=by rw[Int.natAbs_tdiv]; exact Nat.le_trans (Nat.div_le_self _ _) zo
  have hAm:(((b6 p 1-b*b6 p 3).tdiv (d-b))*(b6 p 3-((b6 p 1-b*b6 p 3).tdiv (d-b)))).natAbs<=1001000*1002000:=M9 hAb zo
  have hqn:=aa2 hb0 hd hne
  refine i5 ?_; refine Tr.draw 8 o0 (by kernel_rfl) ?_; refine i5 ?_; refine rO (F6 (i:=1) rfl uu rfl uu rfl (fun _=>zo)) rfl rfl ?_; refine i7 ?_; refine rO (F6 (i:=3) rfl uu rfl uu rfl (fun _=>zo)) rfl rfl ?_; refine B3 ?_; refine tO (CC rfl uu rfl uu (fun _=>zo)) rfl rfl ?_; refine g9 ?_; refine Tr.draw 21 o0 (by kernel_rfl) ?_; refine g9 ?_; refine rO (EN rfl uu rfl uu (fun _=>zo)) rfl rfl ?_; refine g9 ?_; refine i9.gd rfl rfl rfl (HM rfl id rfl id (fun hp=>by simp at hp; omega)) rfl rfl ?_; refine g8 ?_
  refine i9.gd rfl rfl rfl (F6 (i:=3) rfl id rfl uu rfl (fun _=>zo)) rfl rfl ?_; refine g8 ?_; refine i9.gd rfl rfl rfl (AZ rfl id rfl id (fun hp=>by simp at hp; omega)) rfl rfl ?_; refine i9.gd rfl rfl rfl (EL rfl id rfl id (fun hp=>by simp at hp; omega)) rfl rfl ?_; refine i9.gd rfl rfl rfl (HM rfl id rfl id (fun hp=>by simp at hp; omega)) rfl rfl ?_; refine i5 ?_; refine i9.gd rfl rfl rfl (F6 (i:=2) rfl id rfl uu rfl (fun _=>zo)) rfl rfl ?_; refine m9 ?_; exact g6.res1 (fn:=Tryz.f212) rfl (.b rfl (by rw[hqn])<|.nil)
 ·intro h2
  replace h2:=Classical.not_not.1 h2
  have hdb:d=b:=by omega
  subst hdb
  refine g9 ?_; refine Tr.draw 8 o0 (by kernel_rfl) ?_; refine i5 ?_; refine rO (F6 (i:=1) rfl uu rfl uu rfl (fun _=>zo)) rfl rfl ?_; refine i7 ?_; refine rO (F6 (i:=3) rfl uu rfl uu rfl (fun _=>zo)) rfl rfl ?_; refine l3 ?_; refine jq ?_ ?_
  ·intro h6
   have hcase:b6 p 1≠d*b6 p 3:=h6
   refine j3 ?_; exact g6.res1 (fn:=Tryz.f212) rfl (.b rfl (by rw[zZ hb0 hd hcase])<|.nil)
  ·intro h6
   replace h6:=Classical.not_not.1 h6
   have hcase:b6 p 1=d*b6 p 3:=by omega
   refine j1 ?_
   refine Tr.for1 (σ:=Nat) [⟨0,true,_,_⟩,⟨1,true,_,_⟩] [] (fun k=>[⟨7,true,[],kI ((k:Int)-3000)⟩]) (fun k=>[]) (fun k=>k<=6001/\∀j:Nat,j<k->((j:Int)-3000)*((j:Int)-3000)-b6 p 3*((j:Int)-3000)+b6 p 2-2*d≠0) (fun k=>∀j:Nat,j<6001->((j:Int)-3000)*((j:Int)-3000)-b6 p 3*((j:Int)-3000)+b6 p 2-2*d≠0) (fun k=>6001-k) (0) ⟨by omega,fun j h=>absurd h (Nat.not_lt_zero _)⟩ (d6.mk (.i rfl zi<|zk) (.nil) rfl) ?_ ?_
   ·rintro k ⟨hk,hR⟩
    refine jn ?_
    have m1:(((k:Int)-3000)*((k:Int)-3000)).natAbs<=3002*3002:=M9 zo zo
    have m2:(b6 p 3*((k:Int)-3000)).natAbs<=1000*3002:=M9 zo zo
    refine j3 ?_; refine jq ?_ ?_
    ·intro h9
     refine l6 ?_; refine Tr.draw 15 o0 (by kernel_rfl) ?_; refine g9 ?_; refine rO (F6 (i:=3) rfl uu rfl uu rfl (fun _=>zo)) rfl rfl ?_; refine l6 ?_; refine rO (F6 (i:=2) rfl uu rfl uu rfl (fun _=>zo)) rfl rfl ?_; refine m9 ?_; refine jq ?_ ?_
     ·intro h11
      have hyes:=aa0 hd hcase (a:=(k:Int)-3000) zo
      refine v9 ?_; exact g6.res1 (fn:=Tryz.f212) rfl (.b rfl (by rw[hyes])<|.nil)
     ·intro h11
      have hno:((k:Int)-3000)*((k:Int)-3000)-b6 p 3*((k:Int)-3000)+b6 p 2-2*d≠0:=by omega
      refine j1 ?_
      exact d9.lp (k+1) ⟨by omega,fun j hj=>by by_cases e:j=k; (subst e; exact hno); exact hR j zo⟩ zo (d6.mk (.i rfl zi<|zk) (.nil) rfl)
    ·intro h9
     replace h9:=Int.not_le.1 h9
     refine g9 ?_
     exact d9.cut (k) (fun j hj=>hR j zo) (d6.mk (.i rfl zi<|zk) (.nil) rfl)
   ·intro k hE
    refine je ?_; refine j3 ?_; exact g6.res1 (fn:=Tryz.f212) rfl (.b rfl (by rw[aa3 hb0 hd hs0 hs2 hs3 (fun a h1 h2=>by have:=hE (a+3000).toNat zo; rw[show (((a+3000).toNat:Nat):Int)-3000=a by omega] at this; exact this)])<|.nil)

theorem qU (p:List Int) (h2:2<=p.length) (h5:p.length<=5) (hs:∀i,(b6 p i).natAbs<=1000):Ct Tryz.prog 188 [b8 (eL eI) p] (kB (Y3 p)):=by
 have hs0:=hs 0
 refine Ct.mk Tryz.func188 rfl Tryz.ntmps188 rfl (fun w J=>?_); refine g8 ?_; refine jb 1 rfl ?_; refine g9 ?_; refine Tr.frzB 1 [1] (eL eI) ⟨rfl,trivial⟩ rfl ?_; refine jn ?_; refine Z2 ?_; refine Tr.cnd rfl ?_ ?_
 ·intro h2
  try simp only[decide_eq_true_eq] at h2
  have hr:=KO (p:=p) (fun e=>e.1 zo)
  refine j1 ?_; exact g6.res1 (fn:=Tryz.f188) rfl (.b rfl (by rw[hr])<|.nil)
 ·intro h2
  try simp only[decide_eq_false_iff_not] at h2
  have hl3:3<=p.length:=by omega
  refine i7 ?_; refine tO (F6 (i:=0) rfl uu rfl uu rfl (fun _=>zo)) rfl rfl ?_; refine l6 ?_; refine Tr.cnd rfl ?_ ?_
  ·intro h4
   try simp only[decide_eq_true_eq] at h4
   have hr:=KP (p:=p) ⟨by omega,.inl ⟨0,by rw[YY zo]; exact h4⟩⟩
   refine j1 ?_; exact g6.res1 (fn:=Tryz.f188) rfl (.b rfl (by rw[hr])<|.nil)
  ·intro h4
   try simp only[decide_eq_false_iff_not] at h4
   have hp0:b6 p 0≠0:=h4
   have hrp:=ab8 hl3 hp0
   refine i7 ?_; refine tO (F6 (i:=0) rfl uu rfl uu rfl (fun _=>zo)) rfl rfl ?_; refine i5 ?_; refine tO (EK (.cons rfl uu<|.nil)) rfl rfl ?_; refine tO (i6 (fun hp=>cF (b6 p 0) (fun d=>decide (K2 p d=0)) hs0 hp0) (.a rfl uu<|.cons rfl uu (fun g u h=>JR (fun a ha=>qV p a h5 hs (by have:=(JI ha hp0).2; omega)) g u h)<|.nil)) rfl rfl ?_; refine i7 ?_; refine Tr.cnd rfl ?_ ?_
   ·intro h6
    have hr:=KP (hrp.2 (.inl (PX.1 h6)))
    refine j1 ?_; exact g6.res1 (fn:=Tryz.f188) rfl (.b rfl (by rw[hr])<|.nil)
   ·intro h6
    have hn6:¬AK (b6 p 0) (fun d=>decide (K2 p d=0)) ((b6 p 0).natAbs+1):=fun e=>by rw[PX.2 e] at h6; cases h6
    refine j3 ?_; refine Tr.cnd rfl ?_ ?_
    ·intro h8
     try simp only[decide_eq_true_eq] at h8
     have hr:=KO (fun e=>(hrp.1 e).elim hn6 (fun e=>by omega))
     refine j1 ?_; exact g6.res1 (fn:=Tryz.f188) rfl (.b rfl (by rw[hr])<|.nil)
    ·intro h8
     try simp only[decide_eq_false_iff_not,Int.not_lt] at h8
     have hl5:p.length=5:=by omega
     refine l3 ?_; refine tO (F6 (i:=0) rfl uu rfl uu rfl (fun _=>zo)) rfl rfl ?_; refine i5 ?_; refine tO (EK (.cons rfl uu<|.nil)) rfl rfl ?_; refine tO (i6 (fun hp=>cF (b6 p 0) (CI p) hs0 hp0) (.a rfl uu<|.cons rfl uu (fun g u h=>JR (fun a ha=>qW p a hl5 hs hp0 ha) g u h)<|.nil)) rfl rfl ?_; refine g9 ?_; exact g6.res1 (fn:=Tryz.f188) rfl (.b rfl (by rw[Bool.eq_iff_iff,PX]; constructor; (intro e; exact KP (hrp.2 (.inr ⟨hl5,e⟩))); (intro e; by_cases e2:DO p; (exact ((hrp.1 e2).resolve_left hn6).2); (rw[KO e2] at e; cases e)))<|.nil)

end Go.Fl

/- Contracts: derivatives and remainders of polynomials. -/
namespace Go.Fl
open Go Go.Proofs
open d5 renaming op->tO
open i9 renaming op->rO
set_option maxRecDepth 100000

theorem eQ {p:List Int} {k:Nat} (h1:1<=k) (hk:k<p.length):(C6 p).take (k-1)++[b6 p k*(k:Int)]=(C6 p).take k:=by
 obtain ⟨j,rfl⟩:∃j,k=j+1:=⟨k-1,by omega⟩
 rw[Nat.add_sub_cancel,W8 (xs:=C6 p) (by rw[R9]; omega),PU zo]
 congr 3
def I6 (q ys:List Int) (m k:Nat):List Int:=j8 ys.length fun i=>if i<k then b6 (G2 q (ys.take m)) i else b6 ys i
theorem OL {q ys:List Int} {m k:Nat}:(I6 q ys m k).length=ys.length:=p8
theorem oA {q ys:List Int} {m:Nat}:ys=I6 q ys m 0:=by
 conv=>lhs; rw[U5 (rfl:ys.length=ys.length)]
 exact B5 fun i _=>(if_neg (Nat.not_lt_zero _)).symm
theorem nY {q ys:List Int} {m k:Nat} (hk:k<ys.length):b6 (I6 q ys m k) k=b6 ys k:=by unfold I6; rw[r5 hk,if_neg (Nat.lt_irrefl _)]
theorem aR {q ys:List Int} {m k:Nat} {x:Int} (hx:x=b6 (G2 q (ys.take m)) k):(I6 q ys m k).set k x=I6 q ys m (k+1):=by
 subst hx
 unfold I6
 rw[GE]
 refine B5 fun i _=>?_
 by_cases e:i=k
 ·subst e; rw[if_pos rfl,if_pos zo]
 ·rw[if_neg e]
  by_cases h:i<k
  ·rw[if_pos h,if_pos zo]
  ·rw[if_neg h,if_neg zo]
theorem nZ {q ys:List Int} {m k:Nat} {x y:Int} (hx:x=b6 (G2 q (ys.take m)) k):((I6 q ys m k).set k y).set k x=I6 q ys m (k+1):=by
 rw[List.set_set]; exact aR hx
theorem IS {q ys:List Int} {m:Nat} (hm:m<=ys.length):(I6 q ys m m).take m=G2 q (ys.take m):=by
 have hl:(ys.take m).length=m:=by rw[List.length_take]; omega
 have h1:((I6 q ys m m).take m).length=m:=by rw[List.length_take,OL]; omega
 refine D6 (by rw[h1,GU,hl]) fun i hi=>?_
 rw[h1] at hi
 rw[M3 hi]
 unfold I6
 rw[r5 zo,if_pos hi]
theorem aS {q ys:List Int} {m k:Nat} (hm:m<=ys.length) (hk:k<m):b6 (G2 q (ys.take m)) k=b6 ys k*(b6 q (q.length-1)*b6 q (q.length-1))+(if m-q.length<=k then -(b6 ys (m-1)*b6 q (q.length-1)*b6 q (k-(m-q.length))) else 0):=by
 have hl:(ys.take m).length=m:=by rw[List.length_take]; omega
 unfold G2
 rw[hl,r5 hk,M3 hk,M3 (show m-1<m by omega)]
theorem oE {q ys:List Int} {m:Nat} (hm:m<=ys.length):(I6 q ys m m).take (j6 ((I6 q ys m m).take m)).length=G1 q (ys.take m):=by
 rw[IS hm]
 have h1:(j6 (G2 q (ys.take m))).length<=m:=by
  have:=T3 (xs:=G2 q (ys.take m))
  rw[GU,List.length_take] at this
  omega
 have h2:=IA (xs:=G2 q (ys.take m))
 rw[<- IS hm,List.take_take,Nat.min_eq_left (by rw[IS hm]; exact h1),IS hm] at h2
 exact h2
theorem dX {ys:List Int} {m j:Nat} (hm:m<=ys.length) (hj:j<=m) (hR:∀i,j<=i->i<m->b6 ys i=0) (hnz:¬(0<j/\b6 ys (j-1)=0)):(j6 (ys.take m)).length=j:=by
 have hlm:(ys.take m).length=m:=by rw[List.length_take]; omega
 have:=GF (xs:=ys.take m) (m:=j) zo (fun i h1 h2=>by rw[M3 zo]; exact hR i h1 zo) (by
  by_cases e:j=0
  ·exact .inl e
  ·exact .inr (by rw[M3 zo]; exact fun e2=>hnz ⟨by omega,e2⟩))
 rw[this,List.length_take,List.length_take]; omega
theorem oD {p q ys:List Int} {m A B:Nat} (hq1:1<=q.length) (hyl:ys.length=p.length) (hm:m<=p.length) (hqm:q.length<=m) (hag:B7 q m (ys.take m)=B7 q p.length p) (hyb:∀i,i<m->dl (b6 ys i)<=A+(p.length-m)*(2*B+1)) (hB:∀i,dl (b6 q i)<=B) :
  (I6 q ys m m).length=p.length/\(G1 q (ys.take m)).length<=p.length/\B7 q (G1 q (ys.take m)).length ((I6 q ys m m).take (G1 q (ys.take m)).length)=B7 q p.length p/\∀i,i<(G1 q (ys.take m)).length->dl (b6 (I6 q ys m m) i)<=A+(p.length-(G1 q (ys.take m)).length)*(2*B+1):=by
 have htl:(ys.take m).length=m:=by rw[List.length_take]; omega
 have h1:=FD hq1 (r:=ys.take m) zo
 have h2:=oE (q:=q) (ys:=ys) (m:=m) zo
 rw[IS zo] at h2
 have h2':(I6 q ys m m).take (G1 q (ys.take m)).length=G1 q (ys.take m):=h2
 refine ⟨by rw[OL,hyl],by omega,?_,fun i hi=>?_⟩
 ·rw[h2',<- hag]
  have:=aQ hq1 (r:=ys.take m) zo
  rw[htl] at this
  exact this.symm
 ·have e:b6 (I6 q ys m m) i=b6 (G2 q (ys.take m)) i:=by unfold I6; rw[r5 zo,if_pos zo]
  rw[e]
  have q1:=OM (q:=q) (r:=ys.take m) (X:=A+(p.length-m)*(2*B+1)) (fun j=>by
   by_cases hj:j<m
   ·rw[M3 hj]; exact hyb j hj
   ·rw[v5 (by rw[htl]; omega)]; show dl 0<=_; rw[C5.2 rfl]; omega) hB i
  have q2:=Nat.mul_le_mul_right (2*B+1) (show p.length-m+1<=p.length-(G1 q (ys.take m)).length by omega)
  rw[Nat.succ_mul] at q2
  omega
def Z4 (ys:List Int) (k:Nat):List Int:=j8 ys.length fun i=>if i<k then -b6 ys i else b6 ys i
theorem xY {ys:List Int}:ys=Z4 ys 0:=by
 conv=>lhs; rw[U5 (rfl:ys.length=ys.length)]
 exact B5 fun i _=>(if_neg (Nat.not_lt_zero _)).symm
theorem xV {ys:List Int} {k:Nat} (hk:k<ys.length):b6 (Z4 ys k) k=b6 ys k:=by unfold Z4; rw[r5 hk,if_neg (Nat.lt_irrefl _)]
theorem xW {ys:List Int} {k:Nat} (hk:k<ys.length):(Z4 ys k).set k (-b6 (Z4 ys k) k)=Z4 ys (k+1):=by
 rw[xV hk]
 unfold Z4
 rw[GE]
 refine B5 fun i _=>?_
 by_cases e:i=k
 ·subst e; rw[if_pos rfl,if_pos zo]
 ·rw[if_neg e]
  by_cases h:i<k
  ·rw[if_pos h,if_pos zo]
  ·rw[if_neg h,if_neg zo]
theorem xX {ys:List Int} {m:Nat} (hm:m<=ys.length):(Z4 ys m).take m=(ys.take m).map fun z=>-z:=by
 have hl:(ys.take m).length=m:=by rw[List.length_take]; omega
 have h1:((Z4 ys m).take m).length=m:=by rw[List.length_take]; unfold Z4; rw[p8]; omega
 refine D6 (by rw[h1,List.length_map,hl]) fun i hi=>?_
 rw[h1] at hi
 rw[M3 hi,AW,M3 hi]
 unfold Z4
 rw[r5 zo,if_pos hi]
theorem rJ (p:List Int) (h2:2<=p.length) (h5:p.length<=5) (hd:∀i,dl (b6 p i)<=1):Ct Tryz.prog 221 [b8 (eL eZ) p] (b8 (eL eZ) (C6 p)):=by
 refine Ct.mk Tryz.func221 rfl Tryz.ntmps221 rfl (fun w J=>?_); refine FP ?_; refine Tr.grow (s:=3) rfl rfl 33 rfl 160 eZ rfl ?_
 refine Tr.for1 (σ:=Nat) [⟨6,true,_,_⟩,⟨7,true,_,_⟩] [] (fun k=>[⟨3,true,[33],o9 33 (k-1)⟩,⟨8,true,[],kI (k:Int)⟩]) (fun k=>[⟨33,[],l5 true 160 eZ ((C6 p).take (k-1)) (k-1)⟩]) (fun k=>k<=p.length) (fun k=>k=p.length) (fun k=>p.length-k) (0) zi (d6.mk (.o rfl zi rfl<|.i rfl zi<|zk) (.a (by rfl) zi<|.nil) rfl) ?_ ?_
 ·intro k hR0
  refine jn ?_
  have hdk:=hd k
  refine l3 ?_; refine jq ?_ ?_
  ·intro h3
   refine m9 ?_; refine ja 5 ?_; refine u5 ?_; refine jq ?_ ?_
   ·intro h5
    refine Tr.draw 6 o0 (by kernel_rfl) ?_; refine i7 ?_; refine jd (Q2 (k:Int) zo) ?_; refine jd (L7 (b6 p k) (k:Int) zo (by have:=K1 (F:=(k:Int)) zo zo; omega)) ?_; refine i9.new (y7 eZ 20 (fun hp=>.cons rfl<|.nil) rfl rfl rfl rfl) rfl rfl rfl rfl ?_; refine g8 ?_; refine jl ?_; refine j1 ?_
    exact d9.lp (k+1) zi zo (d6.mk (.o rfl (by simp only[List.length_cons,List.length_nil]; omega) rfl<|.i rfl zi<|zk) (.a (by rw[eQ zo zo,Nat.add_sub_cancel]) (by simp only[List.length_cons,List.length_nil]; omega)<|.nil) rfl)
   ·intro h5
    replace h5:=Int.not_lt.1 h5
    refine j3 ?_
    exact d9.lp (k+1) zi zo (d6.mk (.o rfl zo rfl<|.i rfl zi<|zk) (.a (by rw[show k=0 by omega]) zo<|.nil) rfl)
  ·intro h3
   replace h3:=Int.not_lt.1 h3
   refine g9 ?_
   exact d9.cut (k) zo (d6.mk (.o rfl zi rfl<|.i rfl zi<|zk) (zk) rfl)
 ·rintro k hkn
  refine je ?_
  have htk:(C6 p).take (k-1)=C6 p:=List.take_of_length_le (by rw[R9]; omega)
  refine j3 ?_; refine Tr.frz 33 [2] ⟨rfl,trivial⟩ (by simp only[p9]; omega) rfl ?_; refine i5 ?_; exact g6.res1 (fn:=Tryz.f221) rfl (.r rfl (by rw[htk])<|.nil)

theorem rI (ys:List Int) (m L:Nat) (hl:ys.length=L) (hm:m<=L) (hL:L<=1000000):LE Tryz.prog 228 [C7 0 2 0 m] (l5 false 160 eZ ys L) (l5 false 160 eZ ys L) (C7 0 2 0 (j6 (ys.take m)).length):=by
 refine LE.mk Tryz.func228 rfl Tryz.ntmps228 rfl rfl (fun w J bb cap=>?_); refine jn ?_; refine l6 ?_
 refine Tr.for (σ:=Nat) [⟨522,true,_,_⟩] [⟨0,_,_⟩] (fun j=>[⟨0,true,[0],C7 0 2 0 j⟩]) (fun j=>[]) (fun j=>j<=m/\∀i,j<=i->i<m->b6 ys i=0) (fun j=>(j6 (ys.take m)).length=j) (fun j=>j) (m) ⟨Nat.le_refl _,fun i h1 h2=>by omega⟩ (d6.mk (.q rfl zi zi rfl<|zk) (zk) rfl) ?_ ?_
 ·rintro j ⟨hj,hR⟩
  refine jn ?_; refine g9 ?_; refine tO (Z6 rfl uu) rfl rfl ?_; refine g9 ?_; refine d5.gd rfl rfl rfl (Z6 rfl id) rfl rfl ?_; refine d5.gd rfl rfl rfl (AZ rfl id rfl uu (fun hp=>by simp at hp; omega)) rfl rfl ?_; refine d5.gd rfl rfl rfl (CA L rfl id rfl id (fun hp=>by simp at hp; omega)) rfl rfl ?_; refine d5.gd rfl rfl rfl (X8 rfl id rfl rfl rfl rfl) rfl rfl ?_; refine d5.gd rfl rfl rfl (i6 (fun hp=>BQ (b6 ys (0+((j:Int)-1).toNat))) (.a rfl id<|.nil)) rfl rfl ?_; refine g9 ?_; refine Tr.cnd rfl ?_ ?_
  ·intro h1
   try simp only[decide_eq_true_eq,Bool.and_eq_true] at h1
   have hz:0<j/\b6 ys (j-1)=0:=⟨by omega,by have:=R8.1 h1.2; rwa [show 0+((j:Int)-1).toNat=j-1 by omega] at this⟩
   refine l3 ?_; refine tO (Z6 rfl uu) rfl rfl ?_; refine i5 ?_; refine tO (jC rfl uu rfl uu (fun _=>zo)) rfl rfl ?_; refine i7 ?_; exact d9.lp (j-1) ⟨by omega,fun i h1 h2=>by by_cases e:i=j-1; (rw[e]; exact hz.2); exact hR i zo h2⟩ zo (d6.mk (.q rfl rfl zo rfl<|zk) (zk) rfl)
  ·intro h1
   try simp only[decide_eq_true_eq,decide_eq_false_iff_not,Bool.and_eq_false_imp] at h1
   have hnz:¬(0<j/\b6 ys (j-1)=0):=fun ⟨q1,q2⟩=>h1 zo (R8.2 (by rw[show 0+((j:Int)-1).toNat=j-1 by omega]; exact q2))
   refine g9 ?_
   exact d9.cut (j) (dX zo hj hR hnz) (d6.mk (.q rfl zi zi rfl<|zk) (zk) rfl)
 ·intro j hE
  refine jn ?_; refine j3 ?_; exact g6.loanR (fn:=Tryz.f228) (s:=522) (t:=2) rfl rfl rfl (fun _ _ h=>UL rfl h) (fun _ _ hm h=>jF hm ((by rw[hE]; exact h)))

theorem qL (p:List Int) (hn:p.length<=1000000):U9 Tryz.prog 227 [b8 (eL eZ) p] (fun t=>o9 t p.length) (l5 false 160 eZ p p.length):=by
 refine U9.mk Tryz.func227 rfl Tryz.ntmps227 rfl (fun w J=>?_); refine m9 ?_; refine tO (ND rfl uu) rfl rfl ?_; refine g8 ?_; refine Tr.exB (s:=4) rfl (fun b1 q1=>?_); refine Tr.cnd rfl ?_ ?_
 ·intro h1
  have he1:[]=p:=(q1 h1).symm
  have he2:0=p.length:=by rw[<- he1]; rfl
  refine l6 ?_; refine Tr.grow (s:=2) rfl rfl 9 rfl 160 eZ rfl ?_; refine g8 ?_
  exact g6.resN (fn:=Tryz.f227) (u:=9) rfl rfl (GY zi zi) (HO zi) inferInstance
 ·intro h1
  refine g9 ?_; refine d5.new (AX eZ 5) rfl rfl rfl rfl ?_; refine g8 ?_; refine jl ?_; refine g9 ?_
  exact g6.resN (fn:=Tryz.f227) (u:=5) rfl rfl (GY zi zi) (HO zi) inferInstance

set_option maxHeartbeats 2000000 in
theorem rG (p q:List Int) (A B:Nat) (hp1:1<=p.length) (h5:p.length<=5) (hq1:1<=q.length) (hq5:q.length<=5) (hA:∀i,dl (b6 p i)<=A) (hB:∀i,dl (b6 q i)<=B) (hA2:A<=10000) (hB2:B<=10000):Ct Tryz.prog 222 [b8 (eL eZ) p,b8 (eL eZ) q] (b8 (eL eZ) (against p q)):=by
 have hqt:((q.length:Int)-1).toNat=q.length-1:=by omega
 have hBt:=hB (q.length-1)
 have hBt2:=s7 (b6 q (q.length-1)) (b6 q (q.length-1))
 refine Ct.mk Tryz.func222 rfl Tryz.ntmps222 rfl (fun w J=>?_); refine j1 ?_; refine d5.new (EJ 13 (fun hp=>qL _ zo) (.a rfl uu<|.nil)) rfl rfl rfl rfl ?_; refine u5 ?_
 rw[hqt]
 refine i5 ?_; refine ja 6 ?_; refine j3 ?_; refine jc (L7 (b6 q (q.length-1)) (b6 q (q.length-1)) zo zo) ?_; refine ja 7 ?_; refine i7 ?_; refine Tr.osq 5 2 rfl zo ?_
 refine Tr.for (σ:=List Int×Nat) [⟨1,true,_,_⟩,⟨6,true,_,_⟩,⟨7,true,_,_⟩] [⟨6,_,_⟩,⟨7,_,_⟩] (fun (ys,m)=>[⟨5,true,[13],C7 13 2 0 m⟩]) (fun (ys,m)=>[⟨13,[],l5 false 160 eZ ys p.length⟩]) (fun (ys,m)=>ys.length=p.length/\m<=p.length/\B7 q m (ys.take m)=B7 q p.length p/\∀i,i<m->dl (b6 ys i)<=A+(p.length-m)*(2*B+1)) (fun (ys,m)=>ys.length=p.length/\m<=p.length/\ys.take m=B7 q p.length p) (fun (ys,m)=>m) ((p,p.length)) ⟨rfl,Nat.le_refl _,by rw[List.take_length],fun i _=>by have:=hA i; omega⟩ (d6.mk (.q rfl zi zi rfl<|zk) (zk) rfl) ?_ ?_
 ·rintro ⟨ys,m⟩ ⟨hyl,hm,hag,hyb⟩
  refine jn ?_
  have htl:(ys.take m).length=m:=by rw[List.length_take]; omega
  have hmB:(p.length-m)*(2*B+1)<=5*20001:=Nat.mul_le_mul zo zo
  refine g9 ?_; refine tO (Z6 rfl uu) rfl rfl ?_; refine l6 ?_; refine jq ?_ ?_
  ·intro h4
   refine g9 ?_; refine Tr.draw 9 o0 (by kernel_rfl) ?_; refine g8 ?_; refine rO (Z6 rfl uu) rfl rfl ?_; refine i5 ?_; refine rO (CA p.length rfl uu rfl uu (fun _=>zo)) rfl rfl ?_; refine rO (X8 rfl uu rfl rfl rfl rfl) rfl rfl ?_; refine i5 ?_; refine jd (L7 (b6 ys (0+((m:Int)-1).toNat)) (b6 q (q.length-1)) (by have h:=hyb (m-1) zo; rw[show 0+((m:Int)-1).toNat=m-1 by omega]; omega) zo) ?_; refine i9.new (KE 8) rfl rfl rfl rfl ?_; refine j3 ?_; refine tO (Z6 rfl uu) rfl rfl ?_; refine u5 ?_
   refine tO (Z6 rfl uu) rfl rfl ?_; refine i7 ?_
   refine Tr.for1 (σ:=Nat) [⟨1,true,_,_⟩,⟨5,true,_,_⟩,⟨6,true,_,_⟩,⟨7,true,_,_⟩,⟨8,true,_,_⟩,⟨9,true,_,_⟩,⟨42,true,_,_⟩] [⟨6,_,_⟩,⟨7,_,_⟩,⟨8,_,_⟩] (fun k=>[⟨43,true,[],kI (k:Int)⟩]) (fun k=>[⟨13,[],l5 false 160 eZ (I6 q ys m k) p.length⟩]) (fun k=>k<=m) (fun k=>k=m) (fun k=>m-k) (0) zi (d6.mk (.i rfl zi<|zk) (.a oA zi<|zk) rfl) ?_ ?_
   ·intro k hR1
    refine jn ?_
    have hyk:=fun (h:k<m)=>hyb k h
    have hat:=fun (h:k<ys.length)=>nY (q:=q) (ys:=ys) (m:=m) h
    have hst:=fun (h:k<m) (x:Int)=>(show b6 ((I6 q ys m k).set k x) k=x by rw[N6 (by rw[OL]; omega),if_pos rfl])
    refine l3 ?_; refine jq ?_ ?_
    ·intro h8
     refine y8 ?_; refine Tr.draw 8 o0 (by kernel_rfl) ?_; refine g9 ?_; refine rO (CA p.length rfl uu rfl uu (fun _=>zo)) rfl rfl ?_; refine rO (X8 rfl uu rfl rfl rfl rfl) rfl rfl ?_; refine i5 ?_; refine jd (L7 (b6 (I6 q ys m k) (0+(k:Int).toNat)) ((b6 q (q.length-1))*(b6 q (q.length-1))) (by rw[show 0+(k:Int).toNat=k by omega,hat zo]; have:=hyk zo; omega) zo) ?_; refine i5 ?_; refine tO (CA p.length rfl uu rfl uu (fun _=>zo)) rfl rfl ?_; refine u5 ?_; refine jq ?_ ?_
     ·intro h11
      refine Tr.draw 16 o0 (by kernel_rfl) ?_; refine g9 ?_; refine rO (CA p.length rfl uu rfl uu (fun _=>zo)) rfl rfl ?_; refine rO (X8 rfl uu rfl rfl rfl rfl) rfl rfl ?_; refine j3 ?_; refine rO (i6 (fun hp=>L7 (b6 ys (0+((m:Int)-1).toNat)*(b6 q (q.length-1))) (b6 q ((k:Int)-((m:Int)-(q.length:Int))).toNat) (by have h:=hyb (m-1) zo; rw[show 0+((m:Int)-1).toNat=m-1 by omega]; have h2:=s7 (b6 ys (m-1)) (b6 q (q.length-1)); omega) (Nat.le_trans (hB _) zo)) (.se rfl uu rfl rfl<|.a rfl uu<|.nil)) rfl rfl ?_
      refine jd (DX (b6 ys (0+((m:Int)-1).toNat)*(b6 q (q.length-1))*b6 q ((k:Int)-((m:Int)-(q.length:Int))).toNat)) ?_; refine rO (i6 (fun hp=>X3 _ _ (by rw[show 0+(k:Int).toNat=k by omega,hst zo,hat zo]; have:=hyk zo; have h2:=s7 (b6 ys k) (b6 q (q.length-1)*b6 q (q.length-1)); omega) (by rw[K6,show 0+((m:Int)-1).toNat=m-1 by omega]; have h:=hyb (m-1) zo; have h2:=s7 (b6 ys (m-1)) (b6 q (q.length-1)); have h3:=s7 (b6 ys (m-1)*b6 q (q.length-1)) (b6 q ((k:Int)-((m:Int)-(q.length:Int))).toNat); have h4:=hB ((k:Int)-((m:Int)-(q.length:Int))).toNat; omega)) (.a rfl uu<|.a rfl uu<|.nil)) rfl rfl ?_
      refine i5 ?_; refine tO (CA p.length rfl uu rfl uu (fun _=>zo)) rfl rfl ?_; refine j1 ?_
      exact d9.lp (k+1) zi zo (d6.mk (.i rfl zi<|zk) (.a (by rw[show 0+(k:Int).toNat=k by omega,hst zo,hat zo,show 0+((m:Int)-1).toNat=m-1 by omega,show ((k:Int)-((m:Int)-(q.length:Int))).toNat=k-(m-q.length) by omega]; exact nZ (by rw[aS zo zo,if_pos zo])) zi<|zk) rfl)
     ·intro h11
      replace h11:=Int.not_le.1 h11
      refine j3 ?_
      exact d9.lp (k+1) zi zo (d6.mk (.i rfl zi<|zk) (.a (by rw[show 0+(k:Int).toNat=k by omega,hat zo]; exact aR (by rw[aS zo zo,if_neg zo,Int.add_zero])) zi<|zk) rfl)
    ·intro h8
     replace h8:=Int.not_lt.1 h8
     refine g9 ?_
     exact d9.cut (k) zo (d6.mk (.i rfl zi<|zk) (zk) rfl)
   ·rintro k hkm
    refine je ?_; refine i7 ?_; refine d5.loanR (u:=13) (rI (I6 q ys m m) m p.length (by rw[OL]; omega) zo zo) (.a rfl<|.nil) zo (by rw[hkm]) rfl ?_; refine i7 ?_; exact d9.lp ((I6 q ys m m,(G1 q (ys.take m)).length)) (oD hq1 hyl hm zo hag hyb hB) (by have:=FD hq1 (r:=ys.take m) zo; show (G1 q (ys.take m)).length<m; omega) (d6.mk (.q rfl rfl (by rw[IS zo]; rfl) rfl<|zk) (zk) rfl)
  ·intro h4
   replace h4:=Int.not_le.1 h4
   refine g9 ?_
   exact d9.cut ((ys,m)) ⟨hyl,hm,by rw[<- hag]; have:=aP (q:=q) (r:=ys.take m) zo; rw[htl] at this; exact this.symm⟩ (d6.mk (.q rfl zi zi rfl<|zk) (zk) rfl)
 ·rintro ⟨ys,m⟩ ⟨hyl,hm,hag⟩
  refine jn ?_
  have htl:(ys.take m).length=m:=by rw[List.length_take]; omega
  refine g9 ?_; refine tO (Z6 rfl uu) rfl rfl ?_; refine i7 ?_
  refine Tr.for1 (σ:=Nat) [⟨5,true,_,_⟩,⟨79,true,_,_⟩] [] (fun k=>[⟨80,true,[],kI (k:Int)⟩]) (fun k=>[⟨13,[],l5 false 160 eZ (Z4 ys k) p.length⟩]) (fun k=>k<=m) (fun k=>k=m) (fun k=>m-k) (0) zi (d6.mk (.i rfl zi<|zk) (.a xY zi<|.nil) rfl) ?_ ?_
  ·intro k hR2
   refine jn ?_; refine l3 ?_; refine jq ?_ ?_
   ·intro h16
    refine K3 ?_; refine tO (CA p.length rfl uu rfl uu (fun _=>zo)) rfl rfl ?_; refine tO (X8 rfl uu rfl rfl rfl rfl) rfl rfl ?_; refine jc (DX (b6 (Z4 ys k) (0+(k:Int).toNat))) ?_; refine tO (CA p.length rfl uu rfl uu (fun _=>zo)) rfl rfl ?_; refine j1 ?_
    exact d9.lp (k+1) zi zo (d6.mk (.i rfl zi<|zk) (.a (by rw[show 0+(k:Int).toNat=k by omega]; exact xW zo) zi<|.nil) rfl)
   ·intro h16
    replace h16:=Int.not_lt.1 h16
    refine g9 ?_
    exact d9.cut (k) zo (d6.mk (.i rfl zi<|zk) (zk) rfl)
  ·rintro k hkm2
   refine je ?_; refine g9 ?_; refine d5.frzQ 13 [92] ⟨rfl,trivial⟩ ⟨by omega,by simp only[p9]; omega⟩ rfl ?_; refine jl ?_; refine g9 ?_; exact g6.res1 (fn:=Tryz.f222) rfl (.r rfl (by unfold against; rw[<- hag,hkm2,xX zo])<|.nil)

end Go.Fl

/- Contracts: roots between two fractions, fields. -/
namespace Go.Fl
open Go Go.Proofs
open d5 renaming op->tO
open i9 renaming op->rO
set_option maxRecDepth 100000

def Z7 (f:u8):Bool:=if f.1.length=2 then decide (f.2.1<=-b6 f.1 0*f.2.2.2/\-b6 f.1 0*f.2.2.2<=f.2.2.1) else decide (((D9 (L1 f.1 f.2.1 f.2.2.2)).1:Int)-(D9 (L1 f.1 f.2.2.1 f.2.2.2)).1=1)
noncomputable def z5 (f:u8):Int :=
 if ¬(2<=f.1.length/\f.1.length<=5) then 10
 else if f.1.any CF=true then 2
 else if ¬((1<=f.2.2.2/\f.2.2.2<=1000000)/\(-1000000<=f.2.1/\f.2.1<=1000000)/\(-1000000<=f.2.2.1/\f.2.2.1<=1000000)) then 2
 else if b6 f.1 (f.1.length-1)≠1\/Y3 f.1=true then 3
 else if f.2.1>f.2.2.1 then 9
 else if Z7 f=false then 11 else 0
theorem bK (l:List Int) (h:∀s∈l,-1<=s/\s<=1):-1<=(D9 l).2/\(D9 l).2<=1:=by
 have key:∀(l:List Int) (st:Nat×Int),(∀s∈l,-1<=s/\s<=1)->(-1<=st.2/\st.2<=1)->-1<=(l.foldl A3 st).2/\(l.foldl A3 st).2<=1:=by
  intro l
  induction l with
  | nil=>intro st _ h; exact h
  | cons s l ih =>
   intro st h1 h2
   rw[List.foldl_cons]
   refine ih _ (fun x hx=>h1 x (List.mem_cons_of_mem _ hx)) ?_
   have:=h1 s List.mem_cons_self
   unfold A3; simp only; split<;>assumption
 exact key l (0,0) h (by decide)
theorem xM {s l:Int} (h1:-1<=s/\s<=1) (h2:-1<=l/\l<=1):-1<=s*l/\s*l<=1:=by
 rcases (show s=-1\/s=0\/s=1 by omega) with rfl | rfl | rfl<;>omega
theorem YJ {p:List Int} (h:p.any CF≠true) (i:Nat):(b6 p i).natAbs<=1000:=by
 by_cases hi:i<p.length
 ·have:=List.any_eq_false.1 (by simpa using h) (b6 p i) (E6 hi)
  unfold CF at this
  simp at this
  omega
 ·rw[v5 zo]; show (0:Int).natAbs<=_; omega
theorem HL {α:Type} [Inhabited α] {xs:List α} {i k:Nat} (h:i<k):b6 (xs.take k) i=b6 xs i:=by simp[b6,List.getD,h]
theorem dO (a d:Int) (ch:List (List Int)) (ha:-1000000<=a/\a<=1000000) (hd:1<=d/\d<=1000000) (hl:ch.length<=5) (hc:∀j,j<ch.length->(b6 ch j).length<=5/\∀i,dl (b6 (b6 ch j) i)<=1681):Ct Tryz.prog 223 [kI a,r7 (eL (eL eZ)) ch,r7 eI d] (kI ((D9 (ch.map fun q=>s6 (u9 a d q).1)).1:Int)):=by
 obtain ⟨sl,hsl⟩:∃sl,sl=(ch.map fun q=>s6 (u9 a d q).1):=⟨_,rfl⟩
 have hll:sl.length=ch.length:=by rw[hsl,List.length_map]
 have hsn:∀j,j<ch.length->b6 sl j=s6 (u9 a d (b6 ch j)).1:=fun j hj=>by rw[hsl]; simp[b6,hj]
 have hsb:∀s∈sl,-1<=s/\s<=1:=fun s hs=>by rw[hsl] at hs; obtain ⟨q,_,rfl⟩:=List.mem_map.1 hs; exact KW _
 have hcle:=fun k=>OW (l:=sl.take k)
 have htk:∀k,(sl.take k).length<=5:=fun k=>by rw[List.length_take]; omega
 rw[<- hsl]
 have had:=K1 (F:=d) zo zo
 have haa:dl a<=1:=O9 (by simp[BP]; omega)
 refine Ct.mk Tryz.func223 rfl Tryz.ntmps223 rfl (fun w J=>?_); refine JO ?_
 refine Tr.for1 (σ:=Nat) [⟨0,true,_,_⟩,⟨2,true,_,_⟩,⟨10,true,_,_⟩,⟨11,true,_,_⟩] [] (fun k=>[⟨5,true,[],kI ((D9 (sl.take k)).1:Int)⟩,⟨6,true,[],kI (D9 (sl.take k)).2⟩,⟨12,true,[],kI (k:Int)⟩]) (fun k=>[]) (fun k=>k<=ch.length) (fun k=>k=ch.length) (fun k=>ch.length-k) (0) zi (d6.mk (.i rfl (by rfl)<|.i rfl (by rfl)<|.i rfl zi<|zk) (.nil) rfl) ?_ ?_
 ·intro k hR0
  refine jn ?_
  have hck:=fun (h:k<ch.length)=>hc k h
  have hcs:=fun (h:k<ch.length)=>bL (l:=sl) (k:=k) zo
  have hsk:=fun (h:k<ch.length)=>hsn k h
  have hb1:=KW (u9 a d (b6 ch k)).1
  have hb2:=bK (sl.take k) (fun s hs=>hsb s (List.mem_of_mem_take hs))
  have hb3:=xM hb1 hb2
  have hb4:=hcle k
  have hb5:=htk k
  refine l3 ?_; refine jq ?_ ?_
  ·intro h3
   refine v9 ?_; refine Tr.draw 5 o0 (by kernel_rfl) ?_
   replace hck:=hck zo
   refine g8 ?_; refine jd (Q2 a zo) ?_; refine i5 ?_; refine jd (Q2 d zo) ?_; refine i5 ?_; refine jc (VO (b6 ch k) a d 1 1681 zo hck.2 haa had zo zo) ?_; refine v9 ?_; refine jq ?_ ?_
   ·intro h6
    refine v9 ?_; refine jq ?_ ?_
    ·intro h8
     refine u5 ?_
     exact d9.lp (k+1) zi zo (d6.mk (.i rfl (by rw[hcs zo,hsk zo]; unfold A3; simp only; split<;>omega)<|.i rfl (by rw[hcs zo,hsk zo]; unfold A3; simp only; split<;>omega)<|.i rfl zi<|zk) (.nil) rfl)
    ·intro h8
     replace h8:=Classical.not_not.1 h8
     refine j3 ?_
     exact d9.lp (k+1) zi zo (d6.mk (.i rfl (by rw[hcs zo,hsk zo]; unfold A3; simp only; split<;>omega)<|.i rfl (by rw[hcs zo,hsk zo]; unfold A3; simp only; split<;>omega)<|.i rfl zi<|zk) (.nil) rfl)
   ·intro h6
    replace h6:=Int.not_lt.1 h6
    refine j1 ?_; refine jq ?_ ?_
    ·intro h8
     refine u5 ?_
     exact d9.lp (k+1) zi zo (d6.mk (.i rfl (by rw[hcs zo,hsk zo]; unfold A3; simp only; split<;>omega)<|.i rfl (by rw[hcs zo,hsk zo]; unfold A3; simp only; split<;>omega)<|.i rfl zi<|zk) (.nil) rfl)
    ·intro h8
     replace h8:=Classical.not_not.1 h8
     refine j3 ?_
     exact d9.lp (k+1) zi zo (d6.mk (.i rfl (by rw[hcs zo,hsk zo]; unfold A3; simp only; split<;>omega)<|.i rfl (by rw[hcs zo,hsk zo]; unfold A3; simp only; split<;>omega)<|.i rfl zi<|zk) (.nil) rfl)
  ·intro h3
   replace h3:=Int.not_lt.1 h3
   refine g9 ?_
   exact d9.cut (k) zo (d6.mk (.i rfl zi<|.i rfl zi<|.i rfl zi<|zk) (.nil) rfl)
 ·rintro k hkn
  refine je ?_
  have htl:sl.take k=sl:=List.take_of_length_le zo
  refine j1 ?_; exact g6.res1 (fn:=Tryz.f223) rfl (.i rfl (by rw[htl])<|.nil)

set_option maxHeartbeats 1000000 in
theorem rP (p:List Int) (lo hi d:Int) (h3':3<=p.length) (h5':p.length<=5) (h1':b6 p (p.length-1)=1) (hs:∀i,(b6 p i).natAbs<=1000) (hlo:-1000000<=lo/\lo<=1000000) (hhi:-1000000<=hi/\hi<=1000000) (hd:1<=d/\d<=1000000):Ct Tryz.prog 213 [b8 (eL eZ) p,kI lo,kI hi,kI d] (kI (((D9 (L1 p lo d)).1:Int)-(D9 (L1 p hi d)).1)):=by
 have hdd:=(eN h3' h5' h1' hs).1
 have hL5:=bF h3' h5' h1' hs
 have hel:=fun (j:Nat) (hj:j<(w4 p).length)=>CU h3' h5' h1' hs hj
 have hne:=fun (j:Nat) (hj:j<(w4 p).length)=>List.length_pos_iff.2 (OV h3' h5' h1' hj)
 have hL2:2<=(w4 p).length:=by unfold w4; simp
 have hcl:∀a:Int,(D9 (L1 p a d)).1<=5:=fun a=>by have:=OW (l:=L1 p a d); unfold L1 at this ⊢; rw[List.length_map] at this; omega
 have hc1:(D9 ((w4 p).map fun q=>s6 (u9 lo d q).1)).1<=5:=hcl lo
 have hc2:(D9 ((w4 p).map fun q=>s6 (u9 hi d q).1)).1<=5:=hcl hi
 refine Ct.mk Tryz.func213 rfl Tryz.ntmps213 rfl (fun w J=>?_); refine g8 ?_; refine jb 7 rfl ?_; refine j3 ?_; refine jc (rJ p zo h5' hdd) ?_; refine d5.new (y7 (eL eZ) 15 (fun hp=>.cons rfl<|.cons rfl<|.nil) rfl rfl rfl rfl) rfl rfl rfl rfl ?_; refine ja 9 ?_; refine i7 ?_
 refine Tr.for (σ:=Nat) [⟨1,true,_,_⟩,⟨2,true,_,_⟩,⟨7,true,_,_⟩,⟨9,true,_,_⟩] [⟨7,_,_⟩] (fun m=>[]) (fun m=>[⟨9,[15],j5 [o9 15 m]⟩,⟨15,[],l5 false 193 (eL eZ) ((w4 p).take m) m⟩]) (fun m=>2<=m/\m<=(w4 p).length) (fun m=>m=(w4 p).length) (fun m=>(w4 p).length-m) (2) ⟨Nat.le_refl _,hL2⟩ (d6.mk (zk) (.k rfl<|.a (by rfl) zi<|zk) rfl) ?_ ?_
 ·intro m hR0
  refine jn ?_
  have hX:b6 ((w4 p).take m) ((m:Int)-2).toNat=b6 (w4 p) (m-2):=by rw[show ((m:Int)-2).toNat=m-2 by omega]; exact HL zo
  have hY:b6 ((w4 p).take m) ((m:Int)-1).toNat=b6 (w4 p) (m-1):=by rw[show ((m:Int)-1).toNat=m-1 by omega]; exact HL zo
  refine g8 ?_; refine Tr.draw 12 o0 (by kernel_rfl) ?_; refine g8 ?_; refine rO (U1 rfl uu) rfl rfl ?_; refine i7 ?_
  rw[hX]
  refine g8 ?_; refine rO (U1 rfl uu) rfl rfl ?_; refine i7 ?_
  rw[hY]
  refine i5 ?_; refine tO (i6 (fun hp=>rG (b6 (w4 p) (m-2)) (b6 (w4 p) (m-1)) 1681 1681 (hne _ zo) (by have:=(hel (m-2) zo).2.1; omega) (hne _ zo) (by have:=(hel (m-1) zo).2.1; omega) (hel _ zo).2.2 (hel _ zo).2.2 zo zo) (.a rfl uu<|.a rfl uu<|.nil)) rfl rfl ?_; refine y8 ?_; refine jq ?_ ?_
  ·intro h3
   have z8:m=(w4 p).length:=Classical.byContradiction fun e=>by have hq:=IV h3' h5' h1' hR0.1 hR0.2; rw[if_pos zo] at hq; have:=List.length_pos_iff.2 (hq.2 zo); rw[<- hq.1] at this; omega
   refine l6 ?_; exact d9.cut (m) z8 (d6.mk (zk) (zk) rfl)
  ·intro h3
   have hq:=IV h3' h5' h1' hR0.1 hR0.2
   have z8:m<(w4 p).length:=Classical.byContradiction fun e=>by rw[if_neg e] at hq; rw[hq.1] at h3; exact h3 rfl
   rw[if_pos z8] at hq
   rw[hq.1]
   refine l6 ?_; refine d5.new (y7 (eL eZ) 34 (fun hp=>.cons rfl<|.nil) rfl rfl rfl rfl) rfl rfl rfl rfl ?_; refine d5.wkC 9 (.any<|.nil) rfl ?_; refine i5 ?_; refine jl ?_; refine i7 ?_
   exact d9.lp (m+1) zi zo (d6.mk (zk) (.e (by rfl) rfl<|.a (by rw[W8 z8]) zi<|zk) rfl)
 ·rintro m z8
  refine jn ?_
  have htk:(w4 p).take m=w4 p:=by rw[z8,List.take_length]
  rw[htk]
  refine i5 ?_; refine Tr.frzC 15 9 (by simp only[p9]; omega) rfl rfl ?_; refine jn ?_; refine Tr.frzB 9 [9] (eL (eL eZ)) ⟨rfl,trivial⟩ rfl ?_; refine Tr.frzB 7 [7] eI ⟨rfl,trivial⟩ rfl ?_; refine jn ?_; refine i5 ?_; refine tO (EK (.cons rfl uu<|.cons rfl uu<|.nil)) rfl rfl ?_; refine j3 ?_; refine tO (iY rfl uu (fun hp=>dO lo d (w4 p) hlo hd hL5 (fun j hj=>⟨by have:=(hel j hj).2.1; omega,(hel j hj).2.2⟩)) (.a rfl uu<|.nil)) rfl rfl ?_; refine g8 ?_; refine tO (iY rfl uu (fun hp=>dO hi d (w4 p) hhi hd hL5 (fun j hj=>⟨by have:=(hel j hj).2.1; omega,(hel j hj).2.2⟩)) (.a rfl uu<|.nil)) rfl rfl ?_
  refine l6 ?_; exact g6.res1 (fn:=Tryz.f213) rfl (.i rfl (by rfl)<|.nil)

theorem rN (f:u8) (h2':2<=f.1.length) (h5':f.1.length<=5) (h1':b6 f.1 (f.1.length-1)=1) (hs:∀i,(b6 f.1 i).natAbs<=1000) (hd:1<=f.2.2.2/\f.2.2.2<=1000000) (hlo:-1000000<=f.2.1/\f.2.1<=1000000) (hhi:-1000000<=f.2.2.1/\f.2.2.1<=1000000):Ct Tryz.prog 189 [b8 A8 f] (kB (Z7 f)):=by
 have hm0:(-b6 f.1 0*f.2.2.2).natAbs<=1000*1000000:=M9 (by rw[Int.natAbs_neg]; exact hs 0) zo
 have hs0:=hs 0
 have hf:∀i,-9223372036854775808<=b6 f.1 i/\b6 f.1 i<=9223372036854775807:=fun i=>by have:=hs i; omega
 refine Ct.mk Tryz.func189 rfl Tryz.ntmps189 rfl (fun w J=>?_); refine g8 ?_; refine jb 1 rfl ?_; refine l6 ?_; refine Tr.frzB 1 [1] A8 (x:=f) ⟨rfl,trivial⟩ rfl ?_; refine jn ?_; refine j3 ?_; refine jq ?_ ?_
 ·intro h1
  have hb:Z7 f=decide (f.2.1<=-b6 f.1 0*f.2.2.2/\-b6 f.1 0*f.2.2.2<=f.2.2.1):=if_pos zo
  refine i5 ?_; refine Tr.draw 12 o0 (by kernel_rfl) ?_; refine g8 ?_; refine rO (F6 (i:=0) rfl uu rfl uu rfl (fun _=>zo)) rfl rfl ?_; refine i5 ?_; refine rO (EM rfl uu (fun _=>zo)) rfl rfl ?_; refine j1 ?_; refine tO (i6 (fun hp=>JA _ _ _) (.a rfl uu<|.a rfl uu<|.a rfl uu<|.nil)) rfl rfl ?_; refine l6 ?_; exact g6.res1 (fn:=Tryz.f189) rfl (.b rfl (by rw[hb])<|.nil)
 ·intro h1
  have hb:Z7 f=decide (((D9 (L1 f.1 f.2.1 f.2.2.2)).1:Int)-(D9 (L1 f.1 f.2.2.1 f.2.2.2)).1=1):=if_neg zo
  refine i7 ?_; refine Tr.draw 8 o0 (by kernel_rfl) ?_; refine i5 ?_; refine jd (cZ f hf zo) ?_; refine j3 ?_; refine jc (rP f.1 f.2.1 f.2.2.1 f.2.2.2 zo h5' h1' hs hlo hhi hd) ?_; refine l6 ?_; exact g6.res1 (fn:=Tryz.f189) rfl (.b rfl (by rw[hb])<|.nil)

end Go.Fl

/- Contracts: errors of fields, opening. -/
namespace Go.Fl
open Go Go.Proofs
open d5 renaming op->tO
open i9 renaming op->rO
set_option maxRecDepth 100000

theorem Y8 {f:u8} (h:z5 f=0):((2<=f.1.length/\f.1.length<=5)/\(∀i,(b6 f.1 i).natAbs<=1000)/\((1<=f.2.2.2/\f.2.2.2<=1000000)/\(-1000000<=f.2.1/\f.2.1<=1000000)/\(-1000000<=f.2.2.1/\f.2.2.1<=1000000)))/\b6 f.1 (f.1.length-1)=1/\Y3 f.1=false/\f.2.1<=f.2.2.1/\Z7 f=true:=by
 unfold z5 at h
 by_cases c1:2<=f.1.length/\f.1.length<=5
 ·rw[if_neg (fun e=>e c1)] at h
  by_cases c2:f.1.any CF=true
  ·rw[if_pos c2] at h; exact absurd h (by decide)
  ·rw[if_neg c2] at h
   by_cases c3:(1<=f.2.2.2/\f.2.2.2<=1000000)/\(-1000000<=f.2.1/\f.2.1<=1000000)/\(-1000000<=f.2.2.1/\f.2.2.1<=1000000)
   ·rw[if_neg (fun e=>e c3)] at h
    by_cases c4:b6 f.1 (f.1.length-1)≠1\/Y3 f.1=true
    ·rw[if_pos c4] at h; exact absurd h (by decide)
    ·rw[if_neg c4] at h
     by_cases c5:f.2.1>f.2.2.1
     ·rw[if_pos c5] at h; exact absurd h (by decide)
     ·rw[if_neg c5] at h
      by_cases c6:Z7 f=false
      ·rw[if_pos c6] at h; exact absurd h (by decide)
      ·refine ⟨⟨c1,YJ c2,c3⟩,Classical.byContradiction fun e=>c4 (.inl e),?_,by omega,by simpa using c6⟩
       cases hr:Y3 f.1 with
       | false=>rfl
       | true=>exact absurd (.inr hr) c4
   ·rw[if_pos c3] at h; exact absurd h (by decide)
 ·rw[if_pos c1] at h; exact absurd h (by decide)
def u6 (f:u8):Iv:=⟨f.2.1,f.2.2.1,f.2.2.2⟩
theorem QG {f:u8} (h:z5 f=0) (h3:3<=f.1.length):X0 f.1 (u6 f):=by
 obtain ⟨⟨c1,c2,c3,c4,c5⟩,c6,c7,c8,c9⟩:=Y8 h
 have hred:¬GP (lP f.1) (f.1.length-1):=ab5 h3 fun e=>by rw[KP e] at c7; cases c7
 refine ⟨⟨c1,fun i=>O9 (by have:=c2 i; simp[BP]; omega)⟩,h3,c6,fun c hc=>?_,⟨c8,by show 0<f.2.2.2; omega⟩,?_,?_,?_,c3.2,hred,?_⟩
 ·obtain ⟨i,hi,rfl⟩:=List.mem_iff_getElem.1 hc
  have:=c2 i
  simpa [b6,hi] using this
 ·show -(1000000*f.2.2.2)<=f.2.1; omega
 ·show f.2.2.1<=1000000*f.2.2.2; omega
 ·show f.2.2.1-f.2.1<=2000000; omega
 ·unfold Z7 at c9
  rw[if_neg zo,decide_eq_true_eq] at c9
  exact ah6 h3 c1.2 c6 hred (by show 0<f.2.2.2; omega) c9
def V9 (p l:List Int) (n k i:Nat):Int:=b6 p (n-(k+1))*((k:Int)+1)+r6 (fun j=>b6 p (n-(j+1))*b6 l (k-j)) i
def I2 (p:List Int) (n:Nat):Nat->List Int
 | 0=>[(n:Int)]
 | k+1=>I2 p n k++[-V9 p (I2 p n k) n k k]
theorem mF {p:List Int} {n:Nat}:∀{k:Nat},(I2 p n k).length=k+1
 | 0=>rfl
 | k+1=>by rw[I2,List.length_append,mF]; rfl
theorem jQ {p l:List Int} {n k i:Nat}:V9 p l n k (i+1)=V9 p l n k i+b6 p (n-(i+1))*b6 l (k-i):=by unfold V9; rw[M5]; omega
theorem YP {p l:List Int} {n k B:Nat} (hp:∀i,dl (b6 p i)<=1) (hl:∀i,dl (b6 l i)<=B) (hk:k<=4) (hB:1<=B):∀{i:Nat},dl (V9 p l n k i)<=B+2+i
 | 0=>by
  unfold V9
  have h1:=hp (n-(k+1))
  have h2:=K1 (F:=(k:Int)+1) zo zo
  have h3:=s7 (b6 p (n-(k+1))) ((k:Int)+1)
  simp only[r6,Int.add_zero]
  omega
 | i+1=>by
  have ih:=YP (n:=n) hp hl hk hB (i:=i)
  rw[jQ]
  have h1:=hp (n-(i+1))
  have h2:=hl (k-i)
  have h3:=s7 (b6 p (n-(i+1))) (b6 l (k-i))
  have h4:=Q3 (V9 p l n k i) (b6 p (n-(i+1))*b6 l (k-i))
  omega
theorem mE {p:List Int} {n:Nat} (hp:∀i,dl (b6 p i)<=1) (hn:n<=4):∀{k:Nat},k<=4->∀i,dl (b6 (I2 p n k) i)<=1+8*k
 | 0,_,i=>by
  match i with
  | 0=>exact K1 (F:=(n:Int)) zo zo
  | i+1=>rw[v5 (by rw[mF]; omega)]; show dl 0<=_; rw[C5.2 rfl]; omega
 | k+1,hk,i=>by
  have ih:=mE hp hn (k:=k) zo
  rw[I2]
  by_cases h:i<(I2 p n k).length
  ·have e:b6 (I2 p n k++[-V9 p (I2 p n k) n k k]) i=b6 (I2 p n k) i:=by simp[b6,List.getD,List.getElem?_append_left h]
   rw[e]; have:=ih i; omega
  ·by_cases h2:i=(I2 p n k).length
   ·subst h2
    have e:b6 (I2 p n k++[-V9 p (I2 p n k) n k k]) (I2 p n k).length=-V9 p (I2 p n k) n k k:=by simp[b6]
    rw[e,K6]
    have:=YP (n:=n) hp ih (k:=k) zo zo (i:=k)
    omega
   ·rw[v5 (by rw[List.length_append]; simp; omega)]; show dl 0<=_; rw[C5.2 rfl]; omega
def FZ (f:u8):Iv:=if f.1.length=2 then u6 f else i2 f.1 (u6 f) 64
def N8 (f:u8):C9:=(f,f.1,I2 f.1 (f.1.length-1) (f.1.length-2),(FZ f).lo,(FZ f).hi,(FZ f).den)
theorem YI {f:u8} (h:z5 f=0) (h3:3<=f.1.length) {k:Nat} (hk:k<=64):dl (i2 f.1 (u6 f) k).lo<=73000/\dl (i2 f.1 (u6 f) k).hi<=73000/\dl (i2 f.1 (u6 f) k).den<=73000:=by
 have hf:=QG h h3
 have h5:=hf.len4
 obtain ⟨K,q1,_,q3⟩:=hf.bound (cs:=List.replicate (f.1.length-1) 1) (M:=1) (by simp) ⟨1,List.mem_replicate.2 ⟨by omega,rfl⟩,by decide⟩ (fun c hc=>by rw[(List.mem_replicate.1 hc).2]; exact K1 zo zo) zo zo
 exact q3 k zo
theorem cG (f:u8):Ct Tryz.prog 157 [b8 A8 f] (kI (z5 f)):=by
 refine Ct.mk Tryz.func157 rfl Tryz.ntmps157 rfl (fun w J=>?_); refine g8 ?_; refine jb 1 rfl ?_; refine g9 ?_; refine Tr.frzB 1 [1] A8 (x:=f) ⟨rfl,trivial⟩ rfl ?_; refine jn ?_; refine v9 ?_; refine tO (i6 (fun hp=>JA _ _ _) (.a rfl uu<|.a rfl uu<|.a rfl uu<|.nil)) rfl rfl ?_; refine g9 ?_; refine Tr.cnd rfl ?_ ?_
 ·intro h2
  try simp only[decide_eq_false_iff_not,Bool.not_eq_true'] at h2
  have hc1:¬(2<=f.1.length/\f.1.length<=5):=by omega
  have he:z5 f=10:=if_pos hc1
  refine j1 ?_; exact g6.res1 (fn:=Tryz.f157) rfl (.i rfl (by rw[he])<|.nil)
 ·intro h2
  try simp only[decide_eq_true_eq,Bool.not_eq_false'] at h2
  have hc1:2<=f.1.length/\f.1.length<=5:=by omega
  have he1:=(if_neg (fun e=>e hc1):z5 f=_)
  refine g9 ?_; refine tO (i6 (fun hp=>pW _ 187 CF (fun x=>qY x)) (.a rfl uu<|.a rfl uu<|.nil)) rfl rfl ?_; refine i7 ?_; refine Tr.cnd rfl ?_ ?_
  ·intro h4
   have he:z5 f=2:=he1.trans (if_pos h4)
   refine j1 ?_; exact g6.res1 (fn:=Tryz.f157) rfl (.i rfl (by rw[he])<|.nil)
  ·intro h4
   have hc2:f.1.any CF≠true:=by rw[h4]; decide
   have hs:=YJ hc2
   have he2:=he1.trans (if_neg hc2)
   refine g9 ?_; refine tO (i6 (fun hp=>JA _ _ _) (.a rfl uu<|.a rfl uu<|.a rfl uu<|.nil)) rfl rfl ?_; refine g9 ?_; refine d5.gd rfl rfl rfl (i6 (fun hp=>JA _ _ _) (.a rfl id<|.a rfl uu<|.a rfl uu<|.nil)) rfl rfl ?_; refine l6 ?_; refine d5.gd rfl rfl rfl (i6 (fun hp=>JA _ _ _) (.a rfl id<|.a rfl uu<|.a rfl uu<|.nil)) rfl rfl ?_; refine l6 ?_; refine Tr.cnd rfl ?_ ?_
   ·intro h6
    have hc3:¬((1<=f.2.2.2/\f.2.2.2<=1000000)/\(-1000000<=f.2.1/\f.2.1<=1000000)/\(-1000000<=f.2.2.1/\f.2.2.1<=1000000)):=fun ⟨q1,q2,q3⟩=>by simp[q1,q2,q3] at h6
    have he:z5 f=2:=he2.trans (if_pos hc3)
    refine j1 ?_; exact g6.res1 (fn:=Tryz.f157) rfl (.i rfl (by rw[he])<|.nil)
   ·intro h6
    have hc3:(1<=f.2.2.2/\f.2.2.2<=1000000)/\(-1000000<=f.2.1/\f.2.1<=1000000)/\(-1000000<=f.2.2.1/\f.2.2.1<=1000000):=by simp at h6; omega
    have he3:=he2.trans (if_neg (fun e=>e hc3))
    refine g8 ?_
    have hix:((f.1.length:Int)-1).toNat=f.1.length-1:=by omega
    refine u5 ?_; refine d5.gd rfl rfl rfl (i6 (fun hp=>qU f.1 hc1.1 hc1.2 hs) (.a rfl id<|.nil)) rfl rfl ?_; refine g9 ?_; refine Tr.cnd rfl ?_ ?_
    ·intro h8
     have hc4:b6 f.1 (f.1.length-1)≠1\/Y3 f.1=true:=by simp[hix] at h8; simpa using h8
     have he:z5 f=3:=he3.trans (if_pos hc4)
     refine j1 ?_; exact g6.res1 (fn:=Tryz.f157) rfl (.i rfl (by rw[he])<|.nil)
    ·intro h8
     have hc4:b6 f.1 (f.1.length-1)=1/\Y3 f.1=false:=by simp[hix] at h8; simpa using h8
     have he4:=he3.trans (if_neg (fun e=>e.elim (fun e=>e hc4.1) (fun e=>by rw[hc4.2] at e; cases e)))
     refine u5 ?_; refine Tr.cnd rfl ?_ ?_
     ·intro h10
      try simp only[decide_eq_true_eq] at h10
      have he:z5 f=9:=he4.trans (if_pos h10)
      refine j1 ?_; exact g6.res1 (fn:=Tryz.f157) rfl (.i rfl (by rw[he])<|.nil)
     ·intro h10
      try simp only[decide_eq_false_iff_not,Int.not_lt] at h10
      have he5:=he4.trans (if_neg (show ¬f.2.1>f.2.2.1 by omega))
      refine i7 ?_; refine jc (rN f hc1.1 hc1.2 hc4.1 hs hc3.1 hc3.2.1 hc3.2.2) ?_; refine g9 ?_; refine Tr.cnd rfl ?_ ?_
      ·intro h12
       have hc6:Z7 f=false:=by simpa using h12
       have he:z5 f=11:=he5.trans (if_pos hc6)
       refine j1 ?_; exact g6.res1 (fn:=Tryz.f157) rfl (.i rfl (by rw[he])<|.nil)
      ·intro h12
       have hc6:Z7 f=true:=by simpa using h12
       have he:z5 f=0:=he5.trans (if_neg (by rw[hc6]; decide))
       refine m9 ?_; exact g6.res1 (fn:=Tryz.f157) rfl (.i rfl (by rw[he])<|.nil)

theorem rC (f:u8) (h0:z5 f≠0):Ct Tryz.prog 113 [b8 A8 f] (z6 [j4 (.pointer none),kI (z5 f)]):=by
 refine Ct.mk Tryz.func113 rfl Tryz.ntmps113 rfl (fun w J=>?_); refine g8 ?_; refine jb 1 rfl ?_; refine j1 ?_; refine jc (cG f) ?_; refine m9 ?_; refine Tr.cnd rfl ?_ ?_
 ·intro h2
  refine m9 ?_
  exact g6.res (fn:=Tryz.f113) (ts:=[2,3]) rfl rfl (.k rfl<|.i rfl zi<|.nil)
 ·intro h2
  exact absurd (of_decide_eq_false h2) (fun e=>e h0)

set_option maxHeartbeats 2000000 in
theorem cI (f:u8) (h0:z5 f=0):Ct Tryz.prog 113 [b8 A8 f] (z6 [r7 A5 (N8 f),kI 0]):=by
 obtain ⟨⟨c1,c2,c3,c4,c5⟩,c6,c7,c8,c9⟩:=Y8 h0
 have hf:∀i,-9223372036854775808<=b6 f.1 i/\b6 f.1 i<=9223372036854775807:=fun i=>by have:=c2 i; omega
 have hdp:∀i,dl (b6 f.1 i)<=1:=fun i=>O9 (by have:=c2 i; simp[BP]; omega)
 have hdg:Ct Tryz.prog 160 [r7 A5 (f,f.1,[],f.2.1,f.2.2.1,f.2.2.2)] (kI ((f.1.length:Int)-1)):=VB (f,f.1,[],f.2.1,f.2.2.1,f.2.2.2) c1
 have htr:=fun (k:Nat) (hk:k<=4)=>mE (n:=f.1.length-1) hdp zo hk
 refine Ct.mk Tryz.func113 rfl Tryz.ntmps113 rfl (fun w J=>?_); refine g8 ?_; refine jb 1 rfl ?_; refine j1 ?_; refine jc (cG f) ?_; refine m9 ?_; refine Tr.cnd rfl ?_ ?_
 ·intro h2
  exact absurd h0 (of_decide_eq_true h2)
 ·intro h2
  refine l3 ?_; refine tO (i6 (fun hp=>CY _ zo) (.a rfl uu<|.nil)) rfl rfl ?_; refine l6 ?_; refine Tr.draw 12 o0 (by kernel_rfl) ?_; refine g8 ?_; refine jd (cZ f hf zo) ?_; refine g8 ?_; refine jd (Q2 f.2.1 zo) ?_; refine g8 ?_; refine jd (Q2 f.2.2.1 zo) ?_; refine g8 ?_; refine jd (Q2 f.2.2.2 zo) ?_; refine i5 ?_; refine tO (A1 (fun hp=>.cons rfl rfl rfl<|.cons rfl rfl rfl<|.cons rfl rfl rfl<|.cons rfl rfl rfl<|.cons rfl rfl rfl<|.nil)) rfl rfl ?_; refine jb 32 rfl ?_; refine l3 ?_
  refine tO (yW (fun hp=>hdg) rfl rfl uu (.nil)) rfl rfl ?_; refine j3 ?_; refine jc (Q2 ((f.1.length:Int)-1) zo) ?_; refine d5.new (y7 eZ 38 (fun hp=>.cons rfl<|.nil) rfl rfl rfl rfl) rfl rfl rfl rfl ?_; refine tO (R0 rfl uu) rfl rfl ?_; refine u5 ?_
  refine Tr.for1 (σ:=Nat) [⟨5,true,_,_⟩,⟨6,true,_,_⟩] [] (fun k=>[⟨7,true,[],kI ((k:Int)+1)⟩]) (fun k=>[⟨32,[38],j5 [b8 (eL eI) f.1,kI f.2.1,kI f.2.2.1,kI f.2.2.2,b8 (eL eZ) f.1,o9 38 (k+1),kB (decide ((u6 f).lo<0)),b8 (eL eI) (d8 ((u6 f).lo).natAbs),kB (decide ((u6 f).hi<0)),b8 (eL eI) (d8 ((u6 f).hi).natAbs),kB (decide ((u6 f).den<0)),b8 (eL eI) (d8 ((u6 f).den).natAbs)]⟩,⟨38,[],l5 false 160 eZ (I2 f.1 (f.1.length-1) k) (k+1)⟩]) (fun k=>k+2<=f.1.length) (fun k=>k+2=f.1.length) (fun k=>f.1.length-k) (0) zo (d6.mk (.i rfl zi<|zk) (.e (by rfl) rfl<|.a (by show [(f.1.length:Int)-1]=[((f.1.length-1:Nat):Int)]; congr 1; omega) zi<|.nil) rfl) ?_ ?_
  ·intro k hR0
   refine jn ?_
   have hix:((f.1.length:Int)-1-((k:Int)+1)).toNat=(f.1.length-1-(k+1)):=by omega
   refine j1 ?_; refine jq ?_ ?_
   ·intro h9
    refine l6 ?_; refine Tr.draw 13 o0 (by kernel_rfl) ?_; refine i5 ?_; refine rO (R0 rfl uu) rfl rfl ?_; refine l3 ?_
    rw[hix]
    refine g8 ?_; refine jd (Q2 ((k:Int)+1) zo) ?_; refine jd (L7 (b6 f.1 (f.1.length-1-(k+1))) ((k:Int)+1) (by have:=hdp (f.1.length-1-(k+1)); omega) (by have:=K1 (F:=(k:Int)+1) zo zo; omega)) ?_; refine i9.new (KE 8) rfl rfl rfl rfl ?_; refine u5 ?_
    refine Tr.for1 (σ:=Nat) [⟨5,true,_,_⟩,⟨6,true,_,_⟩,⟨7,true,_,_⟩,⟨8,true,_,_⟩] [⟨32,_,_⟩,⟨38,_,_⟩] (fun i=>[⟨9,true,[],kI ((i:Int)+1)⟩]) (fun i=>[⟨8,[],j5 [kB (decide ((V9 f.1 (I2 f.1 (f.1.length-1) k) (f.1.length-1) k i)<0)),b8 (eL eI) (d8 ((V9 f.1 (I2 f.1 (f.1.length-1) k) (f.1.length-1) k i)).natAbs)]⟩]) (fun i=>i<=k) (fun i=>i=k) (fun i=>k-i) (0) zi (d6.mk (.i rfl zi<|zk) (.conv (AQ (BR (by unfold V9; simp only[r6,Int.add_zero]))) rfl<|zk) rfl) ?_ ?_
    ·intro i hR1
     refine jn ?_
     have hiy:((f.1.length:Int)-1-((i:Int)+1)).toNat=(f.1.length-1-(i+1)):=by omega
     have hiz:((k:Int)+1-((i:Int)+1)).toNat=k-i:=by omega
     have hb1:=hdp (f.1.length-1-(i+1))
     have hb2:=htr k zo (k-i)
     have hb3:=s7 (b6 f.1 (f.1.length-1-(i+1))) (b6 (I2 f.1 (f.1.length-1) k) (k-i))
     have hb4:=YP (n:=f.1.length-1) hdp (htr k zo) (k:=k) zo zo (i:=i)
     refine j1 ?_; refine jq ?_ ?_
     ·intro h13
      refine g9 ?_; refine Tr.draw 20 o0 (by kernel_rfl) ?_; refine g8 ?_; refine rO (R0 rfl uu) rfl rfl ?_; refine l3 ?_
      rw[hiy]
      refine g8 ?_; refine rO (R0 rfl uu) rfl rfl ?_; refine l3 ?_
      rw[hiz]
      refine rO (X8 rfl uu rfl rfl rfl rfl) rfl rfl ?_; refine jd (L7 (b6 f.1 (f.1.length-1-(i+1))) (b6 (I2 f.1 (f.1.length-1) k) (k-i)) zo zo) ?_; refine i5 ?_; refine jc (X3 (V9 f.1 (I2 f.1 (f.1.length-1) k) (f.1.length-1) k i) (b6 f.1 (f.1.length-1-(i+1))*b6 (I2 f.1 (f.1.length-1) k) (k-i)) zo zo) ?_; refine m9 ?_
      exact d9.lp (i+1) zi zo (d6.mk (.i rfl zi<|zk) (.conv (AQ (BR (by rw[jQ]))) rfl<|zk) rfl)
     ·intro h13
      replace h13:=Int.not_lt.1 h13
      refine g9 ?_
      exact d9.cut (i) zo (d6.mk (.i rfl zi<|zk) (zk) rfl)
    ·rintro i hik
     refine je ?_; refine i5 ?_; refine Tr.drawM (m:=8) o0 (by kernel_rfl) rfl (by kernel_rfl) (by kernel_rfl) (by kernel_rfl) ?_; refine g8 ?_; refine rO (R0 rfl uu) rfl rfl ?_; refine i7 ?_; refine jd (DX (V9 f.1 (I2 f.1 (f.1.length-1) k) (f.1.length-1) k i)) ?_; refine i9.new (y7 eZ 91 (fun hp=>.cons rfl<|.nil) rfl rfl rfl rfl) rfl rfl rfl rfl ?_; refine i5 ?_; refine d5.wkC 32 (.k<|.k<|.k<|.k<|.k<|.any<|.k<|.k<|.k<|.k<|.k<|.k<|.nil) rfl ?_; refine i5 ?_; refine jl ?_; refine tO (R0 rfl uu) rfl rfl ?_; refine g8 ?_
     refine d5.finN ?_; refine j3 ?_
     exact d9.lp (k+1) zi zo (d6.mk (.i rfl zi<|zk) (.e (by rfl) rfl<|.a (by rw[hik]; rfl) zi<|.nil) rfl)
   ·intro h9
    replace h9:=Int.not_lt.1 h9
    refine g9 ?_
    exact d9.cut (k) zo (d6.mk (.i rfl zi<|zk) (zk) rfl)
  ·rintro k hkn
   refine je ?_; refine i7 ?_; refine Tr.frzC 38 32 (by simp only[p9]; omega) rfl rfl ?_; refine jn ?_; refine l6 ?_; refine jq ?_ ?_
   ·intro h17
    have hl3:3<=f.1.length:=by omega
    refine l6 ?_
    refine Tr.for1 (σ:=Nat) [⟨5,true,_,_⟩] [] (fun h=>[⟨97,true,[],kI (h:Int)⟩]) (fun h=>[⟨32,[],j5 [b8 (eL eI) f.1,kI f.2.1,kI f.2.2.1,kI f.2.2.2,b8 (eL eZ) f.1,b8 (eL eZ) (I2 f.1 (f.1.length-1) k),kB (decide ((i2 f.1 (u6 f) h).lo<0)),b8 (eL eI) (d8 ((i2 f.1 (u6 f) h).lo).natAbs),kB (decide ((i2 f.1 (u6 f) h).hi<0)),b8 (eL eI) (d8 ((i2 f.1 (u6 f) h).hi).natAbs),kB (decide ((i2 f.1 (u6 f) h).den<0)),b8 (eL eI) (d8 ((i2 f.1 (u6 f) h).den).natAbs)]⟩]) (fun h=>h<=64) (fun h=>h=64) (fun h=>64-h) (0) zi (d6.mk (.i rfl zi<|zk) (.e (by rfl) rfl<|.nil) rfl) ?_ ?_
    ·intro h hR2
     refine jn ?_; refine l3 ?_; refine jq ?_ ?_
     ·intro h19
      refine l3 ?_; refine d5.mutP (cQ (b8 (eL eI) f.1) (kI f.2.1) (kI f.2.2.1) (kI f.2.2.2) (b8 (eL eZ) (I2 f.1 (f.1.length-1) k)) f.1 (i2 f.1 (u6 f) h) 73000 zo hdp (YI h0 hl3 zo).1 (YI h0 hl3 zo).2.1 (YI h0 hl3 zo).2.2 zo) rfl (.nil) (fun g b cap o h=>AR (g:=g) (g':=g1 g.J b cap) rfl h) (fun {J b cap o g} h=>AR (g:=g1 J b cap) (g':=⟨J,g.M⟩) rfl h) rfl ?_; refine j3 ?_
      exact d9.lp (h+1) zi zo (d6.mk (.i rfl zi<|zk) (.e (by rfl) rfl<|.nil) rfl)
     ·intro h19
      replace h19:=Int.not_lt.1 h19
      refine g9 ?_
      exact d9.cut (h) zo (d6.mk (.i rfl zi<|zk) (zk) rfl)
    ·rintro _ rfl
     refine je ?_; refine g8 ?_; refine Tr.frzB 32 [5] A5 ⟨rfl,trivial⟩ rfl ?_; refine jn ?_; refine j3 ?_; exact g6.res (fn:=Tryz.f113) (ts:=[2,3]) rfl rfl (.p rfl (by unfold N8 FZ; rw[if_neg zo,show k=f.1.length-2 by omega])<|.i rfl (by rfl)<|.nil)
   ·intro h17
    replace h17:=Int.not_lt.1 h17
    have hl2:f.1.length=2:=by omega
    refine i7 ?_; refine Tr.frzB 32 [5] A5 ⟨rfl,trivial⟩ rfl ?_; refine jn ?_; refine j3 ?_; exact g6.res (fn:=Tryz.f113) (ts:=[2,3]) rfl rfl (.p rfl (by unfold N8 FZ; rw[if_pos hl2,show k=f.1.length-2 by omega])<|.i rfl (by rfl)<|.nil)

end Go.Fl
