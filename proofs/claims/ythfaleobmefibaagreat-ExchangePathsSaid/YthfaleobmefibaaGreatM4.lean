/- Laws on walking typed knowledge through code, and contracts. -/
import Derived.Test.YthfaleobmefibaaGreatM3
import Derived.RangeFuncBox
import Derived.WalkKit
import Derived.TacticsInMore
import Derived.LoopNIn
import Derived.LoopIn

/- Contracts: numbers of a field as the package offers them. -/
namespace Go.Fl
open Go Go.Proofs
open b8 renaming op->tO
open i7 renaming op->rO
set_option maxRecDepth 100000

theorem LY (c:List Int) (d:Int) (hc:∀i,dl (b6 c i)<=900000) (hd:dl d<=900000):Ct Tryz.prog 120 [b7 H7 (c,d)] (b7 m9 (o4 (c,d))):=by
 refine Ct.mk Tryz.func120 rfl Tryz.ntmps120 rfl (fun w J=>?_); refine Tr.fact (s:=0) rfl (fun _ _ h=>MP h) (fun hl=>?_)
 have hl:c.length=4:=hl
 refine g8 ?_; refine jb 1 rfl ?_; refine ja 2 ?_; refine i1 ?_; refine ja 3 ?_; refine j8 ?_
 refine Tr.for (σ:=Nat) [⟨1,true,_,_⟩,⟨2,true,_,_⟩,⟨3,true,_,_⟩] [⟨1,_,_⟩,⟨2,_,_⟩,⟨3,_,_⟩] (fun n=>[⟨4,true,[],kI (n:Int)⟩]) (fun n=>[]) (fun n=>n<=4/\∀i,n<=i->i<c.length->b6 c i=0) (fun n=>n<=4/\j9 c=c.take n) (fun n=>n) (4) ⟨by omega,fun i h1 h2=>absurd h1 zo⟩ (d8.mk (.i rfl zi<|zk) (zk) rfl) ?_ ?_
 ·rintro n ⟨hn,hz⟩
  refine jn ?_; refine j8 ?_; refine b8.gd rfl rfl rfl (AD rfl id rfl uu (fun hp=>by simp at hp; omega)) rfl rfl ?_; refine i6 ?_; refine b8.gd rfl rfl rfl (BG rfl id rfl id (fun hp=>by simp at hp; omega)) rfl rfl ?_; refine b8.gd rfl rfl rfl (HN (n-1) (fun hp=>by simp at hp; omega) (fun _=>zo) rfl id) rfl rfl ?_; refine b8.gd rfl rfl rfl (i9 (fun hp=>Y9 (b6 c (n-1))) (.a rfl id<|.nil)) rfl rfl ?_; refine i1 ?_; refine Tr.cnd rfl ?_ ?_
  ·intro h3
   try simp only[decide_eq_true_eq,Bool.and_eq_true] at h3
   have h3z:=h3.2
   refine l7 ?_
   exact g6.lp (n-1) ⟨by omega,fun i h2 h3=>by (by_cases e:i=n-1; subst e; exact U0.1 h3z; exact hz i zo h3)⟩ zo (d8.mk (.i rfl zi<|zk) (zk) rfl)
  ·intro h3
   try simp only[decide_eq_true_eq,decide_eq_false_iff_not,Bool.and_eq_false_imp] at h3
   refine i1 ?_
   exact g6.cut (n) ⟨hn,EB zo hz (by by_cases e:n=0; exact .inl e; exact .inr (fun e2=>h3 zo (U0.2 e2)))⟩ (d8.mk (.i rfl zi<|zk) (zk) rfl)
 ·rintro n ⟨hn,ht⟩
  refine jn ?_
  have htk:(List.take (n:Int).toNat (l6 4 (b6 (c,d).1),(c,d).2).1).length=n:=by rw[Int.toNat_natCast,List.length_take]; show min n (l6 4 (b6 c)).length=n; rw[q9]; omega
  have hnt:∀i,i<n->b6 (List.take (n:Int).toNat (l6 4 (b6 (c,d).1),(c,d).2).1) i=b6 c i:=fun i h=>by rw[Int.toNat_natCast]; exact (N8 h).trans (s9 zo)
  refine g8 ?_; refine Tr.frzB 1 [1] H7 ⟨rfl,trivial⟩ rfl ?_; refine jn ?_; refine j5 ?_; refine tO (cR rfl uu rfl uu rfl rfl (fun _=>zo)) rfl rfl ?_; refine i1 ?_; refine Tr.growC 3 0 33 rfl (ks':=[o7 33 0,_]) rfl rfl 22 (eL eI) rfl (.cons inferInstance rfl<|.cons inferInstance rfl<|inferInstance) ?_
  refine Tr.for1 (σ:=Nat) [⟨1,true,_,_⟩,⟨2,true,_,_⟩,⟨3,true,_,_⟩,⟨22,true,_,_⟩,⟨23,true,_,_⟩] [⟨2,_,_⟩] (fun k=>[⟨24,true,[],kI (k:Int)⟩]) (fun k=>[⟨3,[33],j1 [o7 33 k,j4 (.slice none 0 0)]⟩,⟨33,[],l3 true 22 (eL eI) (l6 k fun i=>j2 (b6 c i)) k⟩]) (fun k=>k<=n) (fun k=>k=n) (fun k=>n-k) (0) zi (d8.mk (.i rfl zi<|zk) (.e (by rfl) rfl<|.a (by rfl) zi<|zk) rfl) ?_ ?_
  ·intro k hR1
   refine jn ?_
   have hck:=hc k
   refine l5 ?_; refine jq ?_ ?_
   ·intro h6
    refine j3 ?_; refine ja 6 ?_; refine j5 ?_; refine Tr.draw 5 p7 (by kernel_rfl) ?_; refine j5 ?_; refine rO (i9 (fun hp=>YP _ (by rw[hnt k zo]; omega)) (.se rfl uu rfl rfl<|.nil)) rfl rfl ?_; refine i7.new (A1 (eL eI) 32 (fun hp=>.cons rfl<|.nil) rfl rfl rfl rfl) rfl rfl rfl rfl ?_; refine i6 ?_; refine b8.wkC 3 (.any<|.k<|.nil) rfl ?_; refine i6 ?_; refine jl ?_; refine l7 ?_
    exact g6.lp (k+1) zi zo (d8.mk (.i rfl zi<|zk) (.e (by rfl) rfl<|.a ((congrArg (fun z=>l6 k (fun i=>j2 (b6 c i))++[j2 z]) (hnt k zo)).trans F9.symm) zi<|zk) rfl)
   ·intro h6
    replace h6:=Int.not_lt.1 h6
    refine i1 ?_
    exact g6.cut (k) zo (d8.mk (.i rfl zi<|zk) (zk) rfl)
  ·rintro k hkn
   refine je ?_; refine n7 ?_; refine jc (YP d zo) ?_; refine n7 ?_; refine Tr.frzC 33 3 (by simp only[q7]; omega) rfl rfl ?_; refine l5 ?_; exact f0.resC1 (fn:=Tryz.f120) rfl rfl (s6 rfl (by rw[hkn]; exact (oQ ht).resolve_right zo))

theorem kX (n:Int) (hn:-9223372036854775808<=n/\n<=9223372036854775807):Ct Tryz.prog 165 [kI n] (b7 m9 (o4 ([n,0,0,0],1))):=by
 have hd:=RO hn
 refine Ct.mk Tryz.func165 rfl Tryz.ntmps165 rfl (fun w J=>?_); refine g8 ?_; refine ja 2 ?_; refine n7 ?_; refine jc (M4 n hn) ?_; refine tO (rN [(0,2),(2,2),(4,2),(6,2)] rfl (fun hp=>.cons rfl rfl rfl<|.nil)) rfl rfl ?_; refine jc (M4 1 zo) ?_; refine tO (w5 (fun hp=>.cons rfl rfl rfl<|.cons rfl rfl rfl<|.nil)) rfl rfl ?_; refine jc (LY [n,0,0,0] 1 (fun i=>nH (k:=899997) hd i) (by have:=RO (n:=1) zo; omega)) ?_; refine i1 ?_
 exact f0.resC1 (fn:=Tryz.f165) rfl rfl (s6 rfl zi)

theorem XH (r:z7) (x:B7) (k:Nat) (hpo:I1 r.2.1) (hx:C1 k x) (hk:k<=400000):Ct Tryz.prog 69 [r5 v9 r,b7 m9 x] (b7 m9 (o4 (o0 r.2.1 x))):=by
 have nx:=Y1 hpo hx
 refine Ct.mk Tryz.func69 rfl Tryz.ntmps69 rfl (fun w J=>?_); refine g8 ?_; refine jb 3 rfl ?_; refine ja 4 ?_; refine l5 ?_; refine tO (DT rfl uu) rfl rfl ?_; refine g8 ?_; refine Tr.cnd rfl ?_ ?_
 ·intro h1
  cases h1
 ·intro h1
  refine l5 ?_; refine jc (Y8 r x k hpo hx zo) ?_; refine jc (LY (o0 r.2.1 x).1 (o0 r.2.1 x).2 (fun i=>Nat.le_trans (nx.c i) zo) (Nat.le_trans nx.d zo)) ?_; refine i1 ?_
  exact f0.resC1 (fn:=Tryz.f69) rfl rfl (s6 rfl zi)

theorem kP (r:z7) (x y:B7) (k:Nat) (hpo:I1 r.2.1) (hx:C1 k x) (hy:C1 k y) (hk:k<=100000):Ct Tryz.prog 118 [r5 v9 r,b7 m9 x,b7 m9 y] (b7 m9 (o4 (H3 (o0 r.2.1 x) (o0 r.2.1 y)))):=by
 have nx:=Y1 hpo hx
 have ny:=Y1 hpo hy
 have nz:=LC nx ny
 refine Ct.mk Tryz.func118 rfl Tryz.ntmps118 rfl (fun w J=>?_); refine g8 ?_; refine jb 4 rfl ?_; refine jb 5 rfl ?_; refine ja 6 ?_; refine l5 ?_; refine tO (DT rfl uu) rfl rfl ?_; refine g8 ?_; refine Tr.cnd rfl ?_ ?_
 ·intro h1
  cases h1
 ·intro h1
  refine j5 ?_; refine Tr.draw 5 p7 (by kernel_rfl) ?_; refine g8 ?_; refine jd (Y8 r x k hpo hx zo) ?_; refine j5 ?_; refine jc (Y8 r y k hpo hy zo) ?_; refine jc (LZ (o0 r.2.1 x) (o0 r.2.1 y) (fun i=>Nat.le_trans (nx.c i) zo) (fun i=>Nat.le_trans (ny.c i) zo) (Nat.le_trans nx.d zo) (Nat.le_trans ny.d zo) nx.pos ny.pos) ?_; refine jc (LY (H3 (o0 r.2.1 x) (o0 r.2.1 y)).1 (H3 (o0 r.2.1 x) (o0 r.2.1 y)).2 (fun i=>Nat.le_trans (nz.c i) zo) (Nat.le_trans nz.d zo)) ?_; refine i1 ?_
  exact f0.resC1 (fn:=Tryz.f118) rfl rfl (s6 rfl zi)

theorem XK (r:z7) (x y:B7) (k:Nat) (hpo:I1 r.2.1) (hx:C1 k x) (hy:C1 k y) (hk:k<=100000):Ct Tryz.prog 116 [r5 v9 r,b7 m9 x,b7 m9 y] (b7 m9 (o4 (H3 (o0 r.2.1 x) ((o0 r.2.1 y).1.map (fun z=>-z),(o0 r.2.1 y).2)))):=by
 have nx:=Y1 hpo hx
 have ny:=Y1 hpo hy
 have nn:=TO ny
 have nz:=LC nx nn
 refine Ct.mk Tryz.func116 rfl Tryz.ntmps116 rfl (fun w J=>?_); refine g8 ?_; refine jb 4 rfl ?_; refine jb 5 rfl ?_; refine ja 6 ?_; refine l5 ?_; refine tO (DT rfl uu) rfl rfl ?_; refine g8 ?_; refine Tr.cnd rfl ?_ ?_
 ·intro h1
  cases h1
 ·intro h1
  refine j5 ?_; refine Tr.draw 5 p7 (by kernel_rfl) ?_; refine g8 ?_; refine jd (Y8 r x k hpo hx zo) ?_; refine j5 ?_; refine jc (Y8 r y k hpo hy zo) ?_; refine jc (RD (o0 r.2.1 y).1 (o0 r.2.1 y).2) ?_; refine jc (LZ (o0 r.2.1 x) ((o0 r.2.1 y).1.map (fun z=>-z),(o0 r.2.1 y).2) (fun i=>Nat.le_trans (nx.c i) zo) (fun i=>Nat.le_trans (nn.c i) zo) (Nat.le_trans nx.d zo) (Nat.le_trans nn.d zo) nx.pos nn.pos) ?_; refine jc (LY (H3 (o0 r.2.1 x) ((o0 r.2.1 y).1.map (fun z=>-z),(o0 r.2.1 y).2)).1 (H3 (o0 r.2.1 x) ((o0 r.2.1 y).1.map (fun z=>-z),(o0 r.2.1 y).2)).2 (fun i=>Nat.le_trans (nz.c i) zo) (Nat.le_trans nz.d zo)) ?_
  refine i1 ?_
  exact f0.resC1 (fn:=Tryz.f116) rfl rfl (s6 rfl zi)

theorem kW (r:z7) (x:B7) (k:Nat) (hpo:I1 r.2.1) (h2:r.2.1.length=2) (hx:C1 k x) (hk:k<=400000):Ct Tryz.prog 82 [r5 v9 r,b7 m9 x] (kI (s7 (b6 (o0 r.2.1 x).1 0) 0)):=by
 refine Ct.mk Tryz.func82 rfl Tryz.ntmps82 rfl (fun w J=>?_); refine g8 ?_; refine jb 3 rfl ?_; refine j8 ?_; refine tO (DT rfl uu) rfl rfl ?_; refine g8 ?_; refine Tr.cnd rfl ?_ ?_
 ·intro h1
  cases h1
 ·intro h1
  refine j8 ?_; refine jc (Y8 r x k hpo hx zo) ?_; refine jc (YM r (o0 r.2.1 x).1 (o0 r.2.1 x).2 (OO h2)) ?_; refine i1 ?_
  exact f0.res1 (fn:=Tryz.f82) rfl (.i rfl zi<|.nil)

theorem kS (r:z7) (x y:B7) (k:Nat) (hpo:I1 r.2.1) (hx:C1 k x) (hy:C1 k y) (hk:k<=100000) (h2:r.2.1.length=2):Ct Tryz.prog 83 [r5 v9 r,b7 m9 x,b7 m9 y] (kI (s7 (b6 (H3 (o0 r.2.1 x) ((o0 r.2.1 y).1.map (fun z=>-z),(o0 r.2.1 y).2)).1 0) 0)):=by
 have nx:=Y1 hpo hx
 have ny:=Y1 hpo hy
 have nn:=TO ny
 have nz:=LC nx nn
 refine Ct.mk Tryz.func83 rfl Tryz.ntmps83 rfl (fun w J=>?_); refine g8 ?_; refine jb 4 rfl ?_; refine jb 5 rfl ?_; refine j8 ?_; refine tO (DT rfl uu) rfl rfl ?_; refine g8 ?_; refine Tr.cnd rfl ?_ ?_
 ·intro h1
  cases h1
 ·intro h1
  refine j5 ?_; refine Tr.draw 9 p7 (by kernel_rfl) ?_; refine j5 ?_; refine jd (Y8 r x k hpo hx zo) ?_; refine g8 ?_; refine jd (Y8 r y k hpo hy zo) ?_; refine jd (RD (o0 r.2.1 y).1 (o0 r.2.1 y).2) ?_; refine jd (LZ (o0 r.2.1 x) ((o0 r.2.1 y).1.map (fun z=>-z),(o0 r.2.1 y).2) (fun i=>Nat.le_trans (nx.c i) zo) (fun i=>Nat.le_trans (nn.c i) zo) (Nat.le_trans nx.d zo) (Nat.le_trans nn.d zo) nx.pos nn.pos) ?_; refine i6 ?_; refine jc (YM r (H3 (o0 r.2.1 x) ((o0 r.2.1 y).1.map (fun z=>-z),(o0 r.2.1 y).2)).1 (H3 (o0 r.2.1 x) ((o0 r.2.1 y).1.map (fun z=>-z),(o0 r.2.1 y).2)).2 (dG (OO h2) (dH (OO h2)))) ?_
  refine i1 ?_
  exact f0.res1 (fn:=Tryz.f83) rfl (.i rfl zi<|.nil)

end Go.Fl

/- Contracts: the rational field is opened. -/
namespace Go.Fl
open Go Go.Proofs
open b8 renaming op->tO
open i7 renaming op->rO
set_option maxRecDepth 100000

theorem XY (f:y4) (hf:∀i,-9223372036854775808<=b6 f.1 i/\b6 f.1 i<=9223372036854775807) (hl:f.1.length<=1000000):Ct Tryz.prog 158 [b7 E3 f] (b7 (eL eZ) f.1):=by
 refine Ct.mk Tryz.func158 rfl Tryz.ntmps158 rfl (fun w J=>?_); refine g8 ?_; refine jb 1 rfl ?_; refine T0 ?_; refine Tr.grow (s:=3) rfl rfl 3 rfl 160 eZ rfl ?_
 refine Tr.for1 (σ:=Nat) [⟨7,true,_,_⟩,⟨8,true,_,_⟩] [] (fun k=>[⟨3,true,[3],o7 3 k⟩,⟨9,true,[],kI (k:Int)⟩]) (fun k=>[⟨3,[],l3 true 160 eZ (f.1.take k) k⟩]) (fun k=>k<=f.1.length) (fun k=>k=f.1.length) (fun k=>f.1.length-k) (0) zi (d8.mk (.o rfl zi rfl<|.i rfl zi<|zk) (.a (by rfl) zi<|.nil) rfl) ?_ ?_
 ·intro k hR0
  refine jn ?_
  have hfk:=hf k
  refine l5 ?_; refine jq ?_ ?_
  ·intro h3
   refine C6 ?_; refine tO (i9 (fun hp=>M4 _ zo) (.a rfl uu<|.nil)) rfl rfl ?_; refine b8.new (A1 eZ 16 (fun hp=>.cons rfl<|.nil) rfl rfl rfl rfl) rfl rfl rfl rfl ?_; refine i6 ?_; refine jl ?_; refine j3 ?_
   exact g6.lp (k+1) zi zo (d8.mk (.o rfl zi rfl<|.i rfl zi<|zk) (.a (by rw[V2 zo]) zi<|.nil) rfl)
  ·intro h3
   replace h3:=Int.not_lt.1 h3
   refine i1 ?_
   exact g6.cut (k) zo (d8.mk (.o rfl zi rfl<|.i rfl zi<|zk) (zk) rfl)
 ·rintro k hkn
  refine je ?_
  have htk:f.1.take k=f.1:=by rw[hkn,List.take_length]
  refine j8 ?_; refine Tr.frz 3 [2] ⟨rfl,trivial⟩ (by simp only[q7]; omega) rfl ?_; refine i6 ?_; exact f0.res1 (fn:=Tryz.f158) rfl (.r rfl (by rw[htk])<|.nil)

end Go.Fl


/- Texts of origamis, the steps of the code: lines, numerals, cutting, numbers. Plain Lean, no program in sight. -/
namespace Go.Fl
end Go.Fl

/- Reading a text, step by step. Plain Lean, no program in sight. -/
namespace Go.Fl
end Go.Fl

/- Texts of rows, in plain Lean: what is printed is read back, by words and by cutting. No program in sight. -/
namespace Go.Fl
def KH (ws:List Bt):Bt:=ws.flatMap fun w=>32::w
def y3 (p:List Int) (n:Nat):Prop:=DN p n/\p.Nodup/\p.length=n
instance (p:List Int) (n:Nat):Decidable (y3 p n):=by unfold y3; infer_instance
def E1 (r:l8):Int:=if r.2.length≠r.1.length\/r.1.length<2\/8<r.1.length then 10 else if ¬(y3 r.1 r.1.length/\y3 r.2 r.1.length) then 3 else 0
structure A3 (r:l8):Prop where
 len:r.2.length=r.1.length
 two:2<=r.1.length
 le:r.1.length<=8
 p1:y3 r.1 r.1.length
 p2:y3 r.2 r.1.length
theorem HV {r:l8} (h:E1 r=0):A3 r:=by
 unfold E1 at h
 by_cases h1:r.2.length≠r.1.length\/r.1.length<2\/8<r.1.length
 ·rw[if_pos h1] at h; cases h
 rw[if_neg h1] at h
 by_cases h2:¬(y3 r.1 r.1.length/\y3 r.2 r.1.length)
 ·rw[if_pos h2] at h; cases h
 have h2:=Classical.not_not.1 h2
 exact ⟨by omega,by omega,by omega,h2.1,h2.2⟩
theorem iY {r:l8} (h:A3 r):E1 r=0:=by
 have h1:=h.len; have h2:=h.two; have h3:=h.le
 unfold E1
 rw[if_neg zo,if_neg (fun hh=>hh ⟨h.p1,h.p2⟩)]
theorem A3.b1 {r:l8} (h:A3 r):∀x∈r.1,0<=x/\x<100:=fun x hx=>by have:=SO h.p1.1 hx; have:=h.le; omega
theorem A3.b2 {r:l8} (h:A3 r):∀x∈r.2,0<=x/\x<100:=fun x hx=>by have:=SO h.p2.1 hx; have:=h.le; omega
def gS (r:l8):List Bt:=r.1.map num++[47]::r.2.map num
def UF (r:l8):Bt:=Lib.join (gS r) [32]
theorem eJ {p:List Int}:KH (p.map num)=FR p:=by unfold KH FR; rw[List.flatMap_map]
theorem sR {x:Int} {t b:List Int}:UF (x::t,b)=num x++KH (t.map num++[47]::b.map num):=by
 unfold UF gS
 rw[List.map_cons,List.cons_append,Lib.join_cons]
 congr 1
theorem dD {r:l8} (h:A3 r):(UF r).length<=60:=by
 have h1:=h.len; have h2:=h.two; have h3:=h.le
 obtain ⟨a,b⟩:=r
 cases a with
 | nil=>simp at h2
 | cons x t =>
  have hx:=cL (n:=x)
  have ht:=gK (p:=t)
  have hb:=gK (p:=b)
  rw[sR]
  have e:KH (t.map num++[47]::b.map num)=FR t++32::47::FR b:=by rw[<- eJ,<- eJ]; simp[KH]
  rw[e]
  simp only[List.length_append,List.length_cons] at *
  omega
end Go.Fl

/- Reading rows, as the program and as the reference do: both read just what is printed of rows. Plain Lean, no program in sight. -/
namespace Go.Fl
end Go.Fl

/- Rows: what makes them valid, in the words of both programs; irreducible rows. Plain Lean, no program in sight. -/
namespace Go.Fl
theorem TR:∀{n:Nat} {l:List Int},l.Nodup->(∀x∈l,0<=x/\x<n)->l.length<=n
 | 0,l,_,hb=>by
  cases l with
  | nil=>simp
  | cons a l=>have:=hb a (by simp); omega
 | n+1,l,hd,hb=>by
  by_cases hm:(n:Int)∈l
  ·have h1:=TR (n:=n) (l:=l.erase (n:Int)) (hd.erase _) (fun x hx=>by
    have h2:=hb x (List.mem_of_mem_erase hx)
    have h3:x≠n:=fun e=>by subst e; exact (List.Nodup.not_mem_erase hd) hx
    omega)
   rw[List.length_erase_of_mem hm] at h1
   omega
  ·have:=TR (n:=n) (l:=l) hd (fun x hx=>by
    have h2:=hb x hx
    have h3:x≠n:=fun e=>hm (e▸hx)
    omega)
   omega
theorem pC {p:List Int} {n:Nat} (h:∀x∈p,0<=x/\x<n):DN p n:=fun _ hi=>h _ (G5 hi)
theorem cT:∀{n:Nat} {l:List Int},(∀i:Nat,i<n->(i:Int)∈l)->l.length=n->l.Nodup/\∀x∈l,0<=x/\x<n
 | 0,l,_,hl=>by
  obtain rfl:=List.eq_nil_of_length_eq_zero hl
  simp
 | n+1,l,h,hl=>by
  have hm:(n:Int)∈l:=h n zo
  have ih:=cT (n:=n) (l:=l.erase (n:Int)) (fun i hi=>(List.mem_erase_of_ne zo).2 (h i zo)) (by rw[List.length_erase_of_mem hm]; omega)
  have hp:=List.perm_cons_erase hm
  have hn:(n:Int)∉l.erase (n:Int):=fun hh=>by have:=ih.2 _ hh; omega
  refine ⟨hp.nodup_iff.2 (List.nodup_cons.2 ⟨hn,ih.1⟩),fun x hx=>?_⟩
  rcases List.mem_cons.1 (hp.mem_iff.1 hx) with rfl | hx
  ·omega
  ·have:=ih.2 x hx; omega
theorem dC {l:List Int} {n:Nat}:y3 l n↔(∀i:Nat,i<n->(i:Int)∈l)/\l.length=n:=by
 constructor
 ·rintro ⟨h1,h2,h3⟩
  refine ⟨fun i hi=>Classical.byContradiction fun hn=>?_,h3⟩
  have:=TR (n:=n) (l:=(i:Int)::l) (List.nodup_cons.2 ⟨hn,h2⟩) (fun x hx=>by
   rcases List.mem_cons.1 hx with rfl | hx
   ·omega
   ·exact SO h1 hx)
  rw[List.length_cons] at this; omega
 ·rintro ⟨h1,h2⟩
  obtain ⟨a,b⟩:=cT h1 h2
  exact ⟨pC b,a,h2⟩
theorem fC:∀{l m:List Int},l.Nodup->(∀x∈l,x∈m)->l.length<=m.length
 | [],_,_,_=>Nat.zero_le _
 | a::l,m,hd,h=>by
  have hc:=List.nodup_cons.1 hd
  have ha:a∈m:=h a (by simp)
  have ih:=fC (l:=l) (m:=m.erase a) hc.2 (fun x hx=>(List.mem_erase_of_ne (fun (e:x=a)=>hc.1 (e▸hx))).2 (h x (by simp[hx])))
  rw[List.length_erase_of_mem ha] at ih
  have:0<m.length:=List.length_pos_of_mem ha
  simp only[List.length_cons]; omega
theorem eY {l m:List Int} (hd:l.Nodup) (hl:m.length<=l.length) (h:∀x∈l,x∈m):∀x∈m,x∈l:=fun x hx=>Classical.byContradiction fun hn=>by
 have:=fC (l:=x::l) (m:=m) (List.nodup_cons.2 ⟨hn,hd⟩) (fun y hy=>by
  rcases List.mem_cons.1 hy with rfl | hy
  ·exact hx
  ·exact h y hy)
 rw[List.length_cons] at this; omega
theorem rI {l:List Int} {k:Nat} (hd:l.Nodup) (h:k<l.length):b6 l k∉l.take k:=fun hm=>by
 have h1:(l.take (k+1)).Nodup:=hd.sublist (List.take_sublist _ _)
 rw[V2 h] at h1
 exact (List.nodup_append.1 h1).2.2 _ hm _ (by simp) rfl
def O9 (r:l8) (k:Nat):Bool:=(r.1.take k).any fun a=>!decide (a∈r.2.take k)
def x9 (r:l8):Bool:=decide (∀k,k<r.1.length->1<=k->O9 r k=true)
def BL (r:l8) (k i:Nat):Bool:=(r.2.take i).all fun a=>decide (a∈r.1.take k)
theorem NE {r:l8} (h:A3 r) {k:Nat} (hk:k<=r.1.length):O9 r k=!BL r k k:=by
 have hl:=h.len
 have d1:(r.1.take k).Nodup:=h.p1.2.1.sublist (List.take_sublist _ _)
 have d2:(r.2.take k).Nodup:=h.p2.2.1.sublist (List.take_sublist _ _)
 have l1:(r.1.take k).length=k:=by rw[List.length_take]; omega
 have l2:(r.2.take k).length=k:=by rw[List.length_take]; omega
 have key:(∀a∈r.1.take k,a∈r.2.take k)↔∀a∈r.2.take k,a∈r.1.take k:=by
  exact ⟨fun hh=>eY d1 zo hh,fun hh=>eY d2 zo hh⟩
 unfold O9 BL
 rw[Bool.eq_iff_iff]
 simp only[List.any_eq_true,Bool.not_eq_true',decide_eq_false_iff_not,List.all_eq_false,decide_eq_true_eq]
 constructor
 ·rintro ⟨a,ha,hn⟩
  refine Classical.byContradiction fun hc=>hn (key.2 (fun b hb=>Classical.byContradiction fun hb2=>hc ⟨b,hb,hb2⟩) a ha)
 ·rintro ⟨a,ha,hn⟩
  refine Classical.byContradiction fun hc=>hn (key.1 (fun b hb=>Classical.byContradiction fun hb2=>hc ⟨b,hb,hb2⟩) a ha)
end Go.Fl

/- Contracts: the library, the base, rows (chapter 5). -/
namespace Go.Fl
open Go Go.Proofs
open b8 renaming op->tO
open i7 renaming op->rO
set_option maxRecDepth 100000


theorem GL (a b:List Int):Ct Tryz.prog 23 [b7 (eL eI) a,b7 (eL eI) b] (kB (decide (a=b))):=by
 refine Ct.mk Tryz.func23 rfl Tryz.ntmps23 rfl (fun w J=>?_); refine Tr.fact (s:=0) rfl (fun _ _ h=>P0 h) (fun hb=>?_); refine L3 ?_; refine jq ?_ ?_
 ·intro h1
  refine j8 ?_; exact f0.res1 (fn:=Tryz.f23) rfl (.b rfl (by symm; rw[decide_eq_false_iff_not]; intro e; exact h1 (by rw[e]))<|.nil)
 ·intro h1
  replace h1:=Classical.not_not.1 h1
  refine j3 ?_
  refine Tr.for1 (σ:=Nat) [⟨0,true,_,_⟩,⟨1,true,_,_⟩] [] (fun k=>[⟨5,true,[],kI (k:Int)⟩]) (fun k=>[]) (fun k=>k<=a.length/\∀i,i<k->b6 a i=b6 b i) (fun k=>a=b) (fun k=>a.length-k) (0) ⟨Nat.zero_le _,fun i h=>absurd h zo⟩ (d8.mk (.i rfl zi<|zk) (.nil) rfl) ?_ ?_
  ·rintro k ⟨hk0,hR0⟩
   refine jn ?_; refine l7 ?_; refine jq ?_ ?_
   ·intro h4
    refine n7 ?_; refine Tr.draw 8 p7 (by kernel_rfl) ?_; refine w3 ?_; refine jq ?_ ?_
    ·intro h6
     refine w3 ?_; exact f0.res1 (fn:=Tryz.f23) rfl (.b rfl (by symm; rw[decide_eq_false_iff_not]; intro e; exact h6 (by rw[e]))<|.nil)
    ·intro h6
     replace h6:=Classical.not_not.1 h6
     refine j3 ?_
     exact g6.lp (k+1) ⟨by omega,LH hR0 h6⟩ zo (d8.mk (.i rfl zi<|zk) (.nil) rfl)
   ·intro h4
    replace h4:=Int.not_lt.1 h4
    refine i1 ?_
    exact g6.cut (k) (F5 zo (fun i hi=>hR0 i zo)) (d8.mk (.i rfl zi<|zk) (.nil) rfl)
  ·intro k hE0
   refine je ?_; refine j8 ?_; exact f0.res1 (fn:=Tryz.f23) rfl (.b rfl (by symm; rw[decide_eq_true_eq]; exact hE0)<|.nil)

theorem XC (l:List Int) (x:Int):Ct Tryz.prog 152 [b7 (eL eI) l,kI x] (kB (decide (x∈l))):=by
 refine Ct.mk Tryz.func152 rfl Tryz.ntmps152 rfl (fun w J=>?_); refine Tr.fact (s:=0) rfl (fun _ _ h=>P0 h) (fun hb=>?_); refine B0 ?_
 refine Tr.for1 (σ:=Nat) [⟨0,true,_,_⟩,⟨1,true,_,_⟩] [] (fun k=>[⟨5,true,[],kI (k:Int)⟩]) (fun k=>[]) (fun k=>k<=l.length/\∀i,i<k->b6 l i≠x) (fun k=>∀i,i<l.length->b6 l i≠x) (fun k=>l.length-k) (0) ⟨Nat.zero_le _,fun i h=>absurd h zo⟩ (d8.mk (.i rfl zi<|zk) (.nil) rfl) ?_ ?_
 ·rintro k ⟨hk0,hR0⟩
  refine jn ?_; refine l7 ?_; refine jq ?_ ?_
  ·intro h2
   refine C6 ?_; refine jq ?_ ?_
   ·intro h4
    refine w3 ?_; exact f0.res1 (fn:=Tryz.f152) rfl (.b rfl (by symm; rw[decide_eq_true_eq,<- h4]; exact G5 zo)<|.nil)
   ·intro h4
    refine j3 ?_
    exact g6.lp (k+1) ⟨by omega,LH hR0 h4⟩ zo (d8.mk (.i rfl zi<|zk) (.nil) rfl)
  ·intro h2
   replace h2:=Int.not_lt.1 h2
   refine i1 ?_
   exact g6.cut (k) (fun i hi=>hR0 i zo) (d8.mk (.i rfl zi<|zk) (.nil) rfl)
 ·intro k hE0
  refine je ?_; refine j8 ?_; exact f0.res1 (fn:=Tryz.f152) rfl (.b rfl (by symm; rw[decide_eq_false_iff_not]; intro hm; obtain ⟨i,hi,e⟩:=List.mem_iff_getElem.1 hm; exact hE0 i hi (by rw[Z9 (List.getElem?_eq_getElem hi),e]))<|.nil)

theorem YD (l:List Int) (n:Nat) (hn:n<=100):Ct Tryz.prog 121 [b7 (eL eI) l,kI (n:Int)] (kB (decide (y3 l n))):=by
 refine Ct.mk Tryz.func121 rfl Tryz.ntmps121 rfl (fun w J=>?_); refine Tr.fact (s:=0) rfl (fun _ _ h=>P0 h) (fun hb=>?_); refine B0 ?_
 refine Tr.for1 (σ:=Nat) [⟨0,true,_,_⟩,⟨1,true,_,_⟩] [] (fun k=>[⟨5,true,[],kI (k:Int)⟩]) (fun k=>[]) (fun k=>k<=n/\∀i,i<k->(i:Int)∈l) (fun k=>∀i,i<n->(i:Int)∈l) (fun k=>n-k) (0) ⟨Nat.zero_le _,fun i h=>absurd h zo⟩ (d8.mk (.i rfl zi<|zk) (.nil) rfl) ?_ ?_
 ·rintro k ⟨hk0,hR0⟩
  refine jn ?_; refine j3 ?_; refine jq ?_ ?_
  ·intro h2
   refine j3 ?_; refine tO (i9 (fun hp=>XC _ _) (.a rfl uu<|.a rfl uu<|.nil)) rfl rfl ?_; refine j5 ?_; refine Tr.cnd rfl ?_ ?_
   ·intro h4
    try simp only[decide_eq_false_iff_not,Bool.not_eq_true'] at h4
    refine w3 ?_; exact f0.res1 (fn:=Tryz.f121) rfl (.b rfl (by symm; rw[decide_eq_false_iff_not,dC]; intro hh; exact h4 (hh.1 k zo))<|.nil)
   ·intro h4
    try simp only[decide_eq_true_eq,Bool.not_eq_false'] at h4
    refine j3 ?_
    exact g6.lp (k+1) ⟨by omega,LH hR0 h4⟩ zo (d8.mk (.i rfl zi<|zk) (.nil) rfl)
  ·intro h2
   replace h2:=Int.not_lt.1 h2
   refine i1 ?_
   exact g6.cut (k) (fun i hi=>hR0 i zo) (d8.mk (.i rfl zi<|zk) (.nil) rfl)
 ·intro k hE0
  refine je ?_; refine B0 ?_; exact f0.res1 (fn:=Tryz.f121) rfl (.b rfl (by rw[Bool.eq_iff_iff,decide_eq_true_eq,decide_eq_true_eq,dC]; exact ⟨fun e=>⟨hE0,by omega⟩,fun e=>by have:=e.2; omega⟩)<|.nil)

theorem lW (r:l8):Ct Tryz.prog 70 [b7 eO r] (kI (E1 r)):=by
 refine Ct.mk Tryz.func70 rfl Tryz.ntmps70 rfl (fun w J=>?_); refine g8 ?_; refine jb 1 rfl ?_; refine pI ?_; refine Tr.cnd rfl ?_ ?_
 ·intro h2
  try simp only[decide_eq_true_eq,Bool.or_eq_true,ne_eq] at h2
  refine j8 ?_; exact f0.res1 (fn:=Tryz.f70) rfl (.i rfl (by unfold E1; rw[if_pos zo])<|.nil)
 ·intro h2
  try simp only[decide_eq_false_iff_not,Bool.or_eq_false_iff,Int.not_lt,ne_eq,Classical.not_not] at h2
  refine j3 ?_; refine tO (i9 (fun hp=>YD _ _ zo) (.a rfl uu<|.a rfl uu<|.nil)) rfl rfl ?_; refine n7 ?_; refine b8.gd rfl rfl rfl (i9 (fun hp=>YD _ _ zo) (.a rfl id<|.a rfl id<|.nil)) rfl rfl ?_; refine i1 ?_; refine Tr.cnd rfl ?_ ?_
  ·intro h4
   try simp only[decide_eq_false_iff_not,Bool.or_eq_true,Bool.not_eq_true'] at h4
   refine j8 ?_; exact f0.res1 (fn:=Tryz.f70) rfl (.i rfl (by unfold E1; rw[if_neg zo,if_pos (fun hh=>h4.elim (fun h=>h hh.1) (fun h=>h hh.2))])<|.nil)
  ·intro h4
   try simp only[decide_eq_true_eq,Bool.not_eq_false',Bool.or_eq_false_iff] at h4
   refine j3 ?_; exact f0.res1 (fn:=Tryz.f70) rfl (.i rfl (by unfold E1; rw[if_neg zo,if_neg (fun hh=>hh h4)])<|.nil)

theorem XW (l:List Int) (n:Nat) (hn:n<=100):Ct Tryz.prog 153 [b7 (eL eI) l,kI (n:Int)] (kB (decide (y3 l n))):=by
 refine Ct.mk Tryz.func153 rfl Tryz.ntmps153 rfl (fun w J=>?_); refine Tr.fact (s:=0) rfl (fun _ _ h=>P0 h) (fun hb=>?_); refine j3 ?_; refine b8.new (AB Z3 9 rfl uu rfl uu rfl rfl rfl (fun _=>zo)) rfl rfl rfl rfl ?_; refine B0 ?_
 refine Tr.for1 (σ:=Nat) [⟨0,true,_,_⟩,⟨1,true,_,_⟩,⟨5,true,_,_⟩,⟨10,true,_,_⟩,⟨11,true,_,_⟩] [] (fun k=>[⟨12,true,[],kI (k:Int)⟩]) (fun k=>[⟨9,[],l3 false 4 Z3 (AI n (l.take k)) n⟩]) (fun k=>k<=l.length/\(∀i,i<k->0<=b6 l i/\b6 l i<n)/\(l.take k).Nodup) (fun k=>DN l n/\l.Nodup) (fun k=>l.length-k) (0) ⟨by omega,fun i h=>absurd h zo,by simp⟩ (d8.mk (.i rfl zi<|zk) (.a (by simp[uB]) zi<|.nil) rfl) ?_ ?_
 ·rintro k ⟨hk,hR,hD⟩
  refine jn ?_; refine l5 ?_; refine jq ?_ ?_
  ·intro h3
   refine aR ?_
   first | refine b8.gd rfl rfl rfl (HM rfl id rfl id (fun hp=>by simp at hp; omega)) rfl rfl ?_ | refine b8.gd rfl rfl rfl (FF rfl id rfl id (fun hp=>by simp at hp; omega)) rfl rfl ?_
   refine i1 ?_; refine Tr.cnd rfl ?_ ?_
   ·intro h5
    have hbad:¬(0<=b6 l k/\b6 l k<n/\b6 l k∉l.take k):=by (rintro ⟨a,b,c⟩; simp only[Bool.or_eq_true,decide_eq_true_eq,cG a b] at h5; rcases h5 with (h | h) | h; omega; omega; exact c h)
    refine B1 ?_; exact f0.res1 (fn:=Tryz.f153) rfl (.b rfl (by symm; rw[decide_eq_false_iff_not]; rintro ⟨hh1,hh2,_⟩; exact hbad ⟨(hh1 k zo).1,(hh1 k zo).2,rI hh2 zo⟩)<|.nil)
   ·intro h5
    have hgood:0<=b6 l k/\b6 l k<n/\b6 l k∉l.take k:=by (simp only[Bool.or_eq_false_iff,decide_eq_false_iff_not] at h5; obtain ⟨⟨q1,q2⟩,q3⟩:=h5; have a:0<=b6 l k:=zo; have b:b6 l k<n:=zo; rw[cG a b] at q3; exact ⟨a,b,of_decide_eq_false q3⟩)
    refine C6 ?_
    exact g6.lp (k+1) ⟨by omega,LH hR ⟨hgood.1,hgood.2.1⟩,by (rw[V2 zo]; exact rH hD (decide_eq_false hgood.2.2))⟩ zo (d8.mk (.i rfl zi<|zk) (.a (by rw[V2 zo,uC zo]) zi<|.nil) rfl)
  ·intro h3
   replace h3:=Int.not_lt.1 h3
   refine i1 ?_
   exact g6.cut (k) ⟨fun i hi=>hR i zo,by (rw[List.take_of_length_le zo] at hD; exact hD)⟩ (d8.mk (.i rfl zi<|zk) (.a zi zi<|.nil) rfl)
 ·rintro k ⟨hr,hd⟩
  refine je ?_; refine B0 ?_; exact f0.res1 (fn:=Tryz.f153) rfl (.b rfl (by rw[Bool.eq_iff_iff,decide_eq_true_eq,decide_eq_true_eq]; exact ⟨fun e=>⟨hr,hd,by omega⟩,fun e=>by have:=e.2.2; omega⟩)<|.nil)

theorem LV (r:l8):Ct Tryz.prog 108 [b7 eO r] (kI (E1 r)):=by
 refine Ct.mk Tryz.func108 rfl Tryz.ntmps108 rfl (fun w J=>?_); refine g8 ?_; refine jb 1 rfl ?_; refine pJ ?_; refine Tr.cnd rfl ?_ ?_
 ·intro h2
  try simp only[decide_eq_true_eq,Bool.or_eq_true,ne_eq] at h2
  refine j3 ?_; exact f0.res1 (fn:=Tryz.f108) rfl (.i rfl (by unfold E1; rw[if_pos zo])<|.nil)
 ·intro h2
  try simp only[decide_eq_false_iff_not,Bool.or_eq_false_iff,Int.not_lt,ne_eq,Classical.not_not] at h2
  refine n7 ?_; refine tO (i9 (fun hp=>XW _ _ zo) (.a rfl uu<|.a rfl uu<|.nil)) rfl rfl ?_; refine n7 ?_; refine b8.gd rfl rfl rfl (i9 (fun hp=>XW _ _ zo) (.a rfl id<|.a rfl id<|.nil)) rfl rfl ?_; refine n7 ?_; refine Tr.cnd rfl ?_ ?_
  ·intro h4
   try simp only[decide_eq_false_iff_not,Bool.or_eq_true,Bool.not_eq_true'] at h4
   refine j3 ?_; exact f0.res1 (fn:=Tryz.f108) rfl (.i rfl (by unfold E1; rw[if_neg zo,if_pos (fun hh=>h4.elim (fun h=>h hh.1) (fun h=>h hh.2))])<|.nil)
  ·intro h4
   try simp only[decide_eq_true_eq,Bool.not_eq_false',Bool.or_eq_false_iff] at h4
   refine l7 ?_; exact f0.res1 (fn:=Tryz.f108) rfl (.i rfl (by unfold E1; rw[if_neg zo,if_neg (fun hh=>hh h4)])<|.nil)

end Go.Fl

/- Numbers of a field: what is handed back is taken as it was. No program in sight. -/
namespace Go.Fl
open Go
theorem ZX:∀{cs:List Int} {g:Nat},gL g (cs.map fun z=>-z)=gL g cs
 | [],_=>rfl
 | c::cs,g=>by rw[List.map_cons,gL,gL,Int.natAbs_neg,ZX]
theorem oA {a g:Int} (h:g∣a):-a/g=-(a/g):=by
 obtain ⟨q,rfl⟩:=h
 by_cases hg:g=0
 ·subst hg; simp
 ·rw[Int.mul_ediv_cancel_left _ hg,<- Int.mul_neg,Int.mul_ediv_cancel_left _ hg]
theorem bG {cs:List Int} {d:Int}:loN (cs.map fun z=>-z) d=((loN cs d).1.map (fun z=>-z),(loN cs d).2):=by
 have e:u5 d (cs.map fun z=>-z)=u5 d cs:=by unfold u5; rw[ZX]
 unfold loN
 rw[e,List.map_map,List.map_map]
 refine Prod.ext (List.map_congr_left fun c hc=>?_) rfl
 exact oA (AJ (.inr hc))
theorem pY {cs:List Int} {d:Int} (hd:d≠0):loN (loN cs d).1 (loN cs d).2=loN cs d:=by
 have h2:=JM (cs:=cs) hd
 refine TE zo hd ?_
 show ((cs.map fun c=>c/u5 d cs).map fun c=>c*d)=cs.map fun c=>c*(d/u5 d cs)
 rw[List.map_map]
 refine List.map_congr_left fun c hc=>?_
 obtain ⟨q,hq⟩:=AJ (d:=d) (cs:=cs) (.inr hc)
 obtain ⟨t,ht⟩:=AJ (d:=d) (cs:=cs) (.inl rfl)
 have h0:=FN (cs:=cs) hd
 show c/u5 d cs*d=c*(d/u5 d cs)
 have e1:c/u5 d cs=q:=by rw[congrArg (·/u5 d cs) hq]; exact Int.mul_ediv_cancel_left _ h0
 have e2:d/u5 d cs=t:=by rw[congrArg (·/u5 d cs) ht]; exact Int.mul_ediv_cancel_left _ h0
 rw[e1,e2]
 calc q*d=q*(u5 d cs*t):=by rw[<- ht]
  _=u5 d cs*q*t:=by rw[<- Int.mul_assoc,Int.mul_comm q]
  _=c*t:=by rw[<- hq]
abbrev m8:=List Int×Int
structure A7 (p:List Int) (v:m8):Prop where
 len:v.1.length=4
 pos:0<v.2
 hi:∀i,p.length-1<=i->b6 v.1 i=0
 loN:loN v.1 v.2=v
theorem zero_ediv {g:Int}:(0:Int)/g=0:=by simp
theorem pX {cs:List Int} {d:Int} {i:Nat} (h:b6 cs i=0):b6 (loN cs d).1 i=0:=by
 by_cases hl:i<cs.length
 ·rw[TS hl,h,zero_ediv]
 ·rw[w4 (by rw[BD]; omega)]; rfl
theorem bE {p cs:List Int} {d:Int} (hl:cs.length=4) (hd:d≠0) (h:∀i,p.length-1<=i->b6 cs i=0):A7 p (loN cs d):=⟨BD.trans hl,JM hd,fun i hi=>pX (h i hi),pY hd⟩
theorem KJ {p:List Int} {x:List (List Int)×List Int} (_:I1 p):A7 p (o0 p x):=bE HQ MG fun i hi=>by
 by_cases h:i<4
 ·rw[cE h,w4 (by rw[dS]; exact hi)]; rfl
 ·rw[w4 (by rw[HQ]; omega)]; rfl
theorem VW {p:List Int} {x y:m8} (hx:A7 p x) (hy:A7 p y):A7 p (H3 x y):=bE q9 (by have:=Int.mul_pos hx.pos hy.pos; omega) fun i hi=>by
 by_cases h:i<4
 ·rw[s9 h,hx.hi i hi,hy.hi i hi]; simp
 ·rw[w4 (by rw[q9]; omega)]; rfl
def FB (v:m8):m8:=(v.1.map (fun z=>-z),v.2)
def J6 (x y:m8):m8:=H3 x (FB y)
theorem JT {xs:List Int} {i:Nat}:b6 (xs.map fun z=>-z) i=-b6 xs i:=by
 by_cases h:i<xs.length
 ·simp[b6,h]
 ·rw[w4 (by rw[List.length_map]; omega),w4 zo]; rfl
theorem qY {p:List Int} {x:m8} (hx:A7 p x):A7 p (FB x):=by
 refine ⟨by show (x.1.map _).length=4; rw[List.length_map,hx.len],hx.pos,fun i hi=>by show b6 (x.1.map _) i=0; rw[JT,hx.hi i hi]; rfl,?_⟩
 show loN (x.1.map fun z=>-z) x.2=FB x
 rw[bG,hx.loN]; rfl
theorem eV {p:List Int} {x y:m8} (hx:A7 p x) (hy:A7 p y):A7 p (J6 x y):=VW hx (qY hy)
theorem E7.mono {j k:Nat} {v:m8} (h:E7 j v) (hjk:j<=k):E7 k v:=⟨fun i=>Nat.le_trans (h.c i) hjk,Nat.le_trans h.d hjk,h.pos,h.len⟩
theorem fP {xs:List Int}:∃k,xs=j9 xs++List.replicate k 0/\xs.length=(j9 xs).length+k:=by
 induction xs with
 | nil=>exact ⟨0,rfl,rfl⟩
 | cons x xs ih =>
  obtain ⟨k,h1,h2⟩:=ih
  simp only[j9]
  split
  ·rename_i h
   obtain ⟨q1,q2⟩:j9 xs=[]/\x=0:=by first | exact h | simpa using h | exact ⟨by assumption,by assumption⟩
   rw[q1] at h1 h2
   refine ⟨k+1,?_,by simp at h2 ⊢; omega⟩
   rw[List.nil_append,List.replicate_succ,q2]
   rw[List.nil_append] at h1
   exact congrArg _ h1
  ·exact ⟨k,by rw[List.cons_append,<- h1],by simp only[List.length_cons]; omega⟩
theorem FD {xs:List Int} {i:Nat}:b6 (j9 xs) i=b6 xs i:=by
 obtain ⟨k,h1,_⟩:=fP (xs:=xs)
 conv=>rhs; rw[h1]
 rw[JQ]
 split
 ·rfl
 ·rw[w4 zo]; rfl
theorem fQ {xs:List Int} {n:Nat} (h:∀i,n<=i->b6 xs i=0):(j9 xs).length<=n:=by
 refine Classical.byContradiction fun hn=>?_
 have hne:j9 xs≠[]:=fun e=>by rw[e] at hn; simp at hn
 have hl:=HZ hne
 have:=h ((j9 xs).length-1) zo
 rw[<- FD] at this
 refine hl ?_
 rw[List.getLast_eq_getElem]
 have hlt:(j9 xs).length-1<(j9 xs).length:=by omega
 simpa [b6,List.getD,List.getElem?_eq_getElem hlt] using this
theorem qI {xs:List Int}:((xs.map j2).map val)=xs:=by
 rw[List.map_map]
 conv=>rhs; rw[<- List.map_id xs]
 exact List.map_congr_left fun c _=>H8 c
theorem CU {p:List Int} {v:m8} (hv:A7 p v):o0 p (o4 v)=v:=by
 unfold o0 o4
 show loN (T5 p (((j9 v.1).map j2).map val)) (S6 (j2 v.2))=v
 have h0:=hv.pos
 rw[qI,show S6 (j2 v.2)=v.2 by unfold S6; rw[H8,if_neg zo]]
 have e:T5 p (j9 v.1)=v.1:=by
  unfold T5
  rw[dU rfl (fQ hv.hi)]
  conv=>rhs; rw[T8 hv.len]
  refine D9 fun i _=>?_
  rw[JQ,FD]
  split
  ·rfl
  ·rw[<- FD,w4 zo]; rfl
 rw[e,hv.loN]
theorem CC {v:m8} {k:Nat} (hv:E7 k v):C1 k (o4 v):=by
 refine ⟨?_,fun i=>?_,T2 _,by show (j2 v.2).length<=k; rw[C9]; exact hv.d⟩
 ·show ((j9 v.1).map j2).length<=6
  have:=R8 (xs:=v.1)
  rw[List.length_map]
  have:=hv.len
  omega
 ·show B6 (b6 ((j9 v.1).map j2) i)/\(b6 ((j9 v.1).map j2) i).length<=k
  have e:b6 ((j9 v.1).map j2) i=j2 (b6 v.1 i):=by
   rw[<- FD]
   by_cases h:i<(j9 v.1).length
   ·simp[b6,h]
   ·rw[w4 (by rw[List.length_map]; omega),w4 zo]; rfl
  rw[e]
  exact ⟨T2 _,by rw[C9]; exact hv.c i⟩
def v5 (n:Int):m8:=([n,0,0,0],1)
theorem uH {cs:List Int}:u5 1 cs=1:=by
 have h1:=SG (c:=cs) (g:=1) zo
 have h2:=MX (cs:=cs) (g:=1) zo
 unfold u5
 rw[if_neg zo]
 show ((gL 1 cs:Nat):Int)=1
 omega
theorem NJ {cs:List Int}:loN cs 1=(cs,1):=by
 unfold loN
 rw[uH]
 simp
theorem aJ {p:List Int} (hp:I1 p) (n:Int):A7 p (v5 n):=by
 refine ⟨rfl,by show (0:Int)<1; omega,fun i hi=>?_,NJ⟩
 have:=hp.1.1
 show b6 [n,0,0,0] i=0
 match i,hi with
 | 0,h=>omega
 | 1,_=>rfl
 | 2,_=>rfl
 | 3,_=>rfl
 | i+4,_=>rw[w4 (by simp)]; rfl
theorem hH {m n:Int}:H3 (v5 m) (v5 n)=v5 (m+n):=by
 unfold H3 v5
 rw[show (1:Int)*1=1 by rfl,NJ]
 simp[l6,List.range,List.range.loop,b6]
theorem fB {m n:Int}:J6 (v5 m) (v5 n)=v5 (m-n):=by
 have e:FB (v5 n)=v5 (-n):=by simp[FB,v5]
 unfold J6
 rw[e,hH,Int.sub_eq_add_neg]
end Go.Fl

/- Places of intervals, and what is computed of an exchange. No program in sight. -/
namespace Go.Fl
open Go
def AF (ls:List m8) (row:List Int):Nat->m8
 | 0=>v5 0
 | k+1=>H3 (AF ls row k) (b6 ls (b6 row k).toNat)
def DX (ls:List m8) (row:List Int) (k:Nat):List (List (List Int)×List Int):=l6 row.length fun a=>if row.idxOf (a:Int)<k then o4 (AF ls row (row.idxOf (a:Int))) else ([],[])
def H9 (ls:List m8) (row:List Int):List m8:=l6 row.length fun a=>AF ls row (row.idxOf (a:Int))
def PG (ls:List m8) (row:List Int):m8:=AF ls row row.length
def WF (r:List Int×List Int) (ls:List m8) (k:Nat):List m8:=l6 k fun a=>J6 (b6 (H9 ls r.2) a) (b6 (H9 ls r.1) a)
theorem sO {ls:List m8} {row:List Int}:DX ls row 0=List.replicate row.length ([],[]):=by
 unfold DX
 rw[D9 (G:=fun _=>([],[])) fun a _=>by simp]
 simp[l6,List.map_const']
theorem SN {row:List Int} {n k:Nat} (h:y3 row n) (hk:k<row.length):row.idxOf (b6 row k)=k:=pB hk fun i hi e=>by
 have:=HG h.2.1 zo hk e
 omega
theorem sN {ls:List m8} {row:List Int} {n k:Nat} (h:y3 row n) (hk:k<row.length):(DX ls row k).set (b6 row k).toNat (o4 (AF ls row k))=DX ls row (k+1):=by
 have hr:=h.1 k hk
 have hl:=h.2.2
 unfold DX
 rw[FQ]
 refine D9 fun a ha=>?_
 by_cases e:a=(b6 row k).toNat
 ·subst e
  have hi:row.idxOf (((b6 row k).toNat:Nat):Int)=k:=by rw[show (((b6 row k).toNat:Nat):Int)=b6 row k by omega]; exact SN h hk
  rw[if_pos rfl,hi,if_pos zo]
 ·have hne:row.idxOf (a:Int)≠k:=fun hi=>e (by
   obtain ⟨j,hj,hja⟩:=KA h.2.1 h.1 h.2.2 (x:=(a:Int)) zo zo
   have:=SN h (k:=j) zo
   rw[hja,hi] at this
   subst this
   omega)
  rw[if_neg e]
  by_cases h1:row.idxOf (a:Int)<k
  ·rw[if_pos h1,if_pos zo]
  ·rw[if_neg h1,if_neg zo]
theorem sM {ls:List m8} {row:List Int} {n:Nat} (h:y3 row n):DX ls row row.length=(H9 ls row).map o4:=by
 unfold DX H9
 simp only[l6,List.map_map]
 refine List.map_congr_left fun a ha=>?_
 have ha:a<row.length:=List.mem_range.1 ha
 have hl:=h.2.2
 obtain ⟨j,hj,hja⟩:=KA h.2.1 h.1 h.2.2 (x:=(a:Int)) zo zo
 have hm:(a:Int)∈row:=by rw[<- hja]; exact G5 zo
 show (if _ then _ else _)=o4 (AF ls row (row.idxOf (a:Int)))
 rw[if_pos (List.idxOf_lt_length_of_mem hm)]
def HB (D:Int) (M:Nat) (v:m8):Prop:=∃cs:List Int,cs.length=4/\v=loN cs D/\∀i,(b6 cs i).natAbs<=M
theorem bF {cs:List Int} {D:Int} (hD:D≠0) (i:Nat):b6 (loN cs D).1 i*D=b6 cs i*(loN cs D).2:=by
 by_cases h:i<cs.length
 ·rw[TS h]
  obtain ⟨q,hq⟩:=AJ (d:=D) (cs:=cs) (.inr (TU h))
  obtain ⟨t,ht⟩:=AJ (d:=D) (cs:=cs) (.inl rfl)
  have h0:=FN (cs:=cs) hD
  show b6 cs i/u5 D cs*D=b6 cs i*(D/u5 D cs)
  have e1:b6 cs i/u5 D cs=q:=by rw[congrArg (·/u5 D cs) hq]; exact Int.mul_ediv_cancel_left _ h0
  have e2:D/u5 D cs=t:=by rw[congrArg (·/u5 D cs) ht]; exact Int.mul_ediv_cancel_left _ h0
  rw[e1,e2]
  calc q*D=q*(u5 D cs*t):=by rw[<- ht]
   _=u5 D cs*q*t:=by rw[<- Int.mul_assoc,Int.mul_comm q]
   _=b6 cs i*t:=by rw[<- hq]
 ·rw[w4 (by rw[BD]; omega),w4 zo]
  show (0:Int)*D=0*_
  rw[Int.zero_mul,Int.zero_mul]
theorem fG {F:Nat->Int} {k:Nat} {m:Int}:(l6 k F).map (fun c=>c*m)=l6 k fun i=>F i*m:=by simp[l6]
theorem HB.add {D:Int} {M M':Nat} {x y:m8} (hD:0<D) (hx:HB D M x) (hy:HB D M' y):HB D (M+M') (H3 x y):=by
 obtain ⟨cs,h1,rfl,h3⟩:=hx
 obtain ⟨cs',h1',rfl,h3'⟩:=hy
 have hD0:D≠0:=by omega
 refine ⟨l6 4 fun i=>b6 cs i+b6 cs' i,q9,?_,fun i=>?_⟩
 ·have p1:=JM (cs:=cs) hD0
  have p2:=JM (cs:=cs') hD0
  have p3:=Int.mul_pos p1 p2
  refine TE zo hD0 ?_
  rw[fG,fG]
  refine D9 fun i _=>?_
  have e1:=bF (cs:=cs) hD0 i
  have e2:=bF (cs:=cs') hD0 i
  generalize b6 (loN cs D).1 i=a at *
  generalize b6 (loN cs' D).1 i=b at *
  generalize (loN cs D).2=c at *
  generalize (loN cs' D).2=d at *
  generalize b6 cs i=u at *
  generalize b6 cs' i=v at *
  calc (a*d+b*c)*D=(a*D)*d+(b*D)*c:=by rw[Int.add_mul,Int.mul_assoc,Int.mul_comm d D,<- Int.mul_assoc,Int.mul_assoc b,Int.mul_comm c D,<- Int.mul_assoc b]
   _=u*c*d+v*d*c:=by rw[e1,e2]
   _=(u+v)*(c*d):=by rw[Int.add_mul,Int.mul_assoc,Int.mul_assoc v,Int.mul_comm d c]
 ·by_cases h:i<4
  ·rw[s9 h]; have:=h3 i; have:=h3' i; omega
  ·rw[w4 (by rw[q9]; omega)]; show (0:Int).natAbs<=_; omega
theorem HB.neg {D:Int} {M:Nat} {x:m8} (hx:HB D M x):HB D M (FB x):=by
 obtain ⟨cs,h1,rfl,h3⟩:=hx
 refine ⟨cs.map fun z=>-z,by rw[List.length_map,h1],bG.symm,fun i=>?_⟩
 rw[JT,Int.natAbs_neg]
 exact h3 i
theorem HB.sub {D:Int} {M M':Nat} {x y:m8} (hD:0<D) (hx:HB D M x) (hy:HB D M' y):HB D (M+M') (J6 x y):=hx.add hD hy.neg
theorem HB.mono {D:Int} {M M':Nat} {x:m8} (hx:HB D M x) (h:M<=M'):HB D M' x:=let ⟨cs,h1,h2,h3⟩:=hx; ⟨cs,h1,h2,fun i=>Nat.le_trans (h3 i) h⟩
theorem HB.nbd {D:Int} {M k:Nat} {x:m8} (hx:HB D M x) (hD:0<D) (h1:dl D<=k) (h2:dl (M:Int)<=k):E7 k x:=by
 obtain ⟨cs,l,rfl,h3⟩:=hx
 exact TD (fun i=>Nat.le_trans (J8 (h3 i)) h2) h1 zo l
theorem HB.scale {D m:Int} {M:Nat} {x:m8} (hx:HB D M x) (hD:0<D) (hm:0<m):HB (D*m) (M*m.natAbs) x:=by
 obtain ⟨cs,l,rfl,h3⟩:=hx
 refine ⟨cs.map fun c=>c*m,by rw[List.length_map,l],(NK zo zo).symm,fun i=>?_⟩
 by_cases h:i<cs.length
 ·have e:b6 (cs.map fun c=>c*m) i=b6 cs i*m:=by simp[b6,h]
  rw[e,Int.natAbs_mul]
  exact Nat.mul_le_mul_right _ (h3 i)
 ·rw[w4 (by rw[List.length_map]; omega)]; show (0:Int).natAbs<=_; omega
theorem HB.zero {D:Int} (hD:0<D):HB D 0 (v5 0):=by
 refine ⟨[0,0,0,0],rfl,?_,fun i=>?_⟩
 ·have:v5 0=loN [0,0,0,0] 1:=NJ.symm
  rw[this]
  refine TE (by decide) zo ?_
  simp
 ·match i with
  | 0=>exact Nat.le_refl _
  | 1=>exact Nat.le_refl _
  | 2=>exact Nat.le_refl _
  | 3=>exact Nat.le_refl _
  | i+4=>rw[w4 (by simp)]; exact Nat.le_refl _
theorem HB.self {p:List Int} {v:m8} {M:Nat} (h:A7 p v) (hM:∀i,(b6 v.1 i).natAbs<=M):HB v.2 M v:=⟨v.1,h.len,h.loN.symm,hM⟩
theorem qW {v:m8} {k:Nat} (h:E7 k v):∃M:Nat,dl (M:Int)<=k/\∀i,(b6 v.1 i).natAbs<=M:=by
 refine ⟨max (max (b6 v.1 0).natAbs (b6 v.1 1).natAbs) (max (b6 v.1 2).natAbs (b6 v.1 3).natAbs),?_,fun i=>?_⟩
 ·have e:∀z:Int,dl ((z.natAbs:Nat):Int)=dl z:=fun z=>by unfold dl; rw[Int.natAbs_natCast]
  have h0:=h.c 0; have h1:=h.c 1; have h2:=h.c 2; have h3:=h.c 3
  rw[<- e] at h0 h1 h2 h3
  rcases Nat.le_total (b6 v.1 0).natAbs (b6 v.1 1).natAbs with q1 | q1<;>rcases Nat.le_total (b6 v.1 2).natAbs (b6 v.1 3).natAbs with q2 | q2<;>simp only[Nat.max_eq_left q1,Nat.max_eq_right q1,Nat.max_eq_left q2,Nat.max_eq_right q2]<;>rw[Nat.max_def]<;>split<;>assumption
 ·by_cases hi:i<4
  ·rcases (show i=0\/i=1\/i=2\/i=3 by omega) with rfl | rfl | rfl | rfl<;>omega
  ·rw[w4 (by rw[h.len]; omega)]; show (0:Int).natAbs<=_; omega
theorem HB.all {p:List Int} {k:Nat}:∀{ls:List m8},(∀v∈ls,A7 p v/\E7 k v)->∃(D:Int) (M:Nat),0<D/\dl D<=ls.length*k+1/\dl (M:Int)<=ls.length*k+1/\∀v∈ls,HB D M v
 | [],_=>⟨1,1,by omega,by rw[List.length_nil,Nat.zero_mul]; exact I4 zo zo,by rw[List.length_nil,Nat.zero_mul]; exact I4 zo zo,fun v h=>by cases h⟩
 | v::ls,h=>by
  obtain ⟨D,M,h1,h2,h3,h4⟩:=HB.all (ls:=ls) fun x hx=>h x (List.mem_cons_of_mem _ hx)
  obtain ⟨hr,hb⟩:=h v List.mem_cons_self
  obtain ⟨Mv,m1,m2⟩:=qW hb
  have hs:=HB.self hr m2
  have e:(v::ls).length*k+1=ls.length*k+1+k:=by rw[List.length_cons,Nat.succ_mul]; omega
  have d1:=u7 D v.2
  have d2:=hb.d
  have d3:=u7 (M:Int) v.2
  have d4:=u7 (Mv:Int) D
  have hv:((v.2.natAbs:Nat):Int)=v.2:=by have:=hb.pos; omega
  have hDa:((D.natAbs:Nat):Int)=D:=by omega
  refine ⟨D*v.2,max (M*v.2.natAbs) (Mv*D.natAbs),Int.mul_pos h1 hb.pos,by omega,?_,fun x hx=>?_⟩
  ·rw[Nat.max_def]
   split
   ·rw[Int.natCast_mul,hDa]; omega
   ·rw[Int.natCast_mul,hv]; omega
  ·rcases List.mem_cons.1 hx with rfl | hx
   ·have:=hs.scale hb.pos h1
    rw[Int.mul_comm] at this
    exact this.mono (Nat.le_max_right _ _)
   ·exact ((h4 x hx).scale h1 hb.pos).mono (Nat.le_max_left _ _)
structure F3 (p:List Int) (D:Int) (M n:Nat) (ls:List m8):Prop where
 len:ls.length=n
 red:∀a,a<n->A7 p (b6 ls a)
 hb:∀a,a<n->HB D M (b6 ls a)
 pos:0<D
 bD:dl D<=200
 bM:dl ((100000*M:Nat):Int)<=200
theorem F3.nbd {p:List Int} {D:Int} {M n m:Nat} {ls:List m8} (h:F3 p D M n ls) {v:m8} (hv:HB D (m*M) v) (hm:m<=100000):E7 200 v :=
 hv.nbd h.pos h.bD (Nat.le_trans (J8 (by rw[Int.natAbs_natCast,Int.natAbs_natCast]; exact Nat.mul_le_mul_right _ hm)) h.bM)
theorem F3.one {p:List Int} {D:Int} {M n a:Nat} {ls:List m8} (h:F3 p D M n ls) (ha:a<n):E7 200 (b6 ls a):=h.nbd (m:=1) (by rw[Nat.one_mul]; exact h.hb a ha) zo
theorem UH {p:List Int} {D:Int} {M n:Nat} {ls:List m8} {row:List Int} (hp:I1 p) (h:F3 p D M n ls) (hr:y3 row n):∀k,k<=n->A7 p (AF ls row k)/\HB D (k*M) (AF ls row k)
 | 0,_=>⟨aJ hp 0,by rw[Nat.zero_mul]; exact HB.zero h.pos⟩
 | k+1,hk=>by
  obtain ⟨h1,h2⟩:=UH hp h hr k zo
  have hrk:=hr.1 k (by have:=hr.2.2; omega)
  refine ⟨VW h1 (h.red _ zo),?_⟩
  rw[Nat.succ_mul]
  exact h2.add h.pos (h.hb _ zo)
theorem JS {xs:List m8} {i:Nat} (h:i<xs.length):b6 (xs.map o4) i=o4 (b6 xs i):=by simp[b6,h]
theorem ON {ls:List m8} {row:List Int}:(H9 ls row).length=row.length:=q9
theorem dB {p:List Int} {D:Int} {M n:Nat} {ls:List m8} {row:List Int} (hp:I1 p) (h:F3 p D M n ls) (hr:y3 row n) {a:Nat} (ha:a<n):A7 p (b6 (H9 ls row) a)/\HB D (n*M) (b6 (H9 ls row) a):=by
 have hl:=hr.2.2
 obtain ⟨j,hj,hja⟩:=KA hr.2.1 hr.1 hl (x:=(a:Int)) zo zo
 have hi:row.idxOf (a:Int)=j:=by rw[<- hja]; exact SN hr zo
 unfold H9
 rw[s9 zo,hi]
 obtain ⟨h1,h2⟩:=UH hp h hr j zo
 exact ⟨h1,h2.mono (Nat.mul_le_mul_right _ zo)⟩
theorem cD {p:List Int} {xs:List (List (List Int)×List Int)} {a:Nat} (h:a<xs.length):b6 (xs.map (o0 p)) a=o0 p (b6 xs a):=by simp[b6,h]
theorem vI {p:List Int} {xs:List (List (List Int)×List Int)} {n:Nat} (hp:I1 p) (hl:xs.length=n) (hn:n<=8) (h:∀a,a<n->C1 2 (b6 xs a)) {more:List m8} (hm:more.length<=2) (hmo:∀v∈more,A7 p v/\E7 17 v):∃(D:Int) (M:Nat),F3 p D M n (xs.map (o0 p))/\∀v∈more,HB D M v:=by
 have key:∀v∈xs.map (o0 p)++more,A7 p v/\E7 17 v:=fun v hv=>by
  rcases List.mem_append.1 hv with hv | hv
  ·obtain ⟨x,hx,rfl⟩:=List.mem_map.1 hv
   obtain ⟨i,hi,rfl⟩:=List.mem_iff_getElem.1 hx
   have e:b6 xs i=xs[i]:=by simp[b6,hi]
   rw[<- e]
   exact ⟨KJ hp,Y1 hp (h i zo)⟩
  ·exact hmo v hv
 obtain ⟨D,M,h1,h2,h3,h4⟩:=HB.all key
 have hll:(xs.map (o0 p)++more).length<=10:=by rw[List.length_append,List.length_map]; omega
 have hk:=Nat.mul_le_mul_right 17 hll
 have e:∀a,a<n->b6 (xs.map (o0 p)) a∈xs.map (o0 p)++more:=fun a ha=>List.mem_append_left _ (by rw[cD zo]; exact List.mem_map_of_mem (by simp[b6,hl,ha]))
 refine ⟨D,M,⟨by rw[List.length_map,hl],fun a ha=>(key _ (e a ha)).1,fun a ha=>h4 _ (e a ha),h1,by omega,?_⟩,fun v hv=>h4 v (List.mem_append_right _ hv)⟩
 have d1:=u7 (100000:Int) (M:Int)
 have d2:=I4 (F:=100000) zo zo
 rw[show ((100000*M:Nat):Int)=100000*(M:Int) by omega]
 omega
end Go.Fl

/- Contracts: exchanges: places of intervals, the machine. -/
namespace Go.Fl
open Go Go.Proofs
open b8 renaming op->tO
open i7 renaming op->rO
set_option maxRecDepth 100000

abbrev t8:=y4×List Int×List Int×List B7
abbrev AP:=z7×l8×List B7×List B7×List B7×List B7×B7
def eX:i5 t8:=eC (fun v:t8=>(v.1,v.2.1,v.2.2.1,v.2.2.2,())) (eP E3 (eP (eL eI) (eP (eL eI) (eP (eL m9) eU))))
instance {v:t8}:D5 (b7 eX v) [b7 (eL eI) (v.1.1),kI (v.1.2.1),kI (v.1.2.2.1),kI (v.1.2.2.2),b7 (eL eI) (v.2.1),b7 (eL eI) (v.2.2.1),b7 (eL m9) (v.2.2.2)]:=inferInstanceAs (D5 (b7 (eC (fun v:t8=>(v.1,v.2.1,v.2.2.1,v.2.2.2,())) (eP E3 (eP (eL eI) (eP (eL eI) (eP (eL m9) eU))))) v) _)
instance {ks r:List d6} {f:y4} {a b:List Int} {c:List B7} [h:s8 ks (eP E3 (eP (eL eI) (eP (eL eI) (eP (eL m9) eU)))) (f,a,b,c,()) r]:s8 ks eX ((f,a,b,c)) r:=⟨fun h'=>h.imp h'⟩
def N3:i5 AP:=eC (fun v:AP=>(v.1,v.2.1,v.2.2.1,v.2.2.2.1,v.2.2.2.2.1,v.2.2.2.2.2.1,v.2.2.2.2.2.2,())) (eP (AZ v9) (eP eO (eP (eL m9) (eP (eL m9) (eP (eL m9) (eP (eL m9) (eP m9 eU)))))))
instance {v:AP}:w6 N3 v 0 (AZ v9) (v.1) 0:=inferInstanceAs (w6 (eC (fun v:AP=>(v.1,v.2.1,v.2.2.1,v.2.2.2.1,v.2.2.2.2.1,v.2.2.2.2.2.1,v.2.2.2.2.2.2,())) (eP (AZ v9) (eP eO (eP (eL m9) (eP (eL m9) (eP (eL m9) (eP (eL m9) (eP m9 eU)))))))) v 0 _ _ _)
instance {v:AP}:w6 N3 v 1 eO (v.2.1) 1:=inferInstanceAs (w6 (eC (fun v:AP=>(v.1,v.2.1,v.2.2.1,v.2.2.2.1,v.2.2.2.2.1,v.2.2.2.2.2.1,v.2.2.2.2.2.2,())) (eP (AZ v9) (eP eO (eP (eL m9) (eP (eL m9) (eP (eL m9) (eP (eL m9) (eP m9 eU)))))))) v 1 _ _ _)
instance {v:AP}:w6 N3 v 2 (eL m9) (v.2.2.1) 3:=inferInstanceAs (w6 (eC (fun v:AP=>(v.1,v.2.1,v.2.2.1,v.2.2.2.1,v.2.2.2.2.1,v.2.2.2.2.2.1,v.2.2.2.2.2.2,())) (eP (AZ v9) (eP eO (eP (eL m9) (eP (eL m9) (eP (eL m9) (eP (eL m9) (eP m9 eU)))))))) v 2 _ _ _)
instance {ks r:List d6} {rr:z7} {o:l8} {a b c d:List B7} {t:B7} [h:s8 ks (eP (AZ v9) (eP eO (eP (eL m9) (eP (eL m9) (eP (eL m9) (eP (eL m9) (eP m9 eU))))))) (rr,o,a,b,c,d,t,()) r]:s8 ks N3 ((rr,o,a,b,c,d,t)) r:=⟨fun h'=>h.imp h'⟩
instance:EN m9 (.agg #[.slice none 0 0,.slice none 0 0]) ([],[]):=⟨fun _=>⟨[.slice none 0 0],[.slice none 0 0],rfl,T7,[.slice none 0 0],[],rfl,T7,rfl⟩⟩
def U5 (r:z7) (o:l8) (ls:List m8):AP:=(r,o,ls.map o4,(H9 ls o.1).map o4,(H9 ls o.2).map o4,(WF o ls o.1.length).map o4,o4 (PG ls o.1))
structure KZ (r:z7) (sg:m8->Int):Prop where
 sign:∀x,C1 250 x->Ct Tryz.prog 82 [r5 v9 r,b7 m9 x] (kI (sg (o0 r.2.1 x)))
 cmp:∀x y,C1 250 x->C1 250 y->Ct Tryz.prog 83 [r5 v9 r,b7 m9 x,b7 m9 y] (kI (sg (J6 (o0 r.2.1 x) (o0 r.2.1 y))))
theorem mP (r:z7) (u v:m8) (k:Nat) (hpo:I1 r.2.1) (hu:A7 r.2.1 u) (hv:A7 r.2.1 v) (bu:E7 k u) (bv:E7 k v) (hk:k<=100000) {x y:B7} (hx:o4 u=x) (hy:o4 v=y):Ct Tryz.prog 118 [r5 v9 r,b7 m9 x,b7 m9 y] (b7 m9 (o4 (H3 u v))):=by
 have h:=kP r (o4 u) (o4 v) k hpo (CC bu) (CC bv) hk
 rw[CU hu,CU hv,hx,hy] at h
 exact h
theorem mQ (r:z7) (u v:m8) (k:Nat) (hpo:I1 r.2.1) (hu:A7 r.2.1 u) (hv:A7 r.2.1 v) (bu:E7 k u) (bv:E7 k v) (hk:k<=100000) {x y:B7} (hx:o4 u=x) (hy:o4 v=y):Ct Tryz.prog 116 [r5 v9 r,b7 m9 x,b7 m9 y] (b7 m9 (o4 (J6 u v))):=by
 have h:=XK r (o4 u) (o4 v) k hpo (CC bu) (CC bv) hk
 rw[CU hu,CU hv,hx,hy] at h
 exact h
theorem MC (x:t8):Ct Tryz.prog 114 [b7 eX x] (b7 eO (x.2.1,x.2.2.1)):=by
 refine Ct.mk Tryz.func114 rfl Tryz.ntmps114 rfl (fun w J=>?_); refine g8 ?_; refine jb 1 rfl ?_; refine ja 2 ?_; refine j3 ?_; refine tO (w5 (fun hp=>.cons rfl rfl rfl<|.cons rfl rfl rfl<|.nil)) rfl rfl ?_; refine i1 ?_; exact f0.resC1 (fn:=Tryz.f114) rfl rfl (s6 rfl (by rfl))

theorem QY (r:l8) (h1:r.1.length<=1000) (h2:r.2.length<=1000):Ct Tryz.prog 101 [b7 eO r] (b7 eO r):=by
 refine Ct.mk Tryz.func101 rfl Tryz.ntmps101 rfl (fun w J=>?_); refine g8 ?_; refine jb 1 rfl ?_; refine ja 2 ?_; refine j5 ?_; refine Tr.draw 5 p7 (by kernel_rfl) ?_; refine g8 ?_; refine rO (i9 (fun hp=>AV _ zo) (.a rfl uu<|.nil)) rfl rfl ?_; refine j5 ?_; refine tO (i9 (fun hp=>AV _ zo) (.a rfl uu<|.nil)) rfl rfl ?_; refine tO (w5 (fun hp=>.cons rfl rfl rfl<|.cons rfl rfl rfl<|.nil)) rfl rfl ?_; refine i1 ?_; exact f0.resC1 (fn:=Tryz.f101) rfl rfl (s6 rfl (by rfl))

theorem XX (r:z7) (ra rb:List Int) (ls:List m8) (k1 k2 k3 k4 k5:d6) [n9 k1 []] [n9 k2 []] [n9 k3 []] [n9 k4 []] [n9 k5 []] (row:List Int) (D:Int) (M n:Nat) (hpo:I1 r.2.1) (hls:F3 r.2.1 D M n ls) (hn:n<=8) (hpm:y3 row n):CZ Tryz.prog 115 (u4 0 0) [b7 (eL eI) row] (j1 [r5 v9 r,b7 (eL eI) ra,b7 (eL eI) rb,b7 (eL m9) (ls.map o4),k1,k2,k3,k4,k5]) (j1 [r5 v9 r,b7 (eL eI) ra,b7 (eL eI) rb,b7 (eL m9) (ls.map o4),k1,k2,k3,k4,k5]) (v6 [b7 (eL m9) ((H9 ls row).map o4),b7 m9 (o4 (PG ls row))]):=by
 have hrl:=hpm.2.2
 have hll:=hls.len
 have hrk:=hpm.1
 have hml:(ls.map o4).length=n:=by rw[List.length_map,hll]
 refine CZ.mk Tryz.func115 rfl Tryz.ntmps115 rfl (fun w J bb cap=>?_); refine j5 ?_; refine ja 5 ?_; refine j5 ?_; refine Tr.draw 5 p7 (by kernel_rfl) ?_; refine g8 ?_; refine i7.new (AB m9 12 rfl uu rfl uu rfl rfl rfl (fun _=>zo)) rfl rfl rfl rfl ?_; refine jd (kX 0 zo) ?_; refine i7.new (FE 7) rfl rfl rfl rfl ?_; refine B1 ?_
 refine Tr.for1 (σ:=Nat) [⟨0,true,_,_⟩,⟨5,true,_,_⟩,⟨7,true,_,_⟩,⟨14,true,_,_⟩,⟨15,true,_,_⟩] [⟨0,_,_⟩,⟨5,_,_⟩] (fun k=>[⟨6,true,[12],o7 12 row.length⟩,⟨16,true,[],kI (k:Int)⟩]) (fun k=>[⟨12,[],l3 false 30 m9 (DX ls row k) row.length⟩,⟨7,[],j1 [b7 (eL (eL eI)) (o4 (AF ls row k)).1,b7 (eL eI) (o4 (AF ls row k)).2]⟩]) (fun k=>k<=row.length) (fun k=>k=row.length) (fun k=>row.length-k) (0) zi (d8.mk (.o rfl zi rfl<|.i rfl zi<|zk) (.a sO.symm zi<|.e (by rfl) rfl<|zk) rfl) ?_ ?_
 ·intro k hR0
  refine jn ?_
  have hrk2:=hrk k
  have hpk:=UH hpo hls hpm k zo
  refine l5 ?_; refine jq ?_ ?_
  ·intro h3
   refine JK ?_; refine Tr.draw 12 p7 (by kernel_rfl) ?_; refine i6 ?_; refine rO (K2 rfl uu) rfl rfl ?_; refine i1 ?_; refine rO (K2 rfl uu) rfl rfl ?_; refine l5 ?_; refine tO (i9 (fun hp=>mP r (AF ls row k) (b6 ls (b6 row k).toNat) 200 hpo hpk.1 (hls.red _ zo) (hls.nbd hpk.2 zo) (hls.one zo) zo rfl (JS zo).symm) (.a rfl uu<|.se rfl uu rfl rfl<|.a rfl uu<|.nil)) rfl rfl ?_; refine j3 ?_
   exact g6.lp (k+1) zi zo (d8.mk (.o rfl zi rfl<|.i rfl zi<|zk) (.a (by rw[<- sN hpm zo]) zi<|.e (by rfl) rfl<|zk) rfl)
  ·intro h3
   replace h3:=Int.not_lt.1 h3
   refine i1 ?_
   exact g6.cut (k) zo (d8.mk (.o rfl zi rfl<|.i rfl zi<|zk) (zk) rfl)
 ·rintro k hkn
  refine je ?_; refine g8 ?_; refine Tr.frzBo 12 [6] rfl rfl ⟨rfl,trivial⟩ (by simp only[q7]; omega) rfl ?_; refine Tr.draw 3 p7 (by kernel_rfl) ?_; refine j3 ?_; exact f0.mutTC (fn:=Tryz.f115) (t:=4) (a:=5) rfl rfl (.r rfl (by rw[hkn,sM hpm])<|.nil) rfl rfl (s6 rfl (by rw[hkn]; rfl))

end Go.Fl

/- Contracts: exchanges are opened; points of the interval. -/
namespace Go.Fl
open Go Go.Proofs
open b8 renaming op->tO
open i7 renaming op->rO
set_option maxRecDepth 100000

set_option maxHeartbeats 1000000 in
theorem mX (x:t8) (r:z7) (sg:m8->Int) (D:Int) (M:Nat) (hop:Ct Tryz.prog 113 [b7 E3 x.1] (v6 [r5 v9 r,kI 0])) (hpo:I1 r.2.1) (hs:KZ r sg) (v:A3 (x.2.1,x.2.2.1)) (hl:x.2.2.2.length=x.2.1.length) (hnm:∀a,a<x.2.1.length->C1 250 (b6 x.2.2.2 a)) (hlo:F3 r.2.1 D M x.2.1.length (x.2.2.2.map (o0 r.2.1))) (hpos:∀a,a<x.2.1.length->0<sg (o0 r.2.1 (b6 x.2.2.2 a))):Ct Tryz.prog 66 [b7 eX x] (v6 [r5 N3 (U5 r (x.2.1,x.2.2.1) (x.2.2.2.map (o0 r.2.1))),kI 0]):=by
 obtain ⟨ls,hls⟩:∃ls,ls=x.2.2.2.map (o0 r.2.1):=⟨_,rfl⟩
 rw[<- hls] at hlo
 have hll:=hlo.len
 have hle:x.2.1.length<=8:=v.le
 have hle2:x.2.2.1.length=x.2.1.length:=v.len
 have hp1:y3 x.2.1 x.2.1.length:=v.p1
 have hp2:y3 x.2.2.1 x.2.1.length:=v.p2
 have hpl1:((H9 ls x.2.1).map o4).length=x.2.1.length:=by rw[List.length_map,ON]
 have hpl2:((H9 ls x.2.2.1).map o4).length=x.2.1.length:=by rw[List.length_map,ON,hle2]
 rw[<- hls]
 have hnk:∀k,k<x.2.1.length->b6 ls k=o0 r.2.1 (b6 x.2.2.2 k):=fun k hk=>by rw[hls]; simp[b6,hl,hk]
 refine Ct.mk Tryz.func66 rfl Tryz.ntmps66 rfl (fun w J=>?_); refine g8 ?_; refine jb 1 rfl ?_; refine j3 ?_; refine jc hop ?_; refine C6 ?_; refine Tr.cnd rfl ?_ ?_
 ·intro h2
  exact absurd h2 (by decide)
 ·intro h2
  refine l5 ?_; refine tO (i9 (fun hp=>MC _) (.s rfl uu rfl<|.nil)) rfl rfl ?_; refine tO (i9 (fun hp=>LV _) (.a rfl uu<|.nil)) rfl rfl ?_; refine l7 ?_; refine Tr.cnd rfl ?_ ?_
  ·intro h5
   rw[iY v] at h5; exact absurd h5 (by decide)
  ·intro h5
   refine C6 ?_; refine jq ?_ ?_
   ·intro h7
    omega
   ·intro h7
    replace h7:=Classical.not_not.1 h7
    refine l5 ?_; refine tO (i9 (fun hp=>MC _) (.s rfl uu rfl<|.nil)) rfl rfl ?_; refine tO (i9 (fun hp=>QY _ (by show x.2.1.length<=1000; omega) (by show x.2.2.1.length<=1000; omega)) (.a rfl uu<|.nil)) rfl rfl ?_; refine tO (w5 (fun hp=>.cons rfl rfl rfl<|.cons rfl rfl rfl<|.nil)) rfl rfl ?_; refine jb 38 rfl ?_; refine w3 ?_; refine Tr.growC 38 3 139 rfl (ks':=[_,_,_,o7 139 0,_,_,_,_,_]) rfl rfl 30 m9 rfl (.cons inferInstance rfl<|.cons inferInstance rfl<|.cons inferInstance rfl<|.cons inferInstance rfl<|.cons inferInstance rfl<|.cons inferInstance rfl<|.cons inferInstance rfl<|.cons inferInstance rfl<|.cons inferInstance rfl<|inferInstance) ?_
    refine Tr.for1 (σ:=Nat) [⟨1,true,_,_⟩,⟨4,true,_,_⟩,⟨7,true,_,_⟩,⟨40,true,_,_⟩,⟨41,true,_,_⟩] [⟨1,_,_⟩] (fun k=>[⟨42,true,[],kI (k:Int)⟩]) (fun k=>[⟨38,[139],j1 [r5 v9 r,b7 (eL eI) x.2.1,b7 (eL eI) x.2.2.1,o7 139 k,j4 (.slice none 0 0),j4 (.slice none 0 0),j4 (.slice none 0 0),j4 (.slice none 0 0),j4 (.slice none 0 0)]⟩,⟨139,[],l3 true 30 m9 ((ls.take k).map o4) k⟩]) (fun k=>k<=x.2.1.length) (fun k=>k=x.2.1.length) (fun k=>x.2.1.length-k) (0) zi (d8.mk (.i rfl zi<|zk) (.e (by rfl) rfl<|.a (by rfl) zi<|zk) rfl) ?_ ?_
    ·intro k hR0
     refine jn ?_; refine l5 ?_; refine jq ?_ ?_
     ·intro h11
      refine j3 ?_; refine ja 9 ?_; refine j3 ?_; refine tO (i9 (fun hp=>hs.sign _ (hnm k zo)) (.a rfl uu<|.s rfl uu rfl<|.nil)) rfl rfl ?_; refine j5 ?_; refine jq ?_ ?_
      ·intro h13
       have:=hpos k zo; omega
      ·intro h13
       replace h13:=Int.not_le.1 h13
       refine g8 ?_; refine Tr.drawM (m:=9) p7 (by kernel_rfl) rfl (by kernel_rfl) (by kernel_rfl) (by kernel_rfl) ?_; refine g8 ?_; refine rO (M9 rfl uu) rfl rfl ?_; refine i1 ?_; refine rO (i9 (fun hp=>XH r _ _ hpo (hnm k zo) zo) (.a rfl uu<|.s rfl uu rfl<|.nil)) rfl rfl ?_; refine i7.new (A1 m9 58 (fun hp=>.cons rfl<|.nil) rfl rfl rfl rfl) rfl rfl rfl rfl ?_; refine i6 ?_; refine b8.wkC 38 (.k<|.k<|.k<|.any<|.k<|.k<|.k<|.k<|.k<|.nil) rfl ?_; refine i6 ?_; refine jl ?_; refine tO (M9 rfl uu) rfl rfl ?_
       refine g8 ?_; refine b8.finN ?_; refine l5 ?_
       exact g6.lp (k+1) zi zo (d8.mk (.i rfl zi<|zk) (.e (by rfl) rfl<|.a (by rw[V2 zo,List.map_append,hnk k zo]; rfl) zi<|zk) rfl)
     ·intro h11
      replace h11:=Int.not_lt.1 h11
      refine i1 ?_
      exact g6.cut (k) zo (d8.mk (.i rfl zi<|zk) (zk) rfl)
    ·rintro k hkn
     refine je ?_
     have htk:ls.take k=ls:=by rw[hkn,<- hll,List.take_length]
     rw[htk]
     refine g8 ?_; refine Tr.frzC 139 38 (by simp only[q7]; omega) rfl rfl ?_; refine jn ?_; refine l5 ?_; refine b8.mutQ (XX r _ _ ls _ _ _ _ _ x.2.1 D M x.2.1.length hpo hlo zo hp1) rfl (.a rfl uu<|.nil) rfl rfl ?_; refine j5 ?_; refine tO (M9 rfl uu) rfl rfl ?_; refine g8 ?_; refine tO (M9 rfl uu) rfl rfl ?_; refine t6 ?_; refine b8.mutQ (XX r _ _ ls _ _ _ _ _ x.2.2.1 D M x.2.1.length hpo hlo zo hp2) rfl (.a rfl uu<|.nil) rfl rfl ?_; refine j5 ?_; refine tO (M9 rfl uu) rfl rfl ?_; refine j3 ?_; refine tO (M9 rfl uu) rfl rfl ?_
     refine l5 ?_; refine Tr.growC 38 6 140 rfl (ks':=[_,_,_,_,_,_,o7 140 0,_,_]) rfl rfl 30 m9 rfl (.cons inferInstance rfl<|.cons inferInstance rfl<|.cons inferInstance rfl<|.cons inferInstance rfl<|.cons inferInstance rfl<|.cons inferInstance rfl<|.cons inferInstance rfl<|.cons inferInstance rfl<|.cons inferInstance rfl<|inferInstance) ?_
     refine Tr.for1 (σ:=Nat) [⟨4,true,_,_⟩,⟨7,true,_,_⟩,⟨90,true,_,_⟩] [] (fun k=>[⟨91,true,[],kI (k:Int)⟩]) (fun k=>[⟨38,[140],j1 [r5 v9 r,b7 (eL eI) x.2.1,b7 (eL eI) x.2.2.1,b7 (eL m9) (ls.map o4),b7 (eL m9) ((H9 ls x.2.1).map o4),b7 (eL m9) ((H9 ls x.2.2.1).map o4),o7 140 k,b7 (eL (eL eI)) (o4 (PG ls x.2.1)).1,b7 (eL eI) (o4 (PG ls x.2.1)).2]⟩,⟨140,[],l3 true 30 m9 (l6 k fun a=>o4 (J6 (b6 (H9 ls x.2.2.1) a) (b6 (H9 ls x.2.1) a))) k⟩]) (fun k=>k<=x.2.1.length) (fun k=>k=x.2.1.length) (fun k=>x.2.1.length-k) (0) zi (d8.mk (.i rfl zi<|zk) (.e (by rfl) rfl<|.a (by rfl) zi<|.nil) rfl) ?_ ?_
     ·intro k hR1
      refine jn ?_; refine l5 ?_; refine jq ?_ ?_
      ·intro h20
       refine t6 ?_; refine Tr.drawM (m:=22) p7 (by kernel_rfl) rfl (by kernel_rfl) (by kernel_rfl) (by kernel_rfl) ?_
       have hq1:=dB hpo hlo hp1 (a:=k) zo
       have hq2:=dB hpo hlo hp2 (a:=k) zo
       refine g8 ?_; refine rO (M9 rfl uu) rfl rfl ?_; refine i1 ?_; refine rO (M9 rfl uu) rfl rfl ?_; refine l5 ?_; refine rO (M9 rfl uu) rfl rfl ?_; refine n7 ?_; refine jd (mQ r (b6 (H9 ls x.2.2.1) k) (b6 (H9 ls x.2.1) k) 200 hpo hq2.1 hq1.1 (hlo.nbd hq2.2 zo) (hlo.nbd hq1.2 zo) zo (JS (by rw[ON]; omega)).symm (JS (by rw[ON]; omega)).symm) ?_; refine i7.new (A1 m9 115 (fun hp=>.cons rfl<|.nil) rfl rfl rfl rfl) rfl rfl rfl rfl ?_; refine i6 ?_; refine b8.wkC 38 (.k<|.k<|.k<|.k<|.k<|.k<|.any<|.k<|.k<|.nil) rfl ?_
       refine i6 ?_; refine jl ?_; refine tO (M9 rfl uu) rfl rfl ?_; refine g8 ?_; refine b8.finN ?_; refine l5 ?_
       exact g6.lp (k+1) zi zo (d8.mk (.i rfl zi<|zk) (.e (by rfl) rfl<|.a (by rw[F9]) zi<|.nil) rfl)
      ·intro h20
       replace h20:=Int.not_lt.1 h20
       refine i1 ?_
       exact g6.cut (k) zo (d8.mk (.i rfl zi<|zk) (zk) rfl)
     ·rintro k hkn
      refine je ?_; refine g8 ?_; refine Tr.frzC 140 38 (by simp only[q7]; omega) rfl rfl ?_; refine jn ?_; refine Tr.frzB 38 [7] N3 ⟨rfl,trivial⟩ rfl ?_; refine jn ?_; refine j8 ?_; exact f0.res (fn:=Tryz.f66) (ts:=[2,3]) rfl rfl (.p rfl (by rw[hkn]; simp only[U5,WF,l6,List.map_map]; rfl)<|.i rfl (by rfl)<|.nil)

end Go.Fl

/- What the walks of iterators lean on. -/

/- The letter of a point. No program in sight. -/
namespace Go.Fl
open Go
theorem C1.mono {j k:Nat} {x:List (List Int)×List Int} (h:C1 j x) (hjk:j<=k):C1 k x:=⟨h.len,fun i=>⟨(h.c i).1,Nat.le_trans (h.c i).2 hjk⟩,h.d.1,Nat.le_trans h.d.2 hjk⟩
def NG (sg:m8->Int) (tops:List m8) (row:List Int) (pv:m8):Nat->Int
 | 0=>b6 row 0
 | k+1=>if sg (J6 (b6 tops (b6 row (k+1)).toNat) pv)<=0 then b6 row (k+1) else NG sg tops row pv k
theorem sQ:I1 [0,1]:=by
 refine ⟨by decide,fun i=>?_⟩
 match i with
 | 0=>show dl 0<=1; rw[E2.2 rfl]; omega
 | 1=>show dl 1<=1; exact I4 zo zo
 | i+2=>rw[w4 (by simp)]; show dl 0<=1; rw[E2.2 rfl]; omega
end Go.Fl

/- Contracts: loops over slices.Backward; points, their letters and images. -/
namespace Go.Fl
open Go Go.Proofs
open b8 renaming op->tO
open i7 renaming op->rO
set_option maxRecDepth 100000

instance {r:z7} {o:l8} {ls:List m8}:w6 N3 (U5 r o ls) 0 (AZ v9) (r) 0:=inferInstanceAs (w6 N3 (U5 r o ls) 0 (AZ v9) ((U5 r o ls).1) _)
instance {r:z7} {o:l8} {ls:List m8}:w6 N3 (U5 r o ls) 1 eO (o) 1:=inferInstanceAs (w6 N3 (U5 r o ls) 1 eO ((U5 r o ls).2.1) _)
instance {r:z7} {o:l8} {ls:List m8}:w6 N3 (U5 r o ls) 2 (eL m9) (ls.map o4) 3:=inferInstanceAs (w6 N3 (U5 r o ls) 2 (eL m9) ((U5 r o ls).2.2.1) _)
section
open Go Go.RowKit Go.Proofs
attribute [local go_sem] Oper.semAt_some
set_option maxHeartbeats 2000000 in
theorem iL:KR Tryz.prog 194 eI:=by
 intro J W xs ptr him hp
 obtain ⟨bx,ox,ds,rfl,hrd,hcell⟩:=hp
 obtain ⟨ad,cap,rfl,⟨hlen,hcap⟩,hrow⟩:=hrd
 refine ⟨fun i=>.int .i64 (b6 xs i),fun i _=>⟨[.int .i64 (b6 xs i)],rfl,rfl⟩,?_⟩
 intro l Iv Ix hY h0
 have hbox:∀W',Im J W'->W'.cell? ⟨bx,ox,none⟩=some (.slice ad xs.length cap):=fun W' h=>h _ _ _ (by have:=hcell 0 _ rfl; simpa using this)
 simp only[q7] at hlen
 have hb0:=hbox W him
 refine (callsIn_wide (n:=3)).1 ?_; refine callsIn_of_wp Tryz.func194 rfl trivial ?_
 simp only[Tryz.ntmps194,List.size_toArray,List.length_cons,List.length_nil,Nat.reduceAdd,Nat.reduceSub,Array.replicate_succ,Array.replicate_zero,List.push_toArray,List.append_toArray,List.nil_append,List.cons_append]
 gi_wp2
 gi_loopw [3] (fun i wr=>∃k:Nat,k<=xs.length/\i=.int .i64 ((xs.length:Int)-1-k)/\Iv k wr/\Im J wr)
  (fun i _=>(intOf i+1).toNat)
 case atStart=>exact ⟨0,Nat.zero_le _,by simp,h0,him⟩
 case round =>
  obtain ⟨k,hk,rfl,hJs,himr⟩:=hrel
  have hbr:=hbox wr himr
  by_cases hlt:k<xs.length
  ·obtain ⟨fn,tmps,assign,body,hy,hR⟩:=hY k wr hlt himr hJs
   rw[show ((xs.length-1-k:Nat):Int)=(xs.length:Int)-1-k by omega] at hy
   obtain ⟨b,o,rfl,hrw⟩:=hrow.resolve_left (fun e=>by subst e; simp at hlt)
   have hcx:wr.cell? ⟨b,o+(xs.length-1-k),none⟩=some (.int .i64 (b6 xs (xs.length-1-k))):=by
    obtain ⟨ds,q1,q2⟩:=hrw (xs.length-1-k) _ (E5 zo)
    have q1:ds=[.int .i64 (b6 xs (xs.length-1-k))]:=q1
    subst q1
    have:=himr _ _ _ (q2 0 _ rfl)
    simpa [eI,CA] using this
   gi_wp2
   refine hR.mono ?_
   rintro e W3 (⟨rfl,hJ3,hk3⟩ | ⟨rfl,hJx3⟩)
   ·gi_wp2
    go_roundw
    case rel=>exact ⟨k+1,by omega,by congr 1; omega,hJ3,hk3⟩
    case measure=>simp[intOf]; omega
   ·gi_wp2
    refine bodyPost_ret (results_none rfl _ _ _) rfl ?_; exact ⟨⟨_,rfl⟩,.inr ⟨k,hlt,hJx3⟩⟩
  ·obtain rfl:k=xs.length:=by omega
   gi_wp2
   go_end0
   exact ⟨⟨_,rfl⟩,.inl hJs⟩
end
theorem kC (xs:List Int):Ct Tryz.prog 166 [b7 (eL eI) xs] (X1 194 [r5 (eL eI) xs]):=by
 refine Ct.mk Tryz.func166 rfl Tryz.ntmps166 rfl (fun w J=>?_); refine g8 ?_; refine jb 1 rfl ?_; refine i1 ?_; refine Tr.frzB 1 [1] (eL eI) ⟨rfl,trivial⟩ rfl ?_; refine jn ?_; refine i6 ?_; refine tO (DS (.cons rfl uu<|.nil)) rfl rfl ?_; refine i1 ?_; exact f0.res1 (fn:=Tryz.f166) rfl (zk)

end Go.Fl

/- Contracts: the image of a point. -/
namespace Go.Fl
open Go Go.Proofs
open b8 renaming op->tO
open i7 renaming op->rO
set_option maxRecDepth 100000

end Go.Fl

/- Lowest terms, as the reference of chapter 1 finds them. No program in sight. -/
namespace Go.Fl
open Go
theorem VB {xs:List Int} {x:Int} (hx:x≠0):j9 (xs++[x])=xs++[x]:=by
 have:=EB (xs:=xs++[x]) (m:=xs.length+1) (by simp) (fun i h1 h2=>by simp at h2; omega) (.inr (by simpa [b6] using hx))
 rw[this,List.take_of_length_le (by simp)]
theorem vN {xs:List Int}:j9 (xs++[0])=j9 xs:=PI (k:=1)
theorem fU {xs:List Int} {k:Nat} (hk:k<xs.length):(j9 (xs.take (k+1))).length=if b6 xs k=0 then (j9 (xs.take k)).length else k+1:=by
 rw[V2 hk]
 split
 ·rename_i h; rw[h,vN]
 ·rename_i h; rw[VB h,List.length_append,List.length_take]; simp; omega
theorem oB {a g:Int} (hg:g≠0) (h:g∣a):a/g=0↔a=0:=by
 obtain ⟨q,rfl⟩:=h
 rw[Int.mul_ediv_cancel_left _ hg]
 constructor
 ·intro e; rw[e]; simp
 ·intro e; exact (Int.mul_eq_zero.1 e).resolve_left hg
theorem vM {g:Int} (hg:g≠0):∀{cs:List Int},(∀c∈cs,g∣c)->j9 (cs.map fun c=>c/g)=(j9 cs).map fun c=>c/g:=by
 intro cs h
 obtain ⟨k,h1,_⟩:=fP (xs:=cs)
 have hz:(cs.map fun c=>c/g)=((j9 cs).map fun c=>c/g)++List.replicate k 0:=by
  conv=>lhs; rw[h1]
  rw[List.map_append,List.map_replicate]
  simp
 rw[hz,PI]
 by_cases hn:j9 cs=[]
 ·rw[hn]; rfl
 ·obtain ⟨xs,x,hx⟩:∃xs x,j9 cs=xs++[x]:=⟨_,_,(List.dropLast_concat_getLast hn).symm⟩
  have hl:=HZ hn
  have hx0:x≠0:=by
   have e:(j9 cs).getLast hn=x:=by simp[hx]
   rw[<- e]; exact hl
  rw[hx,List.map_append]
  exact VB fun e=>hx0 ((oB hg (h x (PH (by rw[hx]; simp)))).1 e)
theorem pW {cs:List Int} {d:Int} (hd:d≠0):o4 (loN cs d)=(l6 (j9 cs).length (fun i=>j2 (b6 cs i/u5 d cs)),j2 (d/u5 d cs)):=by
 unfold o4 loN
 refine Prod.ext ?_ rfl
 show (j9 (cs.map fun c=>c/u5 d cs)).map j2=_
 rw[vM (FN hd) fun c hc=>AJ (.inr hc)]
 refine F5 (by simp[l6]) fun i hi=>?_
 rw[List.length_map,List.length_map] at hi
 rw[s9 hi,<- FD]
 simp[b6,hi]
end Go.Fl

/- Contracts: numbers of the reference of chapter 1 in lowest terms. -/
namespace Go.Fl
open Go Go.Proofs
open b8 renaming op->tO
open i7 renaming op->rO
set_option maxRecDepth 100000

set_option maxHeartbeats 1000000 in
theorem mF (c:List (List Int)) (d:List Int) (hc:∀i,B6 (b6 c i)/\(b6 c i).length<=100000) (hd:B6 d/\d.length<=100000) (h0:val d≠0) (hcl:c.length<=1000):Ct Tryz.prog 81 [b7 (eL (eL eI)) c,b7 (eL eI) d] (b7 m9 (o4 (loN (c.map val) (val d)))):=by
 have hdd:dl (val d)<=100003:=by have:=M5 hd.1; have:=hd.2; omega
 have hgl:∀k,dl (gL (val d).natAbs ((c.map val).take k):Int)<=100003:=fun k=>Nat.le_trans (J8 (SG zo)) hdd
 have hvl:(c.map val).length=c.length:=List.length_map ..
 have hnv:∀k,b6 (c.map val) k=val (b6 c k):=fun k=>TT
 have hg0:(u5 (val d) (c.map val))≠0:=FN h0
 have hgd:dl (u5 (val d) (c.map val))<=100003:=by have:=hgl c.length; rw[List.take_of_length_le zo] at this; unfold u5; split; (rw[J5]; exact this); exact this
 have hgz:val []=0:=rfl
 have htl:(j9 (c.map val)).length<=c.length:=by have:=R8 (xs:=(c.map val)); omega
 refine Ct.mk Tryz.func81 rfl Tryz.ntmps81 rfl (fun w J=>?_); refine g8 ?_; refine ja 4 ?_; refine n7 ?_; refine tO (i9 (fun hp=>YB d [] hd.1 (fun _ h=>absurd h (Nat.not_lt_zero _)) (by have:=hd.2; omega) (by simp)) (.a rfl uu<|.n rfl uu<|.nil)) rfl rfl ?_; refine C6 ?_
 refine Tr.for1 (σ:=Nat) [⟨0,true,_,_⟩,⟨1,true,_,_⟩,⟨4,true,_,_⟩] [⟨4,_,_⟩] (fun k=>[⟨5,true,[],b7 (eL eI) (d7 (gL (val d).natAbs ((c.map val).take k)))⟩,⟨6,true,[],kI ((j9 ((c.map val).take k)).length:Int)⟩,⟨7,true,[],kI (k:Int)⟩]) (fun k=>[]) (fun k=>k<=c.length) (fun k=>k=c.length) (fun k=>c.length-k) (0) zi (d8.mk (.r rfl (by rw[hgz]; simp[gL])<|.i rfl (by rfl)<|.i rfl zi<|zk) (zk) rfl) ?_ ?_
 ·intro k hR0
  refine jn ?_
  have hck:=hc k
  refine l7 ?_; refine jq ?_ ?_
  ·intro h4
   refine B0 ?_; refine tO (i9 (fun hp=>YB (d7 (gL (val d).natAbs ((c.map val).take k))) (b6 c k) (t7 _).inI hck.1 (by have:=hgl k; unfold dl at this; simp only[Int.natAbs_natCast] at this; omega) (by have:=hck.2; omega)) (.a rfl uu<|.a rfl uu<|.nil)) rfl rfl ?_; refine l7 ?_; refine jc (YE (b6 c k) hck.1 (by have:=hck.2; omega)) ?_; refine j5 ?_; refine jq ?_ ?_
   ·intro h7
    have hnz:b6 (c.map val) k≠0:=fun e=>h7 (U0.2 (by rw[<- hnv]; exact e))
    refine w3 ?_
    exact g6.lp (k+1) zi zo (d8.mk (.r rfl (by rw[t9]; refine congrArg d7 ?_; have:=SH (c:=(c.map val)) (g:=(val d).natAbs) (k:=k) zo; rw[hnv] at this; simp only[Int.gcd,Int.natAbs_natCast] at this ⊢; omega)<|.i rfl (by rw[fU zo,if_neg hnz]; rfl)<|.i rfl zi<|zk) (zk) rfl)
   ·intro h7
    replace h7:=Classical.not_not.1 h7
    have hnz:b6 (c.map val) k=0:=by rw[hnv]; exact U0.1 h7
    refine j3 ?_
    exact g6.lp (k+1) zi zo (d8.mk (.r rfl (by rw[t9]; refine congrArg d7 ?_; have:=SH (c:=(c.map val)) (g:=(val d).natAbs) (k:=k) zo; rw[hnv] at this; simp only[Int.gcd,Int.natAbs_natCast] at this ⊢; omega)<|.i rfl (by rw[fU zo,if_pos hnz])<|.i rfl zi<|zk) (zk) rfl)
  ·intro h4
   replace h4:=Int.not_lt.1 h4
   refine i1 ?_
   exact g6.cut (k) zo (d8.mk (.r rfl zi<|.i rfl zi<|.i rfl zi<|zk) (zk) rfl)
 ·rintro _ rfl
  refine je ?_
  rw[show (c.map val).take c.length=(c.map val) from List.take_of_length_le zo]
  refine i6 ?_; refine Tr.meet2 (σ:=Unit) [⟨0,true,_,_⟩,⟨1,true,_,_⟩,⟨4,true,_,_⟩,⟨6,true,_,_⟩] [⟨4,_,_⟩] (zk) (zk) (fun _=>[⟨5,true,[],b7 (eL eI) (j2 (u5 (val d) (c.map val)))⟩]) (fun _=>[]) (fun _=>True) ?_ ?_
  ·skip
   refine j5 ?_; refine jc (YE d hd.1 (by have:=hd.2; omega)) ?_; refine j5 ?_; refine jq ?_ ?_
   ·intro h9
    have h9l:val d<0:=by unfold s7 at h9; split at h9; assumption; split at h9<;>omega
    refine g8 ?_; refine tO (i9 (fun hp=>EV (d7 (gL (val d).natAbs (c.map val))) (t7 _).inI (by have:=hgl c.length; rw[List.take_of_length_le zo] at this; unfold dl at this; simp only[Int.natAbs_natCast] at this; omega)) (.a rfl uu<|.nil)) rfl rfl ?_; refine g8 ?_
    exact g6.cut (()) zi (d8.mk (.r rfl (by rw[t9]; unfold u5; rw[if_pos h9l])<|zk) (zk) rfl)
   ·intro h9
    replace h9:=Int.not_lt.1 h9
    have h9l:¬val d<0:=fun e=>by unfold s7 at h9; rw[if_pos e] at h9; omega
    refine i6 ?_
    exact g6.cut (()) zi (d8.mk (.r rfl (by unfold u5; rw[if_neg h9l,NM])<|zk) (zk) rfl)
  ·intro _ hM
   refine jn ?_; refine g8 ?_; refine tO (w5 (fun hp=>.nil)) rfl rfl ?_; refine ja 8 ?_; refine l7 ?_; refine Tr.growC 8 0 108 rfl (ks':=[o7 108 0,_]) rfl rfl 22 (eL eI) rfl (.cons inferInstance rfl<|.cons inferInstance rfl<|inferInstance) ?_
   refine Tr.for1 (σ:=Nat) [⟨0,true,_,_⟩,⟨1,true,_,_⟩,⟨4,true,_,_⟩,⟨5,true,_,_⟩,⟨6,true,_,_⟩,⟨8,true,_,_⟩] [⟨4,_,_⟩] (fun k=>[⟨9,true,[],kI (k:Int)⟩]) (fun k=>[⟨8,[108],j1 [o7 108 k,j4 (.slice none 0 0)]⟩,⟨108,[],l3 true 22 (eL eI) (l6 k fun i=>j2 (b6 (c.map val) i/(u5 (val d) (c.map val)))) k⟩]) (fun k=>k<=(j9 (c.map val)).length) (fun k=>k=(j9 (c.map val)).length) (fun k=>(j9 (c.map val)).length-k) (0) zi (d8.mk (.i rfl zi<|zk) (.e (by rfl) rfl<|.a (by rfl) zi<|zk) rfl) ?_ ?_
   ·intro k hR1
    refine jn ?_
    have hck:=hc k
    refine j3 ?_; refine jq ?_ ?_
    ·intro h13
     refine B0 ?_; refine tO (i9 (fun hp=>(by have h:=XZ (b6 c k) (j2 (u5 (val d) (c.map val))) hck.1 (T2 _) (by have:=hck.2; omega) (by rw[C9]; omega); simp only[H8,if_neg hg0] at h; exact h)) (.a rfl uu<|.a rfl uu<|.nil)) rfl rfl ?_; refine B1 ?_; refine b8.new (A1 (eL eI) 59 (fun hp=>.cons rfl<|.nil) rfl rfl rfl rfl) rfl rfl rfl rfl ?_; refine b8.wkC 8 (.any<|.k<|.nil) rfl ?_; refine i6 ?_; refine jl ?_; refine t6 ?_
     exact g6.lp (k+1) zi zo (d8.mk (.i rfl zi<|zk) (.e (by rfl) rfl<|.a (by rw[F9,hnv]) zi<|zk) rfl)
    ·intro h13
     replace h13:=Int.not_lt.1 h13
     refine i1 ?_
     exact g6.cut (k) zo (d8.mk (.i rfl zi<|zk) (zk) rfl)
   ·rintro k hkn
    refine je ?_; refine g8 ?_; refine Tr.frzC 108 8 (by simp only[q7]; omega) rfl rfl ?_; refine jn ?_; refine j5 ?_; refine tO (i9 (fun hp=>(by have h:=XZ (d) (j2 (u5 (val d) (c.map val))) hd.1 (T2 _) (by have:=hd.2; omega) (by rw[C9]; omega); simp only[H8,if_neg hg0] at h; exact h)) (.a rfl uu<|.a rfl uu<|.nil)) rfl rfl ?_; refine L3 ?_; exact f0.resC1 (fn:=Tryz.f81) rfl rfl (s6 rfl (by rw[pW h0,hkn]))

theorem IZ (n:Int) (hn:-9223372036854775808<=n/\n<=9223372036854775807):Ct Tryz.prog 28 [kI n] (b7 m9 (o4 (loN [n] 1))):=by
 refine Ct.mk Tryz.func28 rfl Tryz.ntmps28 rfl (fun w J=>?_); refine g8 ?_; refine ja 2 ?_; refine n7 ?_; refine b8.new (A1 eI 4 (fun hp=>.cons rfl<|.nil) rfl rfl rfl rfl) rfl rfl rfl rfl ?_; refine b8.frz 4 [4] ⟨rfl,trivial⟩ (by decide) rfl ?_; refine jl ?_; refine tO (AA (eL eI) (fun hp=>.cons rfl<|.nil) rfl rfl rfl rfl) rfl rfl ?_; refine tO (AA eI (fun hp=>.cons rfl<|.nil) rfl rfl rfl rfl) rfl rfl ?_; refine tO (i9 (fun hp=>mF [[n]] [1] (fun i=>by match i with | 0=>exact ⟨JH zo,by show 1<=100000; omega⟩ | i+1=>exact ⟨fun _ h=>absurd h (Nat.not_lt_zero _),by show 0<=100000; omega⟩) ⟨JH zo,by show 1<=100000; omega⟩ (by decide) (by simp)) (.a rfl uu<|.a rfl uu<|.nil)) rfl rfl ?_
 refine i1 ?_; exact f0.resC1 (fn:=Tryz.f28) rfl rfl (s6 rfl (by rw[show [[n]].map val=[n] by simp[val],AM]))

end Go.Fl

/- The exchange of two intervals, of lengths 3 and 2. No program in sight. -/
namespace Go.Fl
open Go
theorem SJ {n:Int}:o4 (loN [n] 1)=o4 (v5 n):=by
 rw[NJ]
 unfold o4 v5
 have:j9 [n,0,0,0]=j9 [n]:=PI (xs:=[n]) (k:=3)
 simp only[this]
theorem UX {n:Int}:o0 [0,1] (o4 (v5 n))=v5 n:=CU (aJ sQ n)
abbrev UZ:List m8:=[v5 3,v5 2]
theorem vR:([o4 (v5 3),o4 (v5 2)]:List (List (List Int)×List Int)).map (o0 [0,1])=UZ:=by simp[UX]
end Go.Fl

/- Contracts: the exchange that the laws of chapter 5 begin with is mapped as it should. -/
namespace Go.Fl
open Go Go.Proofs
open b8 renaming op->tO
open i7 renaming op->rO
set_option maxRecDepth 100000

abbrev B3:t8:=(HU,[0,1],[1,0],[o4 (v5 3),o4 (v5 2)])
theorem LT (a b:List (List Int)):Ct Tryz.prog 51 [b7 (eL (eL eI)) a,b7 (eL (eL eI)) b] (kB (decide (a=b))):=by
 refine Ct.mk Tryz.func51 rfl Tryz.ntmps51 rfl (fun w J=>?_); refine Tr.fact (s:=0) rfl (fun _ _ h=>P0 h) (fun hb=>?_); refine L3 ?_; refine jq ?_ ?_
 ·intro h1
  have hne:a≠b:=fun e=>h1 (by rw[e])
  refine j8 ?_; exact f0.res1 (fn:=Tryz.f51) rfl (.b rfl (by symm; rw[decide_eq_false_iff_not]; exact hne)<|.nil)
 ·intro h1
  replace h1:=Classical.not_not.1 h1
  have hll:a.length=b.length:=by omega
  refine j3 ?_
  refine Tr.for1 (σ:=Nat) [⟨0,true,_,_⟩,⟨1,true,_,_⟩] [] (fun k=>[⟨5,true,[],kI (k:Int)⟩]) (fun k=>[]) (fun k=>k<=a.length/\∀i,i<k->b6 a i=b6 b i) (fun k=>∀i,i<a.length->b6 a i=b6 b i) (fun k=>a.length-k) (0) ⟨Nat.zero_le _,fun i h=>absurd h (Nat.not_lt_zero _)⟩ (d8.mk (.i rfl zi<|zk) (.nil) rfl) ?_ ?_
  ·rintro k ⟨hk,hR⟩
   refine jn ?_; refine l7 ?_; refine jq ?_ ?_
   ·intro h4
    refine n7 ?_; refine Tr.draw 8 p7 (by kernel_rfl) ?_; refine l7 ?_; refine jc (GL (b6 a k) (b6 b k)) ?_; refine j5 ?_; refine Tr.cnd rfl ?_ ?_
    ·intro h6
     have hne:a≠b:=fun e=>by subst e; simp at h6
     refine w3 ?_; exact f0.res1 (fn:=Tryz.f51) rfl (.b rfl (by symm; rw[decide_eq_false_iff_not]; exact hne)<|.nil)
    ·intro h6
     have hkk:b6 a k=b6 b k:=by simpa using h6
     refine j3 ?_
     exact g6.lp (k+1) ⟨by omega,fun i hi=>by by_cases e:i=k; (rw[e]; exact hkk); exact hR i zo⟩ zo (d8.mk (.i rfl zi<|zk) (.nil) rfl)
   ·intro h4
    replace h4:=Int.not_lt.1 h4
    refine i1 ?_
    exact g6.cut (k) (fun i hi=>hR i zo) (d8.mk (.i rfl zi<|zk) (.nil) rfl)
  ·rintro k hE
   refine je ?_; refine j8 ?_; exact f0.res1 (fn:=Tryz.f51) rfl (.b rfl (by symm; rw[decide_eq_true_eq]; exact F5 hll hE)<|.nil)

theorem jZ (a b:B7):Ct Tryz.prog 18 [b7 m9 a,b7 m9 b] (kB (decide (a=b))):=by
 refine Ct.mk Tryz.func18 rfl Tryz.ntmps18 rfl (fun w J=>?_); refine g8 ?_; refine jb 2 rfl ?_; refine jb 3 rfl ?_; refine l7 ?_; refine tO (i9 (fun hp=>LT _ _) (.a rfl uu<|.a rfl uu<|.nil)) rfl rfl ?_; refine n7 ?_; refine b8.gd rfl rfl rfl (i9 (fun hp=>GL a.2 b.2) (.a rfl id<|.a rfl id<|.nil)) rfl rfl ?_; refine n7 ?_; exact f0.res1 (fn:=Tryz.f18) rfl (.b rfl (by rw[<- Bool.decide_and]; exact decide_eq_decide.2 (Prod.ext_iff).symm)<|.nil)

theorem mO  : Ct Tryz.prog 64 [] (b7 eX B3):=by
 refine Ct.mk Tryz.func64 rfl Tryz.ntmps64 rfl (fun w J=>?_); refine g8 ?_; refine ja 0 ?_; refine i1 ?_; refine jc mA ?_; refine b8.new (A1 eI 2 (fun hp=>.cons rfl<|.cons rfl<|.nil) rfl rfl rfl rfl) rfl rfl rfl rfl ?_; refine b8.frz 2 [2] ⟨rfl,trivial⟩ (by decide) rfl ?_; refine jl ?_; refine b8.new (A1 eI 3 (fun hp=>.cons rfl<|.cons rfl<|.nil) rfl rfl rfl rfl) rfl rfl rfl rfl ?_; refine b8.frz 3 [3] ⟨rfl,trivial⟩ (by decide) rfl ?_; refine jl ?_; refine jc (IZ 3 zo) ?_; refine jc (IZ 2 zo) ?_; refine b8.new (A1 m9 6 (fun hp=>.cons rfl<|.cons rfl<|.nil) rfl rfl rfl rfl) rfl rfl rfl rfl ?_
 refine b8.frz 6 [6] ⟨rfl,trivial⟩ (by decide) rfl ?_; refine jl ?_; refine tO (w5 (fun hp=>.cons rfl rfl rfl<|.cons rfl rfl rfl<|.cons rfl rfl rfl<|.cons rfl rfl rfl<|.nil)) rfl rfl ?_; refine i1 ?_; exact f0.resC1 (fn:=Tryz.f64) rfl rfl (s6 rfl (by rw[SJ,SJ]))

end Go.Fl

/- Intervals of a number: Horner's rule with ends, halving. Plain Lean, no program in sight. -/
namespace Go.Fl
def N6 (a b c d:Int):Int:=min (min a b) (min c d)
def N5 (a b c d:Int):Int:=max (max a b) (max c d)
theorem TA {A B x y:Int} (h1:A<=x) (h2:x<=B):min (A*y) (B*y)<=x*y/\x*y<=max (A*y) (B*y):=by
 rcases Int.le_total 0 y with hy | hy
 ·have e1:=Int.mul_le_mul_of_nonneg_right h1 hy
  have e2:=Int.mul_le_mul_of_nonneg_right h2 hy
  omega
 ·have e1:=Int.mul_le_mul_of_nonpos_right h1 hy
  have e2:=Int.mul_le_mul_of_nonpos_right h2 hy
  omega
theorem aC {A B L H x y:Int} (h1:A<=x) (h2:x<=B) (h3:L<=y) (h4:y<=H):N6 (A*L) (A*H) (B*L) (B*H)<=x*y/\x*y<=N5 (A*L) (A*H) (B*L) (B*H):=by
 have e1:=TA (y:=y) h1 h2
 have e2:=TA (y:=A) h3 h4
 have e3:=TA (y:=B) h3 h4
 rw[Int.mul_comm L,Int.mul_comm H,Int.mul_comm y] at e2 e3
 unfold N6 N5
 omega
theorem bJ {A B L H:Int}:∃x y,(x=A\/x=B)/\(y=L\/y=H)/\N6 (A*L) (A*H) (B*L) (B*H)=x*y:=by
 unfold N6
 have h:min (min (A*L) (A*H)) (min (B*L) (B*H))=A*L\/min (min (A*L) (A*H)) (min (B*L) (B*H))=A*H\/min (min (A*L) (A*H)) (min (B*L) (B*H))=B*L\/min (min (A*L) (A*H)) (min (B*L) (B*H))=B*H:=by omega
 rcases h with h | h | h | h
 ·exact ⟨A,L,.inl rfl,.inl rfl,h⟩
 ·exact ⟨A,H,.inl rfl,.inr rfl,h⟩
 ·exact ⟨B,L,.inr rfl,.inl rfl,h⟩
 ·exact ⟨B,H,.inr rfl,.inr rfl,h⟩
theorem bI {A B L H:Int}:∃x y,(x=A\/x=B)/\(y=L\/y=H)/\N5 (A*L) (A*H) (B*L) (B*H)=x*y:=by
 unfold N5
 have h:max (max (A*L) (A*H)) (max (B*L) (B*H))=A*L\/max (max (A*L) (A*H)) (max (B*L) (B*H))=A*H\/max (max (A*L) (A*H)) (max (B*L) (B*H))=B*L\/max (max (A*L) (A*H)) (max (B*L) (B*H))=B*H:=by omega
 rcases h with h | h | h | h
 ·exact ⟨A,L,.inl rfl,.inl rfl,h⟩
 ·exact ⟨A,H,.inl rfl,.inr rfl,h⟩
 ·exact ⟨B,L,.inr rfl,.inl rfl,h⟩
 ·exact ⟨B,H,.inr rfl,.inr rfl,h⟩
theorem TL {Q a b:Int} (h:0<=Q):min (Q*a) (Q*b)=Q*min a b:=by
 rcases Int.le_total a b with h1 | h1
 ·have:=Int.mul_le_mul_of_nonneg_left h1 h
  rw[Int.min_eq_left h1,Int.min_eq_left this]
 ·have:=Int.mul_le_mul_of_nonneg_left h1 h
  rw[Int.min_eq_right h1,Int.min_eq_right this]
theorem TK {Q a b:Int} (h:0<=Q):max (Q*a) (Q*b)=Q*max a b:=by
 rcases Int.le_total a b with h1 | h1
 ·have:=Int.mul_le_mul_of_nonneg_left h1 h
  rw[Int.max_eq_right h1,Int.max_eq_right this]
 ·have:=Int.mul_le_mul_of_nonneg_left h1 h
  rw[Int.max_eq_left h1,Int.max_eq_left this]
theorem qO {Q a b c d:Int} (h:0<=Q):N6 (Q*a) (Q*b) (Q*c) (Q*d)=Q*N6 a b c d:=by
 unfold N6; rw[TL h,TL h,TL h]
theorem qM {Q a b c d:Int} (h:0<=Q):N5 (Q*a) (Q*b) (Q*c) (Q*d)=Q*N5 a b c d:=by
 unfold N5; rw[TK h,TK h,TK h]
structure Iv where
 lo:Int
 hi:Int
 den:Int
def enc (I:Iv):List Int->Int×Int×Int
 | []=>(0,0,1)
 | c::cs =>
  let e:=enc I cs
  (N6 (e.1*I.lo) (e.1*I.hi) (e.2.1*I.lo) (e.2.1*I.hi)+c*(e.2.2*I.den),N5 (e.1*I.lo) (e.1*I.hi) (e.2.1*I.lo) (e.2.1*I.hi)+c*(e.2.2*I.den),e.2.2*I.den)
structure Iv.Ok (I:Iv):Prop where
 le:I.lo<=I.hi
 pos:0<I.den
theorem RY {I:Iv}:∀{cs:List Int},(enc I cs).2.2=I.den ^ cs.length
 | []=>by simp[enc]
 | c::cs=>by rw[enc,List.length_cons,Int.pow_succ,<- RY]
theorem ZN {I:Iv}:∀{cs:List Int},(enc I cs).1<=(enc I cs).2.1
 | []=>Int.le_refl _
 | c::cs=>by
  rw[enc]
  simp only
  have:N6 ((enc I cs).1*I.lo) ((enc I cs).1*I.hi) ((enc I cs).2.1*I.lo) ((enc I cs).2.1*I.hi)<=N5 ((enc I cs).1*I.lo) ((enc I cs).1*I.hi) ((enc I cs).2.1*I.lo) ((enc I cs).2.1*I.hi):=by unfold N6 N5; omega
  omega
structure Iv.In (I' I:Iv) (m:Int):Prop where
 m0:0<m
 den:I'.den=m*I.den
 lo:m*I.lo<=I'.lo
 hi:I'.hi<=m*I.hi
theorem RZ {I' I:Iv} {m:Int} (h:I'.In I m) (h':I'.lo<=I'.hi):∀{cs:List Int},m ^ cs.length*(enc I cs).1<=(enc I' cs).1/\(enc I' cs).2.1<=m ^ cs.length*(enc I cs).2.1/\(enc I' cs).2.2=m ^ cs.length*(enc I cs).2.2
 | []=>by simp[enc]
 | c::cs=>by
  obtain ⟨h1,h2,h3⟩:=RZ h h' (cs:=cs)
  have hle:=ZN (I:=I') (cs:=cs)
  have hm:=h.m0
  rw[enc,enc,List.length_cons,Int.pow_succ]
  simp only
  generalize (enc I cs).1=A at *
  generalize (enc I cs).2.1=B at *
  generalize (enc I cs).2.2=D at *
  generalize (enc I' cs).1=A' at *
  generalize (enc I' cs).2.1=B' at *
  generalize (enc I' cs).2.2=D' at *
  have hq:0<m ^ cs.length:=Int.pow_pos hm
  have hQ:=Int.mul_pos hq hm
  generalize m ^ cs.length=q at *
  have hd:D'*I'.den=q*m*(D*I.den):=by rw[h3,h.den]; simp only[Int.mul_left_comm,Int.mul_comm]
  have hc:c*(D'*I'.den)=q*m*(c*(D*I.den)):=by rw[hd]; simp only[Int.mul_left_comm,Int.mul_comm]
  have e:∀x y:Int,q*x*(m*y)=q*m*(x*y):=fun x y=>by simp only[Int.mul_left_comm,Int.mul_comm]
  have key:∀x y,(x=A'\/x=B')->(y=I'.lo\/y=I'.hi)->N6 (q*A*(m*I.lo)) (q*A*(m*I.hi)) (q*B*(m*I.lo)) (q*B*(m*I.hi))<=x*y/\x*y<=N5 (q*A*(m*I.lo)) (q*A*(m*I.hi)) (q*B*(m*I.lo)) (q*B*(m*I.hi)):=fun x y hx hy=>by
   have b1:q*A<=x/\x<=q*B:=by rcases hx with rfl | rfl<;>omega
   have b2:m*I.lo<=y/\y<=m*I.hi:=by have:=h.lo; have:=h.hi; rcases hy with rfl | rfl<;>omega
   exact aC b1.1 b1.2 b2.1 b2.2
  simp only[e,qO (Int.le_of_lt hQ),qM (Int.le_of_lt hQ)] at key
  refine ⟨?_,?_,hd⟩
  ·obtain ⟨x,y,hx,hy,hxy⟩:=bJ (A:=A') (B:=B') (L:=I'.lo) (H:=I'.hi)
   have:=(key x y hx hy).1
   rw[hxy,Int.mul_add,hc]; omega
  ·obtain ⟨x,y,hx,hy,hxy⟩:=bI (A:=A') (B:=B') (L:=I'.lo) (H:=I'.hi)
   have:=(key x y hx hy).2
   rw[hxy,Int.mul_add,hc]; omega
end Go.Fl

/- Signs of numbers: the intervals are halved until one decides. Plain Lean, no program in sight. -/
namespace Go.Fl
def C5 (a b:Int):List Int->Int×Int
 | []=>(0,1)
 | c::cs=>((C5 a b cs).1*a+c*(C5 a b cs).2,(C5 a b cs).2*b)
def u9 (z:Int):Int:=s7 z 0
def M6 (p:List Int) (I:Iv):Iv :=
 if u9 (C5 I.lo I.den p).1*u9 (C5 (I.lo+I.hi) (I.den+I.den) p).1<0 then ⟨I.lo+I.lo,I.lo+I.hi,I.den+I.den⟩ else ⟨I.lo+I.hi,I.hi+I.hi,I.den+I.den⟩
theorem oV {p:List Int} {I:Iv} (h:I.Ok):(M6 p I).Ok:=by
 have h1:=h.le; have h2:=h.pos
 unfold M6
 split
 ·exact ⟨by simp only; omega,by simp only; omega⟩
 ·exact ⟨by simp only; omega,by simp only; omega⟩
theorem oU {p:List Int} {I:Iv} (h:I.Ok):(M6 p I).In I 2:=by
 have h1:=h.le
 unfold M6
 split
 ·exact ⟨by omega,by simp only; omega,by simp only; omega,by simp only; omega⟩
 ·exact ⟨by omega,by simp only; omega,by simp only; omega,by simp only; omega⟩
theorem Iv.In.trans {A B C:Iv} {m n:Int} (h1:A.In B m) (h2:B.In C n):A.In C (m*n):=by
 have a1:=h1.m0; have a2:=h2.m0
 refine ⟨Int.mul_pos a1 a2,by rw[h1.den,h2.den,Int.mul_assoc],?_,?_⟩
 ·have:=Int.mul_le_mul_of_nonneg_left h2.lo (Int.le_of_lt a1)
  have:=h1.lo
  rw[Int.mul_assoc]; omega
 ·have:=Int.mul_le_mul_of_nonneg_left h2.hi (Int.le_of_lt a1)
  have:=h1.hi
  rw[Int.mul_assoc]; omega
def i4 (p:List Int) (I:Iv):Nat->Iv
 | 0=>I
 | k+1=>M6 p (i4 p I k)
theorem Z4 {p:List Int} {I:Iv} (h:I.Ok):∀{k:Nat},(i4 p I k).Ok
 | 0=>h
 | _+1=>oV (Z4 h)
theorem SS {p:List Int} {I:Iv} (h:I.Ok) {j:Nat}:∀{n:Nat},∃m,(i4 p I (j+n)).In (i4 p I j) m
 | 0=>⟨1,by omega,by rw[Nat.add_zero]; omega,by rw[Nat.add_zero]; omega,by rw[Nat.add_zero]; omega⟩
 | n+1=>by
  obtain ⟨m,hm⟩:=SS h (j:=j) (n:=n)
  exact ⟨2*m,(oU (Z4 h)).trans hm⟩
section
variable {p:List Int} {I:Iv} {cs:List Int} {j k:Nat}
theorem ZL (h:I.Ok) (hjk:j<=k) (hp:0<(enc (i4 p I j) cs).1):0<(enc (i4 p I k) cs).1:=by
 obtain ⟨n,rfl⟩:=Nat.exists_eq_add_of_le hjk
 obtain ⟨m,hm⟩:=SS (p:=p) h (j:=j) (n:=n)
 have h1:=(RZ hm (Z4 h).le (cs:=cs)).1
 have h2:=Int.mul_pos (show 0<m ^ cs.length from Int.pow_pos hm.m0) hp
 omega
theorem ZK (h:I.Ok) (hjk:j<=k) (hp:(enc (i4 p I j) cs).2.1<0):(enc (i4 p I k) cs).2.1<0:=by
 obtain ⟨n,rfl⟩:=Nat.exists_eq_add_of_le hjk
 obtain ⟨m,hm⟩:=SS (p:=p) h (j:=j) (n:=n)
 have h1:=(RZ hm (Z4 h).le (cs:=cs)).2.1
 have h2:=Int.mul_neg_of_pos_of_neg (show 0<m ^ cs.length from Int.pow_pos hm.m0) hp
 omega
theorem oD (h:I.Ok) (hp:0<(enc (i4 p I j) cs).1) (hn:(enc (i4 p I k) cs).2.1<0):False:=by
 have h1:=ZL h (Nat.le_max_left j k) hp
 have h2:=ZK h (Nat.le_max_right j k) hn
 have h3:=ZN (I:=i4 p I (max j k)) (cs:=cs)
 omega
end
open Classical in
noncomputable def Y0 (p:List Int) (I:Iv) (cs:List Int):Int:=if ∃k,0<(enc (i4 p I k) cs).1 then 1 else if ∃k,(enc (i4 p I k) cs).2.1<0 then -1 else 0
theorem uT {p:List Int} {I:Iv} {cs:List Int} {k:Nat} (h:0<(enc (i4 p I k) cs).1):Y0 p I cs=1:=if_pos ⟨k,h⟩
theorem uS {p:List Int} {I:Iv} {cs:List Int} {k:Nat} (hI:I.Ok) (h:(enc (i4 p I k) cs).2.1<0):Y0 p I cs=-1:=by
 unfold Y0
 rw[if_neg (fun ⟨j,hj⟩=>oD hI hj h),if_pos ⟨k,h⟩]
end Go.Fl

/- Polynomials with integer coefficients (by coefficient functions): Gauss' lemma, common divisors and combinations. Plain Lean, no program in sight. -/
namespace Go.Fl
abbrev r9:=Nat->Int
def v8 (f:r9) (d:Nat):Prop:=∀i,d<i->f i=0
def o5 (f g:r9):r9:=fun k=>r6 (fun i=>f i*g (k-i)) (k+1)
theorem FP {f:Nat->Int}:∀{k:Nat},(∀i,i<k->f i=0)->r6 f k=0
 | 0,_=>rfl
 | k+1,h=>by rw[I6,FP fun i hi=>h i zo,h k zo]; rfl
theorem FO {f:Nat->Int} {m:Int}:∀{k:Nat},r6 (fun i=>m*f i) k=m*r6 f k
 | 0=>by simp[r6]
 | k+1=>by rw[I6,I6,FO,Int.mul_add]
theorem fE {f:Nat->Int} {m:Int}:∀{k:Nat},(∀i,i<k->m∣f i)->m∣r6 f k
 | 0,_=>⟨0,by simp[r6]⟩
 | k+1,h=>by rw[I6]; exact Int.dvd_add (fE fun i hi=>h i zo) (h k zo)
theorem fD {f:Nat->Int} {m:Int} {j:Nat}:∀{k:Nat},j<k->(∀i,i<k->i≠j->m∣f i)->∃q,r6 f k=f j+m*q
 | 0,h,_=>absurd h zo
 | k+1,h,hd=>by
  by_cases e:j=k
  ·subst e
   obtain ⟨q,hq⟩:=fE (f:=f) (m:=m) (k:=j) fun i hi=>hd i zo zo
   exact ⟨q,by rw[I6,hq]; omega⟩
  ·obtain ⟨q,hq⟩:=fD (f:=f) (m:=m) (k:=k) zo fun i hi hne=>hd i zo hne
   obtain ⟨r,hr⟩:=hd k zo (fun e'=>e e'.symm)
   exact ⟨q+r,by rw[I6,hq,hr,Int.mul_add]; omega⟩
theorem UT {f:Nat->Int} {j:Nat}:∀{k:Nat},j<k->(∀i,i<k->i≠j->f i=0)->r6 f k=f j
 | 0,h,_=>absurd h zo
 | k+1,h,hd=>by
  by_cases e:j=k
  ·subst e; rw[I6,FP fun i hi=>hd i zo zo]; omega
  ·rw[I6,UT zo fun i hi hne=>hd i zo hne,hd k zo (fun e'=>e e'.symm)]; omega
theorem jR {f g:r9} {a b:Nat} (hf:v8 f a) (hg:v8 g b):o5 f g (a+b)=f a*g b:=by
 unfold o5
 rw[UT (j:=a) zo]
 ·rw[Nat.add_sub_cancel_left]
 ·intro i hi hne
  by_cases h:a<i
  ·rw[hf i h,Int.zero_mul]
  ·rw[hg (a+b-i) zo,Int.mul_zero]
theorem WY {f g:r9} {a b:Nat} (hf:v8 f a) (hg:v8 g b):v8 (o5 f g) (a+b):=fun k hk=>by
 unfold o5
 refine FP fun i _=>?_
 by_cases h:a<i
 ·rw[hf i h,Int.zero_mul]
 ·rw[hg (k-i) zo,Int.mul_zero]
theorem GK {f g:r9} {m:Int}:o5 (fun i=>m*f i) g=fun k=>m*o5 f g k:=by
 funext k; unfold o5
 rw[<- FO]
 exact O2 fun i _=>by rw[Int.mul_assoc]
theorem IX {f g:r9} {m:Int}:o5 f (fun i=>m*g i)=fun k=>m*o5 f g k:=by
 funext k; unfold o5
 rw[<- FO]
 exact O2 fun i _=>by rw[Int.mul_left_comm]
theorem sS {s:Nat} (h:1<s):∃q,1<q/\q∣s/\∀a b:Int,(q:Int)∣a*b->(q:Int)∣a\/(q:Int)∣b:=by
 have key:∀k,∀j,j+k=s->1<j->(∀i,1<i->i<j->¬i∣s)->∃q,1<q/\q∣s/\∀i,1<i->i<q->¬i∣s:=by
  intro k
  induction k with
  | zero=>intro j h1 h2 h3; exact ⟨s,h,Nat.dvd_refl _,fun i a b=>h3 i a zo⟩
  | succ k ih =>
   intro j h1 h2 h3
   by_cases hd:j∣s
   ·exact ⟨j,h2,hd,h3⟩
   ·refine ih (j+1) zo zo fun i a b=>?_
    by_cases e:i=j
    ·subst e; exact hd
    ·exact h3 i a zo
 obtain ⟨q,h1,h2,h3⟩:=key (s-2) 2 zo zo fun i a b=>by omega
 refine ⟨q,h1,h2,fun a b hab=>?_⟩
 have hab':q∣a.natAbs*b.natAbs:=by
  have:=Int.natAbs_dvd_natAbs.2 hab
  rwa [Int.natAbs_natCast,Int.natAbs_mul] at this
 have hg:Nat.gcd q a.natAbs∣q:=Nat.gcd_dvd_left _ _
 by_cases e:Nat.gcd q a.natAbs=1
 ·exact .inr (Int.ofNat_dvd_left.2 (Nat.Coprime.dvd_of_dvd_mul_left e hab'))
 ·have hpos:0<Nat.gcd q a.natAbs:=Nat.gcd_pos_of_pos_left _ zo
  have hle:=Nat.le_of_dvd zo hg
  have heq:Nat.gcd q a.natAbs=q:=Classical.byContradiction fun hne=>h3 _ zo zo (Nat.dvd_trans hg h2)
  exact .inl (Int.ofNat_dvd_left.2 (by rw[<- heq]; exact Nat.gcd_dvd_right _ _))
theorem aY {P:Nat->Prop} (h:∃i,P i):∃i,P i/\∀j,j<i->¬P j:=by
 obtain ⟨i,hi⟩:=h
 induction i using Nat.strongRecOn with
 | _ i ih =>
  by_cases e:∃j,j<i/\P j
  ·obtain ⟨j,h1,h2⟩:=e; exact ih j h1 h2
  ·exact ⟨i,hi,fun j hj hp=>e ⟨j,hj,hp⟩⟩
theorem oL {q:Int} (hp:∀a b:Int,q∣a*b->q∣a\/q∣b) {r t:r9} (h:∀k,q∣o5 r t k):(∀k,q∣r k)\/∀k,q∣t k:=by
 refine Classical.byContradiction fun hn=>?_
 rw[not_or] at hn
 obtain ⟨i,hi,hi'⟩:=aY (Classical.not_forall.1 hn.1)
 obtain ⟨j,hj,hj'⟩:=aY (Classical.not_forall.1 hn.2)
 obtain ⟨m,hm⟩:=fD (f:=fun k=>r k*t (i+j-k)) (m:=q) (j:=i) (k:=i+j+1) zo fun k hk hne=>by
  by_cases hlt:k<i
  ·exact Int.dvd_trans (Classical.not_not.1 (hi' k hlt)) (Int.dvd_mul_right _ _)
  ·exact Int.dvd_trans (Classical.not_not.1 (hj' (i+j-k) zo)) (Int.dvd_mul_left _ _)
 have h1:q∣o5 r t (i+j):=h _
 have h2:o5 r t (i+j)=r i*t (i+j-i)+q*m:=hm
 rw[h2,Nat.add_sub_cancel_left] at h1
 have h3:q∣r i*t j:=(Int.dvd_add_left (Int.dvd_mul_right q m)).1 h1
 rcases hp _ _ h3 with h | h
 ·exact hi h
 ·exact hj h
theorem oM {p:r9} {a b:Nat}:∀(n:Nat) {s:Int} {r t:r9},s.natAbs=n->s≠0->v8 r a->r a≠0->v8 t b->(∀k,s*p k=o5 r t k)->∃r' t',v8 r' a/\r' a≠0/\v8 t' b/\((∀k,p k=o5 r' t' k)\/∀k,-p k=o5 r' t' k):=by
 intro n
 induction n using Nat.strongRecOn with
 | _ n ih =>
  intro s r t hn hs hr hra ht h
  by_cases h1:n=1
  ·rcases (show s=1\/s=-1 by omega) with rfl | rfl
   ·exact ⟨r,t,hr,hra,ht,.inl fun k=>by rw[<- h k,Int.one_mul]⟩
   ·exact ⟨r,t,hr,hra,ht,.inr fun k=>by rw[<- h k,Int.neg_mul,Int.one_mul]⟩
  ·obtain ⟨q,q1,q2,q3⟩:=sS (s:=n) zo
   have hqs:(q:Int)∣s:=Int.ofNat_dvd_left.2 (by rw[hn]; exact q2)
   obtain ⟨s',hs'⟩:=hqs
   have hq0:(q:Int)≠0:=by omega
   have hlt:s'.natAbs<n:=by
    rw[<- hn,hs',Int.natAbs_mul,Int.natAbs_natCast]
    have h0:0<s'.natAbs:=by
     refine Nat.pos_of_ne_zero fun e=>hs ?_
     rw[hs',show s'=0 by omega,Int.mul_zero]
    have:=Nat.mul_lt_mul_of_pos_right q1 h0
    omega
   have hs0:s'≠0:=fun e=>hs (by rw[hs',e,Int.mul_zero])
   have hall:∀k,(q:Int)∣o5 r t k:=fun k=>⟨s'*p k,by rw[<- h k,hs',Int.mul_assoc]⟩
   rcases oL q3 hall with hd | hd
   ·have e:∀k,r k=(q:Int)*(r k/q):=fun k=>(Int.mul_ediv_cancel' (hd k)).symm
    refine ih _ hlt (r:=fun k=>r k/q) (t:=t) rfl hs0 (fun i hi=>by show r i/_=0; rw[hr i hi,Int.zero_ediv]) (fun e0=>hra (by rw[e a,show r a/(q:Int)=0 from e0,Int.mul_zero])) ht fun k=>?_
    have h2:o5 r t k=(q:Int)*o5 (fun k=>r k/q) t k:=by
     have:r=fun k=>(q:Int)*(r k/q):=funext e
     conv=>lhs; rw[this,GK]
    have h3:(q:Int)*(s'*p k)=q*o5 (fun k=>r k/q) t k:=by rw[<- h2,<- h k,hs',Int.mul_assoc]
    exact Int.eq_of_mul_eq_mul_left hq0 h3
   ·have e:∀k,t k=(q:Int)*(t k/q):=fun k=>(Int.mul_ediv_cancel' (hd k)).symm
    refine ih _ hlt (r:=r) (t:=fun k=>t k/q) rfl hs0 hr hra (fun i hi=>by show t i/_=0; rw[ht i hi,Int.zero_ediv]) fun k=>?_
    have h2:o5 r t k=(q:Int)*o5 r (fun k=>t k/q) k:=by
     have:t=fun k=>(q:Int)*(t k/q):=funext e
     conv=>lhs; rw[this,IX]
    have h3:(q:Int)*(s'*p k)=q*o5 r (fun k=>t k/q) k:=by rw[<- h2,<- h k,hs',Int.mul_assoc]
    exact Int.eq_of_mul_eq_mul_left hq0 h3
end Go.Fl

/- Euclid's algorithm on polynomials, with multiples instead of fractions: a common divisor, or a combination that is a number. Plain Lean, no program in sight. -/
namespace Go.Fl
def D3 (k:Nat) (g:r9):r9:=fun i=>if k<=i then g (i-k) else 0
def K7 (a b:Int) (k:Nat) (f g:r9):r9:=fun i=>a*f i-b*D3 k g i
theorem UV {f:Nat->Int} {m:Nat}:∀{j:Nat},(∀i,m<=i->i<m+j->f i=0)->r6 f (m+j)=r6 f m
 | 0,_=>rfl
 | j+1,h=>by rw[show m+(j+1)=m+j+1 by omega,I6,UV fun i h1 h2=>h i h1 zo,h (m+j) zo zo]; omega
theorem UU {f:Nat->Int} {k:Nat}:∀{j:Nat},(∀i,i<k->f i=0)->r6 f (k+j)=r6 (fun i=>f (k+i)) j
 | 0,h=>by rw[Nat.add_zero,FP h]; rfl
 | j+1,h=>by rw[show k+(j+1)=k+j+1 by omega,I6,I6,UU h]
theorem WZ {f g:r9} {k:Nat}:o5 (D3 k f) g=D3 k (o5 f g):=by
 funext i
 unfold o5 D3
 by_cases h:k<=i
 ·rw[if_pos h,show i+1=k+(i-k+1) by omega,UU]
  ·refine O2 fun j hj=>?_
   rw[if_pos zo,Nat.add_sub_cancel_left,show i-(k+j)=i-k-j by omega]
  ·intro j hj; rw[if_neg zo,Int.zero_mul]
 ·rw[if_neg h]
  exact FP fun j hj=>by rw[if_neg zo,Int.zero_mul]
theorem jP {f g:r9} {k:Nat}:o5 f (D3 k g)=D3 k (o5 f g):=by
 funext i
 unfold o5 D3
 by_cases h:k<=i
 ·rw[if_pos h,show i+1=(i-k+1)+k by omega,UV]
  ·refine O2 fun j hj=>?_
   rw[if_pos zo,show i-j-k=i-k-j by omega]
  ·intro j h1 h2; rw[if_neg zo,Int.mul_zero]
 ·rw[if_neg h]
  exact FP fun j hj=>by rw[if_neg zo,Int.mul_zero]
theorem jQ {f g h:r9}:o5 (fun i=>f i-g i) h=fun i=>o5 f h i-o5 g h i:=by
 funext i; unfold o5
 rw[<- fF]
 exact O2 fun j _=>by rw[Int.sub_mul]
theorem jN {f g h:r9}:o5 (fun i=>f i+g i) h=fun i=>o5 f h i+o5 g h i:=by
 funext i; unfold o5
 rw[<- PD]
 exact O2 fun j _=>by rw[Int.add_mul]
theorem jO {f g h:r9}:o5 h (fun i=>f i+g i)=fun i=>o5 h f i+o5 h g i:=by
 funext i; unfold o5
 rw[<- PD]
 exact O2 fun j _=>by rw[Int.mul_add]
theorem uW {g:r9} {k:Nat} {b:Int}:(fun i=>b*D3 k g i)=D3 k fun i=>b*g i:=by
 funext i; unfold D3
 split
 ·rfl
 ·rw[Int.mul_zero]
theorem XA {a b:Int} {k:Nat} {f g h:r9}:o5 (K7 a b k f g) h=K7 a b k (o5 f h) (o5 g h):=by
 unfold K7
 rw[jQ,GK,GK,WZ]
def X3:r9:=fun i=>if i=0 then 1 else 0
def M8:r9:=fun _=>0
theorem LR {f:r9}:o5 X3 f=f:=by
 funext k; unfold o5
 rw[UT (j:=0) zo]
 ·unfold X3; rw[if_pos rfl,Int.one_mul]; rfl
 ·intro i _ hne; unfold X3; rw[if_neg hne,Int.zero_mul]
theorem DJ {f:r9}:o5 M8 f=M8:=by
 funext k; unfold o5
 exact FP fun i _=>by unfold M8; rw[Int.zero_mul]
structure Y3 (p c:r9) (X E:Nat) (f u v:r9):Prop where
 eq:∀k,f k=o5 u p k+o5 v c k
 du:v8 u E
 dv:v8 v E
 bf:∀k,(f k).natAbs<=X
 bu:∀k,(u k).natAbs<=X
 bv:∀k,(v k).natAbs<=X
theorem US {a b:Int} {k X:Nat} {f g:r9} (ha:a.natAbs<=X) (hb:b.natAbs<=X) (hf:∀i,(f i).natAbs<=X) (hg:∀i,(g i).natAbs<=X) (i:Nat):(K7 a b k f g i).natAbs<=2*X*X:=by
 have h1:(a*f i).natAbs<=X*X:=by rw[Int.natAbs_mul]; exact Nat.mul_le_mul ha (hf i)
 have h2:(b*D3 k g i).natAbs<=X*X:=by
  rw[Int.natAbs_mul]
  refine Nat.mul_le_mul hb ?_
  unfold D3; split
  ·exact hg _
  ·exact Nat.zero_le _
 unfold K7
 rw[show 2*X*X=X*X+X*X by rw[Nat.mul_assoc,Nat.two_mul]]
 omega
theorem eT {a b:Int} {k d e:Nat} {f g:r9} (hf:v8 f d) (hg:v8 g e) (h1:d<=e+k):v8 (K7 a b k f g) (e+k):=fun i hi=>by
 unfold K7 D3
 rw[hf i zo,if_pos zo,hg (i-k) zo]; omega
theorem Y3.stp {p c:r9} {X E k:Nat} {f u v g u' v':r9} {a b:Int} (h:Y3 p c X E f u v) (h':Y3 p c X E g u' v') (ha:a.natAbs<=X) (hb:b.natAbs<=X):Y3 p c (2*X*X) (E+k) (K7 a b k f g) (K7 a b k u u') (K7 a b k v v'):=by
 refine ⟨fun i=>?_,eT h.du h'.du zo,eT h.dv h'.dv zo,US ha hb h.bf h'.bf,US ha hb h.bu h'.bu,US ha hb h.bv h'.bv⟩
 rw[XA,XA]
 unfold K7 D3
 rw[h.eq i]
 split
 ·rw[h'.eq (i-k)]; simp only[Int.mul_add]; omega
 ·simp only[Int.mul_add,Int.mul_zero]; omega
def L4 (p f g:r9):Prop:=∃s q1 q2 d,s≠0/\v8 q1 d/\v8 q2 d/\∀k,s*p k=o5 q1 f k+o5 q2 g k
theorem L4.swap {p f g:r9} (h:L4 p f g):L4 p g f:=by
 obtain ⟨s,q1,q2,d,h1,h2,h3,h4⟩:=h
 exact ⟨s,q2,q1,d,h1,h3,h2,fun k=>by rw[h4 k,Int.add_comm]⟩
theorem L4.stp {p f g:r9} (h:L4 p f g) {a b:Int} {k:Nat} (ha:a≠0):L4 p (K7 a b k f g) g:=by
 obtain ⟨s,q1,q2,d,h1,h2,h3,h4⟩:=h
 refine ⟨a*s,q1,fun i=>D3 k (fun i=>b*q1 i) i+a*q2 i,d+k,Int.mul_ne_zero ha h1,fun i hi=>h2 i zo,fun i hi=>?_,fun i=>?_⟩
 ·show (if k<=i then b*q1 (i-k) else 0)+a*q2 i=0
  rw[if_pos zo,h2 (i-k) zo,h3 i zo]; omega
 ·have e1:o5 q1 (K7 a b k f g)=fun i=>a*o5 q1 f i-b*D3 k (o5 q1 g) i:=by
   have hs:K7 a b k f g=fun i=>a*f i+(-b)*D3 k g i:=by funext i; unfold K7; rw[Int.neg_mul]; omega
   rw[hs,jO,IX,IX,jP]
   funext i
   show a*o5 q1 f i+-b*D3 k (o5 q1 g) i=_
   rw[Int.neg_mul]; omega
  have e2:o5 (fun i=>D3 k (fun i=>b*q1 i) i+a*q2 i) g=fun i=>b*D3 k (o5 q1 g) i+a*o5 q2 g i:=by
   rw[jN,GK]
   funext i
   congr 1
   rw[WZ,GK,<- uW]
  rw[e1,e2,Int.mul_assoc,h4 i,Int.mul_add]
  simp only
  omega
theorem MH {f:r9}:∀{d:Nat},v8 f d->(∀i,f i=0)\/∃e,e<=d/\v8 f e/\f e≠0
 | 0,h=>by
  by_cases e:f 0=0
  ·exact .inl fun i=>by
    rcases Nat.eq_zero_or_pos i with rfl | hi
    ·exact e
    ·exact h i hi
  ·exact .inr ⟨0,Nat.le_refl _,h,e⟩
 | d+1,h=>by
  by_cases e:f (d+1)=0
  ·rcases MH (d:=d) (fun i hi=>by
    by_cases e2:i=d+1
    ·subst e2; exact e
    ·exact h i zo) with h1 | ⟨q,h1,h2,h3⟩
   ·exact .inl h1
   ·exact .inr ⟨q,by omega,h2,h3⟩
  ·exact .inr ⟨d+1,Nat.le_refl _,h,e⟩
def XI (X:Nat):Nat->Nat
 | 0=>X
 | m+1=>XI (2*X*X) m
theorem VU {X:Nat} (h:1<=X):∀{m:Nat},X<=XI X m
 | 0=>Nat.le_refl _
 | m+1=>by
  have h1:X*1<=X*X:=Nat.mul_le_mul_left _ h
  have h2:X<=2*X*X:=by rw[Nat.mul_assoc]; omega
  exact Nat.le_trans h2 (VU zo)
def EG (p c:r9) (X E:Nat):Prop:=∃D u v,D≠0/\(∀k,o5 u p k+o5 v c k=if k=0 then D else 0)/\v8 u E/\v8 v E/\(∀k,(u k).natAbs<=X)/\∀k,(v k).natAbs<=X
theorem EG.mono {p c:r9} {X Y E F:Nat} (h:EG p c X E) (h1:X<=Y) (h2:E<=F):EG p c Y F:=by
 obtain ⟨D,u,v,a1,a2,a3,a4,a5,a6⟩:=h
 exact ⟨D,u,v,a1,a2,fun i hi=>a3 i zo,fun i hi=>a4 i zo,fun k=>Nat.le_trans (a5 k) h1,fun k=>Nat.le_trans (a6 k) h1⟩
theorem Y3.bez {p c:r9} {X E:Nat} {f u v:r9} (h:Y3 p c X E f u v) (hd:v8 f 0) (h0:f 0≠0):EG p c X E :=
 ⟨f 0,u,v,h0,fun k=>by
  rw[<- h.eq k]
  split
  ·rename_i e; rw[e]
  ·exact hd k zo,h.du,h.dv,h.bu,h.bv⟩
def KT (p:r9) (n:Nat):Prop:=∃s r t a b,s≠0/\1<=a/\a<=n-1/\v8 r a/\r a≠0/\v8 t b/\∀k,s*p k=o5 r t k
theorem GJ {f g:r9}:o5 f g=o5 g f:=by
 funext k; unfold o5
 have key:∀(h:Nat->Int) (m:Nat),r6 h m=r6 (fun i=>h (m-1-i)) m:=fun h m=>by
  induction m generalizing h with
  | zero=>rfl
  | succ m ih =>
   rw[I6]
   have e:=UU (f:=fun i=>h (m-i)) (k:=1) (j:=m)
   have e2:r6 (fun i=>h (m-i)) (m+1)=h m+r6 (fun i=>h (m-(1+i))) m:=by
    clear ih e
    have:∀j,r6 (fun i=>h (m-i)) (j+1)=h m+r6 (fun i=>h (m-(1+i))) j:=by
     intro j
     induction j with
     | zero=>show 0+h (m-0)=h m+0; rw[Nat.sub_zero]; omega
     | succ j ihj=>rw[I6,ihj,I6,show 1+j=j+1 by omega]; omega
    exact this m
   show r6 h m+h m=r6 (fun i=>h (m+1-1-i)) (m+1)
   rw[Nat.add_sub_cancel,e2,ih h,Int.add_comm]
   congr 1
   exact O2 fun i hi=>by rw[show m-1-i=m-(1+i) by omega]
 rw[key]
 refine O2 fun i hi=>?_
 rw[Nat.add_sub_cancel,show k-(k-i)=i by omega,Int.mul_comm]
theorem SA {p c:r9} {n:Nat}:∀(m:Nat) {f g:r9} {u v u' v':r9} {df dg X E:Nat},1<=X->df+dg<=m->dg<=df->df<=4->dg<=n-1->v8 f df->f df≠0->v8 g dg->g dg≠0->Y3 p c X E f u v->Y3 p c X E g u' v'->L4 p f g->KT p n\/EG p c (XI X m) (E+4*m)
 | m,f,g,u,v,u',v',df,dg,X,E,hX,hm,hd,h4,hn,hf,hf0,hg,hg0,cf,cg,bk=>by
  rcases Nat.eq_zero_or_pos dg with rfl | hpos
  ·exact .inr ((cg.bez hg hg0).mono (VU hX) zo)
  ·obtain ⟨m,rfl⟩:∃q,m=q+1:=⟨m-1,by omega⟩
   have c2:=cf.stp (k:=df-dg) cg (a:=g dg) (b:=f df) (cg.bf _) (cf.bf _)
   have b2:=bk.stp (a:=g dg) (b:=f df) (k:=df-dg) hg0
   have hX2:1<=2*X*X:=by
    have:X*1<=X*X:=Nat.mul_le_mul_left _ hX
    rw[Nat.mul_assoc]; omega
   have hXX:X<=2*X*X:=by
    have:X*1<=X*X:=Nat.mul_le_mul_left _ hX
    rw[Nat.mul_assoc]; omega
   have cg2:Y3 p c (2*X*X) (E+(df-dg)) g u' v':=⟨cg.eq,fun i hi=>cg.du i zo,fun i hi=>cg.dv i zo,fun k=>Nat.le_trans (cg.bf k) hXX,fun k=>Nat.le_trans (cg.bu k) hXX,fun k=>Nat.le_trans (cg.bv k) hXX⟩
   have hdg:v8 (K7 (g dg) (f df) (df-dg) f g) (df-1):=fun i hi=>by
    unfold K7 D3
    by_cases e:i=df
    ·subst e
     rw[if_pos zo,show i-(i-dg)=dg by omega,Int.mul_comm]; omega
    ·rw[hf i zo,if_pos (show df-dg<=i by omega),hg (i-(df-dg)) zo]; omega
   rcases MH hdg with hz | ⟨e,e1,e2,e3⟩
   ·-- nothing is left: g divides
    obtain ⟨s,q1,q2,d,s1,s2,s3,s4⟩:=b2
    refine .inl ⟨s,g,q2,dg,d,s1,hpos,hn,hg,hg0,s3,fun k=>?_⟩
    rw[s4 k,GJ (f:=q1),show K7 (g dg) (f df) (df-dg) f g=M8 from funext hz,DJ,GJ]
    show 0+_=_; omega
   ·have hfin:KT p n\/EG p c (XI (2*X*X) m) (E+(df-dg)+4*m):=by
     by_cases hle:dg<=e
     ·exact SA m hX2 zo hle zo hn e2 e3 hg hg0 c2 cg2 b2
     ·exact SA m hX2 zo zo zo zo hg hg0 e2 e3 cg2 c2 b2.swap
    exact hfin.imp id fun h=>h.mono (Nat.le_refl _) zo
theorem WG {p c:r9} {n X:Nat} (hn:1<=n) (h4:n<=4) (hX:1<=X) (hp:v8 p n) (hp1:p n=1) (hc:v8 c (n-1)) (hc0:¬∀i,c i=0) (bp:∀k,(p k).natAbs<=X) (bc:∀k,(c k).natAbs<=X):KT p n\/EG p c (XI X 7) 28:=by
 obtain ⟨e,e1,e2,e3⟩:=(MH hc).resolve_left hc0
 have h1:∀k,(X3 k).natAbs<=X:=fun k=>by unfold X3; split<;>simp<;>omega
 have h2:∀k,(M8 k).natAbs<=X:=fun k=>by unfold M8; simp
 have o1:v8 X3 0:=fun i hi=>by unfold X3; rw[if_neg zo]
 have o2:v8 M8 0:=fun i _=>rfl
 have cp:Y3 p c X 0 p X3 M8:=⟨fun k=>by rw[LR,DJ]; show p k=p k+0; omega,o1,o2,bp,h1,h2⟩
 have cc:Y3 p c X 0 c M8 X3:=⟨fun k=>by rw[LR,DJ]; show c k=0+c k; omega,o2,o1,bc,h2,h1⟩
 have bk:L4 p p c:=⟨1,X3,M8,0,by omega,o1,o2,fun k=>by rw[LR,DJ]; show 1*p k=p k+0; omega⟩
 have:=SA 7 (n:=n) hX (show n+e<=7 by omega) zo h4 e1 hp (by rw[hp1]; omega) e2 e3 cp cc bk
 simpa using this
end Go.Fl

/- Divisors of small degrees; homogeneous values. Plain Lean, no program in sight. -/
namespace Go.Fl
def DL (p:r9) (n:Nat) (x:Int):Int:=r6 (fun i=>p i*x ^ i) (n+1)
def EK (p:r9) (n:Nat):Prop:=(∃x,DL p n x=0)\/(n=4/\∃a b c d:Int,p 3=a+c/\p 2=b+d+a*c/\p 1=a*d+b*c/\p 0=b*d)
theorem bA {p r t:r9} {n:Nat} (hn:1<=n) (hn4:n<=4) (hr:v8 r 1) (ht:v8 t (n-1)) (h:∀k,p k=o5 r t k) (he:r 1*r 1=1):∃x,DL p n x=0:=by
 refine ⟨-(r 0*r 1),?_⟩
 have e0:p 0=r 0*t 0:=by rw[h]; simp[o5,r6]
 have e1:p 1=r 0*t 1+r 1*t 0:=by rw[h]; simp[o5,r6]
 have h2:r 2=0:=hr 2 zo
 have h3:r 3=0:=hr 3 zo
 have h4:r 4=0:=hr 4 zo
 have e2:p 2=r 0*t 2+r 1*t 1:=by rw[h]; simp[o5,r6,h2]
 have e3:p 3=r 0*t 3+r 1*t 2:=by rw[h]; simp[o5,r6,h2,h3]
 have e4:p 4=r 0*t 4+r 1*t 3:=by rw[h]; simp[o5,r6,h2,h3,h4]
 rcases (show n=1\/n=2\/n=3\/n=4 by omega) with rfl | rfl | rfl | rfl
 ·have z1:t 1=0:=ht 1 zo
  simp only[DL,r6,e0,e1,z1]; grind
 ·have z2:t 2=0:=ht 2 zo
  simp only[DL,r6,e0,e1,e2,z2]; grind
 ·have z3:t 3=0:=ht 3 zo
  simp only[DL,r6,e0,e1,e2,e3,z3]; grind
 ·have z4:t 4=0:=ht 4 zo
  simp only[DL,r6,e0,e1,e2,e3,e4,z4]; grind
theorem VF {a b:Int} (h:a*b=1):a*a=1/\a=b:=by
 have h1:a.natAbs*b.natAbs=1:=by rw[<- Int.natAbs_mul,h]; rfl
 have h2:a.natAbs=1:=Nat.eq_one_of_mul_eq_one_right h1
 rcases (show a=1\/a=-1 by omega) with rfl | rfl
 ·exact ⟨rfl,by omega⟩
 ·exact ⟨rfl,by omega⟩
theorem tA {p r t:r9} (hr:v8 r 2) (ht:v8 t 2) (h:∀k,p k=o5 r t k) (he:r 2*t 2=1):∃a b c d:Int,p 3=a+c/\p 2=b+d+a*c/\p 1=a*d+b*c/\p 0=b*d:=by
 obtain ⟨u1,u2⟩:=VF he
 have h3:r 3=0:=hr 3 zo
 have g3:t 3=0:=ht 3 zo
 have e0:p 0=r 0*t 0:=by rw[h]; simp[o5,r6]
 have e1:p 1=r 0*t 1+r 1*t 0:=by rw[h]; simp[o5,r6]
 have e2:p 2=r 0*t 2+r 1*t 1+r 2*t 0:=by rw[h]; simp[o5,r6]
 have e3:p 3=r 1*t 2+r 2*t 1:=by rw[h]; simp[o5,r6,h3,g3]
 refine ⟨r 1*r 2,r 0*r 2,t 1*r 2,t 0*r 2,?_,?_,?_,?_⟩<;>grind
theorem RN {p:r9} {n:Nat} (h2:2<=n) (h4:n<=4) (hp:v8 p n) (hp1:p n=1) (h:KT p n):EK p n:=by
 obtain ⟨s,r,t,a,b,h1,a1,a2,hr,hra,ht,hst⟩:=h
 obtain ⟨r',t',d1,d0,d2,d3⟩:=oM _ rfl h1 hr hra ht hst
 obtain ⟨t2,f2,f3⟩:∃t2,v8 t2 b/\∀k,p k=o5 r' t2 k:=by
  rcases d3 with d3 | d3
  ·exact ⟨t',d2,d3⟩
  ·refine ⟨fun i=>-1*t' i,fun i hi=>by show -1*t' i=0; rw[d2 i hi]; rfl,fun k=>?_⟩
   rw[IX]
   show p k=-1*o5 r' t' k
   rw[<- d3 k]; omega
 obtain ⟨e,e1,e2,e3⟩:=(MH f2).resolve_left fun hz=>by
  have:p n=0:=by rw[f3 n,show t2=M8 from funext hz,GJ,DJ]; rfl
  omega
 have htop:p (a+e)=r' a*t2 e:=by rw[f3,jR d1 e2]
 have hne:p (a+e)≠0:=by rw[htop]; exact Int.mul_ne_zero d0 e3
 have hle:a+e<=n:=Nat.le_of_not_lt fun hh=>hne (hp _ hh)
 have heq:a+e=n:=Classical.byContradiction fun hh=>by
  have:p n=0:=by rw[f3]; exact WY d1 e2 n zo
  omega
 have hu:r' a*t2 e=1:=by rw[<- htop,heq,hp1]
 have hu':=VF hu
 have hv':=VF ((Int.mul_comm _ _).trans hu)
 by_cases c1:a=1
 ·subst c1
  exact .inl (bA zo h4 d1 (by rw[show n-1=e by omega]; exact e2) f3 hu'.1)
 ·by_cases c2:e=1
  ·subst c2
   exact .inl (bA zo h4 e2 (by rw[show n-1=a by omega]; exact d1) (fun k=>by rw[f3,GJ]) hv'.1)
  ·obtain rfl:a=2:=by omega
   obtain rfl:e=2:=by omega
   exact .inr ⟨by omega,tA d1 e2 f3 hu⟩
def hm (f:r9) (m:Nat) (a b:Int):Int:=r6 (fun i=>f i*a ^ i*b ^ (m-i)) (m+1)
theorem SK {f g:r9} {m:Nat} {a b:Int}:hm (fun i=>f i+g i) m a b=hm f m a b+hm g m a b:=by
 unfold hm; rw[<- PD]
 exact O2 fun i _=>by rw[Int.add_mul,Int.add_mul]
theorem aB {f:r9} {m:Nat} {a b c:Int}:hm (fun i=>c*f i) m a b=c*hm f m a b:=by
 unfold hm; rw[<- FO]
 exact O2 fun i _=>by rw[Int.mul_assoc,Int.mul_assoc,Int.mul_assoc]
theorem JG {f:r9} {m j:Nat} {a b:Int} (h:v8 f m):hm f (m+j) a b=b ^ j*hm f m a b:=by
 unfold hm
 rw[show m+j+1=m+1+j by omega,UV fun i h1 _=>by rw[h i zo,Int.zero_mul,Int.zero_mul],<- FO]
 refine O2 fun i hi=>?_
 rw[show m+j-i=j+(m-i) by omega,Int.pow_add]
 simp only[Int.mul_assoc,Int.mul_left_comm]
def V3 (f:r9):r9:=fun i=>f (i+1)
theorem MZ {f:r9} {m:Nat} {a b:Int}:hm f (m+1) a b=f 0*b ^ (m+1)+a*hm (V3 f) m a b:=by
 unfold hm
 rw[show m+1+1=1+(m+1) by omega]
 have key:∀(g:Nat->Int) (k:Nat),r6 g (1+k)=g 0+r6 (fun i=>g (1+i)) k:=fun g k=>by
  induction k with
  | zero=>show 0+g 0=g 0+0; omega
  | succ k ih=>rw[show 1+(k+1)=1+k+1 by omega,I6,ih,I6]; omega
 rw[key,<- FO]
 congr 1
 ·rw[Int.pow_zero,Int.mul_one,Nat.sub_zero]
 ·refine O2 fun i hi=>?_
  rw[show m+1-(1+i)=m-i by omega,show 1+i=i+1 by omega,Int.pow_succ]
  unfold V3
  simp only[Int.mul_assoc,Int.mul_left_comm,Int.mul_comm]
theorem WX {f g:r9}:o5 f g=fun k=>f 0*g k+D3 1 (o5 (V3 f) g) k:=by
 funext k
 unfold o5 D3
 have key:∀(h:Nat->Int) (k:Nat),r6 h (1+k)=h 0+r6 (fun i=>h (1+i)) k:=fun h k=>by
  induction k with
  | zero=>show 0+h 0=h 0+0; omega
  | succ k ih=>rw[show 1+(k+1)=1+k+1 by omega,I6,ih,I6]; omega
 rw[show k+1=1+k by omega,key,Nat.sub_zero]
 congr 1
 by_cases h:1<=k
 ·rw[if_pos h]
  show _=r6 (fun i=>V3 f i*g (k-1-i)) (k-1+1)
  rw[show k-1+1=k by omega]
  refine O2 fun i hi=>?_
  unfold V3
  rw[show 1+i=i+1 by omega,show k-(i+1)=k-1-i by omega]
 ·rw[if_neg h,show k=0 by omega]; rfl
theorem oZ {f:r9} {m:Nat} {a b:Int}:hm (D3 1 f) (m+1) a b=a*hm f m a b:=by
 rw[MZ]
 have e:V3 (D3 1 f)=f:=by funext i; unfold V3 D3; rw[if_pos zo,Nat.add_sub_cancel]
 rw[e]
 unfold D3
 rw[if_neg zo]; omega
theorem vJ {f:r9} {m:Nat} (h:v8 f (m+1)):v8 (V3 f) m:=fun i hi=>h (i+1) zo
theorem JF {g:r9} {l:Nat} {a b:Int} (hg:v8 g l):∀{m:Nat} {f:r9},v8 f m->hm (o5 f g) (m+l) a b=hm f m a b*hm g l a b
 | 0,f,hf=>by
  have e:o5 f g=fun k=>f 0*g k:=by
   rw[WX]
   funext k
   have:V3 f=M8:=funext fun i=>hf (i+1) zo
   rw[this,DJ]
   unfold D3 M8
   split<;>omega
  rw[e,Nat.zero_add,aB]
  congr 1
  unfold hm; simp[r6]
 | m+1,f,hf=>by
  rw[WX,show m+1+l=m+l+1 by omega]
  have e1:hm (fun k=>f 0*g k+D3 1 (o5 (V3 f) g) k) (m+l+1) a b=f 0*hm g (m+l+1) a b+a*hm (o5 (V3 f) g) (m+l) a b:=by
   rw[SK,aB,oZ]
  rw[e1,JF hg (vJ hf),show m+l+1=l+(m+1) by omega,JG hg,MZ]
  rw[Int.add_mul]
  simp only[Int.mul_assoc,Int.mul_left_comm,Int.mul_comm]
def lP (cs:List Int):r9:=fun i=>if i<cs.length then b6 cs i else 0
theorem HE {cs:List Int}:v8 (lP cs) (cs.length-1):=fun i hi=>by unfold lP; rw[if_neg zo]
theorem aX {c:Int} {cs:List Int}:V3 (lP (c::cs))=lP cs:=by
 funext i; unfold V3 lP
 by_cases h:i<cs.length
 ·rw[if_pos (by simpa using h),if_pos h]; rfl
 ·rw[if_neg (by simpa using h),if_neg h]
theorem NA {a b:Int}:∀{cs:List Int},(C5 a b cs).2=b ^ cs.length/\(C5 a b cs).1=hm (lP cs) (cs.length-1) a b
 | []=>⟨by simp[C5],by simp[C5,hm,r6,lP]⟩
 | [c]=>⟨by simp[C5,Int.pow_succ],by simp[C5,hm,r6,lP,b6]⟩
 | c::d::cs=>by
  obtain ⟨h1,h2⟩:=NA (a:=a) (b:=b) (cs:=d::cs)
  rw[C5]
  refine ⟨by simp only; rw[h1,List.length_cons (a:=c),Int.pow_succ],?_⟩
  simp only
  rw[h1,h2,List.length_cons (a:=c),Nat.add_sub_cancel,show (d::cs).length=(d::cs).length-1+1 by simp,MZ,aX,Nat.add_sub_cancel]
  have e0:lP (c::d::cs) 0=c:=by unfold lP; simp[b6]
  rw[e0,Int.mul_comm a]; omega
theorem bZ {p:r9} {n:Nat} (h2:2<=n) (h4:n<=4) (hp:v8 p n) (hp1:p n=1) (hred:¬EK p n) {a b:Int} (hb:0<b):hm p n a b≠0:=fun h0=>by
 have hc:v8 (fun i=>if i=0 then -a else if i=1 then b else 0) (n-1):=fun i hi=>by
  show (if i=0 then -a else if i=1 then b else 0)=0
  rw[if_neg zo,if_neg zo]
 obtain ⟨X,hX,hbp,hbc⟩:∃X:Nat,1<=X/\(∀k,(p k).natAbs<=X)/\∀k,((fun i=>if i=0 then -a else if i=1 then b else 0:r9) k).natAbs<=X:=by
  refine ⟨1+(p 0).natAbs+(p 1).natAbs+(p 2).natAbs+(p 3).natAbs+(p 4).natAbs+a.natAbs+b.natAbs,by omega,fun k=>?_,fun k=>?_⟩
  ·by_cases h:k<=4
   ·rcases (show k=0\/k=1\/k=2\/k=3\/k=4 by omega) with rfl | rfl | rfl | rfl | rfl<;>omega
   ·rw[hp k zo]; simp
  ·show (if k=0 then -a else if k=1 then b else 0:Int).natAbs<=_
   split
   ·omega
   ·split
    ·omega
    ·simp
 rcases WG zo h4 hX hp hp1 hc (fun hz=>by have:=hz 1; simp at this; omega) hbp hbc with h | ⟨D,u,v,d0,h1,hu,hv,_,_⟩
 ·exact hred (RN h2 h4 hp hp1 h)
 ·have e1:=JF (a:=a) (b:=b) hp hu
  have e2:=JF (a:=a) (b:=b) (l:=n) (fun i hi=>hc i zo) hv
  have e3:hm (fun i=>if i=0 then -a else if i=1 then b else 0) n a b=0:=by
   obtain ⟨q,rfl⟩:∃q,n=q+1:=⟨n-1,by omega⟩
   rw[show q+1=1+q by omega,JG (m:=1) (fun i hi=>by show (if i=0 then -a else if i=1 then b else 0)=0; rw[if_neg zo,if_neg zo])]
   have:hm (fun i=>if i=0 then -a else if i=1 then b else 0) 1 a b=0:=by
    simp[hm,r6,Int.pow_succ]; rw[Int.neg_mul,Int.mul_comm a]; omega
   rw[this,Int.mul_zero]
  rw[h0,Int.mul_zero] at e1
  rw[e3,Int.mul_zero] at e2
  have e4:hm (fun k=>o5 u p k+o5 v (fun i=>if i=0 then -a else if i=1 then b else 0) k) (28+n) a b=0:=by rw[SK,e1,e2]; rfl
  rw[show (fun k=>o5 u p k+o5 v (fun i=>if i=0 then -a else if i=1 then b else 0) k)=fun k=>if k=0 then D else 0 from funext h1] at e4
  have e5:hm (fun k=>if k=0 then D else 0) (28+n) a b=D*b ^ (28+n):=by
   have:=JG (f:=fun k=>if k=0 then D else 0) (m:=0) (j:=28+n) (a:=a) (b:=b) (fun i hi=>by show (if i=0 then D else 0)=0; rw[if_neg zo])
   rw[Nat.zero_add] at this
   rw[this,Int.mul_comm]
   congr 1
   simp[hm,r6]
  rw[e5] at e4
  have:=Int.pow_pos (n:=b) (m:=28+n) hb
  exact absurd e4 (Int.mul_ne_zero d0 zo)
end Go.Fl

/- Halving ends: a number other than a fraction is told from 0 after so many halvings. Plain Lean, no program in sight. -/
namespace Go.Fl
theorem MT {I:Iv} {a:Int} (h1:I.lo<=a) (h2:a<=I.hi):∀{cs:List Int},(enc I cs).1<=(if cs.length=0 then 0 else I.den*hm (lP cs) (cs.length-1) a I.den)/\(if cs.length=0 then 0 else I.den*hm (lP cs) (cs.length-1) a I.den)<=(enc I cs).2.1
 | []=>by simp[enc]
 | c::cs=>by
  obtain ⟨e1,e2⟩:=MT h1 h2 (cs:=cs)
  have e0:lP (c::cs) 0=c:=by unfold lP; simp[b6]
  have hv:I.den*hm (lP (c::cs)) cs.length a I.den=(if cs.length=0 then 0 else I.den*hm (lP cs) (cs.length-1) a I.den)*a+c*(I.den ^ cs.length*I.den):=by
   by_cases h:cs.length=0
   ·rw[if_pos h,h]
    simp[hm,r6,e0,Int.mul_comm]
   ·rw[if_neg h]
    have e:cs.length=cs.length-1+1:=by omega
    conv=>lhs; rw[e,MZ,aX,e0,<- e]
    rw[Int.mul_add,Int.add_comm]
    congr 1
    ·simp only[Int.mul_left_comm,Int.mul_comm]
    ·simp only[Int.mul_left_comm,Int.mul_comm]
  rw[if_neg (by simp),List.length_cons,Nat.add_sub_cancel,hv,enc]
  simp only
  rw[RY]
  have:=aC e1 e2 h1 h2
  omega
theorem T3 {x y:Int} {m n:Nat} (h1:x.natAbs<=m) (h2:y.natAbs<=n):(x*y).natAbs<=m*n:=by rw[Int.natAbs_mul]; exact Nat.mul_le_mul h1 h2
set_option maxHeartbeats 2000000 in
theorem RW {I:Iv} {A F W:Nat} (hlo:I.lo.natAbs<=A) (hhi:I.hi.natAbs<=A) (hden:I.den.natAbs<=A) (hw:(I.hi-I.lo).natAbs<=W):∀{cs:List Int},(∀c∈cs,c.natAbs<=F)->(enc I cs).1.natAbs<=cs.length*F*A ^ cs.length/\(enc I cs).2.1.natAbs<=cs.length*F*A ^ cs.length/\((enc I cs).2.1-(enc I cs).1).natAbs*A<=cs.length*cs.length*F*W*A ^ cs.length
 | [],_=>by simp[enc]
 | c::cs,h=>by
  obtain ⟨b1,b2,b3⟩:=RW hlo hhi hden hw (cs:=cs) fun x hx=>h x (List.mem_cons_of_mem _ hx)
  have hc:=h c List.mem_cons_self
  have hd:(c*((enc I cs).2.2*I.den)).natAbs<=F*A ^ (cs.length+1):=by
   rw[RY]
   refine T3 hc ?_
   rw[Nat.pow_succ]
   refine T3 ?_ hden
   rw[Int.natAbs_pow]
   exact Nat.pow_le_pow_left hden _
  rw[enc]
  simp only[List.length_cons]
  generalize hX:(enc I cs).1=X at *
  generalize hY:(enc I cs).2.1=Y at *
  generalize c*((enc I cs).2.2*I.den)=D at *
  generalize hL:cs.length=L at *
  have hpw:A ^ (L+1)=A ^ L*A:=Nat.pow_succ ..
  generalize hM:L*F*A ^ L=M at *
  have hMA:(L+1)*F*A ^ (L+1)=M*A+F*A ^ (L+1):=by
   rw[<- hM,hpw]; simp only[Nat.add_mul,Nat.one_mul,Nat.mul_assoc]
  have corner:∀x y,(x=X\/x=Y)->(y=I.lo\/y=I.hi)->(x*y).natAbs<=M*A:=fun x y hx hy=>by
   refine T3 ?_ ?_
   ·rcases hx with rfl | rfl<;>assumption
   ·rcases hy with rfl | rfl<;>assumption
  have diff:∀x y x' y',(x=X\/x=Y)->(y=I.lo\/y=I.hi)->(x'=X\/x'=Y)->(y'=I.lo\/y'=I.hi)->(x*y-x'*y').natAbs<=M*W+(Y-X).natAbs*A:=fun x y x' y' hx hy hx' hy'=>by
   have e:x*y-x'*y'=x*(y-y')+(x-x')*y':=by rw[Int.mul_sub,Int.sub_mul]; omega
   have h1:(x*(y-y')).natAbs<=M*W:=by
    refine T3 ?_ ?_
    ·rcases hx with rfl | rfl<;>assumption
    ·rcases hy with rfl | rfl<;>rcases hy' with rfl | rfl<;>omega
   have h2:((x-x')*y').natAbs<=(Y-X).natAbs*A:=by
    refine T3 ?_ ?_
    ·rcases hx with rfl | rfl<;>rcases hx' with rfl | rfl<;>omega
    ·rcases hy' with rfl | rfl<;>assumption
   rw[e]; omega
  obtain ⟨x,y,hx,hy,e1⟩:=bJ (A:=X) (B:=Y) (L:=I.lo) (H:=I.hi)
  obtain ⟨x',y',hx',hy',e2⟩:=bI (A:=X) (B:=Y) (L:=I.lo) (H:=I.hi)
  have k1:=corner x y hx hy
  have k2:=corner x' y' hx' hy'
  have k3:=diff x' y' x y hx' hy' hx hy
  rw[e1,e2,hMA]
  refine ⟨by omega,by omega,?_⟩
  rw[show x'*y'+D-(x*y+D)=x'*y'-x*y by omega]
  refine Nat.le_trans (Nat.mul_le_mul_right A k3) ?_
  rw[Nat.add_mul]
  have k4:(Y-X).natAbs*A*A<=L*L*F*W*A ^ L*A:=Nat.mul_le_mul_right _ b3
  have e5:M*W*A=L*F*W*A ^ (L+1):=by
   rw[<- hM,hpw]; simp only[Nat.mul_assoc,Nat.mul_left_comm,Nat.mul_comm]
  have e6:L*L*F*W*A ^ L*A=L*L*F*W*A ^ (L+1):=by rw[hpw]; simp only[Nat.mul_assoc]
  have e7:(L+1)*(L+1)*F*W*A ^ (L+1)=L*L*F*W*A ^ (L+1)+L*F*W*A ^ (L+1)+(L+1)*F*W*A ^ (L+1):=by
   have:(L+1)*(L+1)=L*L+L+(L+1):=by simp only[Nat.add_mul,Nat.mul_add,Nat.one_mul,Nat.mul_one]
   rw[this]; simp only[Nat.add_mul]
  rw[e5]; rw[e6] at k4
  omega
theorem aA {f:r9} {m A F:Nat} {a b:Int} (ha:a.natAbs<=A) (hb:b.natAbs<=A) (hf:∀i,(f i).natAbs<=F):(hm f m a b).natAbs<=(m+1)*(F*A ^ m):=by
 unfold hm
 have key:∀k,k<=m+1->(r6 (fun i=>f i*a ^ i*b ^ (m-i)) k).natAbs<=k*(F*A ^ m):=by
  intro k
  induction k with
  | zero=>intro _; simp[r6]
  | succ k ih =>
   intro hk
   have h1:=ih zo
   have h2:(f k*a ^ k*b ^ (m-k)).natAbs<=F*A ^ m:=by
    have e:A ^ m=A ^ k*A ^ (m-k):=by rw[<- Nat.pow_add]; congr 1; omega
    rw[e,<- Nat.mul_assoc]
    refine T3 (T3 (hf k) ?_) ?_
    ·rw[Int.natAbs_pow]; exact Nat.pow_le_pow_left ha _
    ·rw[Int.natAbs_pow]; exact Nat.pow_le_pow_left hb _
   rw[I6,Nat.add_mul,Nat.one_mul]
   omega
 exact key _ (Nat.le_refl _)
end Go.Fl

/- Halving ends: so often, and a number other than 0 is told from 0. Plain Lean, no program in sight. -/
namespace Go.Fl
theorem SR {p:List Int} {I:Iv}:∀{k:Nat},(i4 p I k).den=I.den*2 ^ k
 | 0=>by simp[i4]
 | k+1=>by
  have ih:=SR (p:=p) (I:=I) (k:=k)
  have:(M6 p (i4 p I k)).den=(i4 p I k).den+(i4 p I k).den:=by unfold M6; split<;>rfl
  rw[i4,this,ih,Int.pow_succ,<- Int.mul_assoc]; omega
theorem aP {p:List Int} {I:Iv}:∀{k:Nat},(i4 p I k).hi-(i4 p I k).lo=I.hi-I.lo
 | 0=>rfl
 | k+1=>by
  have ih:=aP (p:=p) (I:=I) (k:=k)
  rw[i4]
  unfold M6
  split<;>simp only<;>omega
theorem SQ {p:List Int} {I:Iv} (hI:I.Ok) {R:Int} (h1:-(R*I.den)<=I.lo) (h2:I.hi<=R*I.den):∀{k:Nat},-(R*(i4 p I k).den)<=(i4 p I k).lo/\(i4 p I k).hi<=R*(i4 p I k).den
 | 0=>⟨h1,h2⟩
 | k+1=>by
  have ih:=SQ hI h1 h2 (p:=p) (k:=k)
  have hle:=(Z4 hI (p:=p) (k:=k)).le
  rw[i4]
  unfold M6
  split<;>simp only<;>rw[Int.mul_add]<;>omega
def z6 (p:List Int) (a b:Int):Int:=hm (lP p) (p.length-1) a b
theorem BM (z:Int):(z<0/\u9 z=-1)\/(z=0/\u9 z=0)\/(0<z/\u9 z=1):=by
 unfold u9 s7
 rcases Int.lt_trichotomy z 0 with h | h | h
 ·exact .inl ⟨h,by simp[h]⟩
 ·exact .inr (.inl ⟨h,by simp[h]⟩)
 ·exact .inr (.inr ⟨h,by rw[if_neg zo,if_pos h]⟩)
theorem aO {p:List Int} {I:Iv} (hI:I.Ok) (hnr:∀a b:Int,0<b->z6 p a b≠0) (h:u9 (z6 p I.lo I.den)*u9 (z6 p I.hi I.den)<0):∀{k:Nat},u9 (z6 p (i4 p I k).lo (i4 p I k).den)*u9 (z6 p (i4 p I k).hi (i4 p I k).den)<0
 | 0=>h
 | k+1=>by
  have ih:=aO hI hnr h (k:=k)
  have hpos:=(Z4 hI (p:=p) (k:=k)).pos
  have dbl:∀a b:Int,0<b->u9 (z6 p (a+a) (b+b))=u9 (z6 p a b):=fun a b hb=>by
   have e:z6 p (a+a) (b+b)=2 ^ (p.length-1)*z6 p a b:=by
    unfold z6 hm
    rw[<- FO]
    refine O2 fun i hi=>?_
    rw[<- Int.two_mul,<- Int.two_mul,Int.mul_pow,Int.mul_pow]
    have:(2:Int) ^ (p.length-1)=2 ^ i*2 ^ (p.length-1-i):=by rw[<- Int.pow_add]; congr 1; omega
    rw[this]
    simp only[Int.mul_assoc,Int.mul_left_comm,Int.mul_comm]
   have h2:(0:Int)<2 ^ (p.length-1):=Int.pow_pos zo
   rw[e]
   generalize (2:Int) ^ (p.length-1)=q at *
   rcases BM (z6 p a b) with ⟨h1,h3⟩ | ⟨h1,h3⟩ | ⟨h1,h3⟩
   ·have:=Int.mul_neg_of_pos_of_neg h2 h1
    rcases BM (q*z6 p a b) with ⟨h4,h5⟩ | ⟨h4,h5⟩ | ⟨h4,h5⟩<;>omega
   ·rw[h1,Int.mul_zero]
   ·have:=Int.mul_pos h2 h1
    rcases BM (q*z6 p a b) with ⟨h4,h5⟩ | ⟨h4,h5⟩ | ⟨h4,h5⟩<;>omega
  have hv:∀a b,(C5 a b p).1=z6 p a b:=fun a b=>NA.2
  have hm0:=hnr ((i4 p I k).lo+(i4 p I k).hi) ((i4 p I k).den+(i4 p I k).den) zo
  rw[i4]
  unfold M6
  rw[hv,hv]
  split
  ·rename_i hc
   simp only
   rw[dbl _ _ hpos]; exact hc
  ·rename_i hc
   simp only
   rw[dbl _ _ hpos]
   have a1:=BM (z6 p (i4 p I k).lo (i4 p I k).den)
   have a2:=BM (z6 p (i4 p I k).hi (i4 p I k).den)
   have a3:=BM (z6 p ((i4 p I k).lo+(i4 p I k).hi) ((i4 p I k).den+(i4 p I k).den))
   rcases a1 with ⟨_,q1⟩ | ⟨_,q1⟩ | ⟨_,q1⟩<;>rcases a2 with ⟨_,q2⟩ | ⟨_,q2⟩ | ⟨_,q2⟩<;>rcases a3 with ⟨_,q3⟩ | ⟨q4,q3⟩ | ⟨_,q3⟩<;>rw[q1,q3] at hc<;>rw[q1,q2] at ih<;>rw[q2,q3]<;>omega
def EW (n F R W:Nat):Nat:=2*(29*XI F 7*((n+1)*(n+1)*F)*W*R ^ (28+n))+1
theorem vL {n R B F W X7:Nat} {den D U V P C e1 e2:Int} {wp:Nat} (hn:2<=n) (hR:1<=R) (hB:den=B) (hden:((2*(29*X7*((n+1)*(n+1)*F)*W*R ^ (28+n))+1:Nat):Int)<=den) (hT:0<R*B)
  (e4:U*P+den*(V*C)=D*den ^ (28+n)) (d0:D≠0) (hub:U.natAbs<=(28+1)*(X7*(R*B) ^ 28)) (hvb:V.natAbs<=(28+1)*(X7*(R*B) ^ 28))
  (hwp:wp<=(n+1)*(n+1)*F*W*(R*B) ^ n) (hwc:(e2-e1).natAbs<=n*n*F*W*(R*B) ^ (n-1)) (hsm:(den*P).natAbs<=wp) (cl1:e1<=den*C) (cl2:den*C<=e2):0<e1\/e2<0:=by
 subst hB
 have hB0:0<B:=Nat.pos_of_ne_zero fun e=>by subst e; simp at hT
 have hK:2*(29*X7*((n+1)*(n+1)*F)*W*R ^ (28+n))+1<=B:=by omega
 have hpw:∀k,(R*B) ^ k=R ^ k*B ^ k:=fun k=>Nat.mul_pow ..
 have h1:(U*(B*P)).natAbs<=29*X7*((n+1)*(n+1)*F)*W*R ^ (28+n)*B ^ (28+n):=by
  rw[Int.natAbs_mul]
  refine Nat.le_trans (Nat.mul_le_mul hub (Nat.le_trans hsm hwp)) (Nat.le_of_eq ?_)
  rw[hpw,hpw,Nat.pow_add,Nat.pow_add]
  simp only[Nat.mul_assoc,Nat.mul_left_comm,Nat.mul_comm,Nat.reduceAdd]
 have h2:2*(U*(B*P)).natAbs<B ^ (28+n)*B:=by
  have hp:=Nat.pow_pos (n:=28+n) hB0
  have:(2*(29*X7*((n+1)*(n+1)*F)*W*R ^ (28+n))+1)*B ^ (28+n)<=B*B ^ (28+n):=Nat.mul_le_mul_right _ hK
  rw[Nat.add_mul,Nat.one_mul,Nat.mul_assoc,Nat.mul_comm B] at this
  omega
 have h3:U*(B*P)+V*(B*C)*B=D*(B ^ (28+n)*B):=by
  have e:(U*P+B*(V*C))*B=D*B ^ (28+n)*B:=by rw[e4]
  rw[Int.add_mul] at e
  have q1:U*P*B=U*(B*P):=by rw[Int.mul_assoc,Int.mul_comm P]
  have q2:(B:Int)*(V*C)=V*(B*C):=by rw[Int.mul_left_comm]
  rw[q1,q2,Int.mul_assoc D] at e
  exact e
 have h4:B ^ (28+n)*B<=(U*(B*P)).natAbs+(V*(B*C)).natAbs*B:=by
  have e:(D*((B:Int) ^ (28+n)*B)).natAbs=D.natAbs*(B ^ (28+n)*B):=by
   rw[Int.natAbs_mul,Int.natAbs_mul,Int.natAbs_pow,Int.natAbs_natCast]
  have h5:1*(B ^ (28+n)*B)<=D.natAbs*(B ^ (28+n)*B):=Nat.mul_le_mul_right _ zo
  have h6:(U*(B*P)+V*(B*C)*B).natAbs<=(U*(B*P)).natAbs+(V*(B*C)*B).natAbs:=Int.natAbs_add_le _ _
  rw[h3,e,Int.natAbs_mul (V*(B*C)),Int.natAbs_natCast] at h6
  omega
 have h7:B ^ (28+n)<2*(V*(B*C)).natAbs:=by
  refine Nat.lt_of_mul_lt_mul_right (a:=B) ?_
  rw[Nat.mul_assoc]
  omega
 have h8:B ^ n<2*(29*X7*R ^ 28)*(B*C).natAbs:=by
  rw[Int.natAbs_mul] at h7
  have h9:V.natAbs*(B*C).natAbs<=(28+1)*(X7*(R*B) ^ 28)*(B*C).natAbs:=Nat.mul_le_mul_right _ hvb
  refine Nat.lt_of_mul_lt_mul_left (a:=B ^ 28) ?_
  rw[<- Nat.pow_add]
  refine Nat.lt_of_lt_of_le h7 (Nat.le_trans (Nat.mul_le_mul_left 2 h9) (Nat.le_of_eq ?_))
  rw[hpw]
  simp only[Nat.mul_assoc,Nat.mul_left_comm,Nat.mul_comm,Nat.reduceAdd]
 have h9:(e2-e1).natAbs<(B*C).natAbs:=by
  refine Nat.lt_of_not_le fun hle=>?_
  have h10:(B*C).natAbs<=n*n*F*W*(R*B) ^ (n-1):=Nat.le_trans hle hwc
  have h11:B ^ n<2*(29*X7*R ^ 28)*(n*n*F*W*(R*B) ^ (n-1)):=Nat.lt_of_lt_of_le h8 (Nat.mul_le_mul_left _ h10)
  have e:B ^ n=B ^ (n-1)*B:=by rw[<- Nat.pow_succ]; congr 1; omega
  have e5:2*(29*X7*R ^ 28)*(n*n*F*W*(R*B) ^ (n-1))=B ^ (n-1)*(2*(29*X7*(n*n*F)*W*(R ^ 28*R ^ (n-1)))):=by
   rw[hpw]; simp only[Nat.mul_assoc,Nat.mul_left_comm,Nat.mul_comm]
  rw[e,e5] at h11
  have h12:=Nat.lt_of_mul_lt_mul_left h11
  have h13:29*X7*(n*n*F)*W*(R ^ 28*R ^ (n-1))<=29*X7*((n+1)*(n+1)*F)*W*R ^ (28+n):=by
   rw[<- Nat.pow_add]
   refine Nat.mul_le_mul (Nat.mul_le_mul_right _ (Nat.mul_le_mul_left _ (Nat.mul_le_mul_right _ (Nat.mul_le_mul zo zo)))) (Nat.pow_le_pow_right hR zo)
  omega
 omega
theorem told {p cs:List Int} {I:Iv} {n F R W:Nat} (hn:2<=n) (h4:n<=4) (hpl:p.length=n+1) (hp1:b6 p n=1) (hred:¬EK (lP p) n) (hcl:cs.length=n) (hc0:∃c∈cs,c≠0)
  (hF:1<=F) (hpF:∀c∈p,c.natAbs<=F) (hcF:∀c∈cs,c.natAbs<=F) (hR:1<=R) (hI:I.Ok) (hlo:-((R:Int)*I.den)<=I.lo) (hhi:I.hi<=R*I.den) (hW:(I.hi-I.lo).natAbs<=W) (hsg:u9 (z6 p I.lo I.den)*u9 (z6 p I.hi I.den)<0)
  (hden:(EW n F R W:Int)<=I.den):0<(enc I cs).1\/(enc I cs).2.1<0:=by
 have hb:=hI.pos
 have hle:=hI.le
 obtain ⟨B,hB⟩:∃B:Nat,I.den=B:=⟨I.den.toNat,by omega⟩
 have hPd:v8 (lP p) n:=by have:=HE (cs:=p); rwa [hpl,Nat.add_sub_cancel] at this
 have hCd:v8 (lP cs) (n-1):=by have:=HE (cs:=cs); rwa [hcl] at this
 have hPF:∀k,(lP p k).natAbs<=F:=fun k=>by
  unfold lP; split
  ·exact hpF _ (G5 zo)
  ·simp
 have hCF:∀k,(lP cs k).natAbs<=F:=fun k=>by
  unfold lP; split
  ·exact hcF _ (G5 zo)
  ·simp
 have hP1:lP p n=1:=by unfold lP; rw[if_pos zo,hp1]
 have hC0:¬∀i,lP cs i=0:=fun hz=>by
  obtain ⟨c,hc,hne⟩:=hc0
  obtain ⟨i,hi,rfl⟩:=Z8 hc
  have:=hz i
  unfold lP at this
  rw[if_pos hi] at this
  exact hne this
 rcases WG zo h4 hF hPd hP1 hCd hC0 hPF hCF with h | ⟨D,u,v,d0,hbz,hu,hv,bu,bv⟩
 ·exact absurd (RN hn h4 hPd hP1 h) hred
 have hA1:I.lo.natAbs<=R*B:=by rw[hB] at hlo hhi; have:((R*B:Nat):Int)=R*B:=Int.natCast_mul .. ; omega
 have hA2:I.hi.natAbs<=R*B:=by rw[hB] at hlo hhi; have:((R*B:Nat):Int)=R*B:=Int.natCast_mul .. ; omega
 have hA3:I.den.natAbs<=R*B:=by
  have:1*B<=R*B:=Nat.mul_le_mul_right _ hR
  rw[hB,Int.natAbs_natCast]; omega
 obtain ⟨p1,p2,p3⟩:=RW hA1 hA2 hA3 hW (cs:=p) hpF
 obtain ⟨c1,c2,c3⟩:=RW hA1 hA2 hA3 hW (cs:=cs) hcF
 have pl:=MT (I:=I) (a:=I.lo) (Int.le_refl _) hle (cs:=p)
 have ph:=MT (I:=I) (a:=I.hi) hle (Int.le_refl _) (cs:=p)
 have cl:=MT (I:=I) (a:=I.lo) (Int.le_refl _) hle (cs:=cs)
 rw[if_neg zo] at pl ph cl
 rw[hpl] at pl ph p3
 rw[hcl] at cl c3
 rw[Nat.add_sub_cancel] at pl ph
 have hpe:p.length-1=n:=by omega
 unfold z6 at hsg
 rw[hpe] at hsg
 have hsm:(I.den*hm (lP p) n I.lo I.den).natAbs<=((enc I p).2.1-(enc I p).1).natAbs:=by
  have s1:=BM (hm (lP p) n I.lo I.den)
  have s2:=BM (hm (lP p) n I.hi I.den)
  rcases s1 with ⟨q1,r1⟩ | ⟨q1,r1⟩ | ⟨q1,r1⟩<;>rcases s2 with ⟨q2,r2⟩ | ⟨q2,r2⟩ | ⟨q2,r2⟩<;>rw[r1,r2] at hsg<;>try omega
  ·have:=Int.mul_neg_of_pos_of_neg hb q1
   have:=Int.mul_pos hb q2
   omega
  ·have:=Int.mul_pos hb q1
   have:=Int.mul_neg_of_pos_of_neg hb q2
   omega
 have hT:0<R*B:=Nat.mul_pos zo zo
 have hwp:((enc I p).2.1-(enc I p).1).natAbs<=(n+1)*(n+1)*F*W*(R*B) ^ n:=by
  have e:(n+1)*(n+1)*F*W*(R*B) ^ (n+1)=(n+1)*(n+1)*F*W*(R*B) ^ n*(R*B):=by rw[Nat.pow_succ,<- Nat.mul_assoc ((n+1)*(n+1)*F*W)]
  rw[e] at p3
  exact Nat.le_of_mul_le_mul_right p3 hT
 have hwc:((enc I cs).2.1-(enc I cs).1).natAbs<=n*n*F*W*(R*B) ^ (n-1):=by
  have e:(R*B) ^ n=(R*B) ^ (n-1)*(R*B):=by rw[<- Nat.pow_succ]; congr 1; omega
  rw[e,<- Nat.mul_assoc (n*n*F*W)] at c3
  exact Nat.le_of_mul_le_mul_right c3 hT
 have hub:=aA (m:=28) hA1 hA3 bu
 have hvb:=aA (m:=28) hA1 hA3 bv
 have e1:=JF (a:=I.lo) (b:=I.den) hPd hu
 have e2:=JF (a:=I.lo) (b:=I.den) hCd hv
 have e3:=JG (j:=1) (a:=I.lo) (b:=I.den) (WY hv hCd)
 have e4:hm (fun k=>o5 u (lP p) k+o5 v (lP cs) k) (28+n) I.lo I.den=D*I.den ^ (28+n):=by
  rw[show (fun k=>o5 u (lP p) k+o5 v (lP cs) k)=fun k=>if k=0 then D else 0 from funext hbz]
  have:=JG (f:=fun k=>if k=0 then D else 0) (m:=0) (j:=28+n) (a:=I.lo) (b:=I.den) (fun i hi=>by show (if i=0 then D else 0)=0; rw[if_neg zo])
  rw[Nat.zero_add] at this
  rw[this,Int.mul_comm]
  congr 1
  simp[hm,r6]
 rw[SK,e1,show 28+n=28+(n-1)+1 by omega,e3,e2,show 28+(n-1)+1=28+n by omega,Int.pow_one] at e4
 exact vL (n:=n) (F:=F) (W:=W) (X7:=XI F 7) hn hR hB hden hT e4 d0 hub hvb hwp hwc hsm cl.1 cl.2
end Go.Fl

/- Values of polynomials at fractions, from the last coefficient on: sizes. No program in sight. -/
namespace Go.Fl
open Go
def C0 (a d:Int) (p:List Int) (k:Nat):Int×Int:=C5 a d (p.drop (p.length-k))
theorem RS {p:List Int} {k:Nat} (hk:k<p.length):p.drop (p.length-(k+1))=b6 p (p.length-1-k)::p.drop (p.length-k):=by
 have h:=List.drop_eq_getElem_cons (l:=p) (i:=p.length-(k+1)) zo
 rw[h,show p.length-(k+1)+1=p.length-k by omega]
 refine congrArg (·::_) ?_
 rw[Z9 (List.getElem?_eq_getElem (show p.length-1-k<p.length by omega))]
 congr 1
 omega
theorem SL {a d:Int} {p:List Int} {k:Nat} (hk:k<p.length):C0 a d p (k+1)=((C0 a d p k).1*a+b6 p (p.length-1-k)*(C0 a d p k).2,(C0 a d p k).2*d):=by
 unfold C0
 rw[RS hk]
 rfl
theorem SM {a d:Int} {p:List Int}:C0 a d p 0=(0,1):=by
 unfold C0
 rw[Nat.sub_zero,List.drop_length]
 rfl
theorem pA {a d:Int} {p:List Int}:C0 a d p p.length=C5 a d p:=by
 unfold C0
 rw[Nat.sub_self,List.drop_zero]
theorem aD {a d:Int} {p:List Int} {B C:Nat} (hp:∀i,dl (b6 p i)<=C) (ha:dl a<=B) (hd:dl d<=B):∀{k:Nat},k<=p.length->dl (C0 a d p k).1<=k*(B+1)+C+1/\dl (C0 a d p k).2<=k*B+1
 | 0,_=>by
  rw[SM]
  have h0:dl (0:Int)=0:=E2.2 rfl
  have h1:=I4 (F:=1) zo zo
  exact ⟨by show dl 0<=_; omega,by show dl 1<=_; omega⟩
 | k+1,hk=>by
  obtain ⟨h1,h2⟩:=aD (p:=p) hp ha hd (k:=k) zo
  rw[SL zo]
  have q1:=u7 (C0 a d p k).1 a
  have q2:=u7 (b6 p (p.length-1-k)) (C0 a d p k).2
  have q3:=S7 ((C0 a d p k).1*a) (b6 p (p.length-1-k)*(C0 a d p k).2)
  have q4:=u7 (C0 a d p k).2 d
  have q5:=hp (p.length-1-k)
  have e1:(k+1)*(B+1)=k*(B+1)+B+1:=by rw[Nat.succ_mul]; omega
  have e2:(k+1)*B=k*B+B:=Nat.succ_mul _ _
  have e3:k*(B+1)=k*B+k:=by rw[Nat.mul_add,Nat.mul_one]
  exact ⟨by show dl ((C0 a d p k).1*a+_)<=_; omega,by show dl ((C0 a d p k).2*d)<=_; omega⟩
end Go.Fl

/- Contracts: signs of polynomials, enclosures, halving. -/
namespace Go.Fl
open Go Go.Proofs
open b8 renaming op->tO
open i7 renaming op->rO
set_option maxRecDepth 100000

section
open Go Go.RowKit Go.Proofs
attribute [local go_sem] Oper.semAt_some
set_option maxHeartbeats 2000000 in
theorem iM:KR Tryz.prog 225 eZ:=by
 intro J W xs ptr him hp
 obtain ⟨bx,ox,ds,rfl,hrd,hcell⟩:=hp
 obtain ⟨ad,cap,rfl,⟨hlen,hcap⟩,hrow⟩:=hrd
 obtain ⟨cv,hcv⟩:∃cv:Nat->List Value,∀i,i<xs.length->eZ.rd J (cv i) (b6 xs i)/\∃b o,ad=some ⟨b,o,none⟩/\∀j v,(cv i)[j]?=some v->J b (o+i*2+j)=some v:=by
  have:∀i,∃l:List Value,i<xs.length->eZ.rd J l (b6 xs i)/\∃b o,ad=some ⟨b,o,none⟩/\∀j v,l[j]?=some v->J b (o+i*2+j)=some v:=fun i=>by
   by_cases hi:i<xs.length
   ·obtain ⟨b,o,rfl,hrw⟩:=hrow.resolve_left (fun e=>by subst e; simp at hi)
    obtain ⟨l,q1,q2⟩:=hrw i _ (E5 hi)
    exact ⟨l,fun _=>⟨q1,b,o,rfl,q2⟩⟩
   ·exact ⟨[],fun h=>absurd h hi⟩
  exact ⟨fun i=>(this i).choose,fun i hi=>(this i).choose_spec hi⟩
 refine ⟨fun i=>.agg (cv i).toArray,fun i hi=>⟨cv i,(hcv i hi).1,rfl⟩,?_⟩
 intro l Iv Ix hY h0
 have hbox:∀W',Im J W'->W'.cell? ⟨bx,ox,none⟩=some (.slice ad xs.length cap):=fun W' h=>h _ _ _ (by have:=hcell 0 _ rfl; simpa using this)
 simp only[q7] at hlen
 have hb0:=hbox W him
 refine (callsIn_wide (n:=3)).1 ?_; refine callsIn_of_wp Tryz.func225 rfl trivial ?_
 simp only[Tryz.ntmps225,List.size_toArray,List.length_cons,List.length_nil,Nat.reduceAdd,Nat.reduceSub,Array.replicate_succ,Array.replicate_zero,List.push_toArray,List.append_toArray,List.nil_append,List.cons_append]
 gi_wp2
 gi_loopw [3] (fun i wr=>∃k:Nat,k<=xs.length/\i=.int .i64 ((xs.length:Int)-1-k)/\Iv k wr/\Im J wr)
  (fun i _=>(intOf i+1).toNat)
 case atStart=>exact ⟨0,Nat.zero_le _,by simp,h0,him⟩
 case round =>
  obtain ⟨k,hk,rfl,hJs,himr⟩:=hrel
  have hbr:=hbox wr himr
  by_cases hlt:k<xs.length
  ·obtain ⟨fn,tmps,assign,body,hy,hR⟩:=hY k wr hlt himr hJs
   rw[show ((xs.length-1-k:Nat):Int)=(xs.length:Int)-1-k by omega] at hy
   obtain ⟨q1,b,o,rfl,q2⟩:=hcv (xs.length-1-k) zo
   obtain ⟨c1,c2,hc12⟩:∃c1 c2,cv (xs.length-1-k)=[c1,c2]:=by
    have hl2:(cv (xs.length-1-k)).length=2:=eZ.len q1
    match hcc:cv (xs.length-1-k),hl2 with
    | [c1,c2],_=>exact ⟨c1,c2,rfl⟩
   rw[hc12] at q2
   simp only[hc12] at hy
   have hx1:wr.cell? ⟨b,o+(xs.length-1-k)*2,none⟩=some c1:=himr _ _ _ (by have:=q2 0 c1 rfl; simpa using this)
   have hx2:wr.cell? ⟨b,o+(xs.length-1-k)*2+1,none⟩=some c2:=himr _ _ _ (q2 1 c2 rfl)
   gi_wp2
   refine hR.mono ?_
   rintro e W3 (⟨rfl,hJ3,hk3⟩ | ⟨rfl,hJx3⟩)
   ·gi_wp2
    go_roundw
    case rel=>exact ⟨k+1,by omega,by congr 1; omega,hJ3,hk3⟩
    case measure=>simp[intOf]; omega
   ·gi_wp2
    refine bodyPost_ret (results_none rfl _ _ _) rfl ?_; exact ⟨⟨_,rfl⟩,.inr ⟨k,hlt,hJx3⟩⟩
  ·obtain rfl:k=xs.length:=by omega
   gi_wp2
   go_end0
   exact ⟨⟨_,rfl⟩,.inl hJs⟩
end
theorem QO {z:Int} (h:0=z):∀g b o,j1 [j4 (.bool false),j4 (.slice none 0 0)] g b o->j1 [kB (decide (z<0)),b7 (eL eI) (d7 z.natAbs)] g b o:=fun g b o h'=>by
 subst h
 obtain ⟨cs,ty,h1,h2⟩:=h'
 refine ⟨cs,ty,h1,?_⟩
 match hcs:cs.toList,h2 with
 | [c1,c2],⟨k1,k2,_⟩=>exact ⟨k1,⟨_,T7 (c:=0),k2⟩,trivial⟩
theorem kD (xs:List Int):Ct Tryz.prog 215 [b7 (eL eZ) xs] (X1 225 [r5 (eL eZ) xs]):=by
 refine Ct.mk Tryz.func215 rfl Tryz.ntmps215 rfl (fun w J=>?_); refine g8 ?_; refine jb 1 rfl ?_; refine i1 ?_; refine Tr.frzB 1 [1] (eL eZ) ⟨rfl,trivial⟩ rfl ?_; refine jn ?_; refine i6 ?_; refine tO (DS (.cons rfl uu<|.nil)) rfl rfl ?_; refine i1 ?_; exact f0.res1 (fn:=Tryz.f215) rfl (zk)

theorem RJ (p:List Int) (a d:Int) (B C:Nat) (hl:p.length<=6) (hpp:∀i,dl (b6 p i)<=C) (ha:dl a<=B) (hd:dl d<=B) (hB:B<=100000) (hC:C<=100000):Ct Tryz.prog 193 [b7 (eL eZ) p,b7 eW (wh a),b7 eW (wh d)] (kI (u9 (C5 a d p).1)):=by
 refine CtM.mk Tryz.func193 rfl Tryz.ntmps193 rfl (fun w J=>?_); refine g8 ?_; refine jb 4 rfl ?_; refine jb 5 rfl ?_; refine n7 ?_; refine tO (w5 (fun hp=>.nil)) rfl rfl ?_; refine jc (M4 1 zo) ?_; refine ja 7 ?_; refine ja 8 ?_; refine j3 ?_; refine tO (i9 (fun hp=>kD _) (.a rfl uu<|.nil)) rfl rfl ?_; refine j5 ?_
 refine Tr.back (e:=eZ) (xs:=p) iM [⟨4,true,_,_⟩,⟨5,true,_,_⟩,⟨6,true,_,_⟩,⟨7,true,_,_⟩,⟨8,true,_,_⟩,⟨14,true,_,_⟩] [4,5,7,8] (fun k=>[⟨4,[],j1 [kB (decide (a<0)),b7 (eL eI) (d7 (a).natAbs)]⟩,⟨5,[],j1 [kB (decide (d<0)),b7 (eL eI) (d7 (d).natAbs)]⟩,⟨7,[],j1 [kB (decide ((C0 a d p k).1<0)),b7 (eL eI) (d7 ((C0 a d p k).1).natAbs)]⟩,⟨8,[],j1 [kB (decide ((C0 a d p k).2<0)),b7 (eL eI) (d7 ((C0 a d p k).2).natAbs)]⟩]) (fun k=>[⟨4,[],j1 [kB (decide (a<0)),b7 (eL eI) (d7 (a).natAbs)]⟩,⟨5,[],j1 [kB (decide (d<0)),b7 (eL eI) (d7 (d).natAbs)]⟩,⟨7,[],j1 [kB (decide ((C0 a d p k).1<0)),b7 (eL eI) (d7 ((C0 a d p k).1).natAbs)]⟩,⟨8,[],j1 [kB (decide ((C0 a d p k).2<0)),b7 (eL eI) (d7 ((C0 a d p k).2).natAbs)]⟩]) (fun k=>True) (fun k=>False) (d8.mk (.k rfl rfl<|.k rfl rfl<|.k rfl rfl<|.k rfl rfl<|.k rfl rfl<|.k rfl rfl<|.nil) (.k rfl<|.k rfl<|.conv (QO (by rw[SM])) rfl<|.conv (W7 (Z0 (by rw[SM]))) rfl<|.nil) rfl) rfl rfl (fun _=>rfl) (fun _=>rfl) (fun _=>inferInstance) (fun _=>inferInstance) rfl zi ?_ ?_ ?_
 ·intro k hk14 hR14 l14 w14 J14 b14 bks14
  refine jn ?_
  have hb:=aD hpp ha hd (k:=k) zo
  have hk5:k*(B+1)<=5*100001:=Nat.mul_le_mul zo zo
  have hk6:k*B<=5*100000:=Nat.mul_le_mul zo zo
  have hcp:=hpp (p.length-1-k)
  have hm1:=u7 (C0 a d p k).1 a
  have hm2:=u7 (b6 p (p.length-1-k)) (C0 a d p k).2
  refine i6 ?_; refine ja 10 ?_; refine g8 ?_; refine g6.asg (fun w1014 J1014 b1014=>?_); refine jn ?_; refine g8 ?_; refine Tr.draw 5 p7 (by kernel_rfl) ?_; refine g8 ?_; refine jd (I3 (C0 a d p k).1 a zo zo) ?_; refine j5 ?_; refine jc (I3 (b6 p (p.length-1-k)) (C0 a d p k).2 zo zo) ?_; refine jc (S5 ((C0 a d p k).1*a) (b6 p (p.length-1-k)*(C0 a d p k).2) zo zo) ?_; refine l5 ?_; refine jc (I3 (C0 a d p k).2 d zo zo) ?_; refine j5 ?_; exact g6.rnd trivial (d8.mk (zk) (.k rfl<|.k rfl<|.conv (W7 (Z0 (by rw[SL zo]))) rfl<|.conv (W7 (Z0 (by rw[SL zo]))) rfl<|.nil) rfl)
 ·intro hE14
  refine je ?_; refine n7 ?_; refine jc (Y9 (C0 a d p p.length).1) ?_; refine i1 ?_; refine f0.mk ?_; exact f0.res1 (fn:=Tryz.f193) rfl (.i rfl (by rw[pA]; rfl)<|.nil)
 ·intro k hk14 hX14
  exact absurd hX14 id

end Go.Fl

/- Contracts: halving. -/
namespace Go.Fl
open Go Go.Proofs
open b8 renaming op->tO
open i7 renaming op->rO
set_option maxRecDepth 100000

theorem WI {ks:List d6} {dep:List Nat} [hd:y6 ks dep] [hn:G6 dep] {g:Gh} {bk:Bk} {o:Option Obj} {b cap:Nat} (h:j1 ks g bk o):j1 ks (g1 g.J b cap) (.blk b cap) o :=
 let ⟨cs,ty,h1,h2⟩:=h; ⟨cs,ty,h1,hd.dep (g:=g) (g':=g1 g.J b cap) (JV.le_refl _) (fun t ht=>by rw[hn.eq] at ht; cases ht) h2⟩
theorem OZ (z:Int):-1<=u9 z/\u9 z<=1:=by unfold u9 s7; split; omega; split<;>omega
theorem uU (y z:Int):-1<=u9 y*u9 z/\u9 y*u9 z<=1:=by
 obtain ⟨h1,h2⟩:=OZ y
 obtain ⟨h3,h4⟩:=OZ z
 rcases (show u9 y=-1\/u9 y=0\/u9 y=1 by omega) with h | h | h<;>rw[h]<;>omega
theorem XP (k1 k2 k3 k4 k5:d6) [n9 k1 []] [n9 k2 []] [n9 k3 []] [n9 k4 []] [n9 k5 []] (p:List Int) (I:Iv) (B:Nat) (hl:p.length<=6) (hpp:∀i,dl (b6 p i)<=1) (h1:dl I.lo<=B) (h2:dl I.hi<=B) (h3:dl I.den<=B) (hB:B<=90000):CZ Tryz.prog 164 (u4 0 0) [] (j1 [k1,k2,k3,k4,b7 (eL eZ) p,k5,kB (decide (I.lo<0)),b7 (eL eI) (d7 (I.lo).natAbs),kB (decide (I.hi<0)),b7 (eL eI) (d7 (I.hi).natAbs),kB (decide (I.den<0)),b7 (eL eI) (d7 (I.den).natAbs)]) (j1 [k1,k2,k3,k4,b7 (eL eZ) p,k5,kB (decide ((M6 p I).lo<0)),b7 (eL eI) (d7 ((M6 p I).lo).natAbs),kB (decide ((M6 p I).hi<0)),b7 (eL eI) (d7 ((M6 p I).hi).natAbs),kB (decide ((M6 p I).den<0)),b7 (eL eI) (d7 ((M6 p I).den).natAbs)]) (j4 (.tuple #[])):=by
 have a1:=S7 I.lo I.hi
 have a2:=S7 I.den I.den
 have a3:=S7 I.lo I.lo
 have a4:=S7 I.hi I.hi
 refine CZ.mk Tryz.func164 rfl Tryz.ntmps164 rfl (fun w J bb cap=>?_); refine i6 ?_; refine Tr.draw 20 p7 (by kernel_rfl) ?_; refine i6 ?_; refine rO (K2 rfl uu) rfl rfl ?_; refine j5 ?_; refine rO (K2 rfl uu) rfl rfl ?_; refine g8 ?_; refine jd (S5 I.lo I.hi zo zo) ?_; refine i6 ?_; refine rO (K2 rfl uu) rfl rfl ?_; refine j5 ?_; refine rO (K2 rfl uu) rfl rfl ?_; refine g8 ?_; refine jd (S5 I.den I.den zo zo) ?_; refine i7.new (FE 2) rfl rfl rfl rfl ?_; refine i7.new (FE 3) rfl rfl rfl rfl ?_
 refine j8 ?_; refine Tr.draw 19 p7 (by kernel_rfl) ?_; refine i6 ?_; refine rO (K2 rfl uu) rfl rfl ?_; refine j5 ?_; refine rO (K2 rfl uu) rfl rfl ?_; refine j5 ?_; refine rO (K2 rfl uu) rfl rfl ?_; refine g8 ?_; refine jd (RJ p I.lo I.den 100000 1 hl hpp zo zo zo zo) ?_; refine i6 ?_; refine rO (K2 rfl uu) rfl rfl ?_; refine n7 ?_; refine jc (RJ p (I.lo+I.hi) (I.den+I.den) 100000 1 hl hpp zo zo zo zo) ?_; refine tO (HP rfl uu rfl uu (fun _=>by have:=uU (C5 I.lo I.den p).1 (C5 (I.lo+I.hi) (I.den+I.den) p).1; omega)) rfl rfl ?_
 refine j5 ?_; refine jq ?_ ?_
 ·intro h1
  have hi:M6 p I=⟨I.lo+I.lo,I.lo+I.hi,I.den+I.den⟩:=if_pos h1
  rw[hi]
  refine Tr.drawS 14 0 p7 (by kernel_rfl) ?_; refine n6.opA (F2 rfl uu) (by kernel_rfl) rfl rfl ?_; refine n6.op (F2 rfl uu) rfl rfl ?_; refine n6.opA (F2 rfl uu) (by kernel_rfl) rfl rfl ?_; refine n6.opA (K2 rfl uu) (by kernel_rfl) rfl rfl ?_; refine n6.opA (N9 rfl uu) (by kernel_rfl) rfl rfl ?_; refine n6.opA (F8 rfl uu) (by kernel_rfl) rfl rfl ?_; refine n6.opA (F2 rfl uu) (by kernel_rfl) rfl rfl ?_; refine n6.opA (K2 rfl uu) (by kernel_rfl) rfl rfl ?_; refine n6.opA (N9 rfl uu) (by kernel_rfl) rfl rfl ?_; refine n6.opA (F8 rfl uu) (by kernel_rfl) rfl rfl ?_
  refine n6.opA (i9 (fun hp=>S5 I.lo I.lo zo zo) (.se rfl uu rfl rfl<|.se rfl uu rfl rfl<|.nil)) (by kernel_rfl) rfl rfl ?_; refine n6.op (F8 rfl uu) rfl rfl ?_; refine n6.opA (K2 rfl uu) (by kernel_rfl) rfl rfl ?_; refine n6.opA (N9 rfl uu) (by kernel_rfl) rfl rfl ?_; refine n6.z (CT rfl rfl rfl) rfl rfl rfl ?_; refine tO (K2 rfl uu) rfl rfl ?_; refine j8 ?_; refine tO (K2 rfl uu) rfl rfl ?_; refine j5 ?_; exact g6.mutB (t:=0) rfl rfl (fun _ _ _ h=>WI h)
 ·intro h1
  replace h1:=Int.not_lt.1 h1
  have hi:M6 p I=⟨I.lo+I.hi,I.hi+I.hi,I.den+I.den⟩:=if_neg zo
  rw[hi]
  refine Tr.drawS 14 0 p7 (by kernel_rfl) ?_; refine n6.opA (F2 rfl uu) (by kernel_rfl) rfl rfl ?_; refine n6.op (F2 rfl uu) rfl rfl ?_; refine n6.opA (F8 rfl uu) (by kernel_rfl) rfl rfl ?_; refine n6.opA (F2 rfl uu) (by kernel_rfl) rfl rfl ?_; refine n6.opA (K2 rfl uu) (by kernel_rfl) rfl rfl ?_; refine n6.opA (N9 rfl uu) (by kernel_rfl) rfl rfl ?_; refine n6.opA (F8 rfl uu) (by kernel_rfl) rfl rfl ?_; refine n6.opA (F2 rfl uu) (by kernel_rfl) rfl rfl ?_; refine n6.opA (K2 rfl uu) (by kernel_rfl) rfl rfl ?_; refine n6.opA (N9 rfl uu) (by kernel_rfl) rfl rfl ?_
  refine n6.opA (F8 rfl uu) (by kernel_rfl) rfl rfl ?_; refine n6.opA (i9 (fun hp=>S5 I.hi I.hi zo zo) (.se rfl uu rfl rfl<|.se rfl uu rfl rfl<|.nil)) (by kernel_rfl) rfl rfl ?_; refine n6.opA (K2 rfl uu) (by kernel_rfl) rfl rfl ?_; refine n6.opA (N9 rfl uu) (by kernel_rfl) rfl rfl ?_; refine n6.z (CT rfl rfl rfl) rfl rfl rfl ?_; refine tO (K2 rfl uu) rfl rfl ?_; refine j8 ?_; refine tO (K2 rfl uu) rfl rfl ?_; refine j5 ?_; exact g6.mutB (t:=0) rfl rfl (fun _ _ _ h=>WI h)

end Go.Fl

/- Contracts: loops over lists of integers of any size. -/
namespace Go.Fl
open Go Go.Proofs
open b8 renaming op->tO
open i7 renaming op->rO
set_option maxRecDepth 100000

section
open Go Go.RowKit Go.Proofs
attribute [local go_sem] Oper.semAt_some
set_option maxHeartbeats 2000000 in
theorem iN:KR Tryz.prog 217 eZ:=by
 intro J W xs ptr him hp
 obtain ⟨bx,ox,ds,rfl,hrd,hcell⟩:=hp
 obtain ⟨ad,cap,rfl,⟨hlen,hcap⟩,hrow⟩:=hrd
 obtain ⟨cv,hcv⟩:∃cv:Nat->List Value,∀i,i<xs.length->eZ.rd J (cv i) (b6 xs i)/\∃b o,ad=some ⟨b,o,none⟩/\∀j v,(cv i)[j]?=some v->J b (o+i*2+j)=some v:=by
  have:∀i,∃l:List Value,i<xs.length->eZ.rd J l (b6 xs i)/\∃b o,ad=some ⟨b,o,none⟩/\∀j v,l[j]?=some v->J b (o+i*2+j)=some v:=fun i=>by
   by_cases hi:i<xs.length
   ·obtain ⟨b,o,rfl,hrw⟩:=hrow.resolve_left (fun e=>by subst e; simp at hi)
    obtain ⟨l,q1,q2⟩:=hrw i _ (E5 hi)
    exact ⟨l,fun _=>⟨q1,b,o,rfl,q2⟩⟩
   ·exact ⟨[],fun h=>absurd h hi⟩
  exact ⟨fun i=>(this i).choose,fun i hi=>(this i).choose_spec hi⟩
 refine ⟨fun i=>.agg (cv i).toArray,fun i hi=>⟨cv i,(hcv i hi).1,rfl⟩,?_⟩
 intro l Iv Ix hY h0
 have hbox:∀W',Im J W'->W'.cell? ⟨bx,ox,none⟩=some (.slice ad xs.length cap):=fun W' h=>h _ _ _ (by have:=hcell 0 _ rfl; simpa using this)
 simp only[q7] at hlen
 have hb0:=hbox W him
 refine (callsIn_wide (n:=3)).1 ?_; refine callsIn_of_wp Tryz.func217 rfl trivial ?_
 simp only[Tryz.ntmps217,List.size_toArray,List.length_cons,List.length_nil,Nat.reduceAdd,Nat.reduceSub,Array.replicate_succ,Array.replicate_zero,List.push_toArray,List.append_toArray,List.nil_append,List.cons_append]
 gi_wp2
 gi_loopw [3] (fun i wr=>∃k:Nat,k<=xs.length/\i=.int .i64 ((xs.length:Int)-1-k)/\Iv k wr/\Im J wr)
  (fun i _=>(intOf i+1).toNat)
 case atStart=>exact ⟨0,Nat.zero_le _,by simp,h0,him⟩
 case round =>
  obtain ⟨k,hk,rfl,hJs,himr⟩:=hrel
  have hbr:=hbox wr himr
  by_cases hlt:k<xs.length
  ·obtain ⟨fn,tmps,assign,body,hy,hR⟩:=hY k wr hlt himr hJs
   rw[show ((xs.length-1-k:Nat):Int)=(xs.length:Int)-1-k by omega] at hy
   obtain ⟨q1,b,o,rfl,q2⟩:=hcv (xs.length-1-k) zo
   obtain ⟨c1,c2,hc12⟩:∃c1 c2,cv (xs.length-1-k)=[c1,c2]:=by
    have hl2:(cv (xs.length-1-k)).length=2:=eZ.len q1
    match hcc:cv (xs.length-1-k),hl2 with
    | [c1,c2],_=>exact ⟨c1,c2,rfl⟩
   rw[hc12] at q2
   simp only[hc12] at hy
   have hx1:wr.cell? ⟨b,o+(xs.length-1-k)*2,none⟩=some c1:=himr _ _ _ (by have:=q2 0 c1 rfl; simpa using this)
   have hx2:wr.cell? ⟨b,o+(xs.length-1-k)*2+1,none⟩=some c2:=himr _ _ _ (q2 1 c2 rfl)
   gi_wp2
   refine hR.mono ?_
   rintro e W3 (⟨rfl,hJ3,hk3⟩ | ⟨rfl,hJx3⟩)
   ·gi_wp2
    go_roundw
    case rel=>exact ⟨k+1,by omega,by congr 1; omega,hJ3,hk3⟩
    case measure=>simp[intOf]; omega
   ·gi_wp2
    refine bodyPost_ret (results_none rfl _ _ _) rfl ?_; exact ⟨⟨_,rfl⟩,.inr ⟨k,hlt,hJx3⟩⟩
  ·obtain rfl:k=xs.length:=by omega
   gi_wp2
   go_end0
   exact ⟨⟨_,rfl⟩,.inl hJs⟩
end
theorem kF (xs:List Int):Ct Tryz.prog 201 [b7 (eL eZ) xs] (X1 217 [r5 (eL eZ) xs]):=by
 refine Ct.mk Tryz.func201 rfl Tryz.ntmps201 rfl (fun w J=>?_); refine g8 ?_; refine jb 1 rfl ?_; refine i1 ?_; refine Tr.frzB 1 [1] (eL eZ) ⟨rfl,trivial⟩ rfl ?_; refine jn ?_; refine i6 ?_; refine tO (DS (.cons rfl uu<|.nil)) rfl rfl ?_; refine i1 ?_; exact f0.res1 (fn:=Tryz.f201) rfl (zk)

end Go.Fl

/- Contracts: signs of numbers. -/
namespace Go.Fl
open Go Go.Proofs
open b8 renaming op->tO
open i7 renaming op->rO
set_option maxRecDepth 100000

def N0 (a b o:Int):Int:=if 0<s7 a 0 then 1 else if s7 b 0<0 then -1 else o
theorem mK (a b c o:Int):AN Tryz.prog 182 [b7 eW (wh a),b7 eW (wh b),b7 eW (wh c),u4 0 0] (j1 [kI o]) (j1 [kI (N0 a b o)]) (kB (decide (N0 a b o≠0))):=by
 refine AN.mk Tryz.func182 rfl Tryz.ntmps182 rfl rfl (fun w J bb cap=>?_); refine jn ?_; refine g8 ?_; refine jb 4 rfl ?_; refine jb 5 rfl ?_; refine jb 6 rfl ?_; refine j8 ?_; refine jc (Y9 a) ?_; refine j5 ?_; refine jq ?_ ?_
 ·intro h1
  refine w3 ?_
  have e:N0 a b o=1:=if_pos zo
  exact f0.loan1 (fn:=Tryz.f182) (s:=516) rfl rfl (.b rfl (by rw[e])<|.nil) (by rw[e])
 ·intro h1
  replace h1:=Int.not_lt.1 h1
  refine j5 ?_; refine jc (Y9 b) ?_; refine j5 ?_; refine jq ?_ ?_
  ·intro h3
   refine w3 ?_
   have e:N0 a b o=-1:=by unfold N0; rw[if_neg zo,if_pos zo]
   exact f0.loan1 (fn:=Tryz.f182) (s:=516) rfl rfl (.b rfl (by rw[e])<|.nil) (by rw[e])
  ·intro h3
   replace h3:=Int.not_lt.1 h3
   refine t6 ?_
   have e:N0 a b o=o:=by unfold N0; rw[if_neg zo,if_neg zo]
   exact f0.loan1 (fn:=Tryz.f182) (s:=516) rfl rfl (.b rfl (by rw[e])<|.nil) (by rw[e])

end Go.Fl

/- How long it takes until the sign of a number of a field is told. No program in sight. -/
namespace Go.Fl
open Go
structure Y4 (p:List Int) (I:Iv):Prop where
 pol:I1 p
 three:3<=p.length
 top:b6 p (p.length-1)=1
 small:∀c∈p,c.natAbs<=1000
 iv:I.Ok
 lo:-(1000000*I.den)<=I.lo
 hi:I.hi<=1000000*I.den
 wid:I.hi-I.lo<=2000000
 den:I.den<=1000000
 red:¬EK (lP p) (p.length-1)
 sg:u9 (z6 p I.lo I.den)*u9 (z6 p I.hi I.den)<0
theorem nN {x:Nat}:dl ((x:Nat):Int)=(d7 x).length:=by unfold dl; rw[Int.natAbs_natCast]
theorem AW (x y:Nat):dl ((x*y:Nat):Int)<=dl (x:Int)+dl (y:Int):=by rw[Int.natCast_mul]; exact u7 _ _
theorem YV {x y:Nat} (h:x<=y):dl (x:Int)<=dl (y:Int):=J8 (by rw[Int.natAbs_natCast,Int.natAbs_natCast]; exact h)
theorem AX {x:Nat} (h:x<100000000):dl (x:Int)<=1:=I4 zo zo
theorem YW {x k:Nat} (h:dl (x:Int)<=1):dl ((x ^ k:Nat):Int)<=k+1:=by
 induction k with
 | zero=>rw[Nat.pow_zero]; exact Nat.le_trans (AX zo) zo
 | succ k ih=>rw[Nat.pow_succ]; have:=AW (x ^ k) x; omega
theorem YX:∀{m X:Nat},dl ((XI X m:Nat):Int)<=2 ^ m*dl (X:Int)+2 ^ m
 | 0,X=>by rw[XI]; omega
 | m+1,X=>by
  have h1:=YX (m:=m) (X:=2*X*X)
  have h2:=AW (2*X) X
  have h3:=AW 2 X
  have h4:=AX (x:=2) zo
  rw[XI,Nat.pow_succ]
  have h5:2 ^ m*dl ((2*X*X:Nat):Int)<=2 ^ m*(1+2*dl (X:Int)):=Nat.mul_le_mul_left _ zo
  rw[Nat.mul_add,Nat.mul_one,<- Nat.mul_assoc] at h5
  omega
theorem nG {n F:Nat} (hn:n<=4):dl ((EW n F 1000000 2000000:Nat):Int)<=129*dl (F:Int)+180:=by
 unfold EW
 have a1:=YX (m:=7) (X:=F)
 have a2:=AW 29 (XI F 7)
 have a3:=AW (29*XI F 7) ((n+1)*(n+1)*F)
 have a4:=AW ((n+1)*(n+1)) F
 have a5:=AW (29*XI F 7*((n+1)*(n+1)*F)) 2000000
 have a6:=AW (29*XI F 7*((n+1)*(n+1)*F)*2000000) (1000000 ^ (28+n))
 have a7:=AW 2 (29*XI F 7*((n+1)*(n+1)*F)*2000000*1000000 ^ (28+n))
 have a8:=YW (x:=1000000) (k:=28+n) (AX zo)
 have b1:=AX (x:=29) zo
 have b2:=AX (x:=2) zo
 have b3:=AX (x:=2000000) zo
 have b4:dl (((n+1)*(n+1):Nat):Int)<=1:=AX (Nat.lt_of_le_of_lt (Nat.mul_le_mul (show n+1<=5 by omega) (show n+1<=5 by omega)) zo)
 have a9:=S7 ((2*(29*XI F 7*((n+1)*(n+1)*F)*2000000*1000000 ^ (28+n)):Nat):Int) 1
 have b5:=I4 (F:=1) zo zo
 rw[show ((2*(29*XI F 7*((n+1)*(n+1)*F)*2000000*1000000 ^ (28+n))+1:Nat):Int)=((2*(29*XI F 7*((n+1)*(n+1)*F)*2000000*1000000 ^ (28+n)):Nat):Int)+1 from rfl]
 have e:(2:Nat) ^ 7=128:=by decide
 rw[e] at a1
 generalize dl ((XI F 7:Nat):Int)=x1 at *
 generalize dl ((29*XI F 7:Nat):Int)=x2 at *
 generalize dl ((29*XI F 7*((n+1)*(n+1)*F):Nat):Int)=x3 at *
 generalize dl (((n+1)*(n+1)*F:Nat):Int)=x4 at *
 generalize dl ((29*XI F 7*((n+1)*(n+1)*F)*2000000:Nat):Int)=x5 at *
 generalize dl ((29*XI F 7*((n+1)*(n+1)*F)*2000000*1000000 ^ (28+n):Nat):Int)=x6 at *
 generalize dl ((2*(29*XI F 7*((n+1)*(n+1)*F)*2000000*1000000 ^ (28+n)):Nat):Int)=x7 at *
 generalize dl ((1000000 ^ (28+n):Nat):Int)=x8 at *
 omega
theorem nD {n F R W:Nat}:EW n F R W≠0:=by unfold EW; omega
section
variable {p:List Int} {I:Iv} (h:Y4 p I)
include h
theorem Y4.len4:p.length<=5:=h.pol.1.2
theorem Y4.noroot (a b:Int) (hb:0<b):z6 p a b≠0:=by
 have h3:=h.three
 have h5:=h.pol.1.2
 refine bZ (n:=p.length-1) zo zo HE ?_ h.red hb
 show (if p.length-1<p.length then b6 p (p.length-1) else 0)=1
 rw[if_pos zo,h.top]
theorem Y4.told {cs:List Int} {F k:Nat} (hcl:cs.length=p.length-1) (hc0:∃c∈cs,c≠0) (hF:1000<=F) (hcF:∀c∈cs,c.natAbs<=F) (hk:(EW (p.length-1) F 1000000 2000000:Int)<=I.den*2 ^ k):0<(enc (i4 p I k) cs).1\/(enc (i4 p I k) cs).2.1<0:=by
 have h3:=h.three
 have h5:=h.pol.1.2
 obtain ⟨b1,b2⟩:=SQ h.iv (R:=1000000) h.lo h.hi (p:=p) (k:=k)
 have hw:=aP (p:=p) (I:=I) (k:=k)
 have hle:=(Z4 h.iv (p:=p) (k:=k)).le
 have h6:=h.wid
 exact Go.Fl.told (n:=p.length-1) (F:=F) (R:=1000000) (W:=2000000) zo zo zo h.top h.red hcl hc0 zo (fun c hc=>Nat.le_trans (h.small c hc) hF) hcF zo (Z4 h.iv) b1 b2 zo (aO h.iv (h.noroot) h.sg) (by rw[SR]; exact hk)
theorem Y4.bound {cs:List Int} {M:Nat} (hcl:cs.length=p.length-1) (hc0:∃c∈cs,c≠0) (hM:∀c∈cs,dl c<=M) (hM1:1<=M) (hM2:M<=560):∃K,64<=K/\(∀k,K<=k->0<(enc (i4 p I k) cs).1\/(enc (i4 p I k) cs).2.1<0)/\∀k,k<=K->dl (i4 p I k).lo<=73000/\dl (i4 p I k).hi<=73000/\dl (i4 p I k).den<=73000:=by
 have h3:=h.three
 have h5:=h.pol.1.2
 have hpos:=h.iv.pos
 obtain ⟨F,hF1,hF2,hF3⟩:∃F:Nat,1000<=F/\dl (F:Int)<=M/\∀c∈cs,c.natAbs<=F:=by
  have key:∀l:List Int,(∀c∈l,dl c<=M)->∃F:Nat,1000<=F/\dl (F:Int)<=M/\∀c∈l,c.natAbs<=F:=by
   intro l
   induction l with
   | nil=>intro _; exact ⟨1000,Nat.le_refl _,Nat.le_trans (AX zo) hM1,fun c hc=>by cases hc⟩
   | cons x l ih =>
    intro hl
    obtain ⟨F,q1,q2,q3⟩:=ih fun c hc=>hl c (List.mem_cons_of_mem _ hc)
    refine ⟨max F x.natAbs,by omega,?_,fun c hc=>?_⟩
    ·rw[Nat.max_def]
     split
     ·have:=hl x List.mem_cons_self
      rw[nN]; exact this
     ·exact q2
    ·rcases List.mem_cons.1 hc with rfl | hc
     ·omega
     ·have:=q3 c hc; omega
  exact key cs hM
 obtain ⟨d,hd⟩:∃d,d=EW (p.length-1) F 1000000 2000000:=⟨_,rfl⟩
 have hd0:d≠0:=hd▸nD
 have hdl:dl (d:Int)<=129*560+180:=by
  rw[hd]
  have:=nG (n:=p.length-1) (F:=F) zo
  have:129*dl (F:Int)<=129*560:=Nat.mul_le_mul_left _ zo
  omega
 have hden:((I.den.natAbs:Nat):Int)=I.den:=by omega
 have size:∀k:Nat,dl ((2 ^ k:Nat):Int)<=72422->dl (i4 p I k).lo<=73000/\dl (i4 p I k).hi<=73000/\dl (i4 p I k).den<=73000:=fun k hk=>by
  obtain ⟨b1,b2⟩:=SQ h.iv (R:=1000000) h.lo h.hi (p:=p) (k:=k)
  have hle:=(Z4 h.iv (p:=p) (k:=k)).le
  have hp:=(Z4 h.iv (p:=p) (k:=k)).pos
  have hdk:dl (i4 p I k).den<=72423:=by
   rw[SR]
   have q1:=u7 I.den (2 ^ k)
   have q2:dl I.den<=1:=I4 zo (by have:=h.den; omega)
   have q3:dl ((2:Int) ^ k)<=72422:=by rw[show ((2:Int) ^ k)=((2 ^ k:Nat):Int) by rw[Int.natCast_pow]; rfl]; exact hk
   omega
  have q4:=u7 1000000 (i4 p I k).den
  have q5:=I4 (F:=1000000) zo zo
  have mono:∀z:Int,z.natAbs<=(1000000*(i4 p I k).den).natAbs->dl z<=73000:=fun z hz=>Nat.le_trans (J8 hz) (by show dl (1000000*(i4 p I k).den)<=73000; omega)
  exact ⟨mono _ zo,mono _ zo,by omega⟩
 have hK:(d:Int)<=I.den*2 ^ (d.log2+1):=by
  have q1:=Nat.lt_log2_self (n:=d)
  have q2:((d:Nat):Int)<((2 ^ (d.log2+1):Nat):Int):=Int.ofNat_lt.2 q1
  rw[Int.natCast_pow] at q2
  have q3:=Int.mul_le_mul_of_nonneg_right (show 1<=I.den by omega) (show (0:Int)<=2 ^ (d.log2+1) from Int.le_of_lt (Int.pow_pos zo))
  rw[Int.one_mul] at q3
  have q4:((2:Nat):Int)=2:=rfl
  rw[q4] at q2
  omega
 refine ⟨max 64 (d.log2+1),Nat.le_max_left _ _,fun k hk=>?_,fun k hk=>?_⟩
 ·refine h.told hcl hc0 hF1 hF3 ?_
  rw[<- hd]
  refine Int.le_trans hK (Int.mul_le_mul_of_nonneg_left ?_ zo)
  have:(2:Nat) ^ (d.log2+1)<=2 ^ k:=Nat.pow_le_pow_right zo zo
  have:=Int.ofNat_le.2 this
  rw[Int.natCast_pow,Int.natCast_pow] at this
  exact this
 ·refine size k ?_
  have hm:dl ((2 ^ k:Nat):Int)<=dl ((2 ^ (max 64 (d.log2+1)):Nat):Int):=YV (Nat.pow_le_pow_right zo hk)
  refine Nat.le_trans hm ?_
  rcases Nat.le_total 64 (d.log2+1) with q | q
  ·rw[Nat.max_eq_right q]
   have q1:=Nat.log2_self_le hd0
   have q2:2 ^ (d.log2+1)<=2*d:=by rw[Nat.pow_succ]; omega
   have q3:=YV q2
   have q4:=AW 2 d
   have q5:=AX (x:=2) zo
   omega
  ·rw[Nat.max_eq_left q]
   exact Nat.le_trans (YW (x:=2) (k:=64) (AX zo)) zo
end
theorem EZ {p:List Int} {I:Iv} {j:Nat}:∀{k:Nat},i4 p (i4 p I j) k=i4 p I (j+k)
 | 0=>rfl
 | k+1=>by rw[i4,EZ]; rfl
theorem uR {p:List Int} {I:Iv} {cs:List Int} {j:Nat} (hI:I.Ok):Y0 p (i4 p I j) cs=Y0 p I cs:=by
 unfold Y0
 have e1:(∃k,0<(enc (i4 p (i4 p I j) k) cs).1)↔∃k,0<(enc (i4 p I k) cs).1 :=
  ⟨fun ⟨k,hk⟩=>⟨j+k,by rw[<- EZ]; exact hk⟩,fun ⟨k,hk⟩=>⟨k,by rw[EZ]; exact ZL hI (Nat.le_add_left k j) hk⟩⟩
 have e2:(∃k,(enc (i4 p (i4 p I j) k) cs).2.1<0)↔∃k,(enc (i4 p I k) cs).2.1<0 :=
  ⟨fun ⟨k,hk⟩=>⟨j+k,by rw[<- EZ]; exact hk⟩,fun ⟨k,hk⟩=>⟨k,by rw[EZ]; exact ZK hI (Nat.le_add_left k j) hk⟩⟩
 by_cases h1:∃k,0<(enc (i4 p I k) cs).1
 ·rw[if_pos (e1.2 h1),if_pos h1]
 ·rw[if_neg (fun h=>h1 (e1.1 h)),if_neg h1]
  by_cases h2:∃k,(enc (i4 p I k) cs).2.1<0
  ·rw[if_pos (e2.2 h2),if_pos h2]
  ·rw[if_neg (fun h=>h2 (e2.1 h)),if_neg h2]
noncomputable def H2 (p:List Int) (I:Iv) (v:m8):Int:=if O0 v.1=true then s7 (b6 v.1 0) 0 else Y0 p I (v.1.take (p.length-1))
theorem tB {p:List Int} {v:m8} (_:3<=p.length) (hv:A7 p v) (h:O0 v.1≠true):(v.1.take (p.length-1)).length=min (p.length-1) 4/\∃c∈v.1.take (p.length-1),c≠0:=by
 have hl:=hv.len
 refine ⟨by rw[List.length_take,hl],?_⟩
 refine Classical.byContradiction fun hn=>h (KC fun i h1 h2=>?_)
 by_cases hi:i<p.length-1
 ·refine Classical.byContradiction fun h0=>hn ⟨b6 v.1 i,?_,h0⟩
  rw[<- N8 hi]
  exact TU (by rw[List.length_take,hl]; omega)
 ·exact hv.hi i zo
theorem nI {a b c d:Int} {n:Nat} (h1:dl a<=n) (h2:dl b<=n) (h3:dl c<=n) (h4:dl d<=n):dl (N6 a b c d)<=n/\dl (N5 a b c d)<=n:=by
 have key:∀x:Int,x=a\/x=b\/x=c\/x=d->dl x<=n:=fun x hx=>by rcases hx with rfl | rfl | rfl | rfl<;>assumption
 exact ⟨key _ (by unfold N6; omega),key _ (by unfold N5; omega)⟩
def p6 (I:Iv) (cs:List Int) (k:Nat):Int×Int×Int:=enc I (cs.drop (cs.length-k))
theorem MS {I:Iv} {cs:List Int}:p6 I cs 0=(0,0,1):=by unfold p6; rw[Nat.sub_zero,List.drop_length]; rfl
theorem ZJ {I:Iv} {cs:List Int}:p6 I cs cs.length=enc I cs:=by unfold p6; rw[Nat.sub_self,List.drop_zero]
theorem MR {I:Iv} {cs:List Int} {k:Nat} (hk:k<cs.length):p6 I cs (k+1)=(N6 ((p6 I cs k).1*I.lo) ((p6 I cs k).1*I.hi) ((p6 I cs k).2.1*I.lo) ((p6 I cs k).2.1*I.hi)+b6 cs (cs.length-1-k)*((p6 I cs k).2.2*I.den),N5 ((p6 I cs k).1*I.lo) ((p6 I cs k).1*I.hi) ((p6 I cs k).2.1*I.lo) ((p6 I cs k).2.1*I.hi)+b6 cs (cs.length-1-k)*((p6 I cs k).2.2*I.den),(p6 I cs k).2.2*I.den):=by
 unfold p6
 rw[RS hk]
 rfl
theorem RV {I:Iv} {cs:List Int} {A C:Nat} (h1:dl I.lo<=A) (h2:dl I.hi<=A) (h3:dl I.den<=A) (hc:∀i,dl (b6 cs i)<=C):∀{k:Nat},k<=cs.length->dl (p6 I cs k).1<=k*(A+1)+C+1/\dl (p6 I cs k).2.1<=k*(A+1)+C+1/\dl (p6 I cs k).2.2<=k*A+1
 | 0,_=>by
  rw[MS]
  have h0:dl (0:Int)=0:=E2.2 rfl
  have h1:=I4 (F:=1) zo zo
  exact ⟨by show dl 0<=_; omega,by show dl 0<=_; omega,by show dl 1<=_; omega⟩
 | k+1,hk=>by
  obtain ⟨q1,q2,q3⟩:=RV h1 h2 h3 hc (k:=k) zo
  rw[MR zo]
  have m1:=u7 (p6 I cs k).1 I.lo
  have m2:=u7 (p6 I cs k).1 I.hi
  have m3:=u7 (p6 I cs k).2.1 I.lo
  have m4:=u7 (p6 I cs k).2.1 I.hi
  have m5:=u7 (p6 I cs k).2.2 I.den
  have m6:=u7 (b6 cs (cs.length-1-k)) ((p6 I cs k).2.2*I.den)
  have m7:=hc (cs.length-1-k)
  have e1:(k+1)*(A+1)=k*(A+1)+A+1:=by rw[Nat.succ_mul]; omega
  have e2:(k+1)*A=k*A+A:=Nat.succ_mul _ _
  have e3:k*(A+1)=k*A+k:=by rw[Nat.mul_add,Nat.mul_one]
  obtain ⟨u1,u2⟩:=nI (n:=k*(A+1)+C+1+A) (a:=(p6 I cs k).1*I.lo) (b:=(p6 I cs k).1*I.hi) (c:=(p6 I cs k).2.1*I.lo) (d:=(p6 I cs k).2.1*I.hi) zo zo zo zo
  have s1:=S7 (N6 ((p6 I cs k).1*I.lo) ((p6 I cs k).1*I.hi) ((p6 I cs k).2.1*I.lo) ((p6 I cs k).2.1*I.hi)) (b6 cs (cs.length-1-k)*((p6 I cs k).2.2*I.den))
  have s2:=S7 (N5 ((p6 I cs k).1*I.lo) ((p6 I cs k).1*I.hi) ((p6 I cs k).2.1*I.lo) ((p6 I cs k).2.1*I.hi)) (b6 cs (cs.length-1-k)*((p6 I cs k).2.2*I.den))
  refine ⟨?_,?_,?_⟩
  ·show dl (_+_)<=_; omega
  ·show dl (_+_)<=_; omega
  ·show dl (_*_)<=_; omega
end Go.Fl

/- Contracts: enclosures are halved until the sign is told. -/
namespace Go.Fl
open Go Go.Proofs
open b8 renaming op->tO
open i7 renaming op->rO
set_option maxRecDepth 100000

def R0 (xs:List Int):Nat->Int
 | 0=>b6 xs 0
 | k+1=>if b6 xs (k+1)<R0 xs k then b6 xs (k+1) else R0 xs k
def R1 (xs:List Int):Nat->Int
 | 0=>b6 xs 0
 | k+1=>if R1 xs k<b6 xs (k+1) then b6 xs (k+1) else R1 xs k
theorem JO {xs:List Int}:∀{k:Nat},k<xs.length->R0 xs k∈xs/\R1 xs k∈xs
 | 0,h=>⟨G5 h,G5 h⟩
 | k+1,h=>by
  obtain ⟨h1,h2⟩:=JO (xs:=xs) (k:=k) zo
  rw[R0,R1]
  constructor
  ·split; exact G5 h; exact h1
  ·split; exact G5 h; exact h2
theorem bK {a b c d:Int}:R0 [a,b,c,d] 3=N6 a b c d/\R1 [a,b,c,d] 3=N5 a b c d:=by
 simp only[R0,R1,N6,N5,b6,List.getD_cons_succ,List.getD_cons_zero]
 constructor<;>(repeat' split)<;>omega
theorem LM {a b:Int}:s7 a b<0↔a<b:=by unfold s7; split<;>(try split)<;>omega
theorem LL {a b:Int}:0<s7 a b↔b<a:=by unfold s7; split<;>(try split)<;>omega
theorem uE {p cs:List Int} {I:Iv} {k:Nat} (hI:I.Ok) (h:N0 (enc (i4 p I k) cs).1 (enc (i4 p I k) cs).2.1 0≠0):N0 (enc (i4 p I k) cs).1 (enc (i4 p I k) cs).2.1 0=Y0 p I cs:=by
 unfold N0 at h ⊢
 by_cases h1:0<s7 (enc (i4 p I k) cs).1 0
 ·rw[if_pos h1,uT (LL.1 h1)]
 ·rw[if_neg h1] at h ⊢
  by_cases h2:s7 (enc (i4 p I k) cs).2.1 0<0
  ·rw[if_pos h2,uS hI (LM.1 h2)]
  ·rw[if_neg h2] at h; exact absurd rfl h
theorem uF {a b:Int} (h:0<a\/b<0):N0 a b 0≠0:=by
 unfold N0
 by_cases h1:0<s7 a 0
 ·rw[if_pos h1]; decide
 ·rw[if_neg h1,if_pos (LM.2 (h.resolve_left fun e=>h1 (LL.2 e)))]; decide
theorem jY (xs:List Int) (f:FuncId) [d9 Tryz.prog f] (hl:1<=xs.length) (hf:∀a b,a∈xs->b∈xs->Ct Tryz.prog f [b7 eW (wh a),b7 eW (wh b)] (kI (s7 a b))):Ct Tryz.prog 202 [b7 (eL eZ) xs,j4 (.func (.func f) #[] #[])] (b7 eW (wh (R0 xs (xs.length-1)))):=by
 refine Ct.mk Tryz.func202 rfl Tryz.ntmps202 rfl (fun w J=>?_); refine Tr.fact (s:=0) rfl (fun _ _ h=>P0 h) (fun hb=>?_); refine g8 ?_; refine ja 4 ?_; refine t6 ?_; refine jq ?_ ?_
 ·intro h1
  omega
 ·intro h1
  replace h1:=Int.not_lt.1 h1
  refine j8 ?_; refine ja 5 ?_; refine l7 ?_
  refine Tr.for1 (σ:=Nat) [⟨0,true,_,_⟩,⟨1,true,_,_⟩,⟨4,true,_,_⟩,⟨5,true,_,_⟩] [⟨4,_,_⟩] (fun j=>[⟨6,true,[],kI ((j:Int)+1)⟩]) (fun j=>[⟨5,[],j1 [kB (decide ((R0 xs j)<0)),b7 (eL eI) (d7 ((R0 xs j)).natAbs)]⟩]) (fun j=>j+1<=xs.length) (fun j=>j+1=xs.length) (fun j=>xs.length-j) (0) zi (d8.mk (.i rfl zi<|zk) (zk) rfl) ?_ ?_
  ·intro j hR0
   refine jn ?_
   have hjn:((j:Int)+1).toNat=j+1:=by omega
   refine l7 ?_; refine jq ?_ ?_
   ·intro h5
    refine n7 ?_; refine Tr.draw 6 p7 (by kernel_rfl) ?_; refine j8 ?_; refine tO (HK rfl uu (fun hp=>hf _ _ (G5 (i:=j+1) zo) (JO zo).1) (.a rfl uu<|.se rfl uu rfl rfl<|.nil)) rfl rfl ?_; refine j5 ?_; refine jq ?_ ?_
    ·intro h7
     have hK:R0 xs (j+1)=b6 xs (j+1):=by rw[R0,if_pos (LM.1 h7)]
     refine C6 ?_
     exact g6.lp (j+1) zi zo (d8.mk (.i rfl zi<|zk) (.e (by rw[hK,hjn]) rfl<|zk) rfl)
    ·intro h7
     replace h7:=Int.not_lt.1 h7
     have hK:R0 xs (j+1)=R0 xs j:=by rw[R0,if_neg (fun e=>absurd (LM.2 e) zo)]
     refine j3 ?_
     exact g6.lp (j+1) zi zo (d8.mk (.i rfl zi<|zk) (.e (by rw[hK]) rfl<|zk) rfl)
   ·intro h5
    replace h5:=Int.not_lt.1 h5
    refine i1 ?_
    exact g6.cut (j) zo (d8.mk (.i rfl zi<|zk) (zk) rfl)
  ·intro j hE0
   refine je ?_; refine j3 ?_; exact f0.resC1 (fn:=Tryz.f202) rfl rfl (s6 rfl (by rw[show xs.length-1=j by omega]; rfl))

theorem jX (xs:List Int) (f:FuncId) [d9 Tryz.prog f] (hl:1<=xs.length) (hf:∀a b,a∈xs->b∈xs->Ct Tryz.prog f [b7 eW (wh a),b7 eW (wh b)] (kI (s7 a b))):Ct Tryz.prog 204 [b7 (eL eZ) xs,j4 (.func (.func f) #[] #[])] (b7 eW (wh (R1 xs (xs.length-1)))):=by
 refine Ct.mk Tryz.func204 rfl Tryz.ntmps204 rfl (fun w J=>?_); refine Tr.fact (s:=0) rfl (fun _ _ h=>P0 h) (fun hb=>?_); refine g8 ?_; refine ja 4 ?_; refine t6 ?_; refine jq ?_ ?_
 ·intro h1
  omega
 ·intro h1
  replace h1:=Int.not_lt.1 h1
  refine j8 ?_; refine ja 5 ?_; refine l7 ?_
  refine Tr.for1 (σ:=Nat) [⟨0,true,_,_⟩,⟨1,true,_,_⟩,⟨4,true,_,_⟩,⟨5,true,_,_⟩] [⟨4,_,_⟩] (fun j=>[⟨6,true,[],kI ((j:Int)+1)⟩]) (fun j=>[⟨5,[],j1 [kB (decide ((R1 xs j)<0)),b7 (eL eI) (d7 ((R1 xs j)).natAbs)]⟩]) (fun j=>j+1<=xs.length) (fun j=>j+1=xs.length) (fun j=>xs.length-j) (0) zi (d8.mk (.i rfl zi<|zk) (zk) rfl) ?_ ?_
  ·intro j hR0
   refine jn ?_
   have hjn:((j:Int)+1).toNat=j+1:=by omega
   refine l7 ?_; refine jq ?_ ?_
   ·intro h5
    refine n7 ?_; refine Tr.draw 6 p7 (by kernel_rfl) ?_; refine j8 ?_; refine tO (HK rfl uu (fun hp=>hf _ _ (G5 (i:=j+1) zo) (JO zo).2) (.a rfl uu<|.se rfl uu rfl rfl<|.nil)) rfl rfl ?_; refine j5 ?_; refine jq ?_ ?_
    ·intro h7
     have hK:R1 xs (j+1)=b6 xs (j+1):=by rw[R1,if_pos (LL.1 h7)]
     refine C6 ?_
     exact g6.lp (j+1) zi zo (d8.mk (.i rfl zi<|zk) (.e (by rw[hK,hjn]) rfl<|zk) rfl)
    ·intro h7
     replace h7:=Int.not_lt.1 h7
     have hK:R1 xs (j+1)=R1 xs j:=by rw[R1,if_neg (fun e=>absurd (LL.2 e) zo)]
     refine j3 ?_
     exact g6.lp (j+1) zi zo (d8.mk (.i rfl zi<|zk) (.e (by rw[hK]) rfl<|zk) rfl)
   ·intro h5
    replace h5:=Int.not_lt.1 h5
    refine i1 ?_
    exact g6.cut (j) zo (d8.mk (.i rfl zi<|zk) (zk) rfl)
  ·intro j hE0
   refine je ?_; refine j3 ?_; exact f0.resC1 (fn:=Tryz.f204) rfl rfl (s6 rfl (by rw[show xs.length-1=j by omega]; rfl))

set_option maxHeartbeats 2000000 in
theorem kL (r:z7) (v:m8) (I:Iv) (cs:List Int) (K:Nat) (sg:Int) (hpo:I1 r.2.1) (hI:I=⟨r.2.2.2.1,r.2.2.2.2.1,r.2.2.2.2.2⟩) (hcs:cs=v.1.take (r.2.1.length-1)) (hvl:v.1.length=4) (hvb:E7 540 v) (hsz:∀k,k<=K->dl (i4 r.2.1 I k).lo<=73000/\dl (i4 r.2.1 I k).hi<=73000/\dl (i4 r.2.1 I k).den<=73000) (htl:∀k,K<=k->N0 (enc (i4 r.2.1 I k) cs).1 (enc (i4 r.2.1 I k) cs).2.1 0≠0) (hsg:∀k,N0 (enc (i4 r.2.1 I k) cs).1 (enc (i4 r.2.1 I k) cs).2.1 0≠0->N0 (enc (i4 r.2.1 I k) cs).1 (enc (i4 r.2.1 I k) cs).2.1 0=sg):AN Tryz.prog 181 [r5 v9 r,b7 H7 v,X1 182 [u4 0 0]] (j1 [kI 0]) (j1 [kI sg]) (j4 (.tuple #[])):=by
 have hp5:=hpo.1.2
 have hp2:=hpo.1.1
 have hcl:cs.length=r.2.1.length-1:=by rw[hcs,List.length_take,hvl]; omega
 have hcx:List.take ((r.2.1.length:Int)-1).toNat (l6 4 (b6 v.1),v.2).1=cs:=by rw[hcs]; show List.take _ (l6 4 (b6 v.1))=_; rw[<- T8 hvl]; congr 1; omega
 have hcd:∀i,dl (b6 cs i)<=540:=fun i=>by rw[hcs]; by_cases h:i<r.2.1.length-1; (rw[N8 h]; exact hvb.c i); (rw[w4 (by rw[List.length_take]; omega)]; show dl 0<=540; rw[E2.2 rfl]; omega)
 have hI0:i4 r.2.1 I 0=I:=rfl
 refine AN.mkM Tryz.func181 rfl Tryz.ntmps181 rfl rfl (fun w J bb cap=>?_); refine jn ?_; refine g8 ?_; refine jb 4 rfl ?_; refine j5 ?_; refine Tr.frzBL 4 [4] H7 (s:=568) rfl rfl ⟨rfl,trivial⟩ rfl ?_; refine jn ?_; refine g8 ?_; refine tO (CM rfl uu) rfl rfl ?_; refine i6 ?_; refine ja 6 ?_; refine j5 ?_
 refine Tr.for1 (σ:=Nat) [⟨0,true,_,_⟩,⟨2,true,_,_⟩,⟨4,true,_,_⟩,⟨568,true,_,_⟩] [] (fun k=>[⟨6,true,[6],u4 6 0⟩]) (fun k=>[⟨6,[],j1 [b7 (eL eI) r.1.1,kI r.1.2.1,kI r.1.2.2.1,kI r.1.2.2.2,b7 (eL eZ) r.2.1,b7 (eL eZ) r.2.2.1,kB (decide ((i4 r.2.1 I k).lo<0)),b7 (eL eI) (d7 ((i4 r.2.1 I k).lo).natAbs),kB (decide ((i4 r.2.1 I k).hi<0)),b7 (eL eI) (d7 ((i4 r.2.1 I k).hi).natAbs),kB (decide ((i4 r.2.1 I k).den<0)),b7 (eL eI) (d7 ((i4 r.2.1 I k).den).natAbs)]⟩,⟨0,[],j1 [kI 0]⟩]) (fun k=>k<=K) (fun k=>False) (fun k=>K-k) (0) zi (d8.mk (zk) (.e (by rw[hI0,hI]) rfl<|zk) rfl) ?_ ?_
 ·intro k hR0
  refine jn ?_
  have hz:=hsz k hR0
  refine i1 ?_; refine tO (w5 (fun hp=>.nil)) rfl rfl ?_; refine tO (w5 (fun hp=>.nil)) rfl rfl ?_; refine jc (M4 1 zo) ?_; refine ja 7 ?_; refine ja 8 ?_; refine ja 9 ?_; refine t6 ?_; refine jc (QZ r hpo.1) ?_; refine tO (cR rfl uu rfl uu rfl rfl (fun _=>zo)) rfl rfl ?_; refine tO (i9 (fun hp=>kF _) (.a rfl uu<|.nil)) rfl rfl ?_
  rw[hcx]
  refine j5 ?_
  refine Tr.back (e:=eZ) (xs:=cs) iN [⟨0,true,_,_⟩,⟨2,true,_,_⟩,⟨4,true,_,_⟩,⟨6,true,_,_⟩,⟨7,true,_,_⟩,⟨8,true,_,_⟩,⟨9,true,_,_⟩,⟨24,true,_,_⟩,⟨568,true,_,_⟩] [6,7,8,9,0] (fun j=>[⟨6,[],j1 [b7 (eL eI) r.1.1,kI r.1.2.1,kI r.1.2.2.1,kI r.1.2.2.2,b7 (eL eZ) r.2.1,b7 (eL eZ) r.2.2.1,kB (decide ((i4 r.2.1 I k).lo<0)),b7 (eL eI) (d7 ((i4 r.2.1 I k).lo).natAbs),kB (decide ((i4 r.2.1 I k).hi<0)),b7 (eL eI) (d7 ((i4 r.2.1 I k).hi).natAbs),kB (decide ((i4 r.2.1 I k).den<0)),b7 (eL eI) (d7 ((i4 r.2.1 I k).den).natAbs)]⟩,⟨7,[],j1 [kB (decide ((p6 (i4 r.2.1 I k) cs j).1<0)),b7 (eL eI) (d7 ((p6 (i4 r.2.1 I k) cs j).1).natAbs)]⟩,⟨8,[],j1 [kB (decide ((p6 (i4 r.2.1 I k) cs j).2.1<0)),b7 (eL eI) (d7 ((p6 (i4 r.2.1 I k) cs j).2.1).natAbs)]⟩,⟨9,[],j1 [kB (decide ((p6 (i4 r.2.1 I k) cs j).2.2<0)),b7 (eL eI) (d7 ((p6 (i4 r.2.1 I k) cs j).2.2).natAbs)]⟩,⟨0,[],j1 [kI 0]⟩]) (fun j=>[⟨6,[],j1 [b7 (eL eI) r.1.1,kI r.1.2.1,kI r.1.2.2.1,kI r.1.2.2.2,b7 (eL eZ) r.2.1,b7 (eL eZ) r.2.2.1,kB (decide ((i4 r.2.1 I k).lo<0)),b7 (eL eI) (d7 ((i4 r.2.1 I k).lo).natAbs),kB (decide ((i4 r.2.1 I k).hi<0)),b7 (eL eI) (d7 ((i4 r.2.1 I k).hi).natAbs),kB (decide ((i4 r.2.1 I k).den<0)),b7 (eL eI) (d7 ((i4 r.2.1 I k).den).natAbs)]⟩,⟨7,[],j1 [kB (decide ((p6 (i4 r.2.1 I k) cs j).1<0)),b7 (eL eI) (d7 ((p6 (i4 r.2.1 I k) cs j).1).natAbs)]⟩,⟨8,[],j1 [kB (decide ((p6 (i4 r.2.1 I k) cs j).2.1<0)),b7 (eL eI) (d7 ((p6 (i4 r.2.1 I k) cs j).2.1).natAbs)]⟩,⟨9,[],j1 [kB (decide ((p6 (i4 r.2.1 I k) cs j).2.2<0)),b7 (eL eI) (d7 ((p6 (i4 r.2.1 I k) cs j).2.2).natAbs)]⟩,⟨0,[],j1 [kI 0]⟩]) (fun j=>True) (fun j=>False) (d8.mk (.k rfl rfl<|.k rfl rfl<|.k rfl rfl<|.k rfl rfl<|.k rfl rfl<|.k rfl rfl<|.k rfl rfl<|.k rfl rfl<|.k rfl rfl<|.nil) (.k rfl<|.conv (QO (by rw[MS])) rfl<|.conv (QO (by rw[MS])) rfl<|.conv (W7 (Z0 (by rw[MS]))) rfl<|.k rfl<|.nil) rfl) rfl rfl (fun _=>rfl) (fun _=>rfl) (fun _=>inferInstance) (fun _=>inferInstance) rfl zi ?_ ?_ ?_
  ·intro j hk24 hR24 l24 w24 J24 b24 bks24
   refine jn ?_
   have hb:=RV (A:=73000) (C:=540) hz.1 hz.2.1 hz.2.2 hcd (k:=j) zo
   have hj5:j*(73000+1)<=4*73001:=Nat.mul_le_mul zo zo
   have hj6:j*73000<=4*73000:=Nat.mul_le_mul zo zo
   have hcj:=hcd (cs.length-1-j)
   have hm1:=u7 (p6 (i4 r.2.1 I k) cs j).1 (i4 r.2.1 I k).lo
   have hm2:=u7 (p6 (i4 r.2.1 I k) cs j).1 (i4 r.2.1 I k).hi
   have hm3:=u7 (p6 (i4 r.2.1 I k) cs j).2.1 (i4 r.2.1 I k).lo
   have hm4:=u7 (p6 (i4 r.2.1 I k) cs j).2.1 (i4 r.2.1 I k).hi
   have hm5:=u7 (p6 (i4 r.2.1 I k) cs j).2.2 (i4 r.2.1 I k).den
   have hm6:=u7 (b6 cs (cs.length-1-j)) ((p6 (i4 r.2.1 I k) cs j).2.2*(i4 r.2.1 I k).den)
   have hco:∀x∈([(p6 (i4 r.2.1 I k) cs j).1*(i4 r.2.1 I k).lo,(p6 (i4 r.2.1 I k) cs j).1*(i4 r.2.1 I k).hi,(p6 (i4 r.2.1 I k) cs j).2.1*(i4 r.2.1 I k).lo,(p6 (i4 r.2.1 I k) cs j).2.1*(i4 r.2.1 I k).hi]:List Int),dl x<=800000:=fun x hx=>by simp only[List.mem_cons,List.not_mem_nil,or_false] at hx; rcases hx with rfl | rfl | rfl | rfl<;>omega
   refine i6 ?_; refine ja 11 ?_; refine g8 ?_; refine g6.asg (fun w1024 J1024 b1024=>?_); refine jn ?_; refine g8 ?_; refine Tr.draw 15 p7 (by kernel_rfl) ?_; refine j5 ?_; refine jd (I3 (p6 (i4 r.2.1 I k) cs j).1 (i4 r.2.1 I k).lo zo zo) ?_; refine j5 ?_; refine jd (I3 (p6 (i4 r.2.1 I k) cs j).1 (i4 r.2.1 I k).hi zo zo) ?_; refine j5 ?_; refine jd (I3 (p6 (i4 r.2.1 I k) cs j).2.1 (i4 r.2.1 I k).lo zo zo) ?_; refine i1 ?_; refine jc (I3 (p6 (i4 r.2.1 I k) cs j).2.1 (i4 r.2.1 I k).hi zo zo) ?_
   refine tO (AA eZ (fun hp=>.cons rfl<|.cons rfl<|.cons rfl<|.cons rfl<|.nil) rfl rfl rfl rfl) rfl rfl ?_; refine j3 ?_; refine jc (I3 (p6 (i4 r.2.1 I k) cs j).2.2 (i4 r.2.1 I k).den zo zo) ?_; refine j8 ?_; refine jc (I3 (b6 cs (cs.length-1-j)) ((p6 (i4 r.2.1 I k) cs j).2.2*(i4 r.2.1 I k).den) zo zo) ?_; refine j5 ?_; refine Tr.draw 7 p7 (by kernel_rfl) ?_; refine i6 ?_; refine jd (jY [(p6 (i4 r.2.1 I k) cs j).1*(i4 r.2.1 I k).lo,(p6 (i4 r.2.1 I k) cs j).1*(i4 r.2.1 I k).hi,(p6 (i4 r.2.1 I k) cs j).2.1*(i4 r.2.1 I k).lo,(p6 (i4 r.2.1 I k) cs j).2.1*(i4 r.2.1 I k).hi] 203 (by simp) (fun x y hx hy=>XL x y (hco x hx) (hco y hy))) ?_
   refine i6 ?_; refine rO (i9 (fun hp=>S5 (R0 [(p6 (i4 r.2.1 I k) cs j).1*(i4 r.2.1 I k).lo,(p6 (i4 r.2.1 I k) cs j).1*(i4 r.2.1 I k).hi,(p6 (i4 r.2.1 I k) cs j).2.1*(i4 r.2.1 I k).lo,(p6 (i4 r.2.1 I k) cs j).2.1*(i4 r.2.1 I k).hi] 3) ((b6 cs (cs.length-1-j))*((p6 (i4 r.2.1 I k) cs j).2.2*(i4 r.2.1 I k).den)) (Nat.le_trans (hco _ (JO (by simp)).1) zo) zo) (.a rfl uu<|.se rfl uu rfl rfl<|.nil)) rfl rfl ?_; refine i6 ?_; refine jd (jX [(p6 (i4 r.2.1 I k) cs j).1*(i4 r.2.1 I k).lo,(p6 (i4 r.2.1 I k) cs j).1*(i4 r.2.1 I k).hi,(p6 (i4 r.2.1 I k) cs j).2.1*(i4 r.2.1 I k).lo,(p6 (i4 r.2.1 I k) cs j).2.1*(i4 r.2.1 I k).hi] 203 (by simp) (fun x y hx hy=>XL x y (hco x hx) (hco y hy))) ?_
   refine g8 ?_; refine tO (i9 (fun hp=>S5 (R1 [(p6 (i4 r.2.1 I k) cs j).1*(i4 r.2.1 I k).lo,(p6 (i4 r.2.1 I k) cs j).1*(i4 r.2.1 I k).hi,(p6 (i4 r.2.1 I k) cs j).2.1*(i4 r.2.1 I k).lo,(p6 (i4 r.2.1 I k) cs j).2.1*(i4 r.2.1 I k).hi] 3) ((b6 cs (cs.length-1-j))*((p6 (i4 r.2.1 I k) cs j).2.2*(i4 r.2.1 I k).den)) (Nat.le_trans (hco _ (JO (by simp)).2) zo) zo) (.a rfl uu<|.se rfl uu rfl rfl<|.nil)) rfl rfl ?_; refine i1 ?_; exact g6.rnd trivial (d8.mk (zk) (.k rfl<|.conv (W7 (Z0 (by rw[MR zo,bK.1]))) rfl<|.conv (W7 (Z0 (by rw[MR zo,bK.2]))) rfl<|.conv (W7 (Z0 (by rw[MR zo]))) rfl<|zk) rfl)
  ·intro hE24
   refine je ?_
   have hbe:=RV (A:=73000) (C:=540) hz.1 hz.2.1 hz.2.2 hcd (k:=cs.length) (Nat.le_refl _)
   have hj7:cs.length*(73000+1)<=4*73001:=Nat.mul_le_mul zo zo
   have hj8:cs.length*73000<=4*73000:=Nat.mul_le_mul zo zo
   have hvd:=hvb.d
   refine j5 ?_; refine Tr.draw 7 p7 (by kernel_rfl) ?_; refine l5 ?_; refine jd (I3 (p6 (i4 r.2.1 I k) cs cs.length).2.2 v.2 zo zo) ?_; refine i6 ?_; refine b8.loanLK (u:=0) (mK (enc (i4 r.2.1 I k) cs).1 (enc (i4 r.2.1 I k) cs).2.1 ((p6 (i4 r.2.1 I k) cs cs.length).2.2*v.2) 0) rfl (.se rfl rfl (by rw[ZJ]; rfl)<|.se rfl rfl (by rw[ZJ]; rfl)<|.a rfl<|.nil) rfl rfl rfl ?_; refine g8 ?_; refine Tr.cnd rfl ?_ ?_
   ·intro h10
    try simp only[decide_eq_true_eq,ne_eq] at h10
    have hsk:=hsg k h10
    refine l5 ?_; refine f0.mk ?_; exact f0.loan0 (fn:=Tryz.f181) (s:=568) rfl rfl (by rw[hsk])
   ·intro h10
    try simp only[decide_eq_false_iff_not,ne_eq,Classical.not_not] at h10
    refine l7 ?_; refine Tr.ent (S':=[⟨0,true,_,_⟩,⟨2,true,_,_⟩,⟨4,true,_,_⟩,⟨7,true,_,_⟩,⟨8,true,_,_⟩,⟨9,true,_,_⟩,⟨24,true,_,_⟩,⟨568,true,_,_⟩,⟨59,true,_,_⟩,⟨60,true,_,_⟩,⟨61,true,_,_⟩,⟨62,true,_,_⟩,⟨63,true,_,_⟩,⟨64,true,_,_⟩,⟨65,true,_,_⟩,⟨66,true,_,_⟩,⟨67,true,_,_⟩]) (M':=[⟨7,_,_⟩,⟨8,_,_⟩,⟨9,_,_⟩,⟨0,_,_⟩]) (d8.mk (zk) (zk) rfl) ?_; refine i6 ?_; refine ja 6 ?_; refine i1 ?_; refine b8.mutP (XP (b7 (eL eI) r.1.1) (kI r.1.2.1) (kI r.1.2.2.1) (kI r.1.2.2.2) (b7 (eL eZ) r.2.2.1) r.2.1 (i4 r.2.1 I k) 73000 zo hpo.2 hz.1 hz.2.1 hz.2.2 zo) rfl (.nil) (fun g b cap o h=>W8 (g:=g) (g':=g1 g.J b cap) rfl h) (fun {J b cap o g} h=>W8 (g:=g1 J b cap) (g':=⟨J,g.M⟩) rfl h) rfl ?_
    refine i6 ?_; exact g6.lp (k+1) (by have:k≠K:=fun e=>htl k zo h10; omega) (by have:k≠K:=fun e=>htl k zo h10; omega) (d8.mk (zk) (.e (by rfl) rfl<|.e (by rw[h10]) rfl<|.nil) rfl)
  ·intro j hk24 hX24
   exact absurd hX24 id
 ·intro k hE0
  exact hE0.elim

end Go.Fl

/- Contracts: signs and comparisons of numbers of any field. -/
namespace Go.Fl
open Go Go.Proofs
open b8 renaming op->tO
open i7 renaming op->rO
set_option maxRecDepth 100000

theorem uX {p:List Int} {I:Iv} {v:m8} (hf:Y4 p I) (hv:A7 p v) (hb:E7 540 v) (h:O0 v.1≠true):∃K,(∀k,k<=K->dl (i4 p (i4 p I 64) k).lo<=73000/\dl (i4 p (i4 p I 64) k).hi<=73000/\dl (i4 p (i4 p I 64) k).den<=73000)/\(∀k,K<=k->N0 (enc (i4 p (i4 p I 64) k) (v.1.take (p.length-1))).1 (enc (i4 p (i4 p I 64) k) (v.1.take (p.length-1))).2.1 0≠0)/\∀k,N0 (enc (i4 p (i4 p I 64) k) (v.1.take (p.length-1))).1 (enc (i4 p (i4 p I 64) k) (v.1.take (p.length-1))).2.1 0≠0->N0 (enc (i4 p (i4 p I 64) k) (v.1.take (p.length-1))).1 (enc (i4 p (i4 p I 64) k) (v.1.take (p.length-1))).2.1 0=H2 p I v:=by
 obtain ⟨h1,h2⟩:=tB hf.three hv h
 have h5:=hf.len4
 obtain ⟨K,q1,q2,q3⟩:=hf.bound (M:=540) zo h2 (fun c hc=>by
  obtain ⟨i,hi,rfl⟩:=List.mem_iff_getElem.1 hc
  have e:(v.1.take (p.length-1))[i]=b6 v.1 i:=by
   rw[List.length_take] at hi
   rw[List.getElem_take]
   have:i<v.1.length:=by omega
   simp[b6,this]
  rw[e]; exact hb.c i) zo zo
 refine ⟨K-64,fun k hk=>?_,fun k hk=>?_,fun k hk=>?_⟩
 ·rw[EZ]; exact q3 (64+k) zo
 ·rw[EZ]; exact uF (q2 (64+k) zo)
 ·rw[uE (Z4 hf.iv) hk,uR hf.iv]
  unfold H2
  rw[if_neg h]
theorem XO (r:z7) (I:Iv) (v:m8) (hf:Y4 r.2.1 I) (hI:i4 r.2.1 I 64=⟨r.2.2.2.1,r.2.2.2.2.1,r.2.2.2.2.2⟩) (hv:A7 r.2.1 v) (hb:E7 540 v):Ct Tryz.prog 139 [r5 v9 r,b7 H7 v] (kI (H2 r.2.1 I v)):=by
 have hl:v.1.length=4:=hv.len
 refine Ct.mk Tryz.func139 rfl Tryz.ntmps139 rfl (fun w J=>?_); refine g8 ?_; refine jb 3 rfl ?_; refine j8 ?_; refine tO (i9 (fun hp=>YG v.1 v.2) (.se rfl uu rfl (DK hl)<|.nil)) rfl rfl ?_; refine g8 ?_; refine Tr.cnd rfl ?_ ?_
 ·intro h1
  have hs:H2 r.2.1 I v=s7 (b6 v.1 0) 0:=if_pos h1
  refine j5 ?_; refine tO (BG rfl uu rfl uu (fun _=>by decide)) rfl rfl ?_; refine tO (HN (0) (fun _=>zo) (fun _=>zo) rfl uu) rfl rfl ?_; refine jc (Y9 (b6 v.1 0)) ?_; refine n7 ?_; exact f0.res1 (fn:=Tryz.f139) rfl (.i rfl (by rw[hs])<|.nil)
 ·intro h1
  obtain ⟨K,k1,k2,k3⟩:=uX hf hv hb (by rw[h1]; decide)
  refine i1 ?_; refine ja 5 ?_; refine j8 ?_; refine tO (DS (.cons rfl uu<|.nil)) rfl rfl ?_; refine b8.loanL (u:=5) (kL r v (i4 r.2.1 I 64) (v.1.take (r.2.1.length-1)) K (H2 r.2.1 I v) hf.pol hI rfl hl hb k1 k2 k3) (.a rfl<|.se rfl rfl (DK hl)<|.a rfl<|.nil) rfl rfl ?_; refine l7 ?_; exact f0.res1 (fn:=Tryz.f139) rfl (.i rfl (by rfl)<|.nil)

theorem kV (r:z7) (I:Iv) (x:B7) (hf:Y4 r.2.1 I) (hI:i4 r.2.1 I 64=⟨r.2.2.2.1,r.2.2.2.2.1,r.2.2.2.2.2⟩) (hx:C1 250 x):Ct Tryz.prog 82 [r5 v9 r,b7 m9 x] (kI (H2 r.2.1 I (o0 r.2.1 x))):=by
 have hpo:=hf.pol
 have nx:=Y1 hpo hx
 have rx:=KJ (p:=r.2.1) (x:=x) hpo
 refine Ct.mk Tryz.func82 rfl Tryz.ntmps82 rfl (fun w J=>?_); refine g8 ?_; refine jb 3 rfl ?_; refine j8 ?_; refine tO (DT rfl uu) rfl rfl ?_; refine g8 ?_; refine Tr.cnd rfl ?_ ?_
 ·intro h1
  cases h1
 ·intro h1
  refine j8 ?_; refine jc (Y8 r x 250 hpo hx zo) ?_; refine jc (XO r I (o0 r.2.1 x) hf hI rx (nx.mono zo)) ?_; refine i1 ?_
  exact f0.res1 (fn:=Tryz.f82) rfl (.i rfl zi<|.nil)

theorem kR (r:z7) (I:Iv) (x y:B7) (hf:Y4 r.2.1 I) (hI:i4 r.2.1 I 64=⟨r.2.2.2.1,r.2.2.2.2.1,r.2.2.2.2.2⟩) (hx:C1 250 x) (hy:C1 250 y):Ct Tryz.prog 83 [r5 v9 r,b7 m9 x,b7 m9 y] (kI (H2 r.2.1 I (J6 (o0 r.2.1 x) (o0 r.2.1 y)))):=by
 have hpo:=hf.pol
 have hk:250<=100000:=by omega
 have nx:=Y1 hpo hx
 have ny:=Y1 hpo hy
 have nn:=TO ny
 have nz:=LC nx nn
 have rx:=KJ (p:=r.2.1) (x:=x) hpo
 have ry:=KJ (p:=r.2.1) (x:=y) hpo
 have rz:=eV rx ry
 refine Ct.mk Tryz.func83 rfl Tryz.ntmps83 rfl (fun w J=>?_); refine g8 ?_; refine jb 4 rfl ?_; refine jb 5 rfl ?_; refine j8 ?_; refine tO (DT rfl uu) rfl rfl ?_; refine g8 ?_; refine Tr.cnd rfl ?_ ?_
 ·intro h1
  cases h1
 ·intro h1
  refine j5 ?_; refine Tr.draw 9 p7 (by kernel_rfl) ?_; refine j5 ?_; refine jd (Y8 r x 250 hpo hx zo) ?_; refine g8 ?_; refine jd (Y8 r y 250 hpo hy zo) ?_; refine jd (RD (o0 r.2.1 y).1 (o0 r.2.1 y).2) ?_; refine jd (LZ (o0 r.2.1 x) ((o0 r.2.1 y).1.map (fun z=>-z),(o0 r.2.1 y).2) (fun i=>Nat.le_trans (nx.c i) zo) (fun i=>Nat.le_trans (nn.c i) zo) (Nat.le_trans nx.d zo) (Nat.le_trans nn.d zo) nx.pos nn.pos) ?_; refine i6 ?_; refine jc (XO r I (H3 (o0 r.2.1 x) ((o0 r.2.1 y).1.map (fun z=>-z),(o0 r.2.1 y).2)) hf hI rz (nz.mono zo)) ?_
  refine i1 ?_
  exact f0.res1 (fn:=Tryz.f83) rfl (.i rfl zi<|.nil)

end Go.Fl

/- Divisors of polynomials with the leading coefficient 1, as the program and the reference look for them. No program in sight. -/
namespace Go.Fl
open Go
def N4 (p:List Int) (x:Int):Int:=p.foldr (fun c v=>v*x+c) 0
theorem SB {c x:Int} {p:List Int}:N4 (c::p) x=N4 p x*x+c:=rfl
def U2 (p:List Int) (x:Int) (k:Nat):Int:=N4 (p.drop (p.length-k)) x
theorem SD {p:List Int} {x:Int}:U2 p x 0=0:=by unfold U2; rw[Nat.sub_zero,List.drop_length]; rfl
theorem SC {p:List Int} {x:Int} {k:Nat} (hk:k<p.length):U2 p x (k+1)=U2 p x k*x+b6 p (p.length-1-k):=by unfold U2; rw[RS hk]; rfl
theorem oF {p:List Int} {x:Int}:U2 p x p.length=N4 p x:=by unfold U2; rw[Nat.sub_self,List.drop_zero]
theorem ZP {p:List Int} {x:Int} (hp:∀i,(b6 p i).natAbs<=1000) (hx:x.natAbs<=1001):∀{k:Nat},k<=p.length->(U2 p x k).natAbs<=1002 ^ k
 | 0,_=>by rw[SD]; decide
 | k+1,hk=>by
  have h1:=ZP hp hx (k:=k) zo
  rw[SC zo]
  have h2:=hp (p.length-1-k)
  have h3:(U2 p x k*x).natAbs<=1002 ^ k*1001:=T3 h1 hx
  have h4:1002 ^ (k+1)=1002 ^ k*1001+1002 ^ k:=by rw[Nat.pow_succ]; omega
  by_cases h:k=0
  ·subst h
   rw[SD,Int.zero_mul,Int.zero_add]
   omega
  ·have h5:1002<=1002 ^ k:=Nat.le_self_pow h 1002
   omega
theorem ZO {x:Int}:∀{p:List Int},C5 x 1 p=(N4 p x,1)
 | []=>rfl
 | c::p=>by rw[C5,ZO (p:=p),SB]; simp
theorem oE {p:List Int} {x:Int} (_:1<=p.length):N4 p x=DL (lP p) (p.length-1) x:=by
 have h1:=(NA (a:=x) (b:=1) (cs:=p)).2
 rw[ZO] at h1
 simp only at h1
 rw[h1]
 unfold hm DL
 refine O2 fun i _=>?_
 rw[Int.one_pow,Int.mul_one]
def EJ (p:List Int):Prop:=p.length≠2/\((∃x,N4 p x=0)\/(p.length=5/\∃a b c d:Int,b6 p 3=a+c/\b6 p 2=b+d+a*c/\b6 p 1=a*d+b*c/\b6 p 0=b*d))
open Classical in
noncomputable def CR (p:List Int):Bool:=if EJ p then true else false
theorem OT {p:List Int} (h:EJ p):CR p=true:=if_pos h
theorem OS {p:List Int} (h:¬EJ p):CR p=false:=if_neg h
theorem tC {p:List Int} (h3:3<=p.length) (h:¬EJ p):¬EK (lP p) (p.length-1):=by
 have e:∀i,i<p.length->lP p i=b6 p i:=fun i hi=>if_pos hi
 rintro (⟨x,hx⟩ | ⟨h4,a,b,c,d,q3,q2,q1,q0⟩)
 ·exact h ⟨by omega,.inl ⟨x,by rw[oE zo]; exact hx⟩⟩
 ·exact h ⟨by omega,.inr ⟨by omega,a,b,c,d,by rw[<- e 3 zo]; exact q3,by rw[<- e 2 zo]; exact q2,by rw[<- e 1 zo]; exact q1,by rw[<- e 0 zo]; exact q0⟩⟩
theorem tL {p:List Int} {x:Int} (hp:1<=p.length) (h:N4 p x=0):x∣b6 p 0:=by
 match p,hp with
 | c::p,_ =>
  rw[SB] at h
  show x∣c
  exact ⟨-N4 p x,by rw[Int.mul_neg,Int.mul_comm]; omega⟩
theorem tM {p:List Int} (hp:1<=p.length):N4 p 0=b6 p 0:=by
 match p,hp with
 | c::p,_=>rw[SB,Int.mul_zero,Int.zero_add]; rfl
theorem MO {x y:Int} (h:x∣y) (hy:y≠0):x≠0/\x.natAbs<=y.natAbs:=by
 obtain ⟨q,rfl⟩:=h
 refine ⟨fun e=>hy (by rw[e,Int.zero_mul]),?_⟩
 rw[Int.natAbs_mul]
 exact Nat.le_mul_of_pos_right _ (by have:q≠0:=fun e=>hy (by rw[e,Int.mul_zero]); omega)
def V7 (n:Int) (q:Int->Bool) (m:Nat):Prop:=∃d:Nat,1<=d/\d<m/\(d:Int)∣n/\(q d=true\/q (-(d:Int))=true)
theorem ZH {n:Int} {q:Int->Bool} (hn:n≠0):V7 n q (n.natAbs+1)↔∃x:Int,x∣n/\q x=true:=by
 constructor
 ·rintro ⟨d,h1,h2,h3,h4 | h4⟩
  ·exact ⟨d,h3,h4⟩
  ·exact ⟨-d,Int.neg_dvd.2 h3,h4⟩
 ·rintro ⟨x,h1,h2⟩
  obtain ⟨h3,h4⟩:=MO h1 hn
  refine ⟨x.natAbs,by omega,by omega,Int.ofNat_dvd_left.2 (Int.natAbs_dvd_natAbs.2 h1),?_⟩
  rcases Int.natAbs_eq x with e | e
  ·left; rw[<- e]; exact h2
  ·right; rw[<- e]; exact h2
theorem vE {b d:Int} (hb:b≠0) (hd:d≠0):b.natAbs+d.natAbs<=(b*d).natAbs+1:=by
 rw[Int.natAbs_mul]
 obtain ⟨m,hm⟩:∃m,b.natAbs=m+1:=⟨b.natAbs-1,by omega⟩
 obtain ⟨n,hn⟩:∃n,d.natAbs=n+1:=⟨d.natAbs-1,by omega⟩
 rw[hm,hn,Nat.succ_mul,Nat.mul_succ]
 omega
theorem sU {p2 p3 a b d:Int} (h2:p2.natAbs<=1000) (h3:p3.natAbs<=1000) (hb:b≠0) (hd:d≠0) (h0:(b*d).natAbs<=1000) (h:b+d+a*(p3-a)=p2):a.natAbs<=2001:=by
 have h1:=vE hb hd
 by_cases e:p3-a=0
 ·omega
 ·have h4:(a*(p3-a)).natAbs<=2001:=by omega
  rw[Int.natAbs_mul] at h4
  have:=Nat.le_mul_of_pos_right a.natAbs (show 0<(p3-a).natAbs by omega)
  omega
def GA (p:List Int) (b:Int):Prop:=∃a d:Int,b6 p 0=b*d/\a*(d-b)=b6 p 1-b*b6 p 3/\b+d+a*(b6 p 3-a)=b6 p 2
theorem sX {p:List Int} (_:b6 p 0≠0):(∃b,b∣b6 p 0/\GA p b)↔∃a b c d:Int,b6 p 3=a+c/\b6 p 2=b+d+a*c/\b6 p 1=a*d+b*c/\b6 p 0=b*d:=by
 constructor
 ·rintro ⟨b,_,a,d,h1,h2,h3⟩
  refine ⟨a,b,b6 p 3-a,d,by omega,h3.symm,?_,h1⟩
  rw[Int.mul_sub] at h2 ⊢
  rw[Int.mul_comm b a]
  omega
 ·rintro ⟨a,b,c,d,h3,h2,h1,h0'⟩
  refine ⟨b,⟨d,h0'⟩,a,d,h0',?_,?_⟩
  ·rw[h1,h3,Int.mul_sub,Int.mul_add,Int.mul_comm b a]; omega
  ·rw[h2,h3,show a+c-a=c by omega]
open Classical in
noncomputable def AG (p:List Int) (b:Int):Bool:=if GA p b then true else false
theorem UI {p:List Int} {b:Int}:AG p b=true↔GA p b:=by unfold AG; split<;>simp_all
theorem dF {p:List Int} {b:Int} (h:¬GA p b):AG p b=false:=if_neg h
section
variable {p:List Int} {b d:Int}
theorem sY (hb:b≠0) (hd:b6 p 0=b*d) (hne:d-b≠0):AG p b=(decide ((b6 p 1-b*b6 p 3).tmod (d-b)=0)&&decide (b+d+(b6 p 1-b*b6 p 3).tdiv (d-b)*(b6 p 3-(b6 p 1-b*b6 p 3).tdiv (d-b))=b6 p 2)):=by
 have key:GA p b↔((b6 p 1-b*b6 p 3).tmod (d-b)=0/\b+d+(b6 p 1-b*b6 p 3).tdiv (d-b)*(b6 p 3-(b6 p 1-b*b6 p 3).tdiv (d-b))=b6 p 2):=by
  constructor
  ·rintro ⟨a,d',h1,h2,h3⟩
   have e:d'=d:=by
    have:b*d'=b*d:=by rw[<- h1,<- hd]
    exact Int.eq_of_mul_eq_mul_left hb this
   subst e
   rw[<- h2,Int.mul_tmod_left,Int.mul_tdiv_cancel _ hne]
   exact ⟨rfl,h3⟩
  ·rintro ⟨h1,h2⟩
   refine ⟨_,d,hd,?_,h2⟩
   have:=Int.mul_tdiv_add_tmod (b6 p 1-b*b6 p 3) (d-b)
   rw[h1,Int.add_zero,Int.mul_comm] at this
   exact this
 rw[<- Bool.decide_and,Bool.eq_iff_iff,UI,decide_eq_true_eq]
 exact key
theorem sV (hb:b≠0) (hd:b6 p 0=b*b) (h:b6 p 1≠b*b6 p 3):AG p b=false:=by
 refine dF ?_
 rintro ⟨a,d',h1,h2,h3⟩
 have e:d'=b:=Int.eq_of_mul_eq_mul_left hb (by rw[<- h1,<- hd])
 subst e
 rw[Int.sub_self,Int.mul_zero] at h2
 omega
theorem sW {a:Int} (hd:b6 p 0=b*b) (h:b6 p 1=b*b6 p 3) (ha:a*a-b6 p 3*a+b6 p 2-2*b=0):AG p b=true:=by
 refine UI.2 ⟨a,b,hd,by rw[Int.sub_self,Int.mul_zero]; omega,?_⟩
 rw[Int.mul_sub,Int.mul_comm a (b6 p 3)]
 omega
theorem sZ (hb:b≠0) (hd:b6 p 0=b*b) (h0:(b6 p 0).natAbs<=1000) (h2:(b6 p 2).natAbs<=1000) (h3:(b6 p 3).natAbs<=1000) (h:∀a:Int,-3000<=a->a<=3000->a*a-b6 p 3*a+b6 p 2-2*b≠0):AG p b=false:=by
 refine dF ?_
 rintro ⟨a,d',h1,_,q3⟩
 have e:d'=b:=Int.eq_of_mul_eq_mul_left hb (by rw[<- h1,<- hd])
 subst e
 have hbd:=sU h2 h3 hb hb (by rw[<- h1]; exact h0) q3
 refine h a zo zo ?_
 rw[Int.mul_sub,Int.mul_comm a (b6 p 3)] at q3
 omega
end
theorem tD {p:List Int} (hl:3<=p.length) (h0:b6 p 0≠0):EJ p↔V7 (b6 p 0) (fun d=>decide (N4 p d=0)) ((b6 p 0).natAbs+1)\/(p.length=5/\V7 (b6 p 0) (AG p) ((b6 p 0).natAbs+1)):=by
 rw[ZH h0,ZH h0]
 have e1:(∃x,x∣b6 p 0/\decide (N4 p x=0)=true)↔∃x,N4 p x=0:=⟨fun ⟨x,_,h⟩=>⟨x,of_decide_eq_true h⟩,fun ⟨x,h⟩=>⟨x,tL zo h,decide_eq_true h⟩⟩
 have e2:(∃x,x∣b6 p 0/\AG p x=true)↔∃b,b∣b6 p 0/\GA p b:=exists_congr fun x=>and_congr_right fun _=>UI
 rw[e1,e2,sX h0]
 unfold EJ
 constructor
 ·rintro ⟨_,h⟩; exact h
 ·intro h; exact ⟨by omega,h⟩
end Go.Fl

/- Chains of remainders (Sturm), as the program and the reference compute them: one root between two fractions means different signs. No program in sight. -/
namespace Go.Fl
open Go
theorem DO {xs:List Int} {i:Nat}:lP xs i=b6 xs i:=by
 unfold lP
 split
 ·rfl
 ·rename_i h; rw[w4 zo]; rfl
def G1 (xs:List Int):Prop:=j9 xs=xs
theorem vO {xs:List Int}:G1 (j9 xs):=by
 by_cases h:j9 xs=[]
 ·unfold G1; rw[h]; rfl
 ·obtain ⟨ys,y,hy⟩:∃ys y,j9 xs=ys++[y]:=⟨_,_,(List.dropLast_concat_getLast h).symm⟩
  have hl:=HZ h
  have hy0:y≠0:=by
   have e:(j9 xs).getLast h=y:=by simp[hy]
   rw[<- e]; exact hl
  unfold G1
  rw[hy]; exact VB hy0
theorem G1.top {xs:List Int} (h:G1 xs) (h0:xs≠[]):1<=xs.length/\b6 xs (xs.length-1)≠0:=by
 have hl:1<=xs.length:=List.length_pos_iff.2 h0
 refine ⟨hl,?_⟩
 have h1:j9 xs≠[]:=by rw[h]; exact h0
 have h2:=HZ h1
 have e:(j9 xs).getLast h1=b6 xs (xs.length-1):=by
  simp only[show j9 xs=xs from h]
  rw[List.getLast_eq_getElem]
  have:xs.length-1<xs.length:=by omega
  simp[b6,this]
 rw[<- e]; exact h2
theorem G1.neg {xs:List Int} (h:G1 xs):G1 (xs.map fun z=>-z):=by unfold G1; rw[VA,h]
theorem fM {xs:List Int} (h:b6 xs (xs.length-1)≠0):G1 xs:=by
 unfold G1
 have:=EB (xs:=xs) (m:=xs.length) (Nat.le_refl _) (fun i h1 h2=>by omega) (.inr h)
 rw[this,List.take_length]
def L9 (q r:List Int):List Int:=l6 r.length fun i=>b6 r i*(b6 q (q.length-1)*b6 q (q.length-1))+(if r.length-q.length<=i then -(b6 r (r.length-1)*b6 q (q.length-1)*b6 q (i-(r.length-q.length))) else 0)
def K9 (q r:List Int):List Int:=j9 (L9 q r)
theorem IQ {q r:List Int}:(L9 q r).length=r.length:=q9
theorem iF {q r:List Int} {i:Nat} (hq:1<=q.length) (hr:q.length<=r.length) (hi:r.length-1<=i):b6 (L9 q r) i=0:=by
 by_cases h:i<r.length
 ·have e:i=r.length-1:=by omega
  subst e
  unfold L9
  rw[s9 h,if_pos zo,show r.length-1-(r.length-q.length)=q.length-1 by omega,Int.mul_assoc]; omega
 ·rw[w4 (by rw[IQ]; omega)]; rfl
theorem GG {q r:List Int} (hq:1<=q.length) (hr:q.length<=r.length):(K9 q r).length<=r.length-1:=fQ fun _ hi=>iF hq hr hi
def E9 (q:List Int):Nat->List Int->List Int
 | 0,r=>r
 | f+1,r=>if r.length<q.length then r else E9 q f (K9 q r)
theorem QC {q:List Int} (hq:1<=q.length):∀{f:Nat} {r:List Int},r.length<=f->E9 q f r=E9 q r.length r
 | 0,r,h=>by rw[show r.length=0 by omega]
 | f+1,r,h=>by
  by_cases hl:r.length<q.length
  ·rw[E9,if_pos hl]
   cases e:r.length with
   | zero=>rfl
   | succ m=>rw[E9,if_pos hl]
  ·have h1:=GG hq (r:=r) zo
   obtain ⟨m,hm⟩:∃m,r.length=m+1:=⟨r.length-1,by omega⟩
   rw[hm,E9,E9,if_neg hl,if_neg hl,QC hq (f:=f) zo,QC hq (f:=m) zo]
theorem hZ {q r:List Int} (h:r.length<q.length):E9 q r.length r=r:=by
 cases e:r.length with
 | zero=>rfl
 | succ m=>rw[E9,if_pos h]
theorem iA {q r:List Int} (hq:1<=q.length) (h:q.length<=r.length):E9 q r.length r=E9 q (K9 q r).length (K9 q r):=by
 have h1:=GG hq h
 obtain ⟨m,hm⟩:∃m,r.length=m+1:=⟨r.length-1,by omega⟩
 rw[hm,E9,if_neg zo,QC hq zo]
theorem QB {q:List Int} (hq:1<=q.length) (P:List Int->Prop) (hP:∀r,q.length<=r.length->P r->P (K9 q r)):∀{f:Nat} {r:List Int},r.length<=f->P r->P (E9 q f r)/\(E9 q f r).length<q.length
 | 0,r,h,hr=>⟨hr,by rw[E9]; omega⟩
 | f+1,r,h,hr=>by
  by_cases hl:r.length<q.length
  ·rw[E9,if_pos hl]; exact ⟨hr,hl⟩
  ·have h1:=GG hq (r:=r) zo
   rw[E9,if_neg hl]
   exact QB hq P hP zo (hP r zo hr)
def against (p q:List Int):List Int:=(E9 q p.length p).map fun z=>-z
theorem VY {q r:List Int} {X B:Nat} (hr:∀i,dl (b6 r i)<=X) (hq:∀i,dl (b6 q i)<=B) (i:Nat):dl (b6 (L9 q r) i)<=X+(2*B+1):=by
 by_cases hi:i<r.length
 ·unfold L9
  rw[s9 hi]
  have h1:=hr i
  have h2:=hr (r.length-1)
  have h3:=hq (q.length-1)
  have h4:=hq (i-(r.length-q.length))
  have m1:=u7 (b6 q (q.length-1)) (b6 q (q.length-1))
  have m2:=u7 (b6 r i) (b6 q (q.length-1)*b6 q (q.length-1))
  have m3:=u7 (b6 r (r.length-1)) (b6 q (q.length-1))
  have m4:=u7 (b6 r (r.length-1)*b6 q (q.length-1)) (b6 q (i-(r.length-q.length)))
  split
  ·have:=S7 (b6 r i*(b6 q (q.length-1)*b6 q (q.length-1))) (-(b6 r (r.length-1)*b6 q (q.length-1)*b6 q (i-(r.length-q.length))))
   rw[J5] at this
   omega
  ·rw[Int.add_zero]; omega
 ·rw[w4 (by rw[IQ]; omega)]
  show dl 0<=_
  rw[E2.2 rfl]; omega
theorem QD {p q:List Int} {A B:Nat} (hq:1<=q.length) (hp:G1 p) (hA:∀i,dl (b6 p i)<=A) (hB:∀i,dl (b6 q i)<=B) (h5:p.length<=5):G1 (against p q)/\(against p q).length<q.length/\∀i,dl (b6 (against p q) i)<=A+5*(2*B+1):=by
 obtain ⟨⟨h1,h2⟩,h3⟩:=QB hq (fun r=>G1 r/\r.length<=p.length/\∀i,dl (b6 r i)<=A+(p.length-r.length)*(2*B+1)) (fun r hl ⟨_,hn,hr⟩=>by
  have e:=GG hq hl
  refine ⟨vO,by omega,fun i=>?_⟩
  unfold K9 at e ⊢
  rw[FD]
  have:=VY hr hB i
  have k:=Nat.mul_le_mul_right (2*B+1) (show p.length-r.length+1<=p.length-(j9 (L9 q r)).length by omega)
  rw[Nat.succ_mul] at k
  omega) (f:=p.length) (r:=p) (Nat.le_refl _) ⟨hp,Nat.le_refl _,fun i=>by have:=hA i; omega⟩
 refine ⟨h1.neg,by unfold against; rw[List.length_map]; exact h3,fun i=>?_⟩
 unfold against
 rw[JT,J5]
 have k:=Nat.mul_le_mul_right (2*B+1) (show p.length-(E9 q p.length p).length<=5 by omega)
 have:=h2.2 i
 omega
theorem iE {q r:List Int} (hr:q.length<=r.length):lP (K9 q r)=K7 (b6 q (q.length-1)*b6 q (q.length-1)) (b6 r (r.length-1)*b6 q (q.length-1)) (r.length-q.length) (lP r) (lP q):=by
 funext i
 unfold K7 D3
 rw[DO,DO,DO]
 unfold K9
 rw[FD]
 by_cases hi:i<r.length
 ·unfold L9
  rw[s9 hi,Int.mul_comm (b6 r i)]
  split
  ·rw[Int.sub_eq_add_neg]
  ·rw[Int.mul_zero,Int.sub_zero,Int.add_zero]
 ·rw[w4 (by rw[IQ]; omega),w4 (xs:=r) zo]
  have e:b6 q (i-(r.length-q.length))=0:=w4 zo
  rw[e]
  show (0:Int)=_*0-_
  split<;>simp
theorem L4.neg {p f g:r9} (h:L4 p f g):L4 p (fun i=>-f i) g:=by
 obtain ⟨s,q1,q2,d,h1,h2,h3,h4⟩:=h
 refine ⟨s,fun i=>-1*q1 i,q2,d,h1,fun i hi=>by show -1*q1 i=0; rw[h2 i hi]; rfl,h3,fun k=>?_⟩
 have e1:(fun i=>-f i)=fun i=>-1*f i:=by funext i; omega
 rw[e1,GK,IX,h4 k]
 show _=-1*(-1*o5 q1 f k)+_
 omega
theorem L4.against {p:r9} {a b:List Int} (hb:1<=b.length) (h0:b6 b (b.length-1)≠0) (h:L4 p (lP a) (lP b)):L4 p (lP (Go.Fl.against a b)) (lP b):=by
 have:=(QB hb (fun r=>L4 p (lP r) (lP b)) (fun r hl hr=>by rw[iE hl]; exact hr.stp (Int.mul_ne_zero h0 h0)) (f:=a.length) (r:=a) (Nat.le_refl _) h).1.neg
 have e:lP (Go.Fl.against a b)=fun i=>-lP (E9 b a.length a) i:=by
  funext i
  rw[DO,DO]
  unfold Go.Fl.against
  exact JT
 rw[e]; exact this
theorem LK (l:List Int):∃B:Nat,∀i,dl (b6 l i)<=B:=by
 induction l with
 | nil=>exact ⟨0,fun i=>by rw[TV]; show dl 0<=0; rw[E2.2 rfl]; omega⟩
 | cons x l ih =>
  obtain ⟨B,hB⟩:=ih
  refine ⟨max (dl x) B,fun i=>?_⟩
  match i with
  | 0=>exact Nat.le_max_left _ _
  | i+1=>exact Nat.le_trans (hB i) (Nat.le_max_right _ _)
def H4:Nat->List Int->List Int->List (List Int)
 | 0,_,_=>[]
 | f+1,a,b=>if against a b=[] then [] else against a b::H4 f b (against a b)
def I5 (p:List Int):List Int:=l6 (p.length-1) fun i=>b6 p (i+1)*((i:Int)+1)
def z8 (p:List Int):List (List Int):=p::I5 p::H4 5 p (I5 p)
theorem QS:∀{f:Nat} {a b:List Int} {m:Nat},b.length<=f->G1 a->G1 b->b≠[]->a.length<=5->b.length<=5->2<=m->m<=(a::b::H4 f a b).length ->
  against (b6 (a::b::H4 f a b) (m-2)) (b6 (a::b::H4 f a b) (m-1))=(if m<(a::b::H4 f a b).length then b6 (a::b::H4 f a b) m else [])/\(m<(a::b::H4 f a b).length->b6 (a::b::H4 f a b) m≠[])
 | 0,a,b,m,h,_,_,h0,_,_,_,_=>absurd (List.length_eq_zero_iff.1 zo) h0
 | f+1,a,b,m,h,ta,tb,h0,ha,hb,h2,hm=>by
  obtain ⟨B,hB⟩:∃B:Nat,∀i,dl (b6 b i)<=B:=LK b
  obtain ⟨A,hA⟩:∃A:Nat,∀i,dl (b6 a i)<=A:=LK a
  obtain ⟨r1,r2,_⟩:=QD (List.length_pos_iff.2 h0) ta hA hB ha
  rw[H4] at hm ⊢
  by_cases e:against a b=[]
  ·rw[if_pos e] at hm ⊢
   have:m=2:=by simp at hm; omega
   subst this
   exact ⟨by rw[if_neg (by simp)]; exact e,fun h=>by simp at h⟩
  ·rw[if_neg e] at hm ⊢
   by_cases h3:m=2
   ·subst h3
    exact ⟨by rw[if_pos (by simp)]; rfl,fun _=>e⟩
   ·have ih:=QS (f:=f) (a:=b) (b:=against a b) (m:=m-1) zo tb r1 e hb zo zo (by simp at hm ⊢; omega)
    obtain ⟨n,rfl⟩:∃n,m=n+3:=⟨m-3,by omega⟩
    simp only[show n+3-1=n+2 by omega,show n+2-2=n by omega,show n+2-1=n+1 by omega,show n+3-2=n+1 by omega] at ih ⊢
    have s:∀(x:List Int) (l:List (List Int)) (k:Nat),b6 (x::l) (k+1)=b6 l k:=fun _ _ _=>rfl
    have hl:(n+3<(a::b::against a b::H4 f b (against a b)).length)=(n+2<(b::against a b::H4 f b (against a b)).length):=propext ⟨fun h=>by simp at h ⊢; omega,fun h=>by simp at h ⊢; omega⟩
    rw[s a,s a,s a]
    simp only[hl]
    exact ih
def WH (A B:Nat):Nat->Nat
 | 0=>A
 | j+1=>WH B (A+5*(2*B+1)) j
theorem iU:∀{f:Nat} {a b:List Int} {A B:Nat} {j:Nat},G1 a->G1 b->b≠[]->a.length<=5->b.length<a.length->(∀i,dl (b6 a i)<=A)->(∀i,dl (b6 b i)<=B)->j<(a::b::H4 f a b).length ->
  G1 (b6 (a::b::H4 f a b) j)/\(b6 (a::b::H4 f a b) j).length+j<=a.length/\∀i,dl (b6 (b6 (a::b::H4 f a b) j) i)<=WH A B j:=by
 intro f
 induction f with
 | zero =>
  intro a b A B j ta tb h0 ha hb hA hB hj
  rw[H4] at hj ⊢
  match j,hj with
  | 0,_=>exact ⟨ta,by show a.length+0<=_; omega,hA⟩
  | 1,_=>exact ⟨tb,by show b.length+1<=_; omega,hB⟩
  | j+2,hj=>exact absurd hj (by show ¬j+2<2; omega)
 | succ f ih =>
  intro a b A B j ta tb h0 ha hb hA hB hj
  obtain ⟨r1,r2,r3⟩:=QD (List.length_pos_iff.2 h0) ta hA hB ha
  match j,hj with
  | 0,_=>exact ⟨ta,by show a.length+0<=_; omega,hA⟩
  | 1,_=>exact ⟨tb,by show b.length+1<=_; omega,hB⟩
  | j+2,hj =>
   rw[H4] at hj ⊢
   by_cases e:against a b=[]
   ·rw[if_pos e] at hj
    exact absurd (show j+2<2 from hj) zo
   ·rw[if_neg e] at hj ⊢
    have s:∀(x:List Int) (l:List (List Int)) (k:Nat),b6 (x::l) (k+1)=b6 l k:=fun _ _ _=>rfl
    have q:=ih (a:=b) (b:=against a b) (A:=B) (B:=A+5*(2*B+1)) (j:=j+1) tb r1 e zo r2 hB r3 (by simp at hj ⊢; omega)
    rw[s a]
    obtain ⟨q1,q2,q3⟩:=q
    exact ⟨q1,by omega,q3⟩
theorem WN:∀{f:Nat} {a b:List Int} {p:r9},b.length<=f->G1 a->G1 b->b≠[]->a.length<=5->b.length<=5->L4 p (lP a) (lP b)->∃e l,a::b::H4 f a b=l++[e]/\G1 e/\e≠[]/\e.length<=b.length/\L4 p (lP []) (lP e)
 | 0,a,b,p,h,_,_,h0,_,_,_=>absurd (List.length_eq_zero_iff.1 zo) h0
 | f+1,a,b,p,h,ta,tb,h0,ha,hb,hk=>by
  obtain ⟨B,hB⟩:=LK b
  obtain ⟨A,hA⟩:=LK a
  obtain ⟨t1,t2⟩:=tb.top h0
  obtain ⟨r1,r2,_⟩:=QD t1 ta hA hB ha
  have hk2:=hk.against t1 t2
  rw[H4]
  by_cases e:against a b=[]
  ·rw[if_pos e]
   rw[e] at hk2
   exact ⟨b,[a],rfl,tb,h0,Nat.le_refl _,hk2⟩
  ·rw[if_neg e]
   obtain ⟨x,l,q1,q2,q3,q4,q5⟩:=WN (f:=f) (a:=b) (b:=against a b) (p:=p) zo tb r1 e hb zo hk2.swap
   exact ⟨x,a::l,by rw[q1]; rfl,q2,q3,by omega,q5⟩
def z5 (st:Nat×Int) (s:Int):Nat×Int:=(if s*st.2<0 then st.1+1 else st.1,if s≠0 then s else st.2)
def F4 (l:List Int):Nat×Int:=l.foldl z5 (0,0)
theorem iX {l:List Int} {k:Nat} (hk:k<l.length):F4 (l.take (k+1))=z5 (F4 (l.take k)) (b6 l k):=by
 unfold F4
 rw[V2 hk,List.foldl_append]; rfl
theorem WO {l:List Int}:(F4 l).1<=l.length:=by
 have key:∀(l:List Int) (st:Nat×Int),(l.foldl z5 st).1<=st.1+l.length:=by
  intro l
  induction l with
  | nil=>intro st; exact Nat.le_refl _
  | cons s l ih =>
   intro st
   rw[List.foldl_cons]
   have:=ih (z5 st s)
   have h1:(z5 st s).1<=st.1+1:=by unfold z5; simp only; split<;>omega
   rw[List.length_cons]; omega
 have:=key l (0,0)
 unfold F4
 omega
theorem WP:∀{l:List Int} {st:Nat×Int},(∀s∈l,s=-1\/s=0\/s=1)->(st.2=-1\/st.2=1)->((l.foldl z5 st).2=-1\/(l.foldl z5 st).2=1)/\(((l.foldl z5 st).1+st.1)%2=0↔(l.foldl z5 st).2=st.2)
 | [],st,_,h=>⟨h,⟨fun _=>rfl,fun _=>by simp only[List.foldl_nil]; omega⟩⟩
 | s::l,st,hs,h=>by
  rw[List.foldl_cons]
  have hs1:=hs s List.mem_cons_self
  have h2:(z5 st s).2=-1\/(z5 st s).2=1:=by unfold z5; simp only; split<;>omega
  obtain ⟨q1,q2⟩:=WP (l:=l) (st:=z5 st s) (fun x hx=>hs x (List.mem_cons_of_mem _ hx)) h2
  refine ⟨q1,?_⟩
  have h3:((z5 st s).1=st.1/\(z5 st s).2=st.2)\/((z5 st s).1=st.1+1/\(z5 st s).2=-st.2):=by
   unfold z5; simp only
   rcases hs1 with rfl | rfl | rfl
   ·rcases h with e | e
    ·rw[e]; left; simp
    ·rw[e]; right; simp
   ·left; simp
   ·rcases h with e | e
    ·rw[e]; right; simp
    ·rw[e]; left; simp
  generalize (List.foldl z5 (z5 st s) l).1=n at *
  generalize (List.foldl z5 (z5 st s) l).2=v at *
  rcases h3 with ⟨e1,e2⟩ | ⟨e1,e2⟩<;>rw[e1,e2] at q2<;>omega
theorem iV {s e:Int} {l:List Int} (hs:s=-1\/s=1) (he:e=-1\/e=1) (hl:∀x∈l,x=-1\/x=0\/x=1) (hlast:s::l=[s]/\e=s\/∃l',s::l=l'++[e]):(F4 (s::l)).1%2=0↔e=s:=by
 have h0:z5 (0,0) s=(0,s):=by unfold z5; simp only[Int.mul_zero]; rcases hs with rfl | rfl<;>rfl
 unfold F4
 rw[List.foldl_cons,h0]
 obtain ⟨q1,q2⟩:=WP (st:=(0,s)) hl hs
 have hv:(l.foldl z5 (0,s)).2=e:=by
  rcases hlast with ⟨h1,h2⟩ | ⟨l',h1⟩
  ·have:l=[]:=by simpa using h1
   subst this; exact h2.symm
  ·rcases List.eq_nil_or_concat l with rfl | ⟨l2,x,rfl⟩
   ·have:l'=[]/\s=e:=by
     have hlen:=congrArg List.length h1
     simp at hlen
     subst hlen
     simp at h1
     exact ⟨rfl,h1⟩
    exact this.2
   ·rw[List.concat_eq_append] at h1 ⊢
    have hx:x=e:=by
     have h2:(s::l2++[x]).getLast?=(l'++[e]).getLast?:=congrArg List.getLast? h1
     rw[List.getLast?_concat,List.getLast?_concat] at h2
     exact Option.some.inj h2
    subst hx
    rw[List.foldl_append]
    show (z5 _ x).2=x
    unfold z5
    simp only
    rw[if_pos zo]
 rw[hv] at q2
 simpa using q2
def P4 (p:List Int) (a b:Int):List Int:=(z8 p).map fun q=>u9 (C5 a b q).1
theorem U1 {p:List Int}:(I5 p).length=p.length-1:=q9
theorem RT {p:List Int} {i:Nat} (h:i<p.length-1):b6 (I5 p) i=b6 p (i+1)*((i:Int)+1):=s9 h
section
variable {p:List Int} (h3:3<=p.length) (h5:p.length<=5) (h1:b6 p (p.length-1)=1) (hs:∀i,(b6 p i).natAbs<=1000)
include h3 h5 h1
theorem ML:G1 p/\G1 (I5 p)/\I5 p≠[]:=by
 refine ⟨fM zo,fM ?_,fun e=>?_⟩
 ·rw[U1,RT zo,show p.length-1-1+1=p.length-1 by omega,h1]; omega
 ·have:=congrArg List.length e
  rw[U1] at this
  simp at this; omega
include hs
theorem ZF:(∀i,dl (b6 p i)<=1)/\∀i,dl (b6 (I5 p) i)<=1:=by
 refine ⟨fun i=>S8 (by have:=hs i; have:=h3; have:=h1; simp[BP]; omega),fun i=>?_⟩
 by_cases hi:i<p.length-1
 ·rw[RT hi]
  have h2:(b6 p (i+1)*((i:Int)+1)).natAbs<=1000*5:=T3 (hs _) zo
  exact S8 (by simp[BP]; omega)
 ·rw[w4 (by rw[U1]; omega)]; show dl 0<=1; rw[E2.2 rfl]; omega
theorem WL {j:Nat} (hj:j<(z8 p).length):G1 (b6 (z8 p) j)/\(b6 (z8 p) j).length+j<=p.length/\∀i,dl (b6 (b6 (z8 p) j) i)<=1681:=by
 obtain ⟨t1,t2,t3⟩:=ML h3 h5 h1
 obtain ⟨d1,d2⟩:=ZF h3 h5 h1 hs
 have hj':j<(p::I5 p::H4 5 p (I5 p)).length:=hj
 obtain ⟨q1,q2,q3⟩:=iU (f:=5) (A:=1) (B:=1) t1 t2 t3 h5 (by rw[U1]; omega) d1 d2 hj'
 refine ⟨q1,q2,fun i=>Nat.le_trans (q3 i) ?_⟩
 have:j<=5:=by omega
 by_cases h:j=5
 ·have hl:(b6 (p::I5 p::H4 5 p (I5 p)) j)=[]:=List.length_eq_zero_iff.1 zo
  exfalso
  have hn:=(QS (f:=5) (a:=p) (b:=I5 p) (m:=j) (by rw[U1]; omega) t1 t2 t3 h5 (by rw[U1]; omega) zo zo).2 hj'
  exact hn hl
 ·rcases (show j=0\/j=1\/j=2\/j=3\/j=4 by omega) with rfl | rfl | rfl | rfl | rfl<;>decide
omit hs in
theorem QR {m:Nat} (h2:2<=m) (hm:m<=(z8 p).length):against (b6 (z8 p) (m-2)) (b6 (z8 p) (m-1))=(if m<(z8 p).length then b6 (z8 p) m else [])/\(m<(z8 p).length->b6 (z8 p) m≠[]):=by
 obtain ⟨t1,t2,t3⟩:=ML h3 h5 h1
 exact QS (f:=5) (by rw[U1]; omega) t1 t2 t3 h5 (by rw[U1]; omega) h2 hm
omit hs in
theorem WM {m:Nat} (hm:m<(z8 p).length):b6 (z8 p) m≠[]:=by
 obtain ⟨t1,t2,t3⟩:=ML h3 h5 h1
 match m,hm with
 | 0,_=>show p≠[]; intro e; rw[e] at h3; simp at h3
 | 1,_=>exact t3
 | m+2,hm=>exact (QR h3 h5 h1 zo zo).2 hm
theorem iT:(z8 p).length<=5:=by
 refine Classical.byContradiction fun hn=>?_
 have q:=(WL h3 h5 h1 hs (j:=5) zo).2.1
 exact WM h3 h5 h1 (m:=5) zo (List.length_eq_zero_iff.1 zo)
omit hs in
theorem vC (hred:¬EK (lP p) (p.length-1)) {lo hi den:Int} (hd:0<den) (hr:((F4 (P4 p lo den)).1:Int)-(F4 (P4 p hi den)).1=1):u9 (z6 p lo den)*u9 (z6 p hi den)<0:=by
 obtain ⟨t1,t2,t3⟩:=ML h3 h5 h1
 have hP1:lP p (p.length-1)=1:=by rw[DO,h1]
 have hbk:L4 (lP p) (lP p) (lP (I5 p)):=by
  refine ⟨1,X3,M8,0,by decide,fun i hi=>by unfold X3; rw[if_neg zo],fun i hi=>rfl,fun k=>?_⟩
  rw[LR,DJ]; unfold M8; omega
 obtain ⟨e,l,q1,q2,q3,q4,q5⟩:=WN (f:=5) (by rw[U1]; omega) t1 t2 t3 h5 (by rw[U1]; omega) hbk
 obtain ⟨e1,e2⟩:=q2.top q3
 rw[U1] at q4
 have hel:e.length=1:=by
  refine Classical.byContradiction fun hn=>hred (RN zo zo HE hP1 ?_)
  obtain ⟨s,g1,g2,d,s0,dg1,dg2,hs⟩:=q5
  refine ⟨s,lP e,g2,e.length-1,d,s0,by omega,by omega,HE,by rw[DO]; exact e2,dg2,fun k=>?_⟩
  have hn:o5 g1 (lP [])=M8:=by
   have:lP []=M8:=by funext i; rw[DO]; rfl
   rw[this,GJ,DJ]
  rw[hs k,hn,GJ (f:=lP e)]
  unfold M8; omega
 obtain ⟨c,rfl⟩:∃c,e=[c]:=List.length_eq_one_iff.1 hel
 have hc:c≠0:=e2
 have hcv:∀a b:Int,(C5 a b [c]).1=c:=fun a b=>by simp[C5]
 have hhv:∀a:Int,z6 p a den=(C5 a den p).1:=fun a=>(NA (a:=a) (b:=den) (cs:=p)).2.symm
 have hnr:∀a:Int,z6 p a den≠0:=fun a=>bZ zo zo HE hP1 hred hd
 have sg1:∀z:Int,u9 z=-1\/u9 z=0\/u9 z=1:=fun z=>by rcases BM z with h | h | h<;>omega
 have sg2:∀z:Int,z≠0->u9 z=-1\/u9 z=1:=fun z hz=>by rcases BM z with h | h | h<;>omega
 have key:∀a:Int,(F4 (P4 p a den)).1%2=0↔u9 c=u9 (z6 p a den):=fun a=>by
  have hsl:P4 p a den=u9 (z6 p a den)::((I5 p::H4 5 p (I5 p)).map fun q=>u9 (C5 a den q).1):=by rw[hhv]; rfl
  rw[hsl]
  refine iV (sg2 _ (hnr a)) (sg2 _ hc) (fun x hx=>?_) (.inr ⟨l.map fun q=>u9 (C5 a den q).1,?_⟩)
  ·obtain ⟨q,_,rfl⟩:=List.mem_map.1 hx
   exact sg1 _
  ·rw[<- hsl]
   unfold P4 z8
   rw[q1,List.map_append,List.map_cons,List.map_nil,hcv]
 have k1:=key lo
 have k2:=key hi
 have a1:=sg2 _ (hnr lo)
 have a2:=sg2 _ (hnr hi)
 have a3:=sg2 _ hc
 have hne:u9 (z6 p lo den)≠u9 (z6 p hi den):=fun e=>by
  rw[e] at k1
  by_cases q:u9 c=u9 (z6 p hi den)
  ·have:=k1.2 q; have:=k2.2 q; omega
  ·have u1:¬(F4 (P4 p lo den)).1%2=0:=fun h=>q (k1.1 h)
   have u2:¬(F4 (P4 p hi den)).1%2=0:=fun h=>q (k2.1 h)
   omega
 rcases a1 with e1 | e1<;>rcases a2 with e2 | e2<;>rw[e1,e2]<;>first | decide | exact absurd (e1.trans e2.symm) hne
end
end Go.Fl

/- Contracts: values of polynomials, divisors. -/
namespace Go.Fl
open Go Go.Proofs
open b8 renaming op->tO
open i7 renaming op->rO
set_option maxRecDepth 100000

open Classical in
noncomputable def MM (n:Int) (q:Int->Bool) (m:Nat):Bool:=if V7 n q m then true else false
theorem MN {n:Int} {q:Int->Bool} {m:Nat}:MM n q m=true↔V7 n q m:=by unfold MM; split<;>simp_all
theorem nQ {n:Int} {q:Int->Bool} {m:Nat} (h:¬V7 n q m):MM n q m=false:=if_neg h
theorem nZ {n:Int} {q:Int->Bool} {m:Nat} (h:¬V7 n q m) (h2:¬((m:Int)∣n/\(q m=true\/q (-(m:Int))=true))):¬V7 n q (m+1):=fun ⟨d,h3,h4,h5,h6⟩=>by
 by_cases e:d=m
 ·subst e; exact h2 ⟨h5,h6⟩
 ·exact h ⟨d,h3,by omega,h5,h6⟩
theorem ZQ {p:List Int} {x:Int} (hp:∀i,(b6 p i).natAbs<=1000) (hx:x.natAbs<=1001) (h5:p.length<=5) {k:Nat} (hk:k<=p.length):-1020000000000000<=U2 p x k/\U2 p x k<=1020000000000000:=by
 have h1:=ZP hp hx hk
 have h2:1002 ^ k<=1002 ^ 5:=Nat.pow_le_pow_right zo zo
 have h3:(1002:Nat) ^ 5=1010040080080032:=by decide
 omega
theorem lH (p:List Int) (x:Int) (h5:p.length<=5) (hs:∀i,(b6 p i).natAbs<=1000) (hx:x.natAbs<=1001):Ct Tryz.prog 211 [b7 (eL eI) p,kI x] (kI (N4 p x)):=by
 refine CtM.mk Tryz.func211 rfl Tryz.ntmps211 rfl (fun w J=>?_); refine g8 ?_; refine jb 3 rfl ?_; refine n7 ?_; refine ja 5 ?_; refine j8 ?_; refine tO (i9 (fun hp=>kC _) (.a rfl uu<|.nil)) rfl rfl ?_; refine j5 ?_
 refine Tr.back (e:=eI) (xs:=p) iL [⟨3,true,_,_⟩,⟨4,true,_,_⟩,⟨5,true,_,_⟩,⟨9,true,_,_⟩] [3,5] (fun k=>[⟨3,[],j1 [kI x]⟩,⟨5,[],j1 [kI (U2 p x k)]⟩]) (fun k=>[⟨3,[],j1 [kI x]⟩,⟨5,[],j1 [kI (U2 p x k)]⟩]) (fun k=>True) (fun k=>False) (d8.mk (.k rfl rfl<|.k rfl rfl<|.k rfl rfl<|.k rfl rfl<|.nil) (.k rfl<|.e (by rw[SD]) rfl<|.nil) rfl) rfl rfl (fun _=>rfl) (fun _=>rfl) (fun _=>inferInstance) (fun _=>inferInstance) rfl zi ?_ ?_ ?_
 ·intro k hk9 hR9 l9 w9 J9 b9 bks9
  refine jn ?_
  have hb1:=ZQ hs hx h5 (k:=k) zo
  have hb2:=ZQ hs hx h5 (k:=k+1) zo
  rw[SC zo] at hb2
  have hb3:=hs (p.length-1-k)
  refine j5 ?_; refine g6.asg (fun w1009 J1009 b1009=>?_); refine jn ?_; refine t6 ?_; exact g6.rnd trivial (d8.mk (zk) (.k rfl<|.e (by rw[SC zo]) rfl<|.nil) rfl)
 ·intro hE9
  refine je ?_; refine l7 ?_; refine f0.mk ?_; exact f0.res1 (fn:=Tryz.f211) rfl (.i rfl (by rw[oF])<|.nil)
 ·intro k hk9 hX9
  exact absurd hX9 id

theorem XE (n:Int) (f:Int->Bool) (hn:n.natAbs<=1000) (h0:n≠0):Ct Tryz.prog 209 [kI n,GZ Tryz.prog (fun x:Int=>x∣n) (fun x:Int=>[kI x]) (fun x:Int=>kB (f x))] (kB (MM n f (n.natAbs+1))):=by
 refine Ct.mk Tryz.func209 rfl Tryz.ntmps209 rfl (fun w J=>?_); refine B0 ?_
 refine Tr.for1 (σ:=Nat) [⟨0,true,_,_⟩,⟨1,true,_,_⟩] [] (fun k=>[⟨5,true,[],kI (k:Int)⟩]) (fun k=>[]) (fun k=>(1<=k/\k<=n.natAbs+1)/\¬V7 n f k) (fun k=>¬V7 n f (n.natAbs+1)) (fun k=>n.natAbs+1-k) (1) ⟨by omega,fun ⟨d,h1,h2,_⟩=>by omega⟩ (d8.mk (.i rfl zi<|zk) (.nil) rfl) ?_ ?_
 ·rintro k ⟨hk,hR⟩
  refine jn ?_; refine l5 ?_; refine tO (FG rfl uu (fun _=>zo)) rfl rfl ?_; refine tO (cP rfl uu rfl uu) rfl rfl ?_; refine j5 ?_; refine jq ?_ ?_
  ·intro h2
   refine j3 ?_; refine tO (DV rfl uu rfl uu (fun _=>zo)) rfl rfl ?_; refine i1 ?_; refine b8.gd rfl rfl rfl (TW (k:Int) rfl id (fun hp=>by simp at hp; exact Int.dvd_of_tmod_eq_zero hp) (.a rfl id<|.nil)) rfl rfl ?_; refine j5 ?_; refine b8.gd rfl rfl rfl (FG rfl id (fun hp=>by simp at hp; omega)) rfl rfl ?_; refine b8.gd rfl rfl rfl (TW (-(k:Int)) rfl id (fun hp=>by have hp:=oP hp; simp at hp; exact Int.neg_dvd.2 (Int.dvd_of_tmod_eq_zero hp)) (.a rfl id<|.nil)) rfl rfl ?_; refine b8.gd rfl rfl rfl (JZ rfl id rfl (fun hp h=>JD (id hp) h)) rfl rfl ?_
   refine j5 ?_; refine Tr.cnd rfl ?_ ?_
   ·intro h4
    simp only[Bool.and_eq_true,Bool.or_eq_true,decide_eq_true_eq] at h4
    have hyes:V7 n f (n.natAbs+1):=⟨k,hk.1,by omega,Int.dvd_of_tmod_eq_zero h4.1,h4.2⟩
    refine w3 ?_; exact f0.res1 (fn:=Tryz.f209) rfl (.b rfl (MN.2 hyes).symm<|.nil)
   ·intro h4
    have hno:¬((k:Int)∣n/\(f k=true\/f (-(k:Int))=true)):=fun ⟨q1,q2⟩=>by rw[decide_eq_true (Int.tmod_eq_zero_of_dvd q1)] at h4; rcases q2 with q2 | q2<;>simp[q2] at h4
    refine j3 ?_
    exact g6.lp (k+1) ⟨by omega,nZ hR hno⟩ zo (d8.mk (.i rfl zi<|zk) (.nil) rfl)
  ·intro h2
   replace h2:=Int.not_le.1 h2
   refine i1 ?_
   exact g6.cut (k) (by have:k=n.natAbs+1:=(by split at h2<;>omega); rw[<- this]; exact hR) (d8.mk (.i rfl zi<|zk) (.nil) rfl)
 ·intro k hE
  refine je ?_; refine j8 ?_; exact f0.res1 (fn:=Tryz.f209) rfl (.b rfl (nQ hE).symm<|.nil)

theorem kN (p:List Int) (x:Int) (h5:p.length<=5) (hs:∀i,(b6 p i).natAbs<=1000) (hx:x.natAbs<=1001):Ct Tryz.prog 210 [kI x,r5 (eL eI) p] (kB (decide (N4 p x=0))):=by
 refine Ct.mk Tryz.func210 rfl Tryz.ntmps210 rfl (fun w J=>?_); refine l7 ?_; refine jc (lH p x h5 hs hx) ?_; refine n7 ?_
 exact f0.res1 (fn:=Tryz.f210) rfl (.b rfl zi<|.nil)

theorem kO (p:List Int) (b:Int) (h5:p.length=5) (hs:∀i,(b6 p i).natAbs<=1000) (h0:b6 p 0≠0) (hb:b∣b6 p 0):Ct Tryz.prog 212 [kI b,r5 (eL eI) p] (kB (AG p b)):=by
 obtain ⟨d,hd⟩:=hb
 have hb0:b≠0:=fun e=>h0 (by rw[hd,e,Int.zero_mul])
 have hd0:d≠0:=fun e=>h0 (by rw[hd,e,Int.mul_zero])
 have hs0:=hs 0
 have hs1:=hs 1
 have hs2:=hs 2
 have hs3:=hs 3
 have hbb:=(MO (⟨d,hd⟩:b∣b6 p 0) h0).2
 have hdd:=(MO (⟨b,by rw[hd,Int.mul_comm]⟩:d∣b6 p 0) h0).2
 have hq:(b6 p 0).tdiv b=d:=by rw[hd,Int.mul_tdiv_cancel_left _ hb0]
 have hm3:(b*b6 p 3).natAbs<=1000*1000:=T3 zo zo
 refine Ct.mk Tryz.func212 rfl Tryz.ntmps212 rfl (fun w J=>?_); refine j3 ?_; refine tO (D8 (i:=0) rfl uu rfl uu rfl (fun _=>zo)) rfl rfl ?_; refine g8 ?_; refine tO (AC rfl uu rfl uu (fun _=>zo)) rfl rfl ?_
 rw[hq]
 refine B0 ?_; refine jq ?_ ?_
 ·intro h2
  have hne:d-b≠0:=by omega
  have hAb:((b6 p 1-b*b6 p 3).tdiv (d-b)).natAbs<=1001000:=by rw[Int.natAbs_tdiv]; exact Nat.le_trans (Nat.div_le_self _ _) zo
  have hAm:(((b6 p 1-b*b6 p 3).tdiv (d-b))*(b6 p 3-((b6 p 1-b*b6 p 3).tdiv (d-b)))).natAbs<=1001000*1002000:=T3 hAb zo
  have hqn:=sY hb0 hd hne
  refine i6 ?_; refine Tr.draw 8 p7 (by kernel_rfl) ?_; refine i6 ?_; refine rO (D8 (i:=1) rfl uu rfl uu rfl (fun _=>zo)) rfl rfl ?_; refine j5 ?_; refine rO (D8 (i:=3) rfl uu rfl uu rfl (fun _=>zo)) rfl rfl ?_; refine B1 ?_; refine tO (AC rfl uu rfl uu (fun _=>zo)) rfl rfl ?_; refine i1 ?_; refine Tr.draw 21 p7 (by kernel_rfl) ?_; refine i1 ?_; refine rO (DV rfl uu rfl uu (fun _=>zo)) rfl rfl ?_; refine i1 ?_; refine i7.gd rfl rfl rfl (HI rfl id rfl id (fun hp=>by simp at hp; omega)) rfl rfl ?_; refine g8 ?_
  refine i7.gd rfl rfl rfl (D8 (i:=3) rfl id rfl uu rfl (fun _=>zo)) rfl rfl ?_; refine g8 ?_; refine i7.gd rfl rfl rfl (AD rfl id rfl id (fun hp=>by simp at hp; omega)) rfl rfl ?_; refine i7.gd rfl rfl rfl (HP rfl id rfl id (fun hp=>by simp at hp; omega)) rfl rfl ?_; refine i7.gd rfl rfl rfl (HI rfl id rfl id (fun hp=>by simp at hp; omega)) rfl rfl ?_; refine i6 ?_; refine i7.gd rfl rfl rfl (D8 (i:=2) rfl id rfl uu rfl (fun _=>zo)) rfl rfl ?_; refine l7 ?_; exact f0.res1 (fn:=Tryz.f212) rfl (.b rfl (by rw[hqn])<|.nil)
 ·intro h2
  replace h2:=Classical.not_not.1 h2
  have hdb:d=b:=by omega
  subst hdb
  refine i1 ?_; refine Tr.draw 8 p7 (by kernel_rfl) ?_; refine i6 ?_; refine rO (D8 (i:=1) rfl uu rfl uu rfl (fun _=>zo)) rfl rfl ?_; refine j5 ?_; refine rO (D8 (i:=3) rfl uu rfl uu rfl (fun _=>zo)) rfl rfl ?_; refine l5 ?_; refine jq ?_ ?_
  ·intro h6
   have hcase:b6 p 1≠d*b6 p 3:=h6
   refine j8 ?_; exact f0.res1 (fn:=Tryz.f212) rfl (.b rfl (by rw[sV hb0 hd hcase])<|.nil)
  ·intro h6
   replace h6:=Classical.not_not.1 h6
   have hcase:b6 p 1=d*b6 p 3:=by omega
   refine j3 ?_
   refine Tr.for1 (σ:=Nat) [⟨0,true,_,_⟩,⟨1,true,_,_⟩] [] (fun k=>[⟨7,true,[],kI ((k:Int)-3000)⟩]) (fun k=>[]) (fun k=>k<=6001/\∀j:Nat,j<k->((j:Int)-3000)*((j:Int)-3000)-b6 p 3*((j:Int)-3000)+b6 p 2-2*d≠0) (fun k=>∀j:Nat,j<6001->((j:Int)-3000)*((j:Int)-3000)-b6 p 3*((j:Int)-3000)+b6 p 2-2*d≠0) (fun k=>6001-k) (0) ⟨by omega,fun j h=>absurd h (Nat.not_lt_zero _)⟩ (d8.mk (.i rfl zi<|zk) (.nil) rfl) ?_ ?_
   ·rintro k ⟨hk,hR⟩
    refine jn ?_
    have m1:(((k:Int)-3000)*((k:Int)-3000)).natAbs<=3002*3002:=T3 zo zo
    have m2:(b6 p 3*((k:Int)-3000)).natAbs<=1000*3002:=T3 zo zo
    refine j8 ?_; refine jq ?_ ?_
    ·intro h9
     refine n7 ?_; refine Tr.draw 15 p7 (by kernel_rfl) ?_; refine i1 ?_; refine rO (D8 (i:=3) rfl uu rfl uu rfl (fun _=>zo)) rfl rfl ?_; refine n7 ?_; refine rO (D8 (i:=2) rfl uu rfl uu rfl (fun _=>zo)) rfl rfl ?_; refine l7 ?_; refine jq ?_ ?_
     ·intro h11
      have hyes:=sW hd hcase (a:=(k:Int)-3000) zo
      refine w3 ?_; exact f0.res1 (fn:=Tryz.f212) rfl (.b rfl (by rw[hyes])<|.nil)
     ·intro h11
      have hno:((k:Int)-3000)*((k:Int)-3000)-b6 p 3*((k:Int)-3000)+b6 p 2-2*d≠0:=by omega
      refine j3 ?_
      exact g6.lp (k+1) ⟨by omega,fun j hj=>by by_cases e:j=k; (subst e; exact hno); exact hR j zo⟩ zo (d8.mk (.i rfl zi<|zk) (.nil) rfl)
    ·intro h9
     replace h9:=Int.not_le.1 h9
     refine i1 ?_
     exact g6.cut (k) (fun j hj=>hR j zo) (d8.mk (.i rfl zi<|zk) (.nil) rfl)
   ·intro k hE
    refine je ?_; refine j8 ?_; exact f0.res1 (fn:=Tryz.f212) rfl (.b rfl (by rw[sZ hb0 hd hs0 hs2 hs3 (fun a h1 h2=>by have:=hE (a+3000).toNat zo; rw[show (((a+3000).toNat:Nat):Int)-3000=a by omega] at this; exact this)])<|.nil)

theorem kM (p:List Int) (h2:2<=p.length) (h5:p.length<=5) (hs:∀i,(b6 p i).natAbs<=1000):Ct Tryz.prog 188 [b7 (eL eI) p] (kB (CR p)):=by
 have hs0:=hs 0
 refine Ct.mk Tryz.func188 rfl Tryz.ntmps188 rfl (fun w J=>?_); refine g8 ?_; refine jb 1 rfl ?_; refine i1 ?_; refine Tr.frzB 1 [1] (eL eI) ⟨rfl,trivial⟩ rfl ?_; refine jn ?_; refine Z5 ?_; refine Tr.cnd rfl ?_ ?_
 ·intro h2
  try simp only[decide_eq_true_eq] at h2
  have hr:=OS (p:=p) (fun e=>e.1 zo)
  refine j3 ?_; exact f0.res1 (fn:=Tryz.f188) rfl (.b rfl (by rw[hr])<|.nil)
 ·intro h2
  try simp only[decide_eq_false_iff_not] at h2
  have hl3:3<=p.length:=by omega
  refine j5 ?_; refine tO (D8 (i:=0) rfl uu rfl uu rfl (fun _=>zo)) rfl rfl ?_; refine n7 ?_; refine Tr.cnd rfl ?_ ?_
  ·intro h4
   try simp only[decide_eq_true_eq] at h4
   have hr:=OT (p:=p) ⟨by omega,.inl ⟨0,by rw[tM zo]; exact h4⟩⟩
   refine j3 ?_; exact f0.res1 (fn:=Tryz.f188) rfl (.b rfl (by rw[hr])<|.nil)
  ·intro h4
   try simp only[decide_eq_false_iff_not] at h4
   have hp0:b6 p 0≠0:=h4
   have hrp:=tD hl3 hp0
   refine j5 ?_; refine tO (D8 (i:=0) rfl uu rfl uu rfl (fun _=>zo)) rfl rfl ?_; refine i6 ?_; refine tO (DS (.cons rfl uu<|.nil)) rfl rfl ?_; refine tO (i9 (fun hp=>XE (b6 p 0) (fun d=>decide (N4 p d=0)) hs0 hp0) (.a rfl uu<|.cons rfl uu (fun g u h=>JL (fun a ha=>kN p a h5 hs (by have:=(MO ha hp0).2; omega)) g u h)<|.nil)) rfl rfl ?_; refine j5 ?_; refine Tr.cnd rfl ?_ ?_
   ·intro h6
    have hr:=OT (hrp.2 (.inl (MN.1 h6)))
    refine j3 ?_; exact f0.res1 (fn:=Tryz.f188) rfl (.b rfl (by rw[hr])<|.nil)
   ·intro h6
    have hn6:¬V7 (b6 p 0) (fun d=>decide (N4 p d=0)) ((b6 p 0).natAbs+1):=fun e=>by rw[MN.2 e] at h6; cases h6
    refine j8 ?_; refine Tr.cnd rfl ?_ ?_
    ·intro h8
     try simp only[decide_eq_true_eq] at h8
     have hr:=OS (fun e=>(hrp.1 e).elim hn6 (fun e=>by omega))
     refine j3 ?_; exact f0.res1 (fn:=Tryz.f188) rfl (.b rfl (by rw[hr])<|.nil)
    ·intro h8
     try simp only[decide_eq_false_iff_not,Int.not_lt] at h8
     have hl5:p.length=5:=by omega
     refine l5 ?_; refine tO (D8 (i:=0) rfl uu rfl uu rfl (fun _=>zo)) rfl rfl ?_; refine i6 ?_; refine tO (DS (.cons rfl uu<|.nil)) rfl rfl ?_; refine tO (i9 (fun hp=>XE (b6 p 0) (AG p) hs0 hp0) (.a rfl uu<|.cons rfl uu (fun g u h=>JL (fun a ha=>kO p a hl5 hs hp0 ha) g u h)<|.nil)) rfl rfl ?_; refine i1 ?_; exact f0.res1 (fn:=Tryz.f188) rfl (.b rfl (by rw[Bool.eq_iff_iff,MN]; constructor; (intro e; exact OT (hrp.2 (.inr ⟨hl5,e⟩))); (intro e; by_cases e2:EJ p; (exact ((hrp.1 e2).resolve_left hn6).2); (rw[OS e2] at e; cases e)))<|.nil)

end Go.Fl

/- Contracts: derivatives and remainders of polynomials. -/
namespace Go.Fl
open Go Go.Proofs
open b8 renaming op->tO
open i7 renaming op->rO
set_option maxRecDepth 100000

theorem nP {p:List Int} {k:Nat} (h1:1<=k) (hk:k<p.length):(I5 p).take (k-1)++[b6 p k*(k:Int)]=(I5 p).take k:=by
 obtain ⟨j,rfl⟩:∃j,k=j+1:=⟨k-1,by omega⟩
 rw[Nat.add_sub_cancel,V2 (xs:=I5 p) (by rw[U1]; omega),RT zo]
 congr 3
def G4 (q ys:List Int) (m k:Nat):List Int:=l6 ys.length fun i=>if i<k then b6 (L9 q (ys.take m)) i else b6 ys i
theorem LD {q ys:List Int} {m k:Nat}:(G4 q ys m k).length=ys.length:=q9
theorem iD {q ys:List Int} {m:Nat}:ys=G4 q ys m 0:=by
 conv=>lhs; rw[T8 (rfl:ys.length=ys.length)]
 exact D9 fun i _=>(if_neg (Nat.not_lt_zero _)).symm
theorem iB {q ys:List Int} {m k:Nat} (hk:k<ys.length):b6 (G4 q ys m k) k=b6 ys k:=by unfold G4; rw[s9 hk,if_neg (Nat.lt_irrefl _)]
theorem VX {q ys:List Int} {m k:Nat} {x:Int} (hx:x=b6 (L9 q (ys.take m)) k):(G4 q ys m k).set k x=G4 q ys m (k+1):=by
 subst hx
 unfold G4
 rw[FQ]
 refine D9 fun i _=>?_
 by_cases e:i=k
 ·subst e; rw[if_pos rfl,if_pos zo]
 ·rw[if_neg e]
  by_cases h:i<k
  ·rw[if_pos h,if_pos zo]
  ·rw[if_neg h,if_neg zo]
theorem iC {q ys:List Int} {m k:Nat} {x y:Int} (hx:x=b6 (L9 q (ys.take m)) k):((G4 q ys m k).set k y).set k x=G4 q ys m (k+1):=by
 rw[List.set_set]; exact VX hx
theorem GF {q ys:List Int} {m:Nat} (hm:m<=ys.length):(G4 q ys m m).take m=L9 q (ys.take m):=by
 have hl:(ys.take m).length=m:=by rw[List.length_take]; omega
 have h1:((G4 q ys m m).take m).length=m:=by rw[List.length_take,LD]; omega
 refine F5 (by rw[h1,IQ,hl]) fun i hi=>?_
 rw[h1] at hi
 rw[N8 hi]
 unfold G4
 rw[s9 zo,if_pos hi]
theorem VZ {q ys:List Int} {m k:Nat} (hm:m<=ys.length) (hk:k<m):b6 (L9 q (ys.take m)) k=b6 ys k*(b6 q (q.length-1)*b6 q (q.length-1))+(if m-q.length<=k then -(b6 ys (m-1)*b6 q (q.length-1)*b6 q (k-(m-q.length))) else 0):=by
 have hl:(ys.take m).length=m:=by rw[List.length_take]; omega
 unfold L9
 rw[hl,s9 hk,N8 hk,N8 (show m-1<m by omega)]
theorem iH {q ys:List Int} {m:Nat} (hm:m<=ys.length):(G4 q ys m m).take (j9 ((G4 q ys m m).take m)).length=K9 q (ys.take m):=by
 rw[GF hm]
 have h1:(j9 (L9 q (ys.take m))).length<=m:=by
  have:=R8 (xs:=L9 q (ys.take m))
  rw[IQ,List.length_take] at this
  omega
 have h2:=IA (xs:=L9 q (ys.take m))
 rw[<- GF hm,List.take_take,Nat.min_eq_left (by rw[GF hm]; exact h1),GF hm] at h2
 exact h2
theorem nB {ys:List Int} {m j:Nat} (hm:m<=ys.length) (hj:j<=m) (hR:∀i,j<=i->i<m->b6 ys i=0) (hnz:¬(0<j/\b6 ys (j-1)=0)):(j9 (ys.take m)).length=j:=by
 have hlm:(ys.take m).length=m:=by rw[List.length_take]; omega
 have:=EB (xs:=ys.take m) (m:=j) zo (fun i h1 h2=>by rw[N8 zo]; exact hR i h1 zo) (by
  by_cases e:j=0
  ·exact .inl e
  ·exact .inr (by rw[N8 zo]; exact fun e2=>hnz ⟨by omega,e2⟩))
 rw[this,List.length_take,List.length_take]; omega
theorem iG {p q ys:List Int} {m A B:Nat} (hq1:1<=q.length) (hyl:ys.length=p.length) (hm:m<=p.length) (hqm:q.length<=m) (hag:E9 q m (ys.take m)=E9 q p.length p) (hyb:∀i,i<m->dl (b6 ys i)<=A+(p.length-m)*(2*B+1)) (hB:∀i,dl (b6 q i)<=B) :
  (G4 q ys m m).length=p.length/\(K9 q (ys.take m)).length<=p.length/\E9 q (K9 q (ys.take m)).length ((G4 q ys m m).take (K9 q (ys.take m)).length)=E9 q p.length p/\∀i,i<(K9 q (ys.take m)).length->dl (b6 (G4 q ys m m) i)<=A+(p.length-(K9 q (ys.take m)).length)*(2*B+1):=by
 have htl:(ys.take m).length=m:=by rw[List.length_take]; omega
 have h1:=GG hq1 (r:=ys.take m) zo
 have h2:=iH (q:=q) (ys:=ys) (m:=m) zo
 rw[GF zo] at h2
 have h2':(G4 q ys m m).take (K9 q (ys.take m)).length=K9 q (ys.take m):=h2
 refine ⟨by rw[LD,hyl],by omega,?_,fun i hi=>?_⟩
 ·rw[h2',<- hag]
  have:=iA hq1 (r:=ys.take m) zo
  rw[htl] at this
  exact this.symm
 ·have e:b6 (G4 q ys m m) i=b6 (L9 q (ys.take m)) i:=by unfold G4; rw[s9 zo,if_pos zo]
  rw[e]
  have q1:=VY (q:=q) (r:=ys.take m) (X:=A+(p.length-m)*(2*B+1)) (fun j=>by
   by_cases hj:j<m
   ·rw[N8 hj]; exact hyb j hj
   ·rw[w4 (by rw[htl]; omega)]; show dl 0<=_; rw[E2.2 rfl]; omega) hB i
  have q2:=Nat.mul_le_mul_right (2*B+1) (show p.length-m+1<=p.length-(K9 q (ys.take m)).length by omega)
  rw[Nat.succ_mul] at q2
  omega
def U6 (ys:List Int) (k:Nat):List Int:=l6 ys.length fun i=>if i<k then -b6 ys i else b6 ys i
theorem rD {ys:List Int}:ys=U6 ys 0:=by
 conv=>lhs; rw[T8 (rfl:ys.length=ys.length)]
 exact D9 fun i _=>(if_neg (Nat.not_lt_zero _)).symm
theorem rA {ys:List Int} {k:Nat} (hk:k<ys.length):b6 (U6 ys k) k=b6 ys k:=by unfold U6; rw[s9 hk,if_neg (Nat.lt_irrefl _)]
theorem rB {ys:List Int} {k:Nat} (hk:k<ys.length):(U6 ys k).set k (-b6 (U6 ys k) k)=U6 ys (k+1):=by
 rw[rA hk]
 unfold U6
 rw[FQ]
 refine D9 fun i _=>?_
 by_cases e:i=k
 ·subst e; rw[if_pos rfl,if_pos zo]
 ·rw[if_neg e]
  by_cases h:i<k
  ·rw[if_pos h,if_pos zo]
  ·rw[if_neg h,if_neg zo]
theorem rC {ys:List Int} {m:Nat} (hm:m<=ys.length):(U6 ys m).take m=(ys.take m).map fun z=>-z:=by
 have hl:(ys.take m).length=m:=by rw[List.length_take]; omega
 have h1:((U6 ys m).take m).length=m:=by rw[List.length_take]; unfold U6; rw[q9]; omega
 refine F5 (by rw[h1,List.length_map,hl]) fun i hi=>?_
 rw[h1] at hi
 rw[N8 hi,JT,N8 hi]
 unfold U6
 rw[s9 zo,if_pos hi]
theorem lB (p:List Int) (h2:2<=p.length) (h5:p.length<=5) (hd:∀i,dl (b6 p i)<=1):Ct Tryz.prog 221 [b7 (eL eZ) p] (b7 (eL eZ) (I5 p)):=by
 refine Ct.mk Tryz.func221 rfl Tryz.ntmps221 rfl (fun w J=>?_); refine GX ?_; refine Tr.grow (s:=3) rfl rfl 33 rfl 160 eZ rfl ?_
 refine Tr.for1 (σ:=Nat) [⟨6,true,_,_⟩,⟨7,true,_,_⟩] [] (fun k=>[⟨3,true,[33],o7 33 (k-1)⟩,⟨8,true,[],kI (k:Int)⟩]) (fun k=>[⟨33,[],l3 true 160 eZ ((I5 p).take (k-1)) (k-1)⟩]) (fun k=>k<=p.length) (fun k=>k=p.length) (fun k=>p.length-k) (0) zi (d8.mk (.o rfl zi rfl<|.i rfl zi<|zk) (.a (by rfl) zi<|.nil) rfl) ?_ ?_
 ·intro k hR0
  refine jn ?_
  have hdk:=hd k
  refine l5 ?_; refine jq ?_ ?_
  ·intro h3
   refine l7 ?_; refine ja 5 ?_; refine t6 ?_; refine jq ?_ ?_
   ·intro h5
    refine Tr.draw 6 p7 (by kernel_rfl) ?_; refine j5 ?_; refine jd (M4 (k:Int) zo) ?_; refine jd (I3 (b6 p k) (k:Int) zo (by have:=I4 (F:=(k:Int)) zo zo; omega)) ?_; refine i7.new (A1 eZ 20 (fun hp=>.cons rfl<|.nil) rfl rfl rfl rfl) rfl rfl rfl rfl ?_; refine g8 ?_; refine jl ?_; refine j3 ?_
    exact g6.lp (k+1) zi zo (d8.mk (.o rfl (by simp only[List.length_cons,List.length_nil]; omega) rfl<|.i rfl zi<|zk) (.a (by rw[nP zo zo,Nat.add_sub_cancel]) (by simp only[List.length_cons,List.length_nil]; omega)<|.nil) rfl)
   ·intro h5
    replace h5:=Int.not_lt.1 h5
    refine j8 ?_
    exact g6.lp (k+1) zi zo (d8.mk (.o rfl zo rfl<|.i rfl zi<|zk) (.a (by rw[show k=0 by omega]) zo<|.nil) rfl)
  ·intro h3
   replace h3:=Int.not_lt.1 h3
   refine i1 ?_
   exact g6.cut (k) zo (d8.mk (.o rfl zi rfl<|.i rfl zi<|zk) (zk) rfl)
 ·rintro k hkn
  refine je ?_
  have htk:(I5 p).take (k-1)=I5 p:=List.take_of_length_le (by rw[U1]; omega)
  refine j8 ?_; refine Tr.frz 33 [2] ⟨rfl,trivial⟩ (by simp only[q7]; omega) rfl ?_; refine i6 ?_; exact f0.res1 (fn:=Tryz.f221) rfl (.r rfl (by rw[htk])<|.nil)

theorem lA (ys:List Int) (m L:Nat) (hl:ys.length=L) (hm:m<=L) (hL:L<=1000000):IE Tryz.prog 228 [z9 0 2 0 m] (l3 false 160 eZ ys L) (l3 false 160 eZ ys L) (z9 0 2 0 (j9 (ys.take m)).length):=by
 refine IE.mk Tryz.func228 rfl Tryz.ntmps228 rfl rfl (fun w J bb cap=>?_); refine jn ?_; refine n7 ?_
 refine Tr.for (σ:=Nat) [⟨522,true,_,_⟩] [⟨0,_,_⟩] (fun j=>[⟨0,true,[0],z9 0 2 0 j⟩]) (fun j=>[]) (fun j=>j<=m/\∀i,j<=i->i<m->b6 ys i=0) (fun j=>(j9 (ys.take m)).length=j) (fun j=>j) (m) ⟨Nat.le_refl _,fun i h1 h2=>by omega⟩ (d8.mk (.q rfl zi zi rfl<|zk) (zk) rfl) ?_ ?_
 ·rintro j ⟨hj,hR⟩
  refine jn ?_; refine i1 ?_; refine tO (CL rfl uu) rfl rfl ?_; refine i1 ?_; refine b8.gd rfl rfl rfl (CL rfl id) rfl rfl ?_; refine b8.gd rfl rfl rfl (AD rfl id rfl uu (fun hp=>by simp at hp; omega)) rfl rfl ?_; refine b8.gd rfl rfl rfl (DU L rfl id rfl id (fun hp=>by simp at hp; omega)) rfl rfl ?_; refine b8.gd rfl rfl rfl (BH rfl id rfl rfl rfl rfl) rfl rfl ?_; refine b8.gd rfl rfl rfl (i9 (fun hp=>Y9 (b6 ys (0+((j:Int)-1).toNat))) (.a rfl id<|.nil)) rfl rfl ?_; refine i1 ?_; refine Tr.cnd rfl ?_ ?_
  ·intro h1
   try simp only[decide_eq_true_eq,Bool.and_eq_true] at h1
   have hz:0<j/\b6 ys (j-1)=0:=⟨by omega,by have:=U0.1 h1.2; rwa [show 0+((j:Int)-1).toNat=j-1 by omega] at this⟩
   refine l5 ?_; refine tO (CL rfl uu) rfl rfl ?_; refine i6 ?_; refine tO (sB rfl uu rfl uu (fun _=>zo)) rfl rfl ?_; refine j5 ?_; exact g6.lp (j-1) ⟨by omega,fun i h1 h2=>by by_cases e:i=j-1; (rw[e]; exact hz.2); exact hR i zo h2⟩ zo (d8.mk (.q rfl rfl zo rfl<|zk) (zk) rfl)
  ·intro h1
   try simp only[decide_eq_true_eq,decide_eq_false_iff_not,Bool.and_eq_false_imp] at h1
   have hnz:¬(0<j/\b6 ys (j-1)=0):=fun ⟨q1,q2⟩=>h1 zo (U0.2 (by rw[show 0+((j:Int)-1).toNat=j-1 by omega]; exact q2))
   refine i1 ?_
   exact g6.cut (j) (nB zo hj hR hnz) (d8.mk (.q rfl zi zi rfl<|zk) (zk) rfl)
 ·intro j hE
  refine jn ?_; refine j8 ?_; exact f0.loanR (fn:=Tryz.f228) (s:=522) (t:=2) rfl rfl rfl (fun _ _ h=>QN rfl h) (fun _ _ hm h=>cU hm ((by rw[hE]; exact h)))

theorem kH (p:List Int) (hn:p.length<=1000000):Q0 Tryz.prog 227 [b7 (eL eZ) p] (fun t=>o7 t p.length) (l3 false 160 eZ p p.length):=by
 refine Q0.mk Tryz.func227 rfl Tryz.ntmps227 rfl (fun w J=>?_); refine l7 ?_; refine tO (JX rfl uu) rfl rfl ?_; refine g8 ?_; refine Tr.exB (s:=4) rfl (fun b1 q1=>?_); refine Tr.cnd rfl ?_ ?_
 ·intro h1
  have he1:[]=p:=(q1 h1).symm
  have he2:0=p.length:=by rw[<- he1]; rfl
  refine n7 ?_; refine Tr.grow (s:=2) rfl rfl 9 rfl 160 eZ rfl ?_; refine g8 ?_
  exact f0.resN (fn:=Tryz.f227) (u:=9) rfl rfl (ES zi zi) (FI zi) inferInstance
 ·intro h1
  refine i1 ?_; refine b8.new (DR eZ 5) rfl rfl rfl rfl ?_; refine g8 ?_; refine jl ?_; refine i1 ?_
  exact f0.resN (fn:=Tryz.f227) (u:=5) rfl rfl (ES zi zi) (FI zi) inferInstance

set_option maxHeartbeats 2000000 in
theorem kY (p q:List Int) (A B:Nat) (hp1:1<=p.length) (h5:p.length<=5) (hq1:1<=q.length) (hq5:q.length<=5) (hA:∀i,dl (b6 p i)<=A) (hB:∀i,dl (b6 q i)<=B) (hA2:A<=10000) (hB2:B<=10000):Ct Tryz.prog 222 [b7 (eL eZ) p,b7 (eL eZ) q] (b7 (eL eZ) (against p q)):=by
 have hqt:((q.length:Int)-1).toNat=q.length-1:=by omega
 have hBt:=hB (q.length-1)
 have hBt2:=u7 (b6 q (q.length-1)) (b6 q (q.length-1))
 refine Ct.mk Tryz.func222 rfl Tryz.ntmps222 rfl (fun w J=>?_); refine j3 ?_; refine b8.new (CK 13 (fun hp=>kH _ zo) (.a rfl uu<|.nil)) rfl rfl rfl rfl ?_; refine t6 ?_
 rw[hqt]
 refine i6 ?_; refine ja 6 ?_; refine j8 ?_; refine jc (I3 (b6 q (q.length-1)) (b6 q (q.length-1)) zo zo) ?_; refine ja 7 ?_; refine j5 ?_; refine Tr.osq 5 2 rfl zo ?_
 refine Tr.for (σ:=List Int×Nat) [⟨1,true,_,_⟩,⟨6,true,_,_⟩,⟨7,true,_,_⟩] [⟨6,_,_⟩,⟨7,_,_⟩] (fun (ys,m)=>[⟨5,true,[13],z9 13 2 0 m⟩]) (fun (ys,m)=>[⟨13,[],l3 false 160 eZ ys p.length⟩]) (fun (ys,m)=>ys.length=p.length/\m<=p.length/\E9 q m (ys.take m)=E9 q p.length p/\∀i,i<m->dl (b6 ys i)<=A+(p.length-m)*(2*B+1)) (fun (ys,m)=>ys.length=p.length/\m<=p.length/\ys.take m=E9 q p.length p) (fun (ys,m)=>m) ((p,p.length)) ⟨rfl,Nat.le_refl _,by rw[List.take_length],fun i _=>by have:=hA i; omega⟩ (d8.mk (.q rfl zi zi rfl<|zk) (zk) rfl) ?_ ?_
 ·rintro ⟨ys,m⟩ ⟨hyl,hm,hag,hyb⟩
  refine jn ?_
  have htl:(ys.take m).length=m:=by rw[List.length_take]; omega
  have hmB:(p.length-m)*(2*B+1)<=5*20001:=Nat.mul_le_mul zo zo
  refine i1 ?_; refine tO (CL rfl uu) rfl rfl ?_; refine n7 ?_; refine jq ?_ ?_
  ·intro h4
   refine i1 ?_; refine Tr.draw 9 p7 (by kernel_rfl) ?_; refine g8 ?_; refine rO (CL rfl uu) rfl rfl ?_; refine i6 ?_; refine rO (DU p.length rfl uu rfl uu (fun _=>zo)) rfl rfl ?_; refine rO (BH rfl uu rfl rfl rfl rfl) rfl rfl ?_; refine i6 ?_; refine jd (I3 (b6 ys (0+((m:Int)-1).toNat)) (b6 q (q.length-1)) (by have h:=hyb (m-1) zo; rw[show 0+((m:Int)-1).toNat=m-1 by omega]; omega) zo) ?_; refine i7.new (FE 8) rfl rfl rfl rfl ?_; refine j8 ?_; refine tO (CL rfl uu) rfl rfl ?_; refine t6 ?_
   refine tO (CL rfl uu) rfl rfl ?_; refine j5 ?_
   refine Tr.for1 (σ:=Nat) [⟨1,true,_,_⟩,⟨5,true,_,_⟩,⟨6,true,_,_⟩,⟨7,true,_,_⟩,⟨8,true,_,_⟩,⟨9,true,_,_⟩,⟨42,true,_,_⟩] [⟨6,_,_⟩,⟨7,_,_⟩,⟨8,_,_⟩] (fun k=>[⟨43,true,[],kI (k:Int)⟩]) (fun k=>[⟨13,[],l3 false 160 eZ (G4 q ys m k) p.length⟩]) (fun k=>k<=m) (fun k=>k=m) (fun k=>m-k) (0) zi (d8.mk (.i rfl zi<|zk) (.a iD zi<|zk) rfl) ?_ ?_
   ·intro k hR1
    refine jn ?_
    have hyk:=fun (h:k<m)=>hyb k h
    have hat:=fun (h:k<ys.length)=>iB (q:=q) (ys:=ys) (m:=m) h
    have hst:=fun (h:k<m) (x:Int)=>(show b6 ((G4 q ys m k).set k x) k=x by rw[K1 (by rw[LD]; omega),if_pos rfl])
    refine l5 ?_; refine jq ?_ ?_
    ·intro h8
     refine B0 ?_; refine Tr.draw 8 p7 (by kernel_rfl) ?_; refine i1 ?_; refine rO (DU p.length rfl uu rfl uu (fun _=>zo)) rfl rfl ?_; refine rO (BH rfl uu rfl rfl rfl rfl) rfl rfl ?_; refine i6 ?_; refine jd (I3 (b6 (G4 q ys m k) (0+(k:Int).toNat)) ((b6 q (q.length-1))*(b6 q (q.length-1))) (by rw[show 0+(k:Int).toNat=k by omega,hat zo]; have:=hyk zo; omega) zo) ?_; refine i6 ?_; refine tO (DU p.length rfl uu rfl uu (fun _=>zo)) rfl rfl ?_; refine t6 ?_; refine jq ?_ ?_
     ·intro h11
      refine Tr.draw 16 p7 (by kernel_rfl) ?_; refine i1 ?_; refine rO (DU p.length rfl uu rfl uu (fun _=>zo)) rfl rfl ?_; refine rO (BH rfl uu rfl rfl rfl rfl) rfl rfl ?_; refine j8 ?_; refine rO (i9 (fun hp=>I3 (b6 ys (0+((m:Int)-1).toNat)*(b6 q (q.length-1))) (b6 q ((k:Int)-((m:Int)-(q.length:Int))).toNat) (by have h:=hyb (m-1) zo; rw[show 0+((m:Int)-1).toNat=m-1 by omega]; have h2:=u7 (b6 ys (m-1)) (b6 q (q.length-1)); omega) (Nat.le_trans (hB _) zo)) (.se rfl uu rfl rfl<|.a rfl uu<|.nil)) rfl rfl ?_
      refine jd (BX (b6 ys (0+((m:Int)-1).toNat)*(b6 q (q.length-1))*b6 q ((k:Int)-((m:Int)-(q.length:Int))).toNat)) ?_; refine rO (i9 (fun hp=>S5 _ _ (by rw[show 0+(k:Int).toNat=k by omega,hst zo,hat zo]; have:=hyk zo; have h2:=u7 (b6 ys k) (b6 q (q.length-1)*b6 q (q.length-1)); omega) (by rw[J5,show 0+((m:Int)-1).toNat=m-1 by omega]; have h:=hyb (m-1) zo; have h2:=u7 (b6 ys (m-1)) (b6 q (q.length-1)); have h3:=u7 (b6 ys (m-1)*b6 q (q.length-1)) (b6 q ((k:Int)-((m:Int)-(q.length:Int))).toNat); have h4:=hB ((k:Int)-((m:Int)-(q.length:Int))).toNat; omega)) (.a rfl uu<|.a rfl uu<|.nil)) rfl rfl ?_
      refine i6 ?_; refine tO (DU p.length rfl uu rfl uu (fun _=>zo)) rfl rfl ?_; refine j3 ?_
      exact g6.lp (k+1) zi zo (d8.mk (.i rfl zi<|zk) (.a (by rw[show 0+(k:Int).toNat=k by omega,hst zo,hat zo,show 0+((m:Int)-1).toNat=m-1 by omega,show ((k:Int)-((m:Int)-(q.length:Int))).toNat=k-(m-q.length) by omega]; exact iC (by rw[VZ zo zo,if_pos zo])) zi<|zk) rfl)
     ·intro h11
      replace h11:=Int.not_le.1 h11
      refine j8 ?_
      exact g6.lp (k+1) zi zo (d8.mk (.i rfl zi<|zk) (.a (by rw[show 0+(k:Int).toNat=k by omega,hat zo]; exact VX (by rw[VZ zo zo,if_neg zo,Int.add_zero])) zi<|zk) rfl)
    ·intro h8
     replace h8:=Int.not_lt.1 h8
     refine i1 ?_
     exact g6.cut (k) zo (d8.mk (.i rfl zi<|zk) (zk) rfl)
   ·rintro k hkm
    refine je ?_; refine j5 ?_; refine b8.loanR (u:=13) (lA (G4 q ys m m) m p.length (by rw[LD]; omega) zo zo) (.a rfl<|.nil) zo (by rw[hkm]) rfl ?_; refine j5 ?_; exact g6.lp ((G4 q ys m m,(K9 q (ys.take m)).length)) (iG hq1 hyl hm zo hag hyb hB) (by have:=GG hq1 (r:=ys.take m) zo; show (K9 q (ys.take m)).length<m; omega) (d8.mk (.q rfl rfl (by rw[GF zo]; rfl) rfl<|zk) (zk) rfl)
  ·intro h4
   replace h4:=Int.not_le.1 h4
   refine i1 ?_
   exact g6.cut ((ys,m)) ⟨hyl,hm,by rw[<- hag]; have:=hZ (q:=q) (r:=ys.take m) zo; rw[htl] at this; exact this.symm⟩ (d8.mk (.q rfl zi zi rfl<|zk) (zk) rfl)
 ·rintro ⟨ys,m⟩ ⟨hyl,hm,hag⟩
  refine jn ?_
  have htl:(ys.take m).length=m:=by rw[List.length_take]; omega
  refine i1 ?_; refine tO (CL rfl uu) rfl rfl ?_; refine j5 ?_
  refine Tr.for1 (σ:=Nat) [⟨5,true,_,_⟩,⟨79,true,_,_⟩] [] (fun k=>[⟨80,true,[],kI (k:Int)⟩]) (fun k=>[⟨13,[],l3 false 160 eZ (U6 ys k) p.length⟩]) (fun k=>k<=m) (fun k=>k=m) (fun k=>m-k) (0) zi (d8.mk (.i rfl zi<|zk) (.a rD zi<|.nil) rfl) ?_ ?_
  ·intro k hR2
   refine jn ?_; refine l5 ?_; refine jq ?_ ?_
   ·intro h16
    refine L3 ?_; refine tO (DU p.length rfl uu rfl uu (fun _=>zo)) rfl rfl ?_; refine tO (BH rfl uu rfl rfl rfl rfl) rfl rfl ?_; refine jc (BX (b6 (U6 ys k) (0+(k:Int).toNat))) ?_; refine tO (DU p.length rfl uu rfl uu (fun _=>zo)) rfl rfl ?_; refine j3 ?_
    exact g6.lp (k+1) zi zo (d8.mk (.i rfl zi<|zk) (.a (by rw[show 0+(k:Int).toNat=k by omega]; exact rB zo) zi<|.nil) rfl)
   ·intro h16
    replace h16:=Int.not_lt.1 h16
    refine i1 ?_
    exact g6.cut (k) zo (d8.mk (.i rfl zi<|zk) (zk) rfl)
  ·rintro k hkm2
   refine je ?_; refine i1 ?_; refine b8.frzQ 13 [92] ⟨rfl,trivial⟩ ⟨by omega,by simp only[q7]; omega⟩ rfl ?_; refine jl ?_; refine i1 ?_; exact f0.res1 (fn:=Tryz.f222) rfl (.r rfl (by unfold against; rw[<- hag,hkm2,rC zo])<|.nil)

end Go.Fl

/- Contracts: roots between two fractions, fields. -/
namespace Go.Fl
open Go Go.Proofs
open b8 renaming op->tO
open i7 renaming op->rO
set_option maxRecDepth 100000

def CN (f:y4):Bool:=if f.1.length=2 then decide (f.2.1<=-b6 f.1 0*f.2.2.2/\-b6 f.1 0*f.2.2.2<=f.2.2.1) else decide (((F4 (P4 f.1 f.2.1 f.2.2.2)).1:Int)-(F4 (P4 f.1 f.2.2.1 f.2.2.2)).1=1)
noncomputable def C8 (f:y4):Int :=
 if ¬(2<=f.1.length/\f.1.length<=5) then 10
 else if f.1.any FJ=true then 2
 else if ¬((1<=f.2.2.2/\f.2.2.2<=1000000)/\(-1000000<=f.2.1/\f.2.1<=1000000)/\(-1000000<=f.2.2.1/\f.2.2.1<=1000000)) then 2
 else if b6 f.1 (f.1.length-1)≠1\/CR f.1=true then 3
 else if f.2.1>f.2.2.1 then 9
 else if CN f=false then 11 else 0
theorem iW (l:List Int) (h:∀s∈l,-1<=s/\s<=1):-1<=(F4 l).2/\(F4 l).2<=1:=by
 have key:∀(l:List Int) (st:Nat×Int),(∀s∈l,-1<=s/\s<=1)->(-1<=st.2/\st.2<=1)->-1<=(l.foldl z5 st).2/\(l.foldl z5 st).2<=1:=by
  intro l
  induction l with
  | nil=>intro st _ h; exact h
  | cons s l ih =>
   intro st h1 h2
   rw[List.foldl_cons]
   refine ih _ (fun x hx=>h1 x (List.mem_cons_of_mem _ hx)) ?_
   have:=h1 s List.mem_cons_self
   unfold z5; simp only; split<;>assumption
 exact key l (0,0) h (by decide)
theorem qT {s l:Int} (h1:-1<=s/\s<=1) (h2:-1<=l/\l<=1):-1<=s*l/\s*l<=1:=by
 rcases (show s=-1\/s=0\/s=1 by omega) with rfl | rfl | rfl<;>omega
theorem cV {p:List Int} (h:p.any FJ≠true) (i:Nat):(b6 p i).natAbs<=1000:=by
 by_cases hi:i<p.length
 ·have:=List.any_eq_false.1 (by simpa using h) (b6 p i) (G5 hi)
  unfold FJ at this
  simp at this
  omega
 ·rw[w4 zo]; show (0:Int).natAbs<=_; omega
theorem cJ {α:Type} [Inhabited α] {xs:List α} {i k:Nat} (h:i<k):b6 (xs.take k) i=b6 xs i:=by simp[b6,List.getD,h]
theorem YK (a d:Int) (ch:List (List Int)) (ha:-1000000<=a/\a<=1000000) (hd:1<=d/\d<=1000000) (hl:ch.length<=5) (hc:∀j,j<ch.length->(b6 ch j).length<=5/\∀i,dl (b6 (b6 ch j) i)<=1681):Ct Tryz.prog 223 [kI a,r5 (eL (eL eZ)) ch,r5 eI d] (kI ((F4 (ch.map fun q=>u9 (C5 a d q).1)).1:Int)):=by
 obtain ⟨sl,hsl⟩:∃sl,sl=(ch.map fun q=>u9 (C5 a d q).1):=⟨_,rfl⟩
 have hll:sl.length=ch.length:=by rw[hsl,List.length_map]
 have hsn:∀j,j<ch.length->b6 sl j=u9 (C5 a d (b6 ch j)).1:=fun j hj=>by rw[hsl]; simp[b6,hj]
 have hsb:∀s∈sl,-1<=s/\s<=1:=fun s hs=>by rw[hsl] at hs; obtain ⟨q,_,rfl⟩:=List.mem_map.1 hs; exact OZ _
 have hcle:=fun k=>WO (l:=sl.take k)
 have htk:∀k,(sl.take k).length<=5:=fun k=>by rw[List.length_take]; omega
 rw[<- hsl]
 have had:=I4 (F:=d) zo zo
 have haa:dl a<=1:=S8 (by simp[BP]; omega)
 refine Ct.mk Tryz.func223 rfl Tryz.ntmps223 rfl (fun w J=>?_); refine JJ ?_
 refine Tr.for1 (σ:=Nat) [⟨0,true,_,_⟩,⟨2,true,_,_⟩,⟨10,true,_,_⟩,⟨11,true,_,_⟩] [] (fun k=>[⟨5,true,[],kI ((F4 (sl.take k)).1:Int)⟩,⟨6,true,[],kI (F4 (sl.take k)).2⟩,⟨12,true,[],kI (k:Int)⟩]) (fun k=>[]) (fun k=>k<=ch.length) (fun k=>k=ch.length) (fun k=>ch.length-k) (0) zi (d8.mk (.i rfl (by rfl)<|.i rfl (by rfl)<|.i rfl zi<|zk) (.nil) rfl) ?_ ?_
 ·intro k hR0
  refine jn ?_
  have hck:=fun (h:k<ch.length)=>hc k h
  have hcs:=fun (h:k<ch.length)=>iX (l:=sl) (k:=k) zo
  have hsk:=fun (h:k<ch.length)=>hsn k h
  have hb1:=OZ (C5 a d (b6 ch k)).1
  have hb2:=iW (sl.take k) (fun s hs=>hsb s (List.mem_of_mem_take hs))
  have hb3:=qT hb1 hb2
  have hb4:=hcle k
  have hb5:=htk k
  refine l5 ?_; refine jq ?_ ?_
  ·intro h3
   refine w3 ?_; refine Tr.draw 5 p7 (by kernel_rfl) ?_
   replace hck:=hck zo
   refine g8 ?_; refine jd (M4 a zo) ?_; refine i6 ?_; refine jd (M4 d zo) ?_; refine i6 ?_; refine jc (RJ (b6 ch k) a d 1 1681 zo hck.2 haa had zo zo) ?_; refine w3 ?_; refine jq ?_ ?_
   ·intro h6
    refine w3 ?_; refine jq ?_ ?_
    ·intro h8
     refine t6 ?_
     exact g6.lp (k+1) zi zo (d8.mk (.i rfl (by rw[hcs zo,hsk zo]; unfold z5; simp only; split<;>omega)<|.i rfl (by rw[hcs zo,hsk zo]; unfold z5; simp only; split<;>omega)<|.i rfl zi<|zk) (.nil) rfl)
    ·intro h8
     replace h8:=Classical.not_not.1 h8
     refine j8 ?_
     exact g6.lp (k+1) zi zo (d8.mk (.i rfl (by rw[hcs zo,hsk zo]; unfold z5; simp only; split<;>omega)<|.i rfl (by rw[hcs zo,hsk zo]; unfold z5; simp only; split<;>omega)<|.i rfl zi<|zk) (.nil) rfl)
   ·intro h6
    replace h6:=Int.not_lt.1 h6
    refine j3 ?_; refine jq ?_ ?_
    ·intro h8
     refine t6 ?_
     exact g6.lp (k+1) zi zo (d8.mk (.i rfl (by rw[hcs zo,hsk zo]; unfold z5; simp only; split<;>omega)<|.i rfl (by rw[hcs zo,hsk zo]; unfold z5; simp only; split<;>omega)<|.i rfl zi<|zk) (.nil) rfl)
    ·intro h8
     replace h8:=Classical.not_not.1 h8
     refine j8 ?_
     exact g6.lp (k+1) zi zo (d8.mk (.i rfl (by rw[hcs zo,hsk zo]; unfold z5; simp only; split<;>omega)<|.i rfl (by rw[hcs zo,hsk zo]; unfold z5; simp only; split<;>omega)<|.i rfl zi<|zk) (.nil) rfl)
  ·intro h3
   replace h3:=Int.not_lt.1 h3
   refine i1 ?_
   exact g6.cut (k) zo (d8.mk (.i rfl zi<|.i rfl zi<|.i rfl zi<|zk) (.nil) rfl)
 ·rintro k hkn
  refine je ?_
  have htl:sl.take k=sl:=List.take_of_length_le zo
  refine j3 ?_; exact f0.res1 (fn:=Tryz.f223) rfl (.i rfl (by rw[htl])<|.nil)

set_option maxHeartbeats 1000000 in
theorem lG (p:List Int) (lo hi d:Int) (h3':3<=p.length) (h5':p.length<=5) (h1':b6 p (p.length-1)=1) (hs:∀i,(b6 p i).natAbs<=1000) (hlo:-1000000<=lo/\lo<=1000000) (hhi:-1000000<=hi/\hi<=1000000) (hd:1<=d/\d<=1000000):Ct Tryz.prog 213 [b7 (eL eZ) p,kI lo,kI hi,kI d] (kI (((F4 (P4 p lo d)).1:Int)-(F4 (P4 p hi d)).1)):=by
 have hdd:=(ZF h3' h5' h1' hs).1
 have hL5:=iT h3' h5' h1' hs
 have hel:=fun (j:Nat) (hj:j<(z8 p).length)=>WL h3' h5' h1' hs hj
 have hne:=fun (j:Nat) (hj:j<(z8 p).length)=>List.length_pos_iff.2 (WM h3' h5' h1' hj)
 have hL2:2<=(z8 p).length:=by unfold z8; simp
 have hcl:∀a:Int,(F4 (P4 p a d)).1<=5:=fun a=>by have:=WO (l:=P4 p a d); unfold P4 at this ⊢; rw[List.length_map] at this; omega
 have hc1:(F4 ((z8 p).map fun q=>u9 (C5 lo d q).1)).1<=5:=hcl lo
 have hc2:(F4 ((z8 p).map fun q=>u9 (C5 hi d q).1)).1<=5:=hcl hi
 refine Ct.mk Tryz.func213 rfl Tryz.ntmps213 rfl (fun w J=>?_); refine g8 ?_; refine jb 7 rfl ?_; refine j8 ?_; refine jc (lB p zo h5' hdd) ?_; refine b8.new (A1 (eL eZ) 15 (fun hp=>.cons rfl<|.cons rfl<|.nil) rfl rfl rfl rfl) rfl rfl rfl rfl ?_; refine ja 9 ?_; refine j5 ?_
 refine Tr.for (σ:=Nat) [⟨1,true,_,_⟩,⟨2,true,_,_⟩,⟨7,true,_,_⟩,⟨9,true,_,_⟩] [⟨7,_,_⟩] (fun m=>[]) (fun m=>[⟨9,[15],j1 [o7 15 m]⟩,⟨15,[],l3 false 193 (eL eZ) ((z8 p).take m) m⟩]) (fun m=>2<=m/\m<=(z8 p).length) (fun m=>m=(z8 p).length) (fun m=>(z8 p).length-m) (2) ⟨Nat.le_refl _,hL2⟩ (d8.mk (zk) (.k rfl<|.a (by rfl) zi<|zk) rfl) ?_ ?_
 ·intro m hR0
  refine jn ?_
  have hX:b6 ((z8 p).take m) ((m:Int)-2).toNat=b6 (z8 p) (m-2):=by rw[show ((m:Int)-2).toNat=m-2 by omega]; exact cJ zo
  have hY:b6 ((z8 p).take m) ((m:Int)-1).toNat=b6 (z8 p) (m-1):=by rw[show ((m:Int)-1).toNat=m-1 by omega]; exact cJ zo
  refine g8 ?_; refine Tr.draw 12 p7 (by kernel_rfl) ?_; refine g8 ?_; refine rO (U8 rfl uu) rfl rfl ?_; refine j5 ?_
  rw[hX]
  refine g8 ?_; refine rO (U8 rfl uu) rfl rfl ?_; refine j5 ?_
  rw[hY]
  refine i6 ?_; refine tO (i9 (fun hp=>kY (b6 (z8 p) (m-2)) (b6 (z8 p) (m-1)) 1681 1681 (hne _ zo) (by have:=(hel (m-2) zo).2.1; omega) (hne _ zo) (by have:=(hel (m-1) zo).2.1; omega) (hel _ zo).2.2 (hel _ zo).2.2 zo zo) (.a rfl uu<|.a rfl uu<|.nil)) rfl rfl ?_; refine B0 ?_; refine jq ?_ ?_
  ·intro h3
   have z6:m=(z8 p).length:=Classical.byContradiction fun e=>by have hq:=QR h3' h5' h1' hR0.1 hR0.2; rw[if_pos zo] at hq; have:=List.length_pos_iff.2 (hq.2 zo); rw[<- hq.1] at this; omega
   refine n7 ?_; exact g6.cut (m) z6 (d8.mk (zk) (zk) rfl)
  ·intro h3
   have hq:=QR h3' h5' h1' hR0.1 hR0.2
   have z6:m<(z8 p).length:=Classical.byContradiction fun e=>by rw[if_neg e] at hq; rw[hq.1] at h3; exact h3 rfl
   rw[if_pos z6] at hq
   rw[hq.1]
   refine n7 ?_; refine b8.new (A1 (eL eZ) 34 (fun hp=>.cons rfl<|.nil) rfl rfl rfl rfl) rfl rfl rfl rfl ?_; refine b8.wkC 9 (.any<|.nil) rfl ?_; refine i6 ?_; refine jl ?_; refine j5 ?_
   exact g6.lp (m+1) zi zo (d8.mk (zk) (.e (by rfl) rfl<|.a (by rw[V2 z6]) zi<|zk) rfl)
 ·rintro m z6
  refine jn ?_
  have htk:(z8 p).take m=z8 p:=by rw[z6,List.take_length]
  rw[htk]
  refine i6 ?_; refine Tr.frzC 15 9 (by simp only[q7]; omega) rfl rfl ?_; refine jn ?_; refine Tr.frzB 9 [9] (eL (eL eZ)) ⟨rfl,trivial⟩ rfl ?_; refine Tr.frzB 7 [7] eI ⟨rfl,trivial⟩ rfl ?_; refine jn ?_; refine i6 ?_; refine tO (DS (.cons rfl uu<|.cons rfl uu<|.nil)) rfl rfl ?_; refine j8 ?_; refine tO (cO rfl uu (fun hp=>YK lo d (z8 p) hlo hd hL5 (fun j hj=>⟨by have:=(hel j hj).2.1; omega,(hel j hj).2.2⟩)) (.a rfl uu<|.nil)) rfl rfl ?_; refine g8 ?_; refine tO (cO rfl uu (fun hp=>YK hi d (z8 p) hhi hd hL5 (fun j hj=>⟨by have:=(hel j hj).2.1; omega,(hel j hj).2.2⟩)) (.a rfl uu<|.nil)) rfl rfl ?_
  refine n7 ?_; exact f0.res1 (fn:=Tryz.f213) rfl (.i rfl (by rfl)<|.nil)

theorem lF (f:y4) (h2':2<=f.1.length) (h5':f.1.length<=5) (h1':b6 f.1 (f.1.length-1)=1) (hs:∀i,(b6 f.1 i).natAbs<=1000) (hd:1<=f.2.2.2/\f.2.2.2<=1000000) (hlo:-1000000<=f.2.1/\f.2.1<=1000000) (hhi:-1000000<=f.2.2.1/\f.2.2.1<=1000000):Ct Tryz.prog 189 [b7 E3 f] (kB (CN f)):=by
 have hm0:(-b6 f.1 0*f.2.2.2).natAbs<=1000*1000000:=T3 (by rw[Int.natAbs_neg]; exact hs 0) zo
 have hs0:=hs 0
 have hf:∀i,-9223372036854775808<=b6 f.1 i/\b6 f.1 i<=9223372036854775807:=fun i=>by have:=hs i; omega
 refine Ct.mk Tryz.func189 rfl Tryz.ntmps189 rfl (fun w J=>?_); refine g8 ?_; refine jb 1 rfl ?_; refine n7 ?_; refine Tr.frzB 1 [1] E3 (x:=f) ⟨rfl,trivial⟩ rfl ?_; refine jn ?_; refine j8 ?_; refine jq ?_ ?_
 ·intro h1
  have hb:CN f=decide (f.2.1<=-b6 f.1 0*f.2.2.2/\-b6 f.1 0*f.2.2.2<=f.2.2.1):=if_pos zo
  refine i6 ?_; refine Tr.draw 12 p7 (by kernel_rfl) ?_; refine g8 ?_; refine rO (D8 (i:=0) rfl uu rfl uu rfl (fun _=>zo)) rfl rfl ?_; refine i6 ?_; refine rO (FG rfl uu (fun _=>zo)) rfl rfl ?_; refine j3 ?_; refine tO (i9 (fun hp=>GM _ _ _) (.a rfl uu<|.a rfl uu<|.a rfl uu<|.nil)) rfl rfl ?_; refine n7 ?_; exact f0.res1 (fn:=Tryz.f189) rfl (.b rfl (by rw[hb])<|.nil)
 ·intro h1
  have hb:CN f=decide (((F4 (P4 f.1 f.2.1 f.2.2.2)).1:Int)-(F4 (P4 f.1 f.2.2.1 f.2.2.2)).1=1):=if_neg zo
  refine j5 ?_; refine Tr.draw 8 p7 (by kernel_rfl) ?_; refine i6 ?_; refine jd (XY f hf zo) ?_; refine j8 ?_; refine jc (lG f.1 f.2.1 f.2.2.1 f.2.2.2 zo h5' h1' hs hlo hhi hd) ?_; refine n7 ?_; exact f0.res1 (fn:=Tryz.f189) rfl (.b rfl (by rw[hb])<|.nil)

end Go.Fl

/- Contracts: errors of fields, opening. -/
namespace Go.Fl
open Go Go.Proofs
open b8 renaming op->tO
open i7 renaming op->rO
set_option maxRecDepth 100000

theorem DI {f:y4} (h:C8 f=0):((2<=f.1.length/\f.1.length<=5)/\(∀i,(b6 f.1 i).natAbs<=1000)/\((1<=f.2.2.2/\f.2.2.2<=1000000)/\(-1000000<=f.2.1/\f.2.1<=1000000)/\(-1000000<=f.2.2.1/\f.2.2.1<=1000000)))/\b6 f.1 (f.1.length-1)=1/\CR f.1=false/\f.2.1<=f.2.2.1/\CN f=true:=by
 unfold C8 at h
 by_cases c1:2<=f.1.length/\f.1.length<=5
 ·rw[if_neg (fun e=>e c1)] at h
  by_cases c2:f.1.any FJ=true
  ·rw[if_pos c2] at h; exact absurd h (by decide)
  ·rw[if_neg c2] at h
   by_cases c3:(1<=f.2.2.2/\f.2.2.2<=1000000)/\(-1000000<=f.2.1/\f.2.1<=1000000)/\(-1000000<=f.2.2.1/\f.2.2.1<=1000000)
   ·rw[if_neg (fun e=>e c3)] at h
    by_cases c4:b6 f.1 (f.1.length-1)≠1\/CR f.1=true
    ·rw[if_pos c4] at h; exact absurd h (by decide)
    ·rw[if_neg c4] at h
     by_cases c5:f.2.1>f.2.2.1
     ·rw[if_pos c5] at h; exact absurd h (by decide)
     ·rw[if_neg c5] at h
      by_cases c6:CN f=false
      ·rw[if_pos c6] at h; exact absurd h (by decide)
      ·refine ⟨⟨c1,cV c2,c3⟩,Classical.byContradiction fun e=>c4 (.inl e),?_,by omega,by simpa using c6⟩
       cases hr:CR f.1 with
       | false=>rfl
       | true=>exact absurd (.inr hr) c4
   ·rw[if_pos c3] at h; exact absurd h (by decide)
 ·rw[if_pos c1] at h; exact absurd h (by decide)
def F1 (f:y4):Iv:=⟨f.2.1,f.2.2.1,f.2.2.2⟩
theorem ZU {f:y4} (h:C8 f=0) (h3:3<=f.1.length):Y4 f.1 (F1 f):=by
 obtain ⟨⟨c1,c2,c3,c4,c5⟩,c6,c7,c8,c9⟩:=DI h
 have hred:¬EK (lP f.1) (f.1.length-1):=tC h3 fun e=>by rw[OT e] at c7; cases c7
 refine ⟨⟨c1,fun i=>S8 (by have:=c2 i; simp[BP]; omega)⟩,h3,c6,fun c hc=>?_,⟨c8,by show 0<f.2.2.2; omega⟩,?_,?_,?_,c3.2,hred,?_⟩
 ·obtain ⟨i,hi,rfl⟩:=List.mem_iff_getElem.1 hc
  have:=c2 i
  simpa [b6,hi] using this
 ·show -(1000000*f.2.2.2)<=f.2.1; omega
 ·show f.2.2.1<=1000000*f.2.2.2; omega
 ·show f.2.2.1-f.2.1<=2000000; omega
 ·unfold CN at c9
  rw[if_neg zo,decide_eq_true_eq] at c9
  exact vC h3 c1.2 c6 hred (by show 0<f.2.2.2; omega) c9
def R5 (p l:List Int) (n k i:Nat):Int:=b6 p (n-(k+1))*((k:Int)+1)+r6 (fun j=>b6 p (n-(j+1))*b6 l (k-j)) i
def G0 (p:List Int) (n:Nat):Nat->List Int
 | 0=>[(n:Int)]
 | k+1=>G0 p n k++[-R5 p (G0 p n k) n k k]
theorem fO {p:List Int} {n:Nat}:∀{k:Nat},(G0 p n k).length=k+1
 | 0=>rfl
 | k+1=>by rw[G0,List.length_append,fO]; rfl
theorem dE {p l:List Int} {n k i:Nat}:R5 p l n k (i+1)=R5 p l n k i+b6 p (n-(i+1))*b6 l (k-i):=by unfold R5; rw[I6]; omega
theorem UG {p l:List Int} {n k B:Nat} (hp:∀i,dl (b6 p i)<=1) (hl:∀i,dl (b6 l i)<=B) (hk:k<=4) (hB:1<=B):∀{i:Nat},dl (R5 p l n k i)<=B+2+i
 | 0=>by
  unfold R5
  have h1:=hp (n-(k+1))
  have h2:=I4 (F:=(k:Int)+1) zo zo
  have h3:=u7 (b6 p (n-(k+1))) ((k:Int)+1)
  simp only[r6,Int.add_zero]
  omega
 | i+1=>by
  have ih:=UG (n:=n) hp hl hk hB (i:=i)
  rw[dE]
  have h1:=hp (n-(i+1))
  have h2:=hl (k-i)
  have h3:=u7 (b6 p (n-(i+1))) (b6 l (k-i))
  have h4:=S7 (R5 p l n k i) (b6 p (n-(i+1))*b6 l (k-i))
  omega
theorem fN {p:List Int} {n:Nat} (hp:∀i,dl (b6 p i)<=1) (hn:n<=4):∀{k:Nat},k<=4->∀i,dl (b6 (G0 p n k) i)<=1+8*k
 | 0,_,i=>by
  match i with
  | 0=>exact I4 (F:=(n:Int)) zo zo
  | i+1=>rw[w4 (by rw[fO]; omega)]; show dl 0<=_; rw[E2.2 rfl]; omega
 | k+1,hk,i=>by
  have ih:=fN hp hn (k:=k) zo
  rw[G0]
  by_cases h:i<(G0 p n k).length
  ·have e:b6 (G0 p n k++[-R5 p (G0 p n k) n k k]) i=b6 (G0 p n k) i:=by simp[b6,List.getD,List.getElem?_append_left h]
   rw[e]; have:=ih i; omega
  ·by_cases h2:i=(G0 p n k).length
   ·subst h2
    have e:b6 (G0 p n k++[-R5 p (G0 p n k) n k k]) (G0 p n k).length=-R5 p (G0 p n k) n k k:=by simp[b6]
    rw[e,J5]
    have:=UG (n:=n) hp ih (k:=k) zo zo (i:=k)
    omega
   ·rw[w4 (by rw[List.length_append]; simp; omega)]; show dl 0<=_; rw[E2.2 rfl]; omega
def DW (f:y4):Iv:=if f.1.length=2 then F1 f else i4 f.1 (F1 f) 64
def K3 (f:y4):z7:=(f,f.1,G0 f.1 (f.1.length-1) (f.1.length-2),(DW f).lo,(DW f).hi,(DW f).den)
theorem UA {f:y4} (h:C8 f=0) (h3:3<=f.1.length) {k:Nat} (hk:k<=64):dl (i4 f.1 (F1 f) k).lo<=73000/\dl (i4 f.1 (F1 f) k).hi<=73000/\dl (i4 f.1 (F1 f) k).den<=73000:=by
 have hf:=ZU h h3
 have h5:=hf.len4
 obtain ⟨K,q1,_,q3⟩:=hf.bound (cs:=List.replicate (f.1.length-1) 1) (M:=1) (by simp) ⟨1,List.mem_replicate.2 ⟨by omega,rfl⟩,by decide⟩ (fun c hc=>by rw[(List.mem_replicate.1 hc).2]; exact I4 zo zo) zo zo
 exact q3 k zo
theorem XG (f:y4):Ct Tryz.prog 157 [b7 E3 f] (kI (C8 f)):=by
 refine Ct.mk Tryz.func157 rfl Tryz.ntmps157 rfl (fun w J=>?_); refine g8 ?_; refine jb 1 rfl ?_; refine i1 ?_; refine Tr.frzB 1 [1] E3 (x:=f) ⟨rfl,trivial⟩ rfl ?_; refine jn ?_; refine w3 ?_; refine tO (i9 (fun hp=>GM _ _ _) (.a rfl uu<|.a rfl uu<|.a rfl uu<|.nil)) rfl rfl ?_; refine i1 ?_; refine Tr.cnd rfl ?_ ?_
 ·intro h2
  try simp only[decide_eq_false_iff_not,Bool.not_eq_true'] at h2
  have hc1:¬(2<=f.1.length/\f.1.length<=5):=by omega
  have he:C8 f=10:=if_pos hc1
  refine j3 ?_; exact f0.res1 (fn:=Tryz.f157) rfl (.i rfl (by rw[he])<|.nil)
 ·intro h2
  try simp only[decide_eq_true_eq,Bool.not_eq_false'] at h2
  have hc1:2<=f.1.length/\f.1.length<=5:=by omega
  have he1:=(if_neg (fun e=>e hc1):C8 f=_)
  refine i1 ?_; refine tO (i9 (fun hp=>jS _ 187 FJ (fun x=>kQ x)) (.a rfl uu<|.a rfl uu<|.nil)) rfl rfl ?_; refine j5 ?_; refine Tr.cnd rfl ?_ ?_
  ·intro h4
   have he:C8 f=2:=he1.trans (if_pos h4)
   refine j3 ?_; exact f0.res1 (fn:=Tryz.f157) rfl (.i rfl (by rw[he])<|.nil)
  ·intro h4
   have hc2:f.1.any FJ≠true:=by rw[h4]; decide
   have hs:=cV hc2
   have he2:=he1.trans (if_neg hc2)
   refine i1 ?_; refine tO (i9 (fun hp=>GM _ _ _) (.a rfl uu<|.a rfl uu<|.a rfl uu<|.nil)) rfl rfl ?_; refine i1 ?_; refine b8.gd rfl rfl rfl (i9 (fun hp=>GM _ _ _) (.a rfl id<|.a rfl uu<|.a rfl uu<|.nil)) rfl rfl ?_; refine n7 ?_; refine b8.gd rfl rfl rfl (i9 (fun hp=>GM _ _ _) (.a rfl id<|.a rfl uu<|.a rfl uu<|.nil)) rfl rfl ?_; refine n7 ?_; refine Tr.cnd rfl ?_ ?_
   ·intro h6
    have hc3:¬((1<=f.2.2.2/\f.2.2.2<=1000000)/\(-1000000<=f.2.1/\f.2.1<=1000000)/\(-1000000<=f.2.2.1/\f.2.2.1<=1000000)):=fun ⟨q1,q2,q3⟩=>by simp[q1,q2,q3] at h6
    have he:C8 f=2:=he2.trans (if_pos hc3)
    refine j3 ?_; exact f0.res1 (fn:=Tryz.f157) rfl (.i rfl (by rw[he])<|.nil)
   ·intro h6
    have hc3:(1<=f.2.2.2/\f.2.2.2<=1000000)/\(-1000000<=f.2.1/\f.2.1<=1000000)/\(-1000000<=f.2.2.1/\f.2.2.1<=1000000):=by simp at h6; omega
    have he3:=he2.trans (if_neg (fun e=>e hc3))
    refine g8 ?_
    have hix:((f.1.length:Int)-1).toNat=f.1.length-1:=by omega
    refine t6 ?_; refine b8.gd rfl rfl rfl (i9 (fun hp=>kM f.1 hc1.1 hc1.2 hs) (.a rfl id<|.nil)) rfl rfl ?_; refine i1 ?_; refine Tr.cnd rfl ?_ ?_
    ·intro h8
     have hc4:b6 f.1 (f.1.length-1)≠1\/CR f.1=true:=by simp[hix] at h8; simpa using h8
     have he:C8 f=3:=he3.trans (if_pos hc4)
     refine j3 ?_; exact f0.res1 (fn:=Tryz.f157) rfl (.i rfl (by rw[he])<|.nil)
    ·intro h8
     have hc4:b6 f.1 (f.1.length-1)=1/\CR f.1=false:=by simp[hix] at h8; simpa using h8
     have he4:=he3.trans (if_neg (fun e=>e.elim (fun e=>e hc4.1) (fun e=>by rw[hc4.2] at e; cases e)))
     refine t6 ?_; refine Tr.cnd rfl ?_ ?_
     ·intro h10
      try simp only[decide_eq_true_eq] at h10
      have he:C8 f=9:=he4.trans (if_pos h10)
      refine j3 ?_; exact f0.res1 (fn:=Tryz.f157) rfl (.i rfl (by rw[he])<|.nil)
     ·intro h10
      try simp only[decide_eq_false_iff_not,Int.not_lt] at h10
      have he5:=he4.trans (if_neg (show ¬f.2.1>f.2.2.1 by omega))
      refine j5 ?_; refine jc (lF f hc1.1 hc1.2 hc4.1 hs hc3.1 hc3.2.1 hc3.2.2) ?_; refine i1 ?_; refine Tr.cnd rfl ?_ ?_
      ·intro h12
       have hc6:CN f=false:=by simpa using h12
       have he:C8 f=11:=he5.trans (if_pos hc6)
       refine j3 ?_; exact f0.res1 (fn:=Tryz.f157) rfl (.i rfl (by rw[he])<|.nil)
      ·intro h12
       have hc6:CN f=true:=by simpa using h12
       have he:C8 f=0:=he5.trans (if_neg (by rw[hc6]; decide))
       refine l7 ?_; exact f0.res1 (fn:=Tryz.f157) rfl (.i rfl (by rw[he])<|.nil)

theorem kU (f:y4) (h0:C8 f≠0):Ct Tryz.prog 113 [b7 E3 f] (v6 [j4 (.pointer none),kI (C8 f)]):=by
 refine Ct.mk Tryz.func113 rfl Tryz.ntmps113 rfl (fun w J=>?_); refine g8 ?_; refine jb 1 rfl ?_; refine j3 ?_; refine jc (XG f) ?_; refine l7 ?_; refine Tr.cnd rfl ?_ ?_
 ·intro h2
  refine l7 ?_
  exact f0.res (fn:=Tryz.f113) (ts:=[2,3]) rfl rfl (.k rfl<|.i rfl zi<|.nil)
 ·intro h2
  exact absurd (of_decide_eq_false h2) (fun e=>e h0)

set_option maxHeartbeats 2000000 in
theorem XJ (f:y4) (h0:C8 f=0):Ct Tryz.prog 113 [b7 E3 f] (v6 [r5 v9 (K3 f),kI 0]):=by
 obtain ⟨⟨c1,c2,c3,c4,c5⟩,c6,c7,c8,c9⟩:=DI h0
 have hf:∀i,-9223372036854775808<=b6 f.1 i/\b6 f.1 i<=9223372036854775807:=fun i=>by have:=c2 i; omega
 have hdp:∀i,dl (b6 f.1 i)<=1:=fun i=>S8 (by have:=c2 i; simp[BP]; omega)
 have hdg:Ct Tryz.prog 160 [r5 v9 (f,f.1,[],f.2.1,f.2.2.1,f.2.2.2)] (kI ((f.1.length:Int)-1)):=QZ (f,f.1,[],f.2.1,f.2.2.1,f.2.2.2) c1
 have htr:=fun (k:Nat) (hk:k<=4)=>fN (n:=f.1.length-1) hdp zo hk
 refine Ct.mk Tryz.func113 rfl Tryz.ntmps113 rfl (fun w J=>?_); refine g8 ?_; refine jb 1 rfl ?_; refine j3 ?_; refine jc (XG f) ?_; refine l7 ?_; refine Tr.cnd rfl ?_ ?_
 ·intro h2
  exact absurd h0 (of_decide_eq_true h2)
 ·intro h2
  refine l5 ?_; refine tO (i9 (fun hp=>AV _ zo) (.a rfl uu<|.nil)) rfl rfl ?_; refine n7 ?_; refine Tr.draw 12 p7 (by kernel_rfl) ?_; refine g8 ?_; refine jd (XY f hf zo) ?_; refine g8 ?_; refine jd (M4 f.2.1 zo) ?_; refine g8 ?_; refine jd (M4 f.2.2.1 zo) ?_; refine g8 ?_; refine jd (M4 f.2.2.2 zo) ?_; refine i6 ?_; refine tO (w5 (fun hp=>.cons rfl rfl rfl<|.cons rfl rfl rfl<|.cons rfl rfl rfl<|.cons rfl rfl rfl<|.cons rfl rfl rfl<|.nil)) rfl rfl ?_; refine jb 32 rfl ?_; refine l5 ?_
  refine tO (rX (fun hp=>hdg) rfl rfl uu (.nil)) rfl rfl ?_; refine j8 ?_; refine jc (M4 ((f.1.length:Int)-1) zo) ?_; refine b8.new (A1 eZ 38 (fun hp=>.cons rfl<|.nil) rfl rfl rfl rfl) rfl rfl rfl rfl ?_; refine tO (M9 rfl uu) rfl rfl ?_; refine t6 ?_
  refine Tr.for1 (σ:=Nat) [⟨5,true,_,_⟩,⟨6,true,_,_⟩] [] (fun k=>[⟨7,true,[],kI ((k:Int)+1)⟩]) (fun k=>[⟨32,[38],j1 [b7 (eL eI) f.1,kI f.2.1,kI f.2.2.1,kI f.2.2.2,b7 (eL eZ) f.1,o7 38 (k+1),kB (decide ((F1 f).lo<0)),b7 (eL eI) (d7 ((F1 f).lo).natAbs),kB (decide ((F1 f).hi<0)),b7 (eL eI) (d7 ((F1 f).hi).natAbs),kB (decide ((F1 f).den<0)),b7 (eL eI) (d7 ((F1 f).den).natAbs)]⟩,⟨38,[],l3 false 160 eZ (G0 f.1 (f.1.length-1) k) (k+1)⟩]) (fun k=>k+2<=f.1.length) (fun k=>k+2=f.1.length) (fun k=>f.1.length-k) (0) zo (d8.mk (.i rfl zi<|zk) (.e (by rfl) rfl<|.a (by show [(f.1.length:Int)-1]=[((f.1.length-1:Nat):Int)]; congr 1; omega) zi<|.nil) rfl) ?_ ?_
  ·intro k hR0
   refine jn ?_
   have hix:((f.1.length:Int)-1-((k:Int)+1)).toNat=(f.1.length-1-(k+1)):=by omega
   refine j3 ?_; refine jq ?_ ?_
   ·intro h9
    refine n7 ?_; refine Tr.draw 13 p7 (by kernel_rfl) ?_; refine i6 ?_; refine rO (M9 rfl uu) rfl rfl ?_; refine l5 ?_
    rw[hix]
    refine g8 ?_; refine jd (M4 ((k:Int)+1) zo) ?_; refine jd (I3 (b6 f.1 (f.1.length-1-(k+1))) ((k:Int)+1) (by have:=hdp (f.1.length-1-(k+1)); omega) (by have:=I4 (F:=(k:Int)+1) zo zo; omega)) ?_; refine i7.new (FE 8) rfl rfl rfl rfl ?_; refine t6 ?_
    refine Tr.for1 (σ:=Nat) [⟨5,true,_,_⟩,⟨6,true,_,_⟩,⟨7,true,_,_⟩,⟨8,true,_,_⟩] [⟨32,_,_⟩,⟨38,_,_⟩] (fun i=>[⟨9,true,[],kI ((i:Int)+1)⟩]) (fun i=>[⟨8,[],j1 [kB (decide ((R5 f.1 (G0 f.1 (f.1.length-1) k) (f.1.length-1) k i)<0)),b7 (eL eI) (d7 ((R5 f.1 (G0 f.1 (f.1.length-1) k) (f.1.length-1) k i)).natAbs)]⟩]) (fun i=>i<=k) (fun i=>i=k) (fun i=>k-i) (0) zi (d8.mk (.i rfl zi<|zk) (.conv (W7 (Z0 (by unfold R5; simp only[r6,Int.add_zero]))) rfl<|zk) rfl) ?_ ?_
    ·intro i hR1
     refine jn ?_
     have hiy:((f.1.length:Int)-1-((i:Int)+1)).toNat=(f.1.length-1-(i+1)):=by omega
     have hiz:((k:Int)+1-((i:Int)+1)).toNat=k-i:=by omega
     have hb1:=hdp (f.1.length-1-(i+1))
     have hb2:=htr k zo (k-i)
     have hb3:=u7 (b6 f.1 (f.1.length-1-(i+1))) (b6 (G0 f.1 (f.1.length-1) k) (k-i))
     have hb4:=UG (n:=f.1.length-1) hdp (htr k zo) (k:=k) zo zo (i:=i)
     refine j3 ?_; refine jq ?_ ?_
     ·intro h13
      refine i1 ?_; refine Tr.draw 20 p7 (by kernel_rfl) ?_; refine g8 ?_; refine rO (M9 rfl uu) rfl rfl ?_; refine l5 ?_
      rw[hiy]
      refine g8 ?_; refine rO (M9 rfl uu) rfl rfl ?_; refine l5 ?_
      rw[hiz]
      refine rO (BH rfl uu rfl rfl rfl rfl) rfl rfl ?_; refine jd (I3 (b6 f.1 (f.1.length-1-(i+1))) (b6 (G0 f.1 (f.1.length-1) k) (k-i)) zo zo) ?_; refine i6 ?_; refine jc (S5 (R5 f.1 (G0 f.1 (f.1.length-1) k) (f.1.length-1) k i) (b6 f.1 (f.1.length-1-(i+1))*b6 (G0 f.1 (f.1.length-1) k) (k-i)) zo zo) ?_; refine l7 ?_
      exact g6.lp (i+1) zi zo (d8.mk (.i rfl zi<|zk) (.conv (W7 (Z0 (by rw[dE]))) rfl<|zk) rfl)
     ·intro h13
      replace h13:=Int.not_lt.1 h13
      refine i1 ?_
      exact g6.cut (i) zo (d8.mk (.i rfl zi<|zk) (zk) rfl)
    ·rintro i hik
     refine je ?_; refine i6 ?_; refine Tr.drawM (m:=8) p7 (by kernel_rfl) rfl (by kernel_rfl) (by kernel_rfl) (by kernel_rfl) ?_; refine g8 ?_; refine rO (M9 rfl uu) rfl rfl ?_; refine j5 ?_; refine jd (BX (R5 f.1 (G0 f.1 (f.1.length-1) k) (f.1.length-1) k i)) ?_; refine i7.new (A1 eZ 91 (fun hp=>.cons rfl<|.nil) rfl rfl rfl rfl) rfl rfl rfl rfl ?_; refine i6 ?_; refine b8.wkC 32 (.k<|.k<|.k<|.k<|.k<|.any<|.k<|.k<|.k<|.k<|.k<|.k<|.nil) rfl ?_; refine i6 ?_; refine jl ?_; refine tO (M9 rfl uu) rfl rfl ?_; refine g8 ?_
     refine b8.finN ?_; refine j8 ?_
     exact g6.lp (k+1) zi zo (d8.mk (.i rfl zi<|zk) (.e (by rfl) rfl<|.a (by rw[hik]; rfl) zi<|.nil) rfl)
   ·intro h9
    replace h9:=Int.not_lt.1 h9
    refine i1 ?_
    exact g6.cut (k) zo (d8.mk (.i rfl zi<|zk) (zk) rfl)
  ·rintro k hkn
   refine je ?_; refine j5 ?_; refine Tr.frzC 38 32 (by simp only[q7]; omega) rfl rfl ?_; refine jn ?_; refine n7 ?_; refine jq ?_ ?_
   ·intro h17
    have hl3:3<=f.1.length:=by omega
    refine n7 ?_
    refine Tr.for1 (σ:=Nat) [⟨5,true,_,_⟩] [] (fun h=>[⟨97,true,[],kI (h:Int)⟩]) (fun h=>[⟨32,[],j1 [b7 (eL eI) f.1,kI f.2.1,kI f.2.2.1,kI f.2.2.2,b7 (eL eZ) f.1,b7 (eL eZ) (G0 f.1 (f.1.length-1) k),kB (decide ((i4 f.1 (F1 f) h).lo<0)),b7 (eL eI) (d7 ((i4 f.1 (F1 f) h).lo).natAbs),kB (decide ((i4 f.1 (F1 f) h).hi<0)),b7 (eL eI) (d7 ((i4 f.1 (F1 f) h).hi).natAbs),kB (decide ((i4 f.1 (F1 f) h).den<0)),b7 (eL eI) (d7 ((i4 f.1 (F1 f) h).den).natAbs)]⟩]) (fun h=>h<=64) (fun h=>h=64) (fun h=>64-h) (0) zi (d8.mk (.i rfl zi<|zk) (.e (by rfl) rfl<|.nil) rfl) ?_ ?_
    ·intro h hR2
     refine jn ?_; refine l5 ?_; refine jq ?_ ?_
     ·intro h19
      refine l5 ?_; refine b8.mutP (XP (b7 (eL eI) f.1) (kI f.2.1) (kI f.2.2.1) (kI f.2.2.2) (b7 (eL eZ) (G0 f.1 (f.1.length-1) k)) f.1 (i4 f.1 (F1 f) h) 73000 zo hdp (UA h0 hl3 zo).1 (UA h0 hl3 zo).2.1 (UA h0 hl3 zo).2.2 zo) rfl (.nil) (fun g b cap o h=>W8 (g:=g) (g':=g1 g.J b cap) rfl h) (fun {J b cap o g} h=>W8 (g:=g1 J b cap) (g':=⟨J,g.M⟩) rfl h) rfl ?_; refine j8 ?_
      exact g6.lp (h+1) zi zo (d8.mk (.i rfl zi<|zk) (.e (by rfl) rfl<|.nil) rfl)
     ·intro h19
      replace h19:=Int.not_lt.1 h19
      refine i1 ?_
      exact g6.cut (h) zo (d8.mk (.i rfl zi<|zk) (zk) rfl)
    ·rintro _ rfl
     refine je ?_; refine g8 ?_; refine Tr.frzB 32 [5] v9 ⟨rfl,trivial⟩ rfl ?_; refine jn ?_; refine j8 ?_; exact f0.res (fn:=Tryz.f113) (ts:=[2,3]) rfl rfl (.p rfl (by unfold K3 DW; rw[if_neg zo,show k=f.1.length-2 by omega])<|.i rfl (by rfl)<|.nil)
   ·intro h17
    replace h17:=Int.not_lt.1 h17
    have hl2:f.1.length=2:=by omega
    refine j5 ?_; refine Tr.frzB 32 [5] v9 ⟨rfl,trivial⟩ rfl ?_; refine jn ?_; refine j8 ?_; exact f0.res (fn:=Tryz.f113) (ts:=[2,3]) rfl rfl (.p rfl (by unfold K3 DW; rw[if_pos hl2,show k=f.1.length-2 by omega])<|.i rfl (by rfl)<|.nil)

end Go.Fl

/- Numbers as the reference of chapter 1 reckons them: the same as the program's. No program in sight. -/
namespace Go.Fl
open Go
theorem aH:B6 []:=fun _ h=>absurd h (Nat.not_lt_zero _)
end Go.Fl

/- Contracts: fields of the reference. -/
namespace Go.Fl
open Go Go.Proofs
open b8 renaming op->tO
open i7 renaming op->rO
set_option maxRecDepth 100000

theorem X4 {f:y4} (h:C8 f=0):I1 f.1:=by
 obtain ⟨⟨c1,c2,_⟩,_⟩:=DI h
 exact ⟨c1,fun i=>S8 (by have:=c2 i; simp[BP]; omega)⟩
theorem eK {p:List Int} {I:Iv} {v:m8} (h:O0 v.1=true):H2 p I v=s7 (b6 v.1 0) 0:=if_pos h
theorem sD {f:y4} (h:¬f.1.length=2):i4 f.1 (F1 f) 64=DW f:=by unfold DW; rw[if_neg h]
theorem sE {f:y4}:(⟨(K3 f).2.2.2.1,(K3 f).2.2.2.2.1,(K3 f).2.2.2.2.2⟩:Iv)=DW f:=by simp only[K3]
theorem uP {r:z7} {I:Iv} (hpo:I1 r.2.1) (h2:r.2.1.length=2):KZ r (H2 r.2.1 I):=by
 have hr:∀x:B7,O0 (o0 r.2.1 x).1=true:=fun x=>OO h2
 refine ⟨fun x hx=>?_,fun x y hx hy=>?_⟩
 ·rw[eK (hr x)]
  exact kW r x 250 hpo h2 hx zo
 ·have e:H2 r.2.1 I (J6 (o0 r.2.1 x) (o0 r.2.1 y))=s7 (b6 (J6 (o0 r.2.1 x) (o0 r.2.1 y)).1 0) 0:=eK (dG (hr x) (dH (hr y)))
  rw[e]
  exact kS r x y 250 hpo hx hy zo h2
theorem uO {r:z7} {I:Iv} (hf:Y4 r.2.1 I) (hI:i4 r.2.1 I 64=⟨r.2.2.2.1,r.2.2.2.2.1,r.2.2.2.2.2⟩):KZ r (H2 r.2.1 I) :=
 ⟨fun x hx=>kV r I x hf hI hx,fun x y hx hy=>kR r I x y hf hI hx hy⟩
theorem UQ {f:y4} (h:C8 f=0):KZ (K3 f) (H2 f.1 (F1 f)):=by
 have e:(K3 f).2.1=f.1:=rfl
 have hpo:=X4 h
 rw[<- e] at hpo ⊢
 by_cases h2:f.1.length=2
 ·rw[<- e] at h2
  exact uP hpo h2
 ·obtain ⟨⟨c1,_⟩,_⟩:=DI h
  have hf:=ZU h zo
  have hI:=sD h2
  rw[<- sE] at hI
  generalize K3 f=r at *
  rw[<- e] at hf hI
  exact uO hf hI
end Go.Fl

/- Contracts: remainders, values at fractions and changes of sign, as the reference finds them. -/
namespace Go.Fl
open Go Go.Proofs
open b8 renaming op->tO
open i7 renaming op->rO
set_option maxRecDepth 100000

end Go.Fl

/- Contracts: fields of the reference. -/
namespace Go.Fl
open Go Go.Proofs
open b8 renaming op->tO
open i7 renaming op->rO
set_option maxRecDepth 100000

section
variable {p:List Int} (h3:3<=p.length) (h5:p.length<=5) (h1:b6 p (p.length-1)=1) (hs:∀i,(b6 p i).natAbs<=1000)
include h3 h5 h1 hs
end
end Go.Fl

/- Contracts: fields of the reference: errors, opening. -/
namespace Go.Fl
open Go Go.Proofs
open b8 renaming op->tO
open i7 renaming op->rO
set_option maxRecDepth 100000

end Go.Fl

/- Contracts: numbers of the reference: normal forms, sums, products. -/
namespace Go.Fl
open Go Go.Proofs
open b8 renaming op->tO
open i7 renaming op->rO
set_option maxRecDepth 100000

end Go.Fl

/- Contracts: numbers of the reference: normal forms, sums, products. -/
namespace Go.Fl
open Go Go.Proofs
open b8 renaming op->tO
open i7 renaming op->rO
set_option maxRecDepth 100000

end Go.Fl

/- Contracts: numbers of the reference: products, differences. -/
namespace Go.Fl
open Go Go.Proofs
open b8 renaming op->tO
open i7 renaming op->rO
set_option maxRecDepth 100000

end Go.Fl

/- Contracts: enclosures and halving of the reference. -/
namespace Go.Fl
open Go Go.Proofs
open b8 renaming op->tO
open i7 renaming op->rO
set_option maxRecDepth 100000

end Go.Fl

/- Contracts: enclosures, halving and signs of the reference. -/
namespace Go.Fl
open Go Go.Proofs
open b8 renaming op->tO
open i7 renaming op->rO
set_option maxRecDepth 100000

end Go.Fl

/- Sums of lengths in any order; orbits. No program in sight. -/
namespace Go.Fl
open Go
end Go.Fl

/- Contracts: exchanges of the reference: errors, places, shifts. -/
namespace Go.Fl
open Go Go.Proofs
open b8 renaming op->tO
open i7 renaming op->rO
set_option maxRecDepth 100000

structure AQ (x:t8):Prop where
 top:x.2.1.length<=12
 bot:x.2.2.1.length<=12
 len:x.2.2.2.length<=12
 num:∀a,C1 2 (b6 x.2.2.2 a)
theorem rK {k:Nat}:C1 k ([],[]):=⟨by simp,fun i=>⟨by rw[TV]; exact aH,by rw[TV]; exact Nat.zero_le _⟩,aH,Nat.zero_le _⟩
noncomputable abbrev B5 (x:t8):m8->Int:=H2 x.1.1 (F1 x.1)
abbrev G8 (x:t8):List m8:=x.2.2.2.map (o0 x.1.1)
structure Q6 (x:t8):Prop where
 fld:C8 x.1=0
 rows:A3 (x.2.1,x.2.2.1)
 len:x.2.2.2.length=x.2.1.length
 num:∀a,a<x.2.1.length->C1 250 (b6 x.2.2.2 a)
 pos:∀a,a<x.2.1.length->0<B5 x (o0 x.1.1 (b6 x.2.2.2 a))
open Classical in
noncomputable def H5 (x:t8):Int:=if C8 x.1≠0 then C8 x.1 else if E1 (x.2.1,x.2.2.1)≠0 then E1 (x.2.1,x.2.2.1) else if x.2.2.2.length≠x.2.1.length then 10 else if ∀a,a<x.2.2.2.length->0<B5 x (o0 x.1.1 (b6 x.2.2.2 a)) then 0 else 12
theorem iZ {x:t8} (h:H5 x=0) (hs:AQ x):Q6 x:=by
 unfold H5 at h
 by_cases c1:C8 x.1=0
 ·rw[if_neg (fun e=>e c1)] at h
  by_cases c2:E1 (x.2.1,x.2.2.1)=0
  ·rw[if_neg (fun e=>e c2)] at h
   by_cases c3:x.2.2.2.length=x.2.1.length
   ·rw[if_neg (fun e=>e c3)] at h
    by_cases c4:∀a,a<x.2.2.2.length->0<B5 x (o0 x.1.1 (b6 x.2.2.2 a))
    ·exact ⟨c1,HV c2,c3,fun a _=>(hs.num a).mono zo,fun a ha=>c4 a zo⟩
    ·rw[if_neg c4] at h; exact absurd h (by decide)
   ·rw[if_pos c3] at h; exact absurd h (by decide)
  ·rw[if_pos c2] at h; exact absurd h c2
 ·rw[if_pos c1] at h; exact absurd h c1
theorem kA (a b:List B7):Ct Tryz.prog 22 [b7 (eL m9) a,b7 (eL m9) b] (kB (decide (a=b))):=by
 refine Ct.mk Tryz.func22 rfl Tryz.ntmps22 rfl (fun w J=>?_); refine Tr.fact (s:=0) rfl (fun _ _ h=>P0 h) (fun hb=>?_); refine L3 ?_; refine jq ?_ ?_
 ·intro h1
  have hne:a≠b:=fun e=>h1 (by rw[e])
  refine j8 ?_; exact f0.res1 (fn:=Tryz.f22) rfl (.b rfl (by symm; rw[decide_eq_false_iff_not]; exact hne)<|.nil)
 ·intro h1
  replace h1:=Classical.not_not.1 h1
  have hll:a.length=b.length:=by omega
  refine j3 ?_
  refine Tr.for1 (σ:=Nat) [⟨0,true,_,_⟩,⟨1,true,_,_⟩] [] (fun k=>[⟨5,true,[],kI (k:Int)⟩]) (fun k=>[]) (fun k=>k<=a.length/\∀i,i<k->b6 a i=b6 b i) (fun k=>∀i,i<a.length->b6 a i=b6 b i) (fun k=>a.length-k) (0) ⟨Nat.zero_le _,fun i h=>absurd h (Nat.not_lt_zero _)⟩ (d8.mk (.i rfl zi<|zk) (.nil) rfl) ?_ ?_
  ·rintro k ⟨hk,hR⟩
   refine jn ?_; refine l7 ?_; refine jq ?_ ?_
   ·intro h4
    refine n7 ?_; refine Tr.draw 8 p7 (by kernel_rfl) ?_; refine l7 ?_; refine jc (jZ (b6 a k) (b6 b k)) ?_; refine j5 ?_; refine Tr.cnd rfl ?_ ?_
    ·intro h6
     have hne:a≠b:=fun e=>by subst e; simp at h6
     refine w3 ?_; exact f0.res1 (fn:=Tryz.f22) rfl (.b rfl (by symm; rw[decide_eq_false_iff_not]; exact hne)<|.nil)
    ·intro h6
     have hkk:b6 a k=b6 b k:=by simpa using h6
     refine j3 ?_
     exact g6.lp (k+1) ⟨by omega,fun i hi=>by by_cases e:i=k; (rw[e]; exact hkk); exact hR i zo⟩ zo (d8.mk (.i rfl zi<|zk) (.nil) rfl)
   ·intro h4
    replace h4:=Int.not_lt.1 h4
    refine i1 ?_
    exact g6.cut (k) (fun i hi=>hR i zo) (d8.mk (.i rfl zi<|zk) (.nil) rfl)
  ·rintro k hE
   refine je ?_; refine j8 ?_; exact f0.res1 (fn:=Tryz.f22) rfl (.b rfl (by symm; rw[decide_eq_true_eq]; exact F5 hll hE)<|.nil)

theorem mV (r:l8):Ct Tryz.prog 52 [b7 eO r] (kB (decide (r.1.length<=12)&&decide (r.2.length<=12))):=by
 refine Ct.mk Tryz.func52 rfl Tryz.ntmps52 rfl (fun w J=>?_); refine g8 ?_; refine jb 1 rfl ?_; refine i1 ?_; refine Tr.frzB 1 [1] eO (x:=r) ⟨rfl,trivial⟩ rfl ?_; refine jn ?_; refine L3 ?_; exact f0.res1 (fn:=Tryz.f52) rfl (.b rfl (by congr 1<;>exact decide_eq_decide.2 zo)<|.nil)

end Go.Fl

/- Contracts: exchanges of the reference: errors, places, shifts, orbits. -/
namespace Go.Fl
open Go Go.Proofs
open b8 renaming op->tO
open i7 renaming op->rO
set_option maxRecDepth 100000

end Go.Fl

/- Contracts: shifts, letters and orbits of the reference. -/
namespace Go.Fl
open Go Go.Proofs
open b8 renaming op->tO
open i7 renaming op->rO
set_option maxRecDepth 100000

abbrev oX (x:t8):l8:=(x.2.1,x.2.2.1)
end Go.Fl
