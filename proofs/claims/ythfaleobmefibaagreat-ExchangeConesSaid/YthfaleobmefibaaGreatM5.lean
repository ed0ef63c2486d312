/- Laws on walking typed knowledge through code, and contracts. -/
import Derived.Test.YthfaleobmefibaaGreatM4
import Derived.Ground.Names2Prog
import Derived.Shelf.Spec.SlicesInsert
import Derived.Shelf.Spec.SlicesInsertGrow
import Derived.Test.YthfaleobmefibaaGreatProg

/- Numbers as the reference of chapter 1 reckons them: the same as the program's. No program in sight. -/
namespace Go.Fl
open Go
def AV (a b:Int) (xs ys:List Int):List Int:=j8 xs.length fun i=>b6 xs i*a+b6 ys i*b
theorem EC {a b:Int} {xs ys:List Int}:(AV a b xs ys).length=xs.length:=p8
theorem JX {a b:Int} {xs ys:List Int} (h:xs.length=ys.length) (i:Nat):b6 (AV a b xs ys) i=b6 xs i*a+b6 ys i*b:=by
 by_cases hi:i<xs.length
 ·exact r5 hi
 ·rw[v5 (by rw[EC]; omega),v5 (xs:=xs) zo,v5 (xs:=ys) zo]
  show (0:Int)=0*a+0*b
  rw[Int.zero_mul,Int.zero_mul]; rfl
theorem GX {xs:List Int} {k i:Nat}:b6 (xs++List.replicate k 0) i=b6 xs i:=by
 rw[KC]
 split
 ·rfl
 ·rw[v5 zo]; rfl
theorem gT {a b:Int} {xs ys:List Int} {k:Nat} (h:xs.length=ys.length):AV a b xs ys++List.replicate k 0=AV a b (xs++List.replicate k 0) (ys++List.replicate k 0):=by
 refine D6 (by simp[EC]) fun i _=>?_
 rw[GX,JX h,JX (by simp[h]),GX,GX]
theorem ab4 {p:List Int} {n:Nat} {a b:Int} {xs ys:List Int} (h:xs.length=ys.length):Y2 p n (AV a b xs ys)=AV a b (Y2 p n xs) (Y2 p n ys):=by
 refine D6 (by rw[BC,EC,EC,BC]) fun i hi=>?_
 rw[BC,EC] at hi
 rw[JX (by rw[BC,BC,h])]
 unfold Y2
 rw[EC,r5 hi,r5 hi,r5 zo,<- h,JX h,JX h]
 split
 ·generalize b6 p _=q
  generalize b6 xs i=x1
  generalize b6 ys i=y1
  generalize b6 xs (xs.length-1)=x2
  generalize b6 ys (xs.length-1)=y2
  have e1:(x2*a+y2*b)*q=x2*q*a+y2*q*b:=by rw[Int.add_mul,Int.mul_right_comm,Int.mul_right_comm y2]
  rw[e1,Int.sub_mul,Int.sub_mul]; omega
 ·rw[Int.sub_zero,Int.sub_zero,Int.sub_zero]
theorem kN {p:List Int} {n:Nat} {a b:Int}:∀{f:Nat} {xs ys:List Int},xs.length=ys.length->M4 p n f (AV a b xs ys)=AV a b (M4 p n f xs) (M4 p n f ys)
 | 0,xs,ys,h=>by rw[M4,M4,M4,EC,<- h,gT h]
 | f+1,xs,ys,h=>by
  rw[M4,M4,M4,EC,<- h]
  split
  ·rw[gT h]
  ·rw[ab4 h,kN (by rw[BC,BC,h])]
theorem ab6 {p:List Int} {a b:Int} {xs ys:List Int} (h:xs.length=ys.length):red p (AV a b xs ys)=AV a b (red p xs) (red p ys):=by
 unfold red
 rw[EC,<- h]
 exact kN h
theorem ac1 {p xs:List Int}:red p (xs++[0])=red p xs:=by
 by_cases hl:(xs++[0]).length<=p.length-1
 ·rw[SU rfl hl]
  have h2:xs.length<=p.length-1:=by rw[List.length_append] at hl; omega
  rw[SU rfl h2,List.append_assoc]
  congr 1
  rw[List.length_append,List.length_singleton] at hl ⊢
  rw[show p.length-1-xs.length=p.length-1-(xs.length+1)+1 by omega,List.replicate_succ]; rfl
 ·rw[<- kO rfl zo]
  congr 1
  refine D6 (by rw[BC,List.length_append]; simp) fun i hi=>?_
  rw[BC,List.length_append,List.length_singleton,Nat.add_sub_cancel] at hi
  unfold Y2
  rw[List.length_append,List.length_singleton,Nat.add_sub_cancel,r5 hi]
  have e1:b6 (xs++[0]) xs.length=0:=by simp[b6]
  have e2:b6 (xs++[0]) i=b6 xs i:=by simp[b6,List.getD,List.getElem?_append_left hi]
  rw[e1,e2]
  split
  ·rw[Int.zero_mul,Int.sub_zero]
  ·rw[Int.sub_zero]
theorem YX {p xs:List Int}:∀{k:Nat},red p (xs++List.replicate k 0)=red p xs
 | 0=>by rw[List.replicate_zero,List.append_nil]
 | k+1=>by rw[List.replicate_succ',<- List.append_assoc,ac1,YX]
theorem jJ {p xs ys:List Int} {a b:Int} {m:Nat} (h1:xs.length<=m) (h2:ys.length<=m):I1 p (j8 m fun i=>b6 xs i*a+b6 ys i*b)=j8 4 fun i=>b6 (I1 p xs) i*a+b6 (I1 p ys) i*b:=by
 have e:(j8 m fun i=>b6 xs i*a+b6 ys i*b)=AV a b (xs++List.replicate (m-xs.length) 0) (ys++List.replicate (m-ys.length) 0):=by
  unfold AV
  rw[List.length_append,List.length_replicate,show xs.length+(m-xs.length)=m by omega]
  exact B5 fun i _=>by rw[GX,GX]
 rw[e]
 unfold I1
 rw[ab6 (by simp; omega),YX,YX]
 refine B5 fun i hi=>?_
 rw[JX (by rw[KQ,KQ]),r5 hi,r5 hi]
theorem zJ {p xs:List Int}:I1 p (xs.map fun z=>-z)=(I1 p xs).map fun z=>-z:=by
 have e:(xs.map fun z=>-z)=j8 xs.length fun i=>b6 xs i*(-1)+b6 xs i*0:=by
  conv=>lhs; rw[MZ rfl]
  exact B5 fun i _=>by omega
 rw[e,jJ (Nat.le_refl _) (Nat.le_refl _)]
 conv=>rhs; rw[MZ HQ]
 exact B5 fun i _=>by omega
theorem nS {cs cs':List Int} {a b:Int} (ha:a≠0) (hb:b≠0):C0 (loN cs a) (loN cs' b)=loN (j8 4 fun i=>b6 cs i*b+b6 cs' i*a) (a*b):=by
 have p1:=EE (cs:=cs) ha
 have p2:=EE (cs:=cs') hb
 have p3:=Int.mul_pos p1 p2
 refine JY zo (Int.mul_ne_zero ha hb) ?_
 rw[KY,KY]
 refine B5 fun i _=>?_
 have e1:=HH (cs:=cs) ha i
 have e2:=HH (cs:=cs') hb i
 generalize b6 (loN cs a).1 i=x at *
 generalize b6 (loN cs' b).1 i=y at *
 generalize (loN cs a).2=c at *
 generalize (loN cs' b).2=d at *
 generalize b6 cs i=u at *
 generalize b6 cs' i=v at *
 calc (x*d+y*c)*(a*b)=x*a*(d*b)+y*b*(c*a):=by rw[Int.add_mul]; congr 1<;>ac_rfl
  _=u*c*(d*b)+v*d*(c*a):=by rw[e1,e2]
  _=(u*b+v*a)*(c*d):=by rw[Int.add_mul]; congr 1<;>ac_rfl
abbrev CS:=List (List Int)×List Int
def AH (x:CS):List Int:=x.1.map val
theorem aa5 {p:List Int} {x y:CS} {m:Nat} (h1:x.1.length<=m) (h2:y.1.length<=m):loN (I1 p (j8 m fun i=>b6 (AH x) i*w5 y.2+b6 (AH y) i*w5 x.2)) (w5 x.2*w5 y.2)=C0 (j9 p x) (j9 p y):=by
 unfold j9
 rw[nS BT BT,jJ (by unfold AH; rw[List.length_map]; exact h1) (by unfold AH; rw[List.length_map]; exact h2)]
 rfl
theorem aa6 {p:List Int} {x:CS}:loN (I1 p ((AH x).map fun z=>-z)) (w5 x.2)=S5 (j9 p x):=by
 rw[zJ,QY]
 rfl
def LW (xs ys:List Int):List Int:=j8 (xs.length+ys.length-1) fun i=>r6 (fun k=>b6 xs k*b6 ys (i-k)) (i+1)
theorem pL {xs:List Int}:LW xs [-1]=xs.map fun z=>-z:=by
 unfold LW
 rw[show xs.length+[(-1:Int)].length-1=xs.length by simp]
 conv=>rhs; rw[MZ rfl]
 refine B5 fun i hi=>?_
 rw[TF (j:=i) zo fun k hk hne=>?_]
 ·simp only[Nat.sub_self]
  show b6 xs i*-1=_
  omega
 ·have:b6 ([-1]:List Int) (i-k)=0:=v5 (by simp; omega)
  rw[this,Int.mul_zero]
theorem ai2 {cs:List Int} (h:cs.length<=4):j8 4 (b6 cs)=cs++List.replicate (4-cs.length) 0:=by
 refine D6 (by rw[p8]; simp; omega) fun i hi=>?_
 rw[p8] at hi
 rw[r5 hi,GX]
theorem vL {cs:List Int} {d:Int} (h:cs.length<=4):m8 (loN cs d)=m8 (loN (j8 4 (b6 cs)) d):=by
 rw[ai2 h,wV]
 unfold m8
 simp only[NS]
theorem vM {p xs:List Int} {d:Int} (h5:p.length<=5):m8 (loN (red p xs) d)=m8 (loN (I1 p xs) d):=vL (by rw[KQ]; omega)
def ER (p:List Int) (n:Nat) (xs:List (List Int)):List (List Int):=j8 (xs.length-1) fun j=>if xs.length-1-n<=j then g7 (val (b6 xs j)-val (b6 xs (xs.length-1))*b6 p (j-(xs.length-1-n))) else b6 xs j
theorem SR {p:List Int} {n:Nat} {xs:List (List Int)}:(ER p n xs).length=xs.length-1:=p8
def T0 (p:List Int) (n:Nat):Nat->List (List Int)->List (List Int)
 | 0,xs=>xs++List.replicate (n-xs.length) []
 | f+1,xs=>if xs.length<=n then xs++List.replicate (n-xs.length) [] else T0 p n f (ER p n xs)
def AD (p:List Int) (xs:List (List Int)):List (List Int):=T0 p (p.length-1) (xs.length-(p.length-1)) xs
theorem aa9 {p:List Int} {n:Nat} {xs:List (List Int)}:(ER p n xs).map val=Y2 p n (xs.map val):=by
 refine D6 (by rw[List.length_map,SR,BC,List.length_map]) fun i hi=>?_
 rw[List.length_map,SR] at hi
 rw[S7]
 unfold ER Y2
 rw[List.length_map,r5 hi,r5 hi,S7,S7]
 split
 ·rw[q8]
 ·rw[Int.sub_zero]
theorem kC {p:List Int} {n:Nat}:∀{f:Nat} {xs:List (List Int)},(T0 p n f xs).map val=M4 p n f (xs.map val)
 | 0,xs=>by rw[T0,M4,List.map_append,List.map_replicate,List.length_map]; rfl
 | f+1,xs=>by
  rw[T0,M4,List.length_map]
  split
  ·rw[List.map_append,List.map_replicate]; rfl
  ·rw[kC,aa9]
theorem kL {p:List Int} {xs:List (List Int)}:(AD p xs).map val=red p (xs.map val):=by unfold AD red; rw[kC,List.length_map]
theorem YV {p:List Int} {xs:List (List Int)}:(AD p xs).length=p.length-1:=by
 have:=congrArg List.length (kL (p:=p) (xs:=xs))
 rw[List.length_map,KQ] at this
 exact this
def F0 (B:Nat) (xs:List (List Int)):Prop:=∀i,w8 (b6 xs i)/\(b6 xs i).length<=B/\dl (val (b6 xs i))<=B
theorem BV:w8 []:=fun _ h=>absurd h (Nat.not_lt_zero _)
theorem F0.app {B k:Nat} {xs:List (List Int)} (h:F0 B xs):F0 B (xs++List.replicate k []):=fun i=>by
 by_cases hi:i<xs.length
 ·have e:b6 (xs++List.replicate k []) i=b6 xs i:=by simp[b6,List.getD,List.getElem?_append_left hi]
  rw[e]; exact h i
 ·have e:b6 (xs++List.replicate k []) i=[]:=by
   simp only[b6,List.getD,List.getElem?_append_right (Nat.le_of_not_lt hi),List.getElem?_replicate]
   split<;>rfl
  rw[e]
  exact ⟨BV,Nat.zero_le _,by rw[LB,C5.2 rfl]; omega⟩
theorem F0.mono {B C:Nat} {xs:List (List Int)} (h:F0 B xs) (hBC:B<=C):F0 C xs:=fun i=>⟨(h i).1,Nat.le_trans (h i).2.1 hBC,Nat.le_trans (h i).2.2 hBC⟩
theorem RC {z:Int} {B:Nat} (h:dl z<=B):w8 (g7 z)/\(g7 z).length<=B/\dl (val (g7 z))<=B:=⟨u7 _,by rw[r8]; exact h,by rw[q8]; exact h⟩
theorem kA {p:List Int} {n:Nat} (hp:∀i,dl (b6 p i)<=1):∀{f B:Nat} {xs:List (List Int)},F0 B xs->F0 (B+2*f) (T0 p n f xs)
 | 0,B,xs,h=>by rw[T0]; exact h.app
 | f+1,B,xs,h=>by
  rw[T0]
  split
  ·exact h.app.mono zo
  ·have h1:F0 (B+2) (ER p n xs):=fun j=>by
    by_cases hj:j<xs.length-1
    ·unfold ER
     rw[r5 hj]
     split
     ·refine RC ?_
      rw[Int.sub_eq_add_neg]
      have:=PS (h j).2.2 (h (xs.length-1)).2.2 (hp (j-(xs.length-1-n)))
      omega
     ·have:=h j; exact ⟨this.1,by omega,by omega⟩
    ·rw[v5 (by rw[SR]; omega)]
     exact ⟨BV,Nat.zero_le _,by show dl (val [])<=_; rw[LB,C5.2 rfl]; omega⟩
   exact (kA hp h1).mono zo
theorem YW {p:List Int} {xs:List (List Int)} {B:Nat} (hp:∀i,dl (b6 p i)<=1) (h:F0 B xs):F0 (B+2*xs.length) (AD p xs):=(kA hp h).mono zo
theorem iU {x:CS} {k:Nat} (h:y3 k x):F0 (k+3) x.1:=fun i=>by
 have:=N5 (h.c i).1
 have:=(h.c i).2
 exact ⟨(h.c i).1,by omega,by omega⟩
theorem ZK {p:List Int} {c:List (List Int)} {d:Int} (h5:p.length<=5):m8 (loN ((AD p c).map val) d)=m8 (loN (I1 p (c.map val)) d):=by rw[kL,vM h5]
theorem fC {I:Iv} (hI:0<I.den):∀{xs:List Int},enc I (xs++[0])=(I.den*(enc I xs).1,I.den*(enc I xs).2.1,I.den*(enc I xs).2.2)
 | []=>by simp[enc,J4,I9]
 | c::xs=>by
  rw[List.cons_append,enc,fC hI,enc]
  simp only[Int.mul_assoc,XL (Int.le_of_lt hI),XJ (Int.le_of_lt hI)]
  refine Prod.ext ?_ (Prod.ext ?_ rfl)
  ·simp only; rw[Int.mul_add,<- Int.mul_assoc c,<- Int.mul_assoc I.den c,Int.mul_comm I.den c]
  ·simp only; rw[Int.mul_add,<- Int.mul_assoc c,<- Int.mul_assoc I.den c,Int.mul_comm I.den c]
theorem QC {I:Iv} (hI:0<I.den) {xs:List Int}:∀{k:Nat},(0<(enc I (xs++List.replicate k 0)).1↔0<(enc I xs).1)/\((enc I (xs++List.replicate k 0)).2.1<0↔(enc I xs).2.1<0)
 | 0=>by simp
 | k+1=>by
  obtain ⟨h1,h2⟩:=QC hI (xs:=xs) (k:=k)
  rw[List.replicate_succ',<- List.append_assoc,fC hI,<- h1,<- h2]
  constructor
  ·exact ⟨fun h=>Classical.byContradiction fun hn=>by have:=Int.mul_nonneg (Int.le_of_lt hI) (show 0<=-(enc I (xs++List.replicate k 0)).1 by omega); rw[Int.mul_neg] at this; simp only at h; omega,fun h=>Int.mul_pos hI h⟩
  ·exact ⟨fun h=>Classical.byContradiction fun hn=>by have:=Int.mul_nonneg (Int.le_of_lt hI) (show 0<=(enc I (xs++List.replicate k 0)).2.1 by omega); simp only at h; omega,fun h=>Int.mul_neg_of_pos_of_neg hI h⟩
theorem ai8 {v:List Int} {n:Nat} (h4:v.length=4) (hn:n<=4) (hz:∀i,n<=i->b6 v i=0):v.take n=j6 v++List.replicate (n-(j6 v).length) 0:=by
 have h1:=ZS hz
 refine D6 (by simp; omega) fun i hi=>?_
 rw[List.length_take] at hi
 rw[M3 zo,GX,U0]
theorem vS {p:List Int} {I:Iv} (h1:s6 (u9 I.lo I.den p).1≠0) (h2:s6 (u9 (I.lo+I.hi) (I.den*2) p).1≠0):K8 p I=if s6 (u9 I.lo I.den p).1≠s6 (u9 (I.lo+I.hi) (I.den*2) p).1 then ⟨I.lo*2,I.lo+I.hi,I.den*2⟩ else ⟨I.lo+I.hi,I.hi*2,I.den*2⟩:=by
 unfold K8
 rw[show I.den+I.den=I.den*2 by omega,show I.lo+I.lo=I.lo*2 by omega,show I.hi+I.hi=I.hi*2 by omega]
 have b1:=AE (u9 I.lo I.den p).1
 have b2:=AE (u9 (I.lo+I.hi) (I.den*2) p).1
 generalize s6 (u9 I.lo I.den p).1=s at *
 generalize s6 (u9 (I.lo+I.hi) (I.den*2) p).1=t at *
 have a1:s=-1\/s=1:=by omega
 have a2:t=-1\/t=1:=by omega
 rcases a1 with rfl | rfl<;>rcases a2 with rfl | rfl<;>rfl
def U3 (f:Int×Int×Int) (I:Iv) (k:Nat):List Int×List Int×List Int:=if k=0 then ([f.1],[f.2.1],[f.2.2]) else (g7 I.lo,g7 I.hi,g7 I.den)
end Go.Fl

/- Contracts: fields of the reference. -/
namespace Go.Fl
open Go Go.Proofs
open d5 renaming op->tO
open i9 renaming op->rO
set_option maxRecDepth 100000

theorem R1 {f:u8} (h:z5 f=0):G6 f.1:=by
 obtain ⟨⟨c1,c2,_⟩,_⟩:=Y8 h
 exact ⟨c1,fun i=>O9 (by have:=c2 i; simp[BP]; omega)⟩
theorem SZ {p:List Int} {I:Iv} {v:l7} (h:N1 v.1=true):A7 p I v=q9 (b6 v.1 0) 0:=if_pos h
theorem zB {f:u8} (h:¬f.1.length=2):i2 f.1 (u6 f) 64=FZ f:=by unfold FZ; rw[if_neg h]
theorem zC {f:u8}:(⟨(N8 f).2.2.2.1,(N8 f).2.2.2.2.1,(N8 f).2.2.2.2.2⟩:Iv)=FZ f:=by simp only[N8]
def LL (p:List Int):Prop:=¬∃x,K2 p x=0
def IK (p:List Int) (b:Int):Prop:=(b≠0/\b∣b6 p 0)/\∃a,-2002<=a/\a<=2002/\IM p b a
theorem yD {p:List Int} (hl:1<=p.length) (hp:(b6 p 0).natAbs<=1000) (h:∀j:Nat,j<2003->K2 p ((j:Int)-1001)≠0):LL p:=fun e=>by
 obtain ⟨x,h1,h2,h3⟩:=(ab9 hl hp).1 e
 have:=h (x+1001).toNat zo
 rw[show (((x+1001).toNat:Nat):Int)-1001=x by omega] at this
 exact this h3
theorem XW {p:List Int} (hl:1<=p.length) (h:LL p):b6 p 0≠0:=fun e=>h ⟨0,by rw[YY hl,e]⟩
theorem yC {p:List Int} (_:3<=p.length) (hs:∀i,(b6 p i).natAbs<=1000) (hn:LL p) (h:p.length=5->∀j:Nat,j<2001->¬IK p ((j:Int)-1000)):¬DO p:=fun ⟨_,e⟩=>by
 rcases e with e | ⟨h5,e⟩
 ·exact hn e
 ·obtain ⟨b,h1,h2,h3,h4,h6⟩:=(kP (XW zo hn) (hs 0) (hs 2) (hs 3)).1 e
  have:=h h5 (b+1000).toNat zo
  rw[show (((b+1000).toNat:Nat):Int)-1000=b by omega] at this
  exact this ⟨⟨h3,h4⟩,h6⟩
theorem ab7 {p:List Int} (h5:p.length=5) (hs:∀i,(b6 p i).natAbs<=1000) (hn:LL p) {b:Int} (hb:-1000<=b/\b<=1000) (h:IK p b):DO p :=
 ⟨by omega,.inr ⟨h5,(kP (XW zo hn) (hs 0) (hs 2) (hs 3)).2 ⟨b,hb.1,hb.2,h.1.1,h.1.2,h.2⟩⟩⟩
theorem zY {p:List Int} {b:Int} (h:∀j:Nat,j<4005->¬IM p b ((j:Int)-2002)):¬IK p b:=fun ⟨_,a,h1,h2,h3⟩=>by
 have:=h (a+2002).toNat zo
 rw[show (((a+2002).toNat:Nat):Int)-2002=a by omega] at this
 exact this h3
theorem af5 {r:C9} {I:Iv} (hpo:G6 r.2.1) (h2:r.2.1.length=2):OF r (A7 r.2.1 I):=by
 have hr:∀x:s5,N1 (j9 r.2.1 x).1=true:=fun x=>SP h2
 refine ⟨fun x hx=>?_,fun x y hx hy=>?_⟩
 ·rw[SZ (hr x)]
  exact rE r x 250 hpo h2 hx zo
 ·have e:A7 r.2.1 I (B0 (j9 r.2.1 x) (j9 r.2.1 y))=q9 (b6 (B0 (j9 r.2.1 x) (j9 r.2.1 y)).1 0) 0:=SZ (jT (hr x) (jU (hr y)))
  rw[e]
  exact rA r x y 250 hpo hx hy zo h2
theorem af4 {r:C9} {I:Iv} (hf:X0 r.2.1 I) (hI:i2 r.2.1 I 64=⟨r.2.2.2.1,r.2.2.2.2.1,r.2.2.2.2.2⟩):OF r (A7 r.2.1 I) :=
 ⟨fun x hx=>rD r I x hf hI hx,fun x y hx hy=>qZ r I x y hf hI hx hy⟩
theorem ZC {f:u8} (h:z5 f=0):OF (N8 f) (A7 f.1 (u6 f)):=by
 have e:(N8 f).2.1=f.1:=rfl
 have hpo:=R1 h
 rw[<- e] at hpo ⊢
 by_cases h2:f.1.length=2
 ·rw[<- e] at h2
  exact af5 hpo h2
 ·obtain ⟨⟨c1,_⟩,_⟩:=Y8 h
  have hf:=QG h zo
  have hI:=zB h2
  rw[<- zC] at hI
  generalize N8 f=r at *
  rw[<- e] at hf hI
  exact af4 hf hI
theorem tA (p:List Int) (x:Int) (h5:p.length<=5) (hs:∀i,(b6 p i).natAbs<=1000) (hx:x.natAbs<=1001):Ct Tryz.prog 171 [b8 (eL eI) p,kI x] (kI (K2 p x)):=by
 refine Ct.mk Tryz.func171 rfl Tryz.ntmps171 rfl (fun w J=>?_); refine JO ?_
 refine Tr.for1 (σ:=Nat) [⟨0,true,_,_⟩,⟨1,true,_,_⟩] [] (fun k=>[⟨5,true,[],kI (X4 p x k)⟩,⟨6,true,[],kI ((p.length:Int)-1-k)⟩]) (fun k=>[]) (fun k=>k<=p.length) (fun k=>k=p.length) (fun k=>p.length-k) (0) zi (d6.mk (.i rfl (by rw[QE])<|.i rfl zi<|zk) (.nil) rfl) ?_ ?_
 ·intro k hR0
  refine jn ?_
  have hb1:=fun (h:k<p.length)=>QD hs hx h5 (k:=k+1) zo
  have hb2:=QD hs hx h5 (k:=k) zo
  have hb3:=hs (p.length-1-k)
  have hix:=fun (h:k<p.length)=>(show ((p.length:Int)-1-(k:Int)).toNat=p.length-1-k by omega)
  refine j3 ?_; refine jq ?_ ?_
  ·intro h3
   refine l6 ?_
   have hixk:=hix zo
   have hbk:=hb1 zo
   rw[MJ zo] at hbk
   refine l3 ?_
   rw[hixk]
   refine y8 ?_
   exact d9.lp (k+1) zi zo (d6.mk (.i rfl (by rw[MJ zo])<|.i rfl zi<|zk) (.nil) rfl)
  ·intro h3
   replace h3:=Int.not_le.1 h3
   refine g9 ?_
   exact d9.cut (k) zo (d6.mk (.i rfl zi<|.i rfl zi<|zk) (.nil) rfl)
 ·rintro k hkn
  refine je ?_; refine j1 ?_; exact g6.res1 (fn:=Tryz.f171) rfl (.i rfl (by rw[hkn,fF])<|.nil)

theorem sN (p:List Int) (h2':2<=p.length) (h5':p.length<=5) (hs:∀i,(b6 p i).natAbs<=1000):Ct Tryz.prog 126 [b8 (eL eI) p] (kB (Y3 p)):=by
 have hs0:=hs 0
 have hs1:=hs 1
 have hs2:=hs 2
 have hs3:=hs 3
 refine Ct.mk Tryz.func126 rfl Tryz.ntmps126 rfl (fun w J=>?_); refine JP ?_; refine jq ?_ ?_
 ·intro h2
  have hr:=KO (p:=p) (fun e=>e.1 zo)
  refine j3 ?_; exact g6.res1 (fn:=Tryz.f126) rfl (.b rfl (by rw[hr])<|.nil)
 ·intro h2
  have hl3:3<=p.length:=by omega
  refine j1 ?_
  refine Tr.for1 (σ:=Nat) [⟨0,true,_,_⟩,⟨3,true,_,_⟩] [] (fun k=>[⟨4,true,[],kI ((k:Int)-1001)⟩]) (fun k=>[]) (fun k=>k<=2003/\∀j:Nat,j<k->K2 p ((j:Int)-1001)≠0) (fun k=>LL p) (fun k=>2003-k) (0) ⟨by omega,fun j h=>absurd h (Nat.not_lt_zero _)⟩ (d6.mk (.i rfl zi<|zk) (.nil) rfl) ?_ ?_
  ·rintro k ⟨hk,hR⟩
   refine jn ?_; refine j3 ?_; refine jq ?_ ?_
   ·intro h5
    refine j1 ?_; refine jc (tA p ((k:Int)-1001) h5' hs zo) ?_; refine i7 ?_; refine jq ?_ ?_
    ·intro h7
     have hr:=KP (p:=p) ⟨by omega,.inl ⟨(k:Int)-1001,h7⟩⟩
     refine v9 ?_; exact g6.res1 (fn:=Tryz.f126) rfl (.b rfl (by rw[hr])<|.nil)
    ·intro h7
     have hno:K2 p ((k:Int)-1001)≠0:=h7
     refine j1 ?_
     exact d9.lp (k+1) ⟨by omega,fun j hj=>by by_cases e:j=k; (subst e; exact hno); exact hR j zo⟩ zo (d6.mk (.i rfl zi<|zk) (.nil) rfl)
   ·intro h5
    replace h5:=Int.not_le.1 h5
    refine g9 ?_
    exact d9.cut (k) (yD zo hs0 (fun j hj=>hR j zo)) (d6.mk (.i rfl zi<|zk) (.nil) rfl)
  ·intro k hnr
   refine je ?_
   have hp0:b6 p 0≠0:=XW zo hnr
   refine j3 ?_
   refine Tr.for1 (σ:=Nat) [⟨0,true,_,_⟩,⟨3,true,_,_⟩] [] (fun k=>[⟨5,true,[],kI ((k:Int)-1000)⟩]) (fun k=>[]) (fun k=>k<=2001/\(p.length=5->∀j:Nat,j<k->¬IK p ((j:Int)-1000))) (fun k=>Y3 p=false) (fun k=>2001-k) (0) ⟨by omega,fun _ j h=>absurd h (Nat.not_lt_zero _)⟩ (d6.mk (.i rfl zi<|zk) (.nil) rfl) ?_ ?_
   ·rintro k ⟨hk,hR⟩
    refine jn ?_; refine y8 ?_; refine Tr.cnd rfl ?_ ?_
    ·intro h10
     have hk5:k<2001/\p.length=5:=by simp at h10; omega
     refine y8 ?_; refine d5.gd rfl rfl rfl (F6 (i:=0) rfl id rfl uu rfl (fun _=>zo)) rfl rfl ?_; refine g8 ?_; refine d5.gd rfl rfl rfl (EN rfl id rfl id (fun hp=>by simp at hp; omega)) rfl rfl ?_; refine g9 ?_; refine Tr.cnd rfl ?_ ?_
     ·intro h12
      have hnb:¬IK p ((k:Int)-1000):=fun e=>by simp[Int.tmod_eq_zero_of_dvd e.1.2] at h12; exact e.1.1 zo
      refine m9 ?_
      exact d9.lp (k+1) ⟨by omega,fun h5 j hj=>by by_cases e:j=k; (subst e; exact hnb); exact hR h5 j zo⟩ zo (d6.mk (.i rfl zi<|zk) (.nil) rfl)
     ·intro h12
      have hb0:((k:Int)-1000)≠0/\((k:Int)-1000)∣b6 p 0:=by simp at h12; exact ⟨by omega,Int.dvd_of_tmod_eq_zero h12.2⟩
      refine j3 ?_
      refine Tr.for1 (σ:=Nat) [⟨0,true,_,_⟩,⟨3,true,_,_⟩,⟨5,true,_,_⟩] [] (fun i=>[⟨6,true,[],kI ((i:Int)-2002)⟩]) (fun i=>[]) (fun i=>i<=4005/\∀j:Nat,j<i->¬IM p ((k:Int)-1000) ((j:Int)-2002)) (fun i=>¬IK p ((k:Int)-1000)) (fun i=>4005-i) (0) ⟨by omega,fun j h=>absurd h (Nat.not_lt_zero _)⟩ (d6.mk (.i rfl zi<|zk) (.nil) rfl) ?_ ?_
      ·rintro i ⟨hi,hRi⟩
       refine jn ?_
       have m1:(((i:Int)-2002)*(b6 p 3-((i:Int)-2002))).natAbs<=2003*3003:=M9 zo zo
       have m2:(((k:Int)-1000)*(b6 p 2-((k:Int)-1000)-((i:Int)-2002)*(b6 p 3-((i:Int)-2002)))).natAbs<=1001*6020000:=M9 zo zo
       have m3:(((i:Int)-2002)*(b6 p 2-((k:Int)-1000)-((i:Int)-2002)*(b6 p 3-((i:Int)-2002)))).natAbs<=2003*6020000:=M9 zo zo
       have m4:(((k:Int)-1000)*(b6 p 3-((i:Int)-2002))).natAbs<=1001*3003:=M9 zo zo
       refine j3 ?_; refine jq ?_ ?_
       ·intro h14
        refine j3 ?_; refine tO (F6 (i:=3) rfl uu rfl uu rfl (fun _=>zo)) rfl rfl ?_; refine m9 ?_; refine tO (F6 (i:=2) rfl uu rfl uu rfl (fun _=>zo)) rfl rfl ?_; refine Z2 ?_; refine tO (F6 (i:=0) rfl uu rfl uu rfl (fun _=>zo)) rfl rfl ?_; refine l6 ?_; refine d5.gd rfl rfl rfl (EL rfl id rfl id (fun hp=>by simp at hp; omega)) rfl rfl ?_; refine g8 ?_; refine d5.gd rfl rfl rfl (EL rfl id rfl id (fun hp=>by simp at hp; omega)) rfl rfl ?_; refine d5.gd rfl rfl rfl (HM rfl id rfl id (fun hp=>by simp at hp; omega)) rfl rfl ?_
        refine i5 ?_; refine d5.gd rfl rfl rfl (F6 (i:=1) rfl id rfl uu rfl (fun _=>zo)) rfl rfl ?_; refine l6 ?_; refine Tr.cnd rfl ?_ ?_
        ·intro h18
         have hq:IM p ((k:Int)-1000) ((i:Int)-2002):=by simp at h18; exact h18
         have hr:Y3 p=true:=KP (ab7 hk5.2 hs hnr zo ⟨hb0,((i:Int)-2002),by omega,by omega,hq⟩)
         refine P1 ?_; exact g6.res1 (fn:=Tryz.f126) rfl (.b rfl (by rw[hr])<|.nil)
        ·intro h18
         have hnri:¬IM p ((k:Int)-1000) ((i:Int)-2002):=fun e=>by simp[e.1,e.2] at h18
         refine j1 ?_
         exact d9.lp (i+1) ⟨by omega,fun j hj=>by by_cases e:j=i; (subst e; exact hnri); exact hRi j zo⟩ zo (d6.mk (.i rfl zi<|zk) (.nil) rfl)
       ·intro h14
        replace h14:=Int.not_le.1 h14
        refine g9 ?_
        exact d9.cut (i) (zY (fun j hj=>hRi j zo)) (d6.mk (.i rfl zi<|zk) (.nil) rfl)
      ·intro i hnb
       refine je ?_; refine j3 ?_
       exact d9.lp (k+1) ⟨by omega,fun h5 j hj=>by by_cases e:j=k; (subst e; exact hnb); exact hR h5 j zo⟩ zo (d6.mk (.i rfl zi<|zk) (.nil) rfl)
    ·intro h10
     have hk5:p.length=5->k=2001:=by simp at h10; omega
     refine g9 ?_
     exact d9.cut (k) (KO (yC hl3 hs hnr (fun h5 j hj=>hR h5 j (by have:=hk5 h5; omega)))) (d6.mk (.i rfl zi<|zk) (.nil) rfl)
   ·intro k hnq
    refine je ?_; refine j3 ?_; exact g6.res1 (fn:=Tryz.f126) rfl (.b rfl (by rw[hnq])<|.nil)

end Go.Fl

/- Contracts: remainders, values at fractions and changes of sign, as the reference finds them. -/
namespace Go.Fl
open Go Go.Proofs
open d5 renaming op->tO
open i9 renaming op->rO
set_option maxRecDepth 100000

theorem XD:g7 1=[1]:=by decide
theorem ag5 {xs:List (List Int)} {n:Nat} (hn:n<=xs.length) (hz:∀i,n<=i->i<xs.length->val (b6 xs i)=0) (hnz:¬(0<n/\val (b6 xs (n-1))=0)):(j6 (xs.map val)).length=n:=by
 have hl:(xs.map val).length=xs.length:=List.length_map ..
 have:=dX (ys:=xs.map val) (m:=xs.length) (j:=n) zo hn (fun i h1 h2=>by rw[S7]; exact hz i h1 h2) (fun ⟨h1,h2⟩=>hnz ⟨h1,by rw[S7] at h2; exact h2⟩)
 rw[List.take_of_length_le zo] at this
 exact this
theorem XF {xs:List Int}:(xs.map g7).map val=xs:=gZ
theorem ai6 {xs:List Int}:(xs.map g7).take (j6 ((xs.map g7).map val)).length=(j6 xs).map g7:=by
 rw[XF,<- List.map_take,IA]
theorem QZ {xs:List Int} {B:Nat} (h:∀i,dl (b6 xs i)<=B):F0 B (xs.map g7):=fun i=>by
 by_cases hi:i<xs.length
 ·have e:b6 (xs.map g7) i=g7 (b6 xs i):=by simp[b6,hi]
  rw[e]; exact RC (h i)
 ·rw[v5 (by rw[List.length_map]; omega)]
  exact ⟨BV,Nat.zero_le _,by show dl (val [])<=_; rw[LB,C5.2 rfl]; omega⟩
theorem F0.dl {B:Nat} {xs:List (List Int)} (h:F0 B xs) (i:Nat):dl (b6 (xs.map val) i)<=B:=by rw[S7]; exact (h i).2.2
theorem mB {xs:List Int} {k:Nat} (h:xs.length=k):(j8 k fun j=>g7 (b6 xs j))=xs.map g7:=by
 conv=>rhs; rw[U5 h]
 simp[j8]
theorem hZ {s l:Int} (h1:-1<=s/\s<=1) (h2:-1<=l/\l<=1):s*l<0↔s≠0/\l≠0/\s≠l:=by
 rcases (show s=-1\/s=0\/s=1 by omega) with rfl | rfl | rfl<;>omega
theorem oT {c d:Nat×Int} {s t:Int} (h:c=A3 d t) (ht:t=s6 s) (h1:-1<=q9 s 0/\q9 s 0<=1) (h2:-1<=d.2/\d.2<=1) (q1:q9 s 0≠0) (q2:d.2≠0) (q3:q9 s 0≠d.2):(d.1:Int)+1=(c.1:Int):=by
 rw[h,ht]
 have:(A3 d (s6 s)).1=d.1+1:=if_pos ((hZ (s:=s6 s) h1 h2).2 ⟨q1,q2,q3⟩)
 omega
theorem bH {c d:Nat×Int} {s t:Int} (h:c=A3 d t) (ht:t=s6 s) (h1:-1<=q9 s 0/\q9 s 0<=1) (h2:-1<=d.2/\d.2<=1) (q:¬(q9 s 0≠0/\d.2≠0/\q9 s 0≠d.2)):(d.1:Int)=(c.1:Int):=by
 rw[h,ht]
 have:(A3 d (s6 s)).1=d.1:=if_neg fun e=>q ((hZ (s:=s6 s) h1 h2).1 e)
 omega
theorem bI {c d:Nat×Int} {s t:Int} (h:c=A3 d t) (ht:t=s6 s) (q:q9 s 0≠0):q9 s 0=c.2:=by
 rw[h,ht]; exact (if_pos q:(A3 d (s6 s)).2=s6 s).symm
theorem oU {c d:Nat×Int} {s t:Int} (h:c=A3 d t) (ht:t=s6 s) (q:q9 s 0=0):d.2=c.2:=by
 rw[h,ht]; exact (if_neg (fun e=>e q):(A3 d (s6 s)).2=d.2).symm
theorem ac5 {ql rs:List (List Int)} {k:Nat} (hq:1<=ql.length/\ql.length<=rs.length) (hk:k<rs.length) (h:0<=(k:Int)-(rs.length:Int)+(ql.length:Int)):((j8 k fun j=>g7 (b6 (G2 (ql.map val) (rs.map val)) j))++[g7 (val (b6 rs k)*val (b6 ql ((ql.length:Int)-1).toNat)*val (b6 ql ((ql.length:Int)-1).toNat)-val (b6 rs ((rs.length:Int)-1).toNat)*val (b6 ql ((ql.length:Int)-1).toNat)*val (b6 ql ((k:Int)-(rs.length:Int)+(ql.length:Int)).toNat))])=j8 (k+1) fun j=>g7 (b6 (G2 (ql.map val) (rs.map val)) j):=by
 have e:b6 (G2 (ql.map val) (rs.map val)) k=val (b6 rs k)*val (b6 ql ((ql.length:Int)-1).toNat)*val (b6 ql ((ql.length:Int)-1).toNat)-val (b6 rs ((rs.length:Int)-1).toNat)*val (b6 ql ((ql.length:Int)-1).toNat)*val (b6 ql ((k:Int)-(rs.length:Int)+(ql.length:Int)).toNat):=by
  unfold G2
  rw[List.length_map,List.length_map,r5 hk,if_pos zo,S7,S7,S7,S7,show ((ql.length:Int)-1).toNat=ql.length-1 by omega,show ((rs.length:Int)-1).toNat=rs.length-1 by omega,show ((k:Int)-(rs.length:Int)+(ql.length:Int)).toNat=k-(rs.length-ql.length) by omega,Int.mul_assoc (val (b6 rs k)),Int.sub_eq_add_neg]
 rw[H0,e]
theorem ac6 {ql rs:List (List Int)} {k:Nat} (hq:1<=ql.length/\ql.length<=rs.length) (hk:k<rs.length) (h:(k:Int)-(rs.length:Int)+(ql.length:Int)<0):((j8 k fun j=>g7 (b6 (G2 (ql.map val) (rs.map val)) j))++[g7 (val (b6 rs k)*val (b6 ql ((ql.length:Int)-1).toNat)*val (b6 ql ((ql.length:Int)-1).toNat))])=j8 (k+1) fun j=>g7 (b6 (G2 (ql.map val) (rs.map val)) j):=by
 have e:b6 (G2 (ql.map val) (rs.map val)) k=val (b6 rs k)*val (b6 ql ((ql.length:Int)-1).toNat)*val (b6 ql ((ql.length:Int)-1).toNat):=by
  unfold G2
  rw[List.length_map,List.length_map,r5 hk,if_neg zo,S7,S7,show ((ql.length:Int)-1).toNat=ql.length-1 by omega,Int.mul_assoc (val (b6 rs k)),Int.add_zero]
 rw[H0,e]
theorem ac7 {pl ql rs:List (List Int)} {A B:Nat} (hq1:1<=ql.length) (hqr:ql.length<=rs.length) (hrl:rs.length<=pl.length) (hag:B7 (ql.map val) rs.length (rs.map val)=B7 (ql.map val) pl.length (pl.map val)) (hro:F0 (A+(pl.length-rs.length)*(2*B+1)) rs) (hql:F0 B ql) :
  ((G1 (ql.map val) (rs.map val)).map g7).length<=pl.length/\B7 (ql.map val) ((G1 (ql.map val) (rs.map val)).map g7).length (((G1 (ql.map val) (rs.map val)).map g7).map val)=B7 (ql.map val) pl.length (pl.map val)/\F0 (A+(pl.length-((G1 (ql.map val) (rs.map val)).map g7).length)*(2*B+1)) ((G1 (ql.map val) (rs.map val)).map g7)/\((G1 (ql.map val) (rs.map val)).map g7=pl\/(G1 (ql.map val) (rs.map val)).map g7=(((G1 (ql.map val) (rs.map val)).map g7).map val).map g7):=by
 have hmq:(ql.map val).length=ql.length:=List.length_map ..
 have hmr:(rs.map val).length=rs.length:=List.length_map ..
 have h1:=FD (q:=ql.map val) (r:=rs.map val) zo zo
 rw[XF,List.length_map]
 refine ⟨by omega,?_,?_,.inr rfl⟩
 ·rw[<- hag]
  have:=aQ (q:=ql.map val) (r:=rs.map val) zo zo
  rw[hmr] at this
  exact this.symm
 ·refine QZ fun i=>?_
  unfold G1
  rw[U0]
  have q1:=OM hro.dl hql.dl i
  have q2:=Nat.mul_le_mul_right (2*B+1) (show pl.length-rs.length+1<=pl.length-(j6 (G2 (ql.map val) (rs.map val))).length by unfold G1 at h1; omega)
  rw[Nat.succ_mul] at q2
  omega
theorem sY (xs:List (List Int)) (B:Nat) (hx:F0 B xs) (hB:B<=1000000) (hl:xs.length<=1000):Ct Tryz.prog 197 [b8 (eL (eL eI)) xs] (b8 (eL (eL eI)) (xs.take (j6 (xs.map val)).length)):=by
 refine Ct.mk Tryz.func197 rfl Tryz.ntmps197 rfl (fun w J=>?_); refine v9 ?_
 refine Tr.for (σ:=Nat) [⟨0,true,_,_⟩] [] (fun n=>[⟨3,true,[],kI (n:Int)⟩]) (fun n=>[]) (fun n=>n<=xs.length/\∀i,n<=i->i<xs.length->val (b6 xs i)=0) (fun n=>(j6 (xs.map val)).length=n/\n<=xs.length) (fun n=>n) (xs.length) ⟨Nat.le_refl _,fun i h1 h2=>absurd h1 zo⟩ (d6.mk (.i rfl zi<|zk) (.nil) rfl) ?_ ?_
 ·rintro n ⟨hn,hz⟩
  refine jn ?_; refine j1 ?_; refine d5.gd rfl rfl rfl (AZ rfl id rfl uu (fun hp=>by simp at hp; omega)) rfl rfl ?_
  first | refine d5.gd rfl rfl rfl (F6 rfl id rfl id rfl (fun hp=>by simp at hp; omega)) rfl rfl ?_ | refine d5.gd rfl rfl rfl (AY rfl id rfl id rfl (fun hp=>by simp at hp; omega)) rfl rfl ?_
  refine i5 ?_; refine d5.gd rfl rfl rfl (i6 (fun hp=>BN _ (hx _).1 (by have:=(hx ((n:Int)-1).toNat).2.1; omega)) (.a rfl id<|.nil)) rfl rfl ?_; refine g9 ?_; refine Tr.cnd rfl ?_ ?_
  ·intro h2
   try simp only[decide_eq_true_eq,Bool.and_eq_true] at h2
   have hzz:0<n/\val (b6 xs (n-1))=0:=⟨by omega,by have:=R8.1 h2.2; rwa [show ((n:Int)-1).toNat=n-1 by omega] at this⟩
   refine m9 ?_
   exact d9.lp (n-1) ⟨by omega,fun i h2 h3=>by by_cases e:i=n-1; (rw[e]; exact hzz.2); exact hz i zo h3⟩ zo (d6.mk (.i rfl zi<|zk) (.nil) rfl)
  ·intro h2
   try simp only[decide_eq_true_eq,decide_eq_false_iff_not,Bool.and_eq_false_imp] at h2
   have hnz:¬(0<n/\val (b6 xs (n-1))=0):=fun ⟨q1,q2⟩=>h2 zo (R8.2 (by rw[show ((n:Int)-1).toNat=n-1 by omega]; exact q2))
   refine g9 ?_
   exact d9.cut (n) ⟨ag5 hn hz hnz,hn⟩ (d6.mk (.i rfl zi<|zk) (.nil) rfl)
 ·rintro n ⟨ht,hn⟩
  refine jn ?_
  have htn:((n:Int)).toNat=n:=Int.toNat_natCast n
  refine g9 ?_; refine tO (FY rfl uu rfl uu (fun _=>zo)) rfl rfl ?_; refine g9 ?_; exact g6.res1 (fn:=Tryz.f197) rfl (.r rfl (by rw[ht,htn])<|.nil)

theorem VJ (pl:List (List Int)) (a b:List Int) (B C:Nat) (hpl:F0 C pl) (hl:pl.length<=6) (ha:w8 a/\a.length<=B) (hb:w8 b/\b.length<=B) (hda:dl (val a)<=B) (hdb:dl (val b)<=B) (hB:B<=75000) (hC:C<=20000):Ct Tryz.prog 131 [b8 (eL (eL eI)) pl,b8 (eL eI) a,b8 (eL eI) b] (b8 (eL eI) (g7 (u9 (val a) (val b) (pl.map val)).1)):=by
 have hml:(pl.map val).length=pl.length:=List.length_map ..
 refine Ct.mk Tryz.func131 rfl Tryz.ntmps131 rfl (fun w J=>?_); refine v9 ?_; refine d5.new (y7 eI 10 (fun hp=>.cons rfl<|.nil) rfl rfl rfl rfl) rfl rfl rfl rfl ?_; refine d5.frz 10 [10] ⟨rfl,trivial⟩ (by decide) rfl ?_; refine jl ?_; refine v9 ?_
 refine Tr.for1 (σ:=Nat) [⟨0,true,_,_⟩,⟨1,true,_,_⟩,⟨2,true,_,_⟩] [] (fun k=>[⟨7,true,[],b8 (eL eI) (g7 (A9 (val a) (val b) (pl.map val) k).1)⟩,⟨8,true,[],b8 (eL eI) (g7 (A9 (val a) (val b) (pl.map val) k).2)⟩,⟨9,true,[],kI ((pl.length:Int)-1-k)⟩]) (fun k=>[]) (fun k=>k<=pl.length) (fun k=>k=pl.length) (fun k=>pl.length-k) (0) zi (d6.mk (.n rfl (by rw[MS]; rfl)<|.r rfl (by rw[MS]; exact XD.symm)<|.i rfl zi<|zk) (.nil) rfl) ?_ ?_
 ·intro k hR0
  refine jn ?_
  have hbd:=fun (h:k<=(pl.map val).length)=>JM (p:=pl.map val) (B:=B) (C:=C) hpl.dl hda hdb (k:=k) h
  have hix:=fun (h:k<pl.length)=>(show ((pl.length:Int)-1-(k:Int)).toNat=(pl.map val).length-1-k by omega)
  have hk5:=fun (h:k<pl.length)=>Nat.mul_le_mul (show k<=5 by omega) (show B+1<=75001 by omega)
  have hk6:=fun (h:k<pl.length)=>Nat.mul_le_mul (show k<=5 by omega) (show B<=75000 by omega)
  refine j3 ?_; refine jq ?_ ?_
  ·intro h4
   refine l6 ?_; refine Tr.draw 8 o0 (by kernel_rfl) ?_
   have hbk:=hbd zo
   replace hk5:=hk5 zo
   replace hk6:=hk6 zo
   have hixk:=hix zo
   have hq1:=s7 (A9 (val a) (val b) (pl.map val) k).1 (val a)
   have hq2:=s7 (val (b6 pl ((pl.length:Int)-1-k).toNat)) (A9 (val a) (val b) (pl.map val) k).2
   have hq3:=(hpl ((pl.length:Int)-1-k).toNat).2.2
   refine g8 ?_; refine rO (i6 (fun hp=>I7 (g7 (A9 (val a) (val b) (pl.map val) k).1) a (u7 _) ha.1 (by rw[r8]; omega) zo) (.a rfl uu<|.a rfl uu<|.nil)) rfl rfl ?_; refine l3 ?_; refine tO (i6 (fun hp=>I7 (b6 pl ((pl.length:Int)-1-k).toNat) (g7 (A9 (val a) (val b) (pl.map val) k).2) (hpl _).1 (u7 _) (by have:=(hpl ((pl.length:Int)-1-k).toNat).2.1; omega) (by rw[r8]; omega)) (.a rfl uu<|.a rfl uu<|.nil)) rfl rfl ?_; refine tO (i6 (fun hp=>DW (g7 (val (g7 (A9 (val a) (val b) (pl.map val) k).1)*val a)) (g7 (val (b6 pl ((pl.length:Int)-1-k).toNat)*val (g7 (A9 (val a) (val b) (pl.map val) k).2))) (u7 _) (u7 _) (by rw[r8,q8]; omega) (by rw[r8,q8]; omega)) (.a rfl uu<|.a rfl uu<|.nil)) rfl rfl ?_
   refine l3 ?_; refine tO (i6 (fun hp=>I7 (g7 (A9 (val a) (val b) (pl.map val) k).2) b (u7 _) hb.1 (by rw[r8]; omega) zo) (.a rfl uu<|.a rfl uu<|.nil)) rfl rfl ?_; refine m9 ?_
   exact d9.lp (k+1) zi zo (d6.mk (.r rfl (by rw[MR zo,hixk,q8,q8,q8,q8,S7])<|.r rfl (by rw[MR zo,q8])<|.i rfl zi<|zk) (.nil) rfl)
  ·intro h4
   replace h4:=Int.not_le.1 h4
   refine g9 ?_
   exact d9.cut (k) zo (d6.mk (.r rfl zi<|.r rfl zi<|.i rfl zi<|zk) (.nil) rfl)
 ·rintro k hkn
  refine je ?_; refine j1 ?_; exact g6.res1 (fn:=Tryz.f131) rfl (.r rfl (by rw[hkn,<- hml,MQ])<|.nil)

theorem dK (cl:List (List (List Int))) (a b:List Int) (hl:cl.length<=5) (hc:∀j,j<cl.length->(b6 cl j).length<=5/\F0 1690 (b6 cl j)) (ha:w8 a/\a.length<=4) (hb:w8 b/\b.length<=4) (hda:dl (val a)<=4) (hdb:dl (val b)<=4):Ct Tryz.prog 173 [b8 (eL (eL (eL eI))) cl,b8 (eL eI) a,b8 (eL eI) b] (kI ((D9 (cl.map fun q=>s6 (u9 (val a) (val b) (q.map val)).1)).1:Int)):=by
 obtain ⟨sl,hsl⟩:∃sl,sl=(cl.map fun q=>s6 (u9 (val a) (val b) (q.map val)).1):=⟨_,rfl⟩
 have hll:sl.length=cl.length:=by rw[hsl,List.length_map]
 have hsn:∀j,j<cl.length->b6 sl j=s6 (u9 (val a) (val b) ((b6 cl j).map val)).1:=fun j hj=>by rw[hsl]; simp[b6,hj]
 have hsb:∀s∈sl,-1<=s/\s<=1:=fun s hs=>by rw[hsl] at hs; obtain ⟨q,_,rfl⟩:=List.mem_map.1 hs; exact KW _
 have hcle:=fun k=>OW (l:=sl.take k)
 have htk:∀k,(sl.take k).length<=5:=fun k=>by rw[List.length_take]; omega
 rw[<- hsl]
 refine Ct.mk Tryz.func173 rfl Tryz.ntmps173 rfl (fun w J=>?_); refine P1 ?_
 refine Tr.for1 (σ:=Nat) [⟨0,true,_,_⟩,⟨1,true,_,_⟩,⟨2,true,_,_⟩] [] (fun k=>[⟨7,true,[],kI ((D9 (sl.take k)).1:Int)⟩,⟨8,true,[],kI (D9 (sl.take k)).2⟩,⟨9,true,[],kI (k:Int)⟩]) (fun k=>[]) (fun k=>k<=cl.length) (fun k=>k=cl.length) (fun k=>cl.length-k) (0) zi (d6.mk (.i rfl (by rfl)<|.i rfl (by rfl)<|.i rfl zi<|zk) (.nil) rfl) ?_ ?_
 ·intro k hR0
  refine jn ?_
  have hcq:=fun (h:k<cl.length)=>hc k h
  have hcs:=fun (h:k<cl.length)=>bL (l:=sl) (k:=k) zo
  have hsk:=fun (h:k<cl.length)=>hsn k h
  have hb2:=bK (sl.take k) (fun s hs=>hsb s (List.mem_of_mem_take hs))
  have hb1:-1<=q9 (u9 (val a) (val b) ((b6 cl k).map val)).1 0/\q9 (u9 (val a) (val b) ((b6 cl k).map val)).1 0<=1:=KW _
  have hb4:=hcle k
  have hb5:=htk k
  refine m9 ?_; refine jq ?_ ?_
  ·intro h3
   refine l3 ?_
   have hck:=hcq zo
   have hvb:=JM (p:=(b6 cl k).map val) (B:=4) (C:=1690) hck.2.dl hda hdb (k:=(b6 cl k).length) (by rw[List.length_map]; exact Nat.le_refl _)
   have hve:A9 (val a) (val b) ((b6 cl k).map val) (b6 cl k).length=u9 (val a) (val b) ((b6 cl k).map val):=by have:=MQ (a:=val a) (d:=val b) (p:=(b6 cl k).map val); rw[List.length_map] at this; exact this
   rw[hve] at hvb
   refine l3 ?_; refine jc (VJ (b6 cl k) a b 4 1690 hck.2 zo ha hb hda hdb zo zo) ?_; refine tO (i6 (fun hp=>BN (g7 (u9 (val a) (val b) ((b6 cl k).map val)).1) (u7 _) (by rw[r8]; omega)) (.a rfl uu<|.nil)) rfl rfl ?_
   rw[q8]
   refine m9 ?_; refine jq ?_ ?_
   ·intro h6
    refine v9 ?_; refine Tr.cnd rfl ?_ ?_
    ·intro h7
     have hyy:(D9 (sl.take k)).2≠0/\q9 (u9 (val a) (val b) ((b6 cl k).map val)).1 0≠(D9 (sl.take k)).2:=by simpa using h7
     have hy1:=hyy.1
     have hy2:=hyy.2
     refine P1 ?_
     exact d9.lp (k+1) zi zo (d6.mk (.i rfl (oT (hcs zo) (hsk zo) hb1 hb2 zo zo zo)<|.i rfl (bI (hcs zo) (hsk zo) h6)<|.i rfl zi<|zk) (.nil) rfl)
    ·intro h7
     have hno:¬(q9 (u9 (val a) (val b) ((b6 cl k).map val)).1 0≠0/\(D9 (sl.take k)).2≠0/\q9 (u9 (val a) (val b) ((b6 cl k).map val)).1 0≠(D9 (sl.take k)).2):=fun e=>by simp[e.2.1,e.2.2] at h7
     refine B3 ?_
     exact d9.lp (k+1) zi zo (d6.mk (.i rfl (bH (hcs zo) (hsk zo) hb1 hb2 hno)<|.i rfl (bI (hcs zo) (hsk zo) h6)<|.i rfl zi<|zk) (.nil) rfl)
   ·intro h6
    replace h6:=Classical.not_not.1 h6
    refine j1 ?_
    exact d9.lp (k+1) zi zo (d6.mk (.i rfl (bH (hcs zo) (hsk zo) hb1 hb2 (fun e=>absurd h6 e.1))<|.i rfl (oU (hcs zo) (hsk zo) h6)<|.i rfl zi<|zk) (.nil) rfl)
  ·intro h3
   replace h3:=Int.not_lt.1 h3
   refine g9 ?_
   exact d9.cut (k) zo (d6.mk (.i rfl zi<|.i rfl zi<|.i rfl zi<|zk) (.nil) rfl)
 ·rintro k hkn
  refine je ?_
  have htl:sl.take k=sl:=List.take_of_length_le zo
  refine j1 ?_; exact g6.res1 (fn:=Tryz.f173) rfl (.i rfl (by rw[htl])<|.nil)

set_option maxHeartbeats 2000000 in
theorem sX (pl ql:List (List Int)) (A B:Nat) (hpl:F0 A pl) (hql:F0 B ql) (hq1:1<=ql.length) (hqp:ql.length<=pl.length) (h5:pl.length<=5) (hA2:A<=10000) (hB2:B<=10000):Ct Tryz.prog 172 [b8 (eL (eL eI)) pl,b8 (eL (eL eI)) ql] (b8 (eL (eL eI)) ((B7 (ql.map val) pl.length (pl.map val)).map g7)):=by
 have hmp:(pl.map val).length=pl.length:=List.length_map ..
 have hmq:(ql.map val).length=ql.length:=List.length_map ..
 have hqx:((ql.length:Int)-1).toNat=ql.length-1:=by omega
 refine Ct.mk Tryz.func172 rfl Tryz.ntmps172 rfl (fun w J=>?_); refine FP ?_; refine d5.new (AX (eL eI) 18) rfl rfl rfl rfl ?_; refine g8 ?_; refine jl ?_; refine i7 ?_; refine Tr.frz 18 [20,6] ⟨rfl,rfl,trivial⟩ (by simp only[p9]; omega) rfl ?_; refine jn ?_; refine Tr.for (σ:=List (List Int)) [⟨1,true,_,_⟩,⟨5,true,_,_⟩] [] (fun rs=>[⟨6,true,[],b8 (eL (eL eI)) rs⟩]) (fun rs=>[]) (fun rs=>rs.length<=pl.length/\B7 (ql.map val) rs.length (rs.map val)=B7 (ql.map val) pl.length (pl.map val)/\F0 (A+(pl.length-rs.length)*(2*B+1)) rs/\(rs=pl\/rs=(rs.map val).map g7)) (fun rs=>rs=(B7 (ql.map val) pl.length (pl.map val)).map g7) (fun rs=>rs.length) (pl) ⟨Nat.le_refl _,rfl,hpl.mono zo,.inl rfl⟩ (d6.mk (.r rfl (by rfl)<|zk) (.nil) rfl) ?_ ?_
 ·rintro rs ⟨hrl,hag,hro,hrp⟩
  refine jn ?_
  have hmr:(rs.map val).length=rs.length:=List.length_map ..
  have hmB:(pl.length-rs.length)*(2*B+1)<=5*20001:=Nat.mul_le_mul zo zo
  refine u5 ?_; refine jq ?_ ?_
  ·intro h3
   refine WU ?_; refine Tr.grow (s:=8) rfl rfl 88 rfl 22 (eL eI) rfl ?_
   refine Tr.for1 (σ:=Nat) [⟨1,true,_,_⟩,⟨5,true,_,_⟩,⟨6,true,_,_⟩,⟨7,true,_,_⟩] [] (fun k=>[⟨8,true,[88],o9 88 k⟩,⟨9,true,[],kI (k:Int)⟩]) (fun k=>[⟨88,[],l5 true 22 (eL eI) (j8 k fun j=>g7 (b6 (G2 (ql.map val) (rs.map val)) j)) k⟩]) (fun k=>k<=rs.length) (fun k=>k=rs.length) (fun k=>rs.length-k) (0) zi (d6.mk (.o rfl zi rfl<|.i rfl zi<|zk) (.a (by rfl) zi<|.nil) rfl) ?_ ?_
   ·intro k hR1
    refine jn ?_
    have hrx:((rs.length:Int)-1).toNat=rs.length-1:=by omega
    have hro1:=hro k
    have hro2:=hro ((rs.length:Int)-1).toNat
    have hqo:=hql ((ql.length:Int)-1).toNat
    have hqk:=hql ((k:Int)-(rs.length:Int)+(ql.length:Int)).toNat
    have hm1:=s7 (val (b6 rs k)) (val (b6 ql ((ql.length:Int)-1).toNat))
    have hm2:=s7 (val (b6 rs k)*val (b6 ql ((ql.length:Int)-1).toNat)) (val (b6 ql ((ql.length:Int)-1).toNat))
    have hm3:=s7 (val (b6 rs ((rs.length:Int)-1).toNat)) (val (b6 ql ((ql.length:Int)-1).toNat))
    have hm4:=s7 (val (b6 rs ((rs.length:Int)-1).toNat)*val (b6 ql ((ql.length:Int)-1).toNat)) (val (b6 ql ((k:Int)-(rs.length:Int)+(ql.length:Int)).toNat))
    refine m9 ?_; refine jq ?_ ?_
    ·intro h7
     refine y8 ?_; refine jc (I7 (b6 rs k) (b6 ql ((ql.length:Int)-1).toNat) hro1.1 hqo.1 zo zo) ?_; refine i5 ?_; refine tO (i6 (fun hp=>I7 (g7 (val (b6 rs k)*val (b6 ql ((ql.length:Int)-1).toNat))) (b6 ql ((ql.length:Int)-1).toNat) (u7 _) hqo.1 (by rw[r8]; omega) zo) (.a rfl uu<|.a rfl uu<|.nil)) rfl rfl ?_
     rw[q8]
     refine gJ ?_; refine jq ?_ ?_
     ·intro h11
      refine Tr.draw 9 o0 (by kernel_rfl) ?_; refine i7 ?_; refine jd (I7 (b6 rs ((rs.length:Int)-1).toNat) (b6 ql ((ql.length:Int)-1).toNat) hro2.1 hqo.1 zo zo) ?_; refine g9 ?_; refine rO (i6 (fun hp=>I7 (g7 (val (b6 rs ((rs.length:Int)-1).toNat)*val (b6 ql ((ql.length:Int)-1).toNat))) (b6 ql ((k:Int)-(rs.length:Int)+(ql.length:Int)).toNat) (u7 _) hqk.1 (by rw[r8]; omega) zo) (.a rfl uu<|.a rfl uu<|.nil)) rfl rfl ?_
      rw[q8]
      refine i5 ?_; refine tO (i6 (fun hp=>LY (g7 (val (b6 rs k)*val (b6 ql ((ql.length:Int)-1).toNat)*val (b6 ql ((ql.length:Int)-1).toNat))) (g7 (val (b6 rs ((rs.length:Int)-1).toNat)*val (b6 ql ((ql.length:Int)-1).toNat)*val (b6 ql ((k:Int)-(rs.length:Int)+(ql.length:Int)).toNat))) (u7 _) (u7 _) (by rw[r8]; omega) (by rw[r8]; omega)) (.a rfl uu<|.a rfl uu<|.nil)) rfl rfl ?_
      rw[q8,q8]
      refine l3 ?_; refine d5.new (y7 (eL eI) 67 (fun hp=>.cons rfl<|.nil) rfl rfl rfl rfl) rfl rfl rfl rfl ?_; refine i5 ?_; refine jl ?_; refine m9 ?_
      exact d9.lp (k+1) zi zo (d6.mk (.o rfl zi rfl<|.i rfl zi<|zk) (.a (ac5 zo zo zo) zi<|.nil) rfl)
     ·intro h11
      replace h11:=Int.not_le.1 h11
      refine l6 ?_; refine d5.new (y7 (eL eI) 67 (fun hp=>.cons rfl<|.nil) rfl rfl rfl rfl) rfl rfl rfl rfl ?_; refine i5 ?_; refine jl ?_; refine m9 ?_
      exact d9.lp (k+1) zi zo (d6.mk (.o rfl zi rfl<|.i rfl zi<|zk) (.a (ac6 zo zo zo) zi<|.nil) rfl)
    ·intro h7
     replace h7:=Int.not_lt.1 h7
     refine g9 ?_
     exact d9.cut (k) zo (d6.mk (.o rfl zi rfl<|.i rfl zi<|zk) (zk) rfl)
   ·rintro k hkr
    refine je ?_
    rw[hkr]
    refine i7 ?_; refine d5.frz 88 [8,69] ⟨rfl,rfl,trivial⟩ (by simp only[p9]; omega) rfl ?_; refine jl ?_; refine jc (sY (j8 rs.length fun j=>g7 (b6 (G2 (ql.map val) (rs.map val)) j)) 200000 (by rw[mB (xs:=G2 (ql.map val) (rs.map val)) (by rw[GU]; omega)]; exact QZ (fun i=>Nat.le_trans (OM hro.dl hql.dl i) zo)) zo (by rw[p8]; omega)) ?_; refine i7 ?_; exact d9.lp ((G1 (ql.map val) (rs.map val)).map g7) (ac7 zo zo zo hag hro hql) (by have:=FD (q:=(ql.map val)) (r:=(rs.map val)) zo zo; show ((G1 (ql.map val) (rs.map val)).map g7).length<rs.length; rw[List.length_map]; omega) (d6.mk (.r rfl (by rw[mB (xs:=G2 (ql.map val) (rs.map val)) (by rw[GU]; omega)]; exact ai6)<|zk) (.nil) rfl)
  ·intro h3
   replace h3:=Int.not_le.1 h3
   refine g9 ?_
   exact d9.cut (rs) (by rw[<- hag]; have h1:=aP (q:=(ql.map val)) (r:=(rs.map val)) zo; rw[hmr] at h1; rw[h1]; exact hrp.resolve_left (fun e=>by rw[e] at h3; omega)) (d6.mk (.r rfl zi<|zk) (.nil) rfl)
 ·rintro rs hre
  refine jn ?_; refine j3 ?_; exact g6.res1 (fn:=Tryz.f172) rfl (.r rfl (by rw[hre])<|.nil)

end Go.Fl

/- Contracts: fields of the reference. -/
namespace Go.Fl
open Go Go.Proofs
open d5 renaming op->tO
open i9 renaming op->rO
set_option maxRecDepth 100000

abbrev CT:=u8×Unit
def I8:i8 CT:=eC (fun v:CT=>(v.1,())) (eP A8 eU)
instance {v:CT}:E9 (b8 I8 v) [b8 (eL eI) (v.1.1),kI (v.1.2.1),kI (v.1.2.2.1),kI (v.1.2.2.2)]:=inferInstanceAs (E9 (b8 (eC (fun v:CT=>(v.1,())) (eP A8 eU)) v) _)
instance {v:CT}:P8 I8 v (b8 I8 v):=⟨fun h=>h⟩
instance {v:CT}:v6 I8 v 0 A8 (v.1) 0:=inferInstanceAs (v6 (eC (fun v:CT=>(v.1,())) (eP A8 eU)) v 0 _ _ _)
instance {ks r:List d7} {f:u8} [h:t6 ks (eP A8 eU) (f,()) r]:t6 ks I8 ((f,())) r:=⟨fun h'=>h.imp h'⟩
def H5 (p:List Int):List (List (List Int)):=(p.map fun c=>[c])::((C6 p).map fun c=>[c])::((F9 5 p (C6 p)).map fun (q:List Int)=>q.map g7)
theorem SQ {p:List Int}:(H5 p).length=(w4 p).length:=by unfold H5 w4; simp
theorem SK {xs:List Int}:((xs.map fun c=>[c]).map val)=xs:=by
 rw[List.map_map]
 conv=>rhs; rw[<- List.map_id xs]
 exact List.map_congr_left fun c _=>I3
theorem HS {p:List Int} {j:Nat} (hj:j<(w4 p).length):(b6 (H5 p) j).map val=b6 (w4 p) j:=by
 match j,hj with
 | 0,_=>exact SK
 | 1,_=>exact SK
 | j+2,hj =>
  have hl:j<(F9 5 p (C6 p)).length:=by unfold w4 at hj; simpa using hj
  show (b6 ((F9 5 p (C6 p)).map fun (q:List Int)=>q.map g7) j).map val=b6 (F9 5 p (C6 p)) j
  have e:b6 ((F9 5 p (C6 p)).map fun (q:List Int)=>q.map g7) j=(b6 (F9 5 p (C6 p)) j).map g7:=by simp[b6,hl]
  rw[e,XF]
theorem jX {p:List Int} {j:Nat} (h2:2<=j) (hj:j<(w4 p).length):b6 (H5 p) j=(b6 (w4 p) j).map g7:=by
 match j,h2,hj with
 | j+2,_,hj =>
  have hl:j<(F9 5 p (C6 p)).length:=by unfold w4 at hj; simpa using hj
  show b6 ((F9 5 p (C6 p)).map fun (q:List Int)=>q.map g7) j=(b6 (F9 5 p (C6 p)) j).map g7
  simp[b6,hl]
theorem YH {xs:List Int} {B:Nat} (hx:∀i,(b6 xs i).natAbs<=5000) (hB:1<=B):F0 B (xs.map fun c=>[c]):=fun i=>by
 by_cases hi:i<xs.length
 ·have e:b6 (xs.map fun c=>[c]) i=[b6 xs i]:=by simp[b6,hi]
  rw[e,I3]
  have:=hx i
  exact ⟨V7 zo,hB,Nat.le_trans (O9 (k:=1) (by simp[BP]; omega)) hB⟩
 ·rw[v5 (by rw[List.length_map]; omega)]
  exact ⟨BV,Nat.zero_le _,by show dl (val [])<=_; rw[LB,C5.2 rfl]; omega⟩
section
variable {p:List Int} (h3:3<=p.length) (h5:p.length<=5) (h1:b6 p (p.length-1)=1) (hs:∀i,(b6 p i).natAbs<=1000)
include h3 h5 h1 hs
theorem uK (i:Nat):(b6 (C6 p) i).natAbs<=5000:=by
 by_cases hi:i<p.length-1
 ·rw[PU hi]; have:=h3; have:=h1; exact M9 (m:=1000) (n:=5) (hs _) zo
 ·rw[v5 (by rw[R9]; omega)]; show (0:Int).natAbs<=_; omega
theorem aa8 {j:Nat} (hj:j<(w4 p).length):(b6 (H5 p) j).length+j<=p.length/\F0 1681 (b6 (H5 p) j):=by
 have hl:=congrArg List.length (HS hj)
 rw[List.length_map] at hl
 obtain ⟨q1,q2,q3⟩:=CU h3 h5 h1 hs hj
 refine ⟨by omega,?_⟩
 match j,hj with
 | 0,_=>exact YH (fun i=>Nat.le_trans (hs i) zo) zo
 | 1,_=>exact YH (uK h3 h5 h1 hs) zo
 | j+2,hj=>rw[jX zo hj]; exact QZ q3
theorem aa7 {m:Nat} (h2:2<=m) (hm:m<=(w4 p).length):1<=(b6 (H5 p) (m-1)).length/\(b6 (H5 p) (m-1)).length<=(b6 (H5 p) (m-2)).length:=by
 have e1:=congrArg List.length (HS (p:=p) (j:=m-1) zo)
 have e2:=congrArg List.length (HS (p:=p) (j:=m-2) zo)
 rw[List.length_map] at e1 e2
 have n1:=List.length_pos_iff.2 (OV h3 h5 h1 (m:=m-1) zo)
 refine ⟨by omega,?_⟩
 rw[e1,e2]
 by_cases h:m=2
 ·subst h
  show (C6 p).length<=p.length
  rw[R9]; omega
 ·obtain ⟨hq,_⟩:=IV h3 h5 h1 (m:=m-1) zo zo
  rw[if_pos zo] at hq
  rw[<- hq,show m-1-1=m-2 by omega]
  obtain ⟨a1,a2,a3⟩:=CU h3 h5 h1 hs (j:=m-1-2) zo
  obtain ⟨b1,b2,b3⟩:=CU h3 h5 h1 hs (j:=m-2) zo
  have n2:=List.length_pos_iff.2 (OV h3 h5 h1 (m:=m-2) zo)
  have:=(LQ n2 a1 a3 b3 zo).2.1
  omega
end
theorem jY {p:List Int} {a b:List Int}:((H5 p).map fun (q:List (List Int))=>s6 (u9 (val a) (val b) (q.map val)).1)=L1 p (val a) (val b):=by
 unfold L1
 refine D6 (by rw[List.length_map,List.length_map,SQ]) fun i hi=>?_
 rw[List.length_map,SQ] at hi
 have e1:b6 ((H5 p).map fun (q:List (List Int))=>s6 (u9 (val a) (val b) (q.map val)).1) i=s6 (u9 (val a) (val b) ((b6 (H5 p) i).map val)).1:=by simp[b6,SQ,hi]
 have e2:b6 ((w4 p).map fun q=>s6 (u9 (val a) (val b) q).1) i=s6 (u9 (val a) (val b) (b6 (w4 p) i)).1:=by simp[b6,hi]
 rw[e1,e2,HS hi]
theorem xS {a b:List Int} {RL:List (List Int)} (h:RL=(B7 b a.length a).map g7):(j8 RL.length fun j=>g7 (-val (b6 RL j)))=(against a b).map g7:=by
 subst h
 unfold against
 rw[List.length_map]
 refine D6 (by rw[p8,List.length_map,List.length_map]) fun i hi=>?_
 rw[p8] at hi
 rw[r5 hi]
 have e1:b6 ((B7 b a.length a).map g7) i=g7 (b6 (B7 b a.length a) i):=by simp[b6,hi]
 have e2:b6 (((B7 b a.length a).map fun z=>-z).map g7) i=g7 (-b6 (B7 b a.length a) i):=by simp[b6,hi]
 rw[e1,e2,q8]
def GD (f:u8):Int:=if f.1.length=2 then (if f.2.1<=-b6 f.1 0*f.2.2.2/\-b6 f.1 0*f.2.2.2<=f.2.2.1 then 1 else 0) else ((D9 (L1 f.1 f.2.1 f.2.2.2)).1:Int)-(D9 (L1 f.1 f.2.2.1 f.2.2.2)).1
theorem kT {f:u8}:GD f=1↔Z7 f=true:=by
 unfold GD Z7
 split
 ·rw[decide_eq_true_eq]; split<;>simp_all
 ·rw[decide_eq_true_eq]
theorem ZN {xs:List Int} {k:Nat} (hk:k<xs.length):(xs.map fun c=>[c]).take k++[[b6 xs k]]=(xs.map fun c=>[c]).take (k+1):=by
 rw[<- List.map_take,<- List.map_take,W8 hk,List.map_append]; rfl
theorem uL {p:List Int} {k:Nat} (h1:1<=k) (hk:k<p.length):((C6 p).map fun c=>[c]).take (k-1)++[[(k:Int)*b6 p k]]=((C6 p).map fun c=>[c]).take k:=by
 rw[<- List.map_take,<- List.map_take,<- eQ h1 hk,List.map_append,Int.mul_comm]; rfl
set_option maxHeartbeats 2000000 in
theorem sO (f:u8) (h2':2<=f.1.length) (h5':f.1.length<=5) (h1':b6 f.1 (f.1.length-1)=1) (hs:∀i,(b6 f.1 i).natAbs<=1000) (hd:1<=f.2.2.2/\f.2.2.2<=1000000) (hlo:-1000000<=f.2.1/\f.2.1<=1000000) (hhi:-1000000<=f.2.2.1/\f.2.2.1<=1000000):Ct Tryz.prog 127 [b8 A8 f] (kI (GD f)):=by
 have hm0:(-b6 f.1 0*f.2.2.2).natAbs<=1000*1000000:=M9 (by rw[Int.natAbs_neg]; exact hs 0) zo
 have hs0:=hs 0
 refine Ct.mk Tryz.func127 rfl Tryz.ntmps127 rfl (fun w J=>?_); refine g8 ?_; refine jb 1 rfl ?_; refine l6 ?_; refine Tr.frzB 1 [1] A8 (x:=f) ⟨rfl,trivial⟩ rfl ?_; refine jn ?_; refine j3 ?_; refine jq ?_ ?_
 ·intro h1
  have hl2:f.1.length=2:=by omega
  refine g8 ?_; refine Tr.draw 22 o0 (by kernel_rfl) ?_; refine g8 ?_; refine rO (F6 (i:=0) rfl uu rfl uu rfl (fun _=>zo)) rfl rfl ?_; refine i5 ?_; refine rO (EM rfl uu (fun _=>zo)) rfl rfl ?_; refine m9 ?_; refine i9.gd rfl rfl rfl (F6 (i:=0) rfl id rfl uu rfl (fun _=>zo)) rfl rfl ?_; refine i5 ?_; refine i9.gd rfl rfl rfl (EM rfl id (fun hp=>by simp at hp; omega)) rfl rfl ?_; refine g8 ?_; refine i9.gd rfl rfl rfl (EL rfl id rfl id (fun hp=>by simp at hp; omega)) rfl rfl ?_; refine j3 ?_; refine Tr.cnd rfl ?_ ?_
  ·intro h2
   have hr:GD f=1:=by unfold GD; rw[if_pos hl2,if_pos (by simpa using h2)]
   refine j1 ?_; exact g6.res1 (fn:=Tryz.f127) rfl (.i rfl (by rw[hr])<|.nil)
  ·intro h2
   have hr:GD f=0:=by unfold GD; rw[if_pos hl2,if_neg (fun e=>by simp[e.1,e.2] at h2)]
   refine m9 ?_; exact g6.res1 (fn:=Tryz.f127) rfl (.i rfl (by rw[hr])<|.nil)
 ·intro h1
  have h3':3<=f.1.length:=by omega
  have hL5:=bF h3' h5' h1' hs
  have hL2:2<=(w4 f.1).length:=by unfold w4; simp
  have hel:=fun (j:Nat) (hj:j<(w4 f.1).length)=>aa8 h3' h5' h1' hs hj
  have hrl:=SQ (p:=f.1)
  have hdl:=R9 (p:=f.1)
  have hcl:∀a:Int,(D9 (L1 f.1 a f.2.2.2)).1<=5:=fun a=>by have:=OW (l:=L1 f.1 a f.2.2.2); unfold L1 at this ⊢; rw[List.length_map] at this; omega
  have hc1:=hcl f.2.1
  have hc2:=hcl f.2.2.1
  have hov:dl f.2.1<=1:=O9 (by simp[BP]; omega)
  have hov2:dl f.2.2.1<=1:=O9 (by simp[BP]; omega)
  have hov3:dl f.2.2.2<=1:=O9 (by simp[BP]; omega)
  refine D7 ?_; refine Tr.grow (s:=3) rfl rfl 33 rfl 22 (eL eI) rfl ?_; refine Tr.grow (s:=4) rfl rfl 44 rfl 22 (eL eI) rfl ?_
  refine Tr.for1 (σ:=Nat) [⟨1,true,_,_⟩] [] (fun k=>[⟨3,true,[33],o9 33 k⟩,⟨4,true,[44],o9 44 (k-1)⟩,⟨5,true,[],kI (k:Int)⟩]) (fun k=>[⟨33,[],l5 true 22 (eL eI) ((f.1.map fun c=>[c]).take k) k⟩,⟨44,[],l5 true 22 (eL eI) (((C6 f.1).map fun c=>[c]).take (k-1)) (k-1)⟩]) (fun k=>k<=f.1.length) (fun k=>k=f.1.length) (fun k=>f.1.length-k) (0) zi (d6.mk (.o rfl zi rfl<|.o rfl zi rfl<|.i rfl zi<|zk) (.a (by rfl) zi<|.a (by rfl) zi<|.nil) rfl) ?_ ?_
  ·intro k hR0
   refine jn ?_
   have hsk:=hs k
   have hkm:((k:Int)*b6 f.1 k).natAbs<=6*1000:=M9 zo hsk
   refine u5 ?_; refine jq ?_ ?_
   ·intro h7
    refine v9 ?_; refine tO (N0 eI (fun hp=>.cons rfl<|.nil) rfl rfl rfl rfl) rfl rfl ?_; refine d5.new (y7 (eL eI) 52 (fun hp=>.cons rfl<|.nil) rfl rfl rfl rfl) rfl rfl rfl rfl ?_; refine i5 ?_; refine jl ?_; refine m9 ?_; refine jq ?_ ?_
    ·intro h10
     refine m9 ?_; refine tO (N0 eI (fun hp=>.cons rfl<|.nil) rfl rfl rfl rfl) rfl rfl ?_; refine d5.new (y7 (eL eI) 65 (fun hp=>.cons rfl<|.nil) rfl rfl rfl rfl) rfl rfl rfl rfl ?_; refine i5 ?_; refine jl ?_; refine m9 ?_
     exact d9.lp (k+1) zi zo (d6.mk (.o rfl zi rfl<|.o rfl (by simp only[List.length_cons,List.length_nil]; omega) rfl<|.i rfl zi<|zk) (.a (ZN zo) zi<|.a (by rw[uL zo zo,Nat.add_sub_cancel]) (by simp only[List.length_cons,List.length_nil]; omega)<|.nil) rfl)
    ·intro h10
     replace h10:=Int.not_lt.1 h10
     refine j1 ?_
     exact d9.lp (k+1) zi zo (d6.mk (.o rfl zi rfl<|.o rfl zo rfl<|.i rfl zi<|zk) (.a (ZN zo) zi<|.a (by rw[show k=0 by omega]) zo<|.nil) rfl)
   ·intro h7
    replace h7:=Int.not_lt.1 h7
    refine g9 ?_
    exact d9.cut (k) zo (d6.mk (.o rfl zi rfl<|.o rfl zi rfl<|.i rfl zi<|zk) (zk) rfl)
  ·rintro k hkn
   refine je ?_
   have htk1:(f.1.map fun c=>[c]).take k=f.1.map fun c=>[c]:=List.take_of_length_le (by rw[List.length_map]; omega)
   have htk2:((C6 f.1).map fun c=>[c]).take (k-1)=(C6 f.1).map fun c=>[c]:=List.take_of_length_le (by rw[List.length_map,R9]; omega)
   rw[htk1,htk2]
   refine g8 ?_; refine Tr.frz 33 [3] ⟨rfl,trivial⟩ (by simp only[p9]; omega) rfl ?_; refine Tr.frz 44 [4] ⟨rfl,trivial⟩ (by simp only[p9]; omega) rfl ?_; refine jn ?_; refine i7 ?_; refine d5.new (y7 (eL (eL eI)) 69 (fun hp=>.cons rfl<|.cons rfl<|.nil) rfl rfl rfl rfl) rfl rfl rfl rfl ?_; refine i7 ?_
   refine Tr.for (σ:=Nat) [⟨1,true,_,_⟩] [] (fun m=>[⟨6,true,[69],o9 69 m⟩]) (fun m=>[⟨69,[],l5 false 173 (eL (eL eI)) ((H5 f.1).take m) m⟩]) (fun m=>2<=m/\m<=(w4 f.1).length) (fun m=>m=(w4 f.1).length) (fun m=>(w4 f.1).length-m) (2) ⟨Nat.le_refl _,hL2⟩ (d6.mk (.o rfl zi rfl<|zk) (.a (by rfl) zi<|.nil) rfl) ?_ ?_
   ·intro m hR1
    refine jn ?_
    have hX:b6 ((H5 f.1).take m) ((m:Int)-2).toNat=b6 (H5 f.1) (m-2):=by rw[show ((m:Int)-2).toNat=m-2 by omega]; exact HL zo
    have hY:b6 ((H5 f.1).take m) ((m:Int)-1).toNat=b6 (H5 f.1) (m-1):=by rw[show ((m:Int)-1).toNat=m-1 by omega]; exact HL zo
    have hdec:=aa7 h3' h5' h1' hs hR1.1 hR1.2
    have hvl:(b6 (H5 f.1) (m-2)).length=(b6 (w4 f.1) (m-2)).length:=by have:=congrArg List.length (HS (p:=f.1) (j:=m-2) zo); rwa [List.length_map] at this
    have hrv1:=HS (p:=f.1) (j:=m-1) zo
    have hrv2:=HS (p:=f.1) (j:=m-2) zo
    have e1:=hel (m-2) zo
    have e2:=hel (m-1) zo
    refine g8 ?_; refine Tr.draw 12 o0 (by kernel_rfl) ?_; refine g8 ?_; refine rO (U1 rfl uu) rfl rfl ?_; refine i7 ?_
    rw[hX]
    refine g8 ?_; refine rO (U1 rfl uu) rfl rfl ?_; refine i7 ?_
    rw[hY]
    refine i5 ?_; refine jc (sX (b6 (H5 f.1) (m-2)) (b6 (H5 f.1) (m-1)) 1681 1681 e1.2 e2.2 hdec.1 hdec.2 zo zo zo) ?_; refine y8 ?_; refine jq ?_ ?_
    ·intro h14
     rw[hrv1,hrv2,hvl] at h14
     have z8:m=(w4 f.1).length:=Classical.byContradiction fun e=>by have hq:=IV h3' h5' h1' hR1.1 hR1.2; rw[if_pos zo] at hq; have:=List.length_pos_iff.2 (hq.2 zo); rw[<- hq.1] at this; unfold against at this; rw[List.length_map] at this; rw[List.length_map] at h14; omega
     refine l6 ?_
     exact d9.cut (m) z8 (d6.mk (.o rfl zi rfl<|zk) (zk) rfl)
    ·intro h14
     have hq:=IV h3' h5' h1' hR1.1 hR1.2
     rw[hrv1,hrv2,hvl] at h14
     have z8:m<(w4 f.1).length:=Classical.byContradiction fun e=>by rw[if_neg e] at hq; have hq2:=congrArg List.length hq.1; unfold against at hq2; rw[List.length_map,List.length_nil] at hq2; rw[List.length_map] at h14; omega
     rw[if_pos z8] at hq
     obtain ⟨RL,hRL⟩:∃RL,RL=(B7 ((b6 (H5 f.1) (m-1)).map val) (b6 (H5 f.1) (m-2)).length ((b6 (H5 f.1) (m-2)).map val)).map g7:=⟨_,rfl⟩
     rw[<- hRL]
     have hag2:=LQ (A:=1681) (B:=1681) (by have:=hdec.1; have:=congrArg List.length hrv1; rw[List.length_map] at this; omega) (CU h3' h5' h1' hs (j:=m-2) zo).1 (CU h3' h5' h1' hs (j:=m-2) zo).2.2 (CU h3' h5' h1' hs (j:=m-1) zo).2.2 (by have:=(CU h3' h5' h1' hs (j:=m-2) zo).2.1; omega)
     rw[hrv1,hrv2,hvl] at hRL
     have hRo:F0 18500 RL:=by rw[hRL]; refine QZ fun i=>?_; have:=hag2.2.2 i; unfold against at this; rw[AW,K6] at this; omega
     have hRn:(j8 RL.length fun j=>g7 (-val (b6 RL j)))=b6 (H5 f.1) m:=by rw[jX zo z8,<- hq.1]; exact xS hRL
     have hRl5:RL.length<=5:=by rw[hRL,List.length_map]; have:=hag2.2.1; unfold against at this; rw[List.length_map] at this; have:=(CU h3' h5' h1' hs (j:=m-1) zo).2.1; omega
     refine B3 ?_; refine Tr.grow (s:=8) rfl rfl 88 rfl 22 (eL eI) rfl ?_
     refine Tr.for1 (σ:=Nat) [⟨1,true,_,_⟩,⟨6,true,_,_⟩,⟨7,true,_,_⟩] [⟨69,_,_⟩] (fun k=>[⟨8,true,[88],o9 88 k⟩,⟨9,true,[],kI (k:Int)⟩]) (fun k=>[⟨88,[],l5 true 22 (eL eI) (j8 k fun j=>g7 (-val (b6 RL j))) k⟩]) (fun k=>k<=RL.length) (fun k=>k=RL.length) (fun k=>RL.length-k) (0) zi (d6.mk (.o rfl zi rfl<|.i rfl zi<|zk) (.a (by rfl) zi<|zk) rfl) ?_ ?_
     ·intro k hR2
      refine jn ?_
      have hRk:=hRo k
      refine m9 ?_; refine jq ?_ ?_
      ·intro h17
       refine u5 ?_; refine jc (FI (b6 RL k) hRk.1 (by have:=hRk.2.1; omega)) ?_; refine d5.new (y7 (eL eI) 98 (fun hp=>.cons rfl<|.nil) rfl rfl rfl rfl) rfl rfl rfl rfl ?_; refine i5 ?_; refine jl ?_; refine m9 ?_
       exact d9.lp (k+1) zi zo (d6.mk (.o rfl zi rfl<|.i rfl zi<|zk) (.a H0.symm zi<|zk) rfl)
      ·intro h17
       replace h17:=Int.not_lt.1 h17
       refine g9 ?_
       exact d9.cut (k) zo (d6.mk (.o rfl zi rfl<|.i rfl zi<|zk) (zk) rfl)
     ·rintro k hkR
      refine je ?_
      rw[hkR]
      refine i5 ?_; refine Tr.frz 88 [8] ⟨rfl,trivial⟩ (by simp only[p9]; omega) rfl ?_; refine jn ?_; refine i7 ?_; refine d5.new (y7 (eL (eL eI)) 102 (fun hp=>.cons rfl<|.nil) rfl rfl rfl rfl) rfl rfl rfl rfl ?_; refine i5 ?_; refine jl ?_; refine i7 ?_
      exact d9.lp (m+1) zi zo (d6.mk (.o rfl zi rfl<|zk) (.a (by rw[hRn,W8 zo]) zi<|.nil) rfl)
   ·rintro m z8
    refine jn ?_
    have htk:(H5 f.1).take m=H5 f.1:=List.take_of_length_le zo
    rw[htk]
    refine i5 ?_; refine Tr.frz 69 [6] ⟨rfl,trivial⟩ (by simp only[p9]; omega) rfl ?_; refine jn ?_; refine Tr.draw 15 o0 (by kernel_rfl) ?_; refine i7 ?_; refine rO (N0 eI (fun hp=>.cons rfl<|.nil) rfl rfl rfl rfl) rfl rfl ?_; refine g8 ?_; refine rO (N0 eI (fun hp=>.cons rfl<|.nil) rfl rfl rfl rfl) rfl rfl ?_; refine jd (dK (H5 f.1) [f.2.1] [f.2.2.2] zo (fun j hj=>⟨by have:=(hel j zo).1; omega,(hel j zo).2.mono zo⟩) ⟨V7 zo,by show 1<=4; omega⟩ ⟨V7 zo,by show 1<=4; omega⟩ (by rw[I3]; omega) (by rw[I3]; omega)) ?_
    rw[jY,I3,I3]
    refine i7 ?_; refine rO (N0 eI (fun hp=>.cons rfl<|.nil) rfl rfl rfl rfl) rfl rfl ?_; refine g8 ?_; refine rO (N0 eI (fun hp=>.cons rfl<|.nil) rfl rfl rfl rfl) rfl rfl ?_; refine i5 ?_; refine jc (dK (H5 f.1) [f.2.2.1] [f.2.2.2] zo (fun j hj=>⟨by have:=(hel j zo).1; omega,(hel j zo).2.mono zo⟩) ⟨V7 zo,by show 1<=4; omega⟩ ⟨V7 zo,by show 1<=4; omega⟩ (by rw[I3]; omega) (by rw[I3]; omega)) ?_
    rw[jY,I3,I3]
    refine l6 ?_; exact g6.res1 (fn:=Tryz.f127) rfl (.i rfl (by unfold GD; rw[if_neg zo])<|.nil)

end Go.Fl

/- Contracts: fields of the reference: errors, opening. -/
namespace Go.Fl
open Go Go.Proofs
open d5 renaming op->tO
open i9 renaming op->rO
set_option maxRecDepth 100000

theorem oI {p:List Int} {k:Nat} (hk:k<p.length) (h:¬(-1000<=b6 p k/\b6 p k<=1000)):p.any CF=true:=by
 refine List.any_eq_true.2 ⟨b6 p k,E6 hk,?_⟩
 unfold CF
 rw[decide_eq_false h]; rfl
theorem yG {p:List Int} (h:∀i,i<p.length->-1000<=b6 p i/\b6 p i<=1000):p.any CF≠true:=fun e=>by
 obtain ⟨x,hx,h2⟩:=List.any_eq_true.1 e
 obtain ⟨i,hi,rfl⟩:=List.mem_iff_getElem.1 hx
 have:=h i hi
 have e1:b6 p i=p[i]:=by simp[b6,hi]
 rw[e1] at this
 unfold CF at h2
 rw[decide_eq_true this] at h2
 cases h2
theorem PN (n a b:Int):Ct Tryz.prog 125 [kI n,kI a,kI b] (kB (decide (a<=n/\n<=b))):=by
 refine Ct.mk Tryz.func125 rfl Tryz.ntmps125 rfl (fun w J=>?_); refine JO ?_; exact g6.res1 (fn:=Tryz.f125) rfl (.b rfl (by symm; exact Bool.decide_and _ _)<|.nil)

theorem dA (f:u8):Ct Tryz.prog 74 [b8 A8 f] (kI (z5 f)):=by
 refine Ct.mk Tryz.func74 rfl Tryz.ntmps74 rfl (fun w J=>?_); refine g8 ?_; refine jb 1 rfl ?_; refine g9 ?_; refine Tr.frzB 1 [1] A8 (x:=f) ⟨rfl,trivial⟩ rfl ?_; refine jn ?_; refine FP ?_; refine Tr.cnd rfl ?_ ?_
 ·intro h2
  have hc1:¬(2<=f.1.length/\f.1.length<=5):=by simp at h2; omega
  have he:z5 f=10:=if_pos hc1
  refine j3 ?_; exact g6.res1 (fn:=Tryz.f74) rfl (.i rfl (by rw[he])<|.nil)
 ·intro h2
  have hc1:2<=f.1.length/\f.1.length<=5:=by simp at h2; omega
  have he1:=(if_neg (fun e=>e hc1):z5 f=_)
  refine j1 ?_
  refine Tr.for1 (σ:=Nat) [⟨1,true,_,_⟩,⟨3,true,_,_⟩] [] (fun k=>[⟨4,true,[],kI (k:Int)⟩]) (fun k=>[]) (fun k=>k<=f.1.length/\∀i,i<k->-1000<=b6 f.1 i/\b6 f.1 i<=1000) (fun k=>∀i,i<f.1.length->-1000<=b6 f.1 i/\b6 f.1 i<=1000) (fun k=>f.1.length-k) (0) ⟨by omega,fun i h=>absurd h (Nat.not_lt_zero _)⟩ (d6.mk (.i rfl zi<|zk) (.nil) rfl) ?_ ?_
  ·rintro k ⟨hk,hR⟩
   refine jn ?_; refine j1 ?_; refine jq ?_ ?_
   ·intro h5
    refine y8 ?_; refine tO (i6 (fun hp=>PN _ _ _) (.a rfl uu<|.a rfl uu<|.a rfl uu<|.nil)) rfl rfl ?_; refine i7 ?_; refine Tr.cnd rfl ?_ ?_
    ·intro h7
     have he:z5 f=2:=he1.trans (if_pos (oI (k:=k) zo (by simp at h7; omega)))
     refine v9 ?_; exact g6.res1 (fn:=Tryz.f74) rfl (.i rfl (by rw[he])<|.nil)
    ·intro h7
     have hok:-1000<=b6 f.1 k/\b6 f.1 k<=1000:=by simp at h7; omega
     refine j1 ?_
     exact d9.lp (k+1) ⟨by omega,fun i hi=>by by_cases e:i=k; (rw[e]; exact hok); exact hR i zo⟩ zo (d6.mk (.i rfl zi<|zk) (.nil) rfl)
   ·intro h5
    replace h5:=Int.not_lt.1 h5
    refine g9 ?_
    exact d9.cut (k) (fun i hi=>hR i zo) (d6.mk (.i rfl zi<|zk) (.nil) rfl)
  ·intro k hE
   refine je ?_
   have hc2:=yG hE
   have hs:=YJ hc2
   have he2:=he1.trans (if_neg hc2)
   refine l3 ?_; refine tO (i6 (fun hp=>PN _ _ _) (.a rfl uu<|.a rfl uu<|.a rfl uu<|.nil)) rfl rfl ?_; refine g9 ?_; refine d5.gd rfl rfl rfl (i6 (fun hp=>PN _ _ _) (.a rfl id<|.a rfl uu<|.a rfl uu<|.nil)) rfl rfl ?_; refine l6 ?_; refine d5.gd rfl rfl rfl (i6 (fun hp=>PN _ _ _) (.a rfl id<|.a rfl uu<|.a rfl uu<|.nil)) rfl rfl ?_; refine g9 ?_; refine Tr.cnd rfl ?_ ?_
   ·intro h9
    have hc3:¬((1<=f.2.2.2/\f.2.2.2<=1000000)/\(-1000000<=f.2.1/\f.2.1<=1000000)/\(-1000000<=f.2.2.1/\f.2.2.1<=1000000)):=fun ⟨q1,q2,q3⟩=>by simp[q1,q2,q3] at h9
    have he:z5 f=2:=he2.trans (if_pos hc3)
    refine j3 ?_; exact g6.res1 (fn:=Tryz.f74) rfl (.i rfl (by rw[he])<|.nil)
   ·intro h9
    have hc3:(1<=f.2.2.2/\f.2.2.2<=1000000)/\(-1000000<=f.2.1/\f.2.1<=1000000)/\(-1000000<=f.2.2.1/\f.2.2.1<=1000000):=by simp at h9; omega
    have he3:=he2.trans (if_neg (fun e=>e hc3))
    refine l6 ?_
    have hix:((f.1.length:Int)-1).toNat=f.1.length-1:=by omega
    refine u5 ?_; refine d5.gd rfl rfl rfl (i6 (fun hp=>sN f.1 hc1.1 hc1.2 hs) (.a rfl id<|.nil)) rfl rfl ?_; refine i7 ?_; refine Tr.cnd rfl ?_ ?_
    ·intro h11
     have hc4:b6 f.1 (f.1.length-1)≠1\/Y3 f.1=true:=by simp[hix] at h11; simpa using h11
     have he:z5 f=3:=he3.trans (if_pos hc4)
     refine j3 ?_; exact g6.res1 (fn:=Tryz.f74) rfl (.i rfl (by rw[he])<|.nil)
    ·intro h11
     have hc4:b6 f.1 (f.1.length-1)=1/\Y3 f.1=false:=by simp[hix] at h11; simpa using h11
     have he4:=he3.trans (if_neg (fun e=>e.elim (fun e=>e hc4.1) (fun e=>by rw[hc4.2] at e; cases e)))
     refine v9 ?_; refine jq ?_ ?_
     ·intro h13
      have he:z5 f=9:=he4.trans (if_pos h13)
      refine j3 ?_; exact g6.res1 (fn:=Tryz.f74) rfl (.i rfl (by rw[he])<|.nil)
     ·intro h13
      replace h13:=Int.not_lt.1 h13
      have he5:=he4.trans (if_neg (show ¬f.2.1>f.2.2.1 by omega))
      refine l3 ?_; refine jc (sO f hc1.1 hc1.2 hc4.1 hs hc3.1 hc3.2.1 hc3.2.2) ?_; refine i7 ?_; refine jq ?_ ?_
      ·intro h15
       have hc6:Z7 f=false:=Bool.eq_false_iff.2 (fun e=>h15 (kT.2 e))
       have he:z5 f=11:=he5.trans (if_pos hc6)
       refine j3 ?_; exact g6.res1 (fn:=Tryz.f74) rfl (.i rfl (by rw[he])<|.nil)
      ·intro h15
       replace h15:=Classical.not_not.1 h15
       have hc6:Z7 f=true:=kT.1 h15
       have he:z5 f=0:=he5.trans (if_neg (by rw[hc6]; decide))
       refine j1 ?_; exact g6.res1 (fn:=Tryz.f74) rfl (.i rfl (by rw[he])<|.nil)

theorem dF (f:u8) (h0:z5 f=0):Ct Tryz.prog 24 [b8 A8 f] (z6 [b8 I8 (f,()),kI 0]):=by
 obtain ⟨⟨c1,_⟩,_⟩:=Y8 h0
 refine Ct.mk Tryz.func24 rfl Tryz.ntmps24 rfl (fun w J=>?_); refine g8 ?_; refine jb 1 rfl ?_; refine ja 2 ?_; refine j3 ?_; refine jc (dA f) ?_; refine m9 ?_; refine Tr.cnd rfl ?_ ?_
 ·intro h2
  exact absurd h0 (of_decide_eq_true h2)
 ·intro h2
  refine g9 ?_; refine d5.new (AX eI 11) rfl rfl rfl rfl ?_; refine i7 ?_; refine jl ?_; refine j3 ?_; refine tO (A1 (fun hp=>.cons rfl rfl rfl<|.nil)) rfl rfl ?_; refine g9 ?_; refine Tr.ent (S':=[⟨2,true,_,_⟩,⟨3,true,_,_⟩]) (M':=[⟨2,_,_⟩,⟨11,_,_⟩]) (d6.mk (zk) (zk) rfl) ?_; refine Tr.frzC 11 2 (by simp only[p9]; omega) rfl rfl ?_; refine i5 ?_; exact g6.resC (fn:=Tryz.f24) (ts:=[3]) rfl rfl rfl (t7 rfl (by rfl)) (.i rfl (by rfl)<|.nil)

theorem sL (f:u8) (h0:z5 f≠0):Ct Tryz.prog 24 [b8 A8 f] (z6 [b8 I8 (([],0,0,0),()),kI (z5 f)]):=by
 refine Ct.mk Tryz.func24 rfl Tryz.ntmps24 rfl (fun w J=>?_); refine g8 ?_; refine jb 1 rfl ?_; refine ja 2 ?_; refine j3 ?_; refine jc (dA f) ?_; refine m9 ?_; refine Tr.cnd rfl ?_ ?_
 ·intro h2
  refine g8 ?_; refine tO (A1 (fun hp=>.nil)) rfl rfl ?_; refine j3 ?_; exact g6.resC (fn:=Tryz.f24) (ts:=[3]) rfl rfl rfl (t7 rfl (by rfl)) (.i rfl (by rfl)<|.nil)
 ·intro h2
  exact absurd (of_decide_eq_false h2) (fun e=>e h0)

theorem sG (f:u8) (hn:2<=f.1.length/\f.1.length<=5):Ct Tryz.prog 144 [b8 I8 (f,())] (kI ((f.1.length:Int)-1)):=by
 have hff:((f,()):CT).1.1.length=f.1.length:=rfl
 refine Ct.mk Tryz.func144 rfl Tryz.ntmps144 rfl (fun w J=>?_); refine g8 ?_; refine jb 1 rfl ?_; refine D7 ?_
 exact g6.res1 (fn:=Tryz.f144) rfl (.i rfl zi<|.nil)

end Go.Fl

/- Contracts: numbers of the reference: normal forms, sums, products. -/
namespace Go.Fl
open Go Go.Proofs
open d5 renaming op->tO
open i9 renaming op->rO
set_option maxRecDepth 100000

def W6 (p:List Int) (ys:List (List Int)) (n i k:Nat):List (List Int):=j8 ys.length fun j=>if i-n<=j/\j<i-n+k then g7 (val (b6 ys j)-val (b6 ys i)*b6 p (j-(i-n))) else b6 ys j
theorem ZE {p:List Int} {ys:List (List Int)} {n i k:Nat}:(W6 p ys n i k).length=ys.length:=p8
theorem ah1 {p:List Int} {ys:List (List Int)} {n i:Nat}:ys=W6 p ys n i 0:=by
 conv=>lhs; rw[U5 (rfl:ys.length=ys.length)]
 exact B5 fun j _=>(if_neg zo).symm
theorem ag8 {p:List Int} {ys:List (List Int)} {n i k j:Nat} (hj:j<ys.length) (h:j<i-n\/i-n+k<=j):b6 (W6 p ys n i k) j=b6 ys j:=by
 unfold W6
 rw[r5 hj,if_neg zo]
theorem ag9 {p:List Int} {ys:List (List Int)} {n i k:Nat} (_:k<n) (hn:n<=i) (_:i<ys.length):(W6 p ys n i k).set (i-n+k) (g7 (val (b6 ys (i-n+k))-val (b6 ys i)*b6 p k))=W6 p ys n i (k+1):=by
 unfold W6
 rw[GE]
 refine B5 fun j hj=>?_
 by_cases e:j=i-n+k
 ·subst e
  rw[if_pos rfl,if_pos ⟨zo,zo⟩,Nat.add_sub_cancel_left]
 ·rw[if_neg e]
  by_cases h:i-n<=j/\j<i-n+k
  ·rw[if_pos h,if_pos ⟨h.1,by omega⟩]
  ·rw[if_neg h,if_neg zo]
theorem ah0 {p:List Int} {ys:List (List Int)} {n i:Nat} (hn:n<=i) (hi:i<ys.length):(W6 p ys n i n).take i=ER p n (ys.take (i+1)):=by
 have hl:(ys.take (i+1)).length=i+1:=by rw[List.length_take]; omega
 have e1:((W6 p ys n i n).take i).length=i:=by rw[List.length_take,ZE]; omega
 refine D6 (by rw[e1,SR,hl]; omega) fun j hj=>?_
 rw[e1] at hj
 unfold ER
 rw[hl,Nat.add_sub_cancel,r5 hj,HL hj,HL (show j<i+1 by omega),HL (show i<i+1 by omega)]
 unfold W6
 rw[r5 zo]
 by_cases h:i-n<=j
 ·rw[if_pos ⟨zo,zo⟩,if_pos h]
 ·rw[if_neg zo,if_neg h]
theorem ab2 {p:List Int} {n m:Nat} {xs:List (List Int)} (hl:xs.length=m) (hm:n<m):T0 p n (m-n) xs=T0 p n (m-1-n) (ER p n xs):=by
 obtain ⟨f,hf⟩:∃f,m-n=f+1:=⟨m-n-1,by omega⟩
 rw[hf,T0,if_neg zo,show m-1-n=f by omega]
theorem ab1 {p:List Int} {n:Nat} {xs:List (List Int)} (hl:xs.length=n):T0 p n (n-n) xs=xs:=by
 rw[Nat.sub_self,T0,hl,Nat.sub_self,List.replicate_zero,List.append_nil]
theorem ab3 {p:List Int} {c:List (List Int)} {n k L:Nat} (hn:p.length-1=n) (hk:k=n-c.length) (hL:L=c.length+k):T0 p n (L-n) ((c++List.replicate k []).take L)=AD p c:=by
 unfold AD
 rw[hn,List.take_of_length_le (by simp; omega)]
 by_cases h:c.length<=n
 ·have e1:n-(c++List.replicate k ([]:List Int)).length=0:=by rw[List.length_append,List.length_replicate]; omega
  rw[show L-n=0 by omega,show c.length-n=0 by omega,T0,T0,e1,List.replicate_zero,List.append_nil,hk]
 ·rw[show k=0 by omega,List.replicate_zero,List.append_nil,hL,show k=0 by omega,Nat.add_zero]
theorem lL {p:List Int} {ys:List (List Int)} {n i k B:Nat} (hy:F0 B ys) (hp:∀j,dl (b6 p j)<=1):F0 (B+2) (W6 p ys n i k):=fun j=>by
 by_cases hj:j<ys.length
 ·unfold W6
  rw[r5 hj]
  split
  ·refine RC ?_
   rw[Int.sub_eq_add_neg]
   have:=PS (hy j).2.2 (hy i).2.2 (hp (j-(i-n)))
   omega
  ·exact hy.mono zo j
 ·rw[v5 (by rw[ZE]; omega)]
  exact ⟨BV,Nat.zero_le _,by show Go.Fl.dl (val [])<=_; rw[LB,C5.2 rfl]; omega⟩
theorem MB (x:s5) (hx:w8 x.2) (hl:x.2.length<=500000):Ct Tryz.prog 87 [b8 j7 x] (b8 (eL eI) (g7 (w5 x.2))):=by
 refine Ct.mk Tryz.func87 rfl Tryz.ntmps87 rfl (fun w J=>?_); refine g8 ?_; refine jb 1 rfl ?_; refine l6 ?_; refine Tr.frzB 1 [1] j7 (x:=x) ⟨rfl,trivial⟩ rfl ?_; refine jn ?_; refine i7 ?_; refine jc (BN x.2 hx zo) ?_; refine i7 ?_; refine jq ?_ ?_
 ·intro h1
  have hv0:=R8.1 h1
  have hd:w5 x.2=1:=if_pos hv0
  refine g8 ?_; refine d5.new (y7 eI 7 (fun hp=>.cons rfl<|.nil) rfl rfl rfl rfl) rfl rfl rfl rfl ?_; refine i7 ?_; refine Tr.frz 7 [2] ⟨rfl,trivial⟩ (by simp only[p9]; omega) rfl ?_; refine g8 ?_; exact g6.res1 (fn:=Tryz.f87) rfl (.r rfl (by rw[hd,XD])<|.nil)
 ·intro h1
  have hd:w5 x.2=val x.2:=if_neg (fun e=>h1 (R8.2 e))
  refine l3 ?_; refine jc (Y9 x.2 hx zo) ?_; refine g9 ?_; exact g6.res1 (fn:=Tryz.f87) rfl (.r rfl (by rw[hd])<|.nil)

set_option maxHeartbeats 1000000 in
theorem VK (f:u8) (c:List (List Int)) (B:Nat) (hpo:G6 f.1) (hs:∀i,(b6 f.1 i).natAbs<=1000) (hc:F0 B c) (hl:c.length<=16) (hB:B<=200000):Ct Tryz.prog 86 [b8 I8 (f,()),b8 (eL (eL eI)) c] (b8 (eL (eL eI)) (AD f.1 c)):=by
 obtain ⟨n,hn1⟩:∃n,f.1.length=n+1:=⟨f.1.length-1,by have:=hpo.1.1; omega⟩
 have hn2:f.1.length-1=n:=by omega
 have hn5:=hpo.1
 have hdp:=hpo.2
 have hff:((f,()):CT).1.1.length=f.1.length:=rfl
 refine Ct.mk Tryz.func86 rfl Tryz.ntmps86 rfl (fun w J=>?_); refine g8 ?_; refine jb 2 rfl ?_; refine g9 ?_; refine Tr.frzB 2 [2] I8 (x:=(f,())) ⟨rfl,trivial⟩ rfl ?_; refine jn ?_; refine g8 ?_; refine jc (sG f hn5) ?_; refine l6 ?_; refine d5.new (AX (eL eI) 12) rfl rfl rfl rfl ?_; refine g8 ?_; refine jl ?_; refine i7 ?_
 refine Tr.for (σ:=Nat) [⟨2,true,_,_⟩,⟨5,true,_,_⟩] [] (fun k=>[⟨6,true,[12],o9 12 (c.length+k)⟩]) (fun k=>[⟨12,[],l5 false 22 (eL eI) (c++List.replicate k []) (c.length+k)⟩]) (fun k=>k<=n-c.length) (fun k=>k=n-c.length) (fun k=>n-c.length-k) (0) zi (d6.mk (.o rfl (by simp) rfl<|zk) (.a (by simp) (by simp)<|.nil) rfl) ?_ ?_
 ·intro k hR0
  refine jn ?_; refine g9 ?_; refine tO (U1 rfl uu) rfl rfl ?_; refine g9 ?_; refine jq ?_ ?_
  ·intro h3
   refine l6 ?_; refine d5.new (y7 (eL eI) 20 (fun hp=>.cons rfl<|.nil) rfl rfl rfl rfl) rfl rfl rfl rfl ?_; refine i5 ?_; refine jl ?_; refine i7 ?_
   exact d9.lp (k+1) zi zo (d6.mk (.o rfl zi rfl<|zk) (.a (by rw[List.replicate_succ',List.append_assoc]) zi<|.nil) rfl)
  ·intro h3
   replace h3:=Int.not_lt.1 h3
   refine g9 ?_
   exact d9.cut (k) zo (d6.mk (.o rfl zi rfl<|zk) (zk) rfl)
 ·rintro k hk0
  refine jn ?_; refine Tr.osq 6 1 rfl zo ?_
  refine Tr.for (σ:=List (List Int)×Nat) [⟨2,true,_,_⟩,⟨5,true,_,_⟩] [] (fun (ys,m)=>[⟨6,true,[12],C7 12 1 0 m⟩]) (fun (ys,m)=>[⟨12,[],l5 false 22 (eL eI) ys (c.length+k)⟩]) (fun (ys,m)=>(ys.length=c.length+k/\n<=m/\m<=c.length+k)/\T0 f.1 n (m-n) (ys.take m)=AD f.1 c/\F0 (B+2*(c.length+k-m)) ys) (fun (ys,m)=>(ys.length=c.length+k/\m=n)/\ys.take m=AD f.1 c) (fun (ys,m)=>m) ((c++List.replicate k [],c.length+k)) ⟨⟨by simp,by omega,Nat.le_refl _⟩,ab3 hn2 hk0 rfl,hc.app.mono zo⟩ (d6.mk (.q rfl zi zi rfl<|zk) (zk) rfl) ?_ ?_
  ·rintro ⟨ys,m⟩ ⟨hym,hrd,hyo⟩
   refine jn ?_
   have hmx:((m:Int)-1).toNat=m-1:=by omega
   have hm0:b6 ys (0+((m:Int)-1).toNat)=b6 ys (m-1):=by rw[Nat.zero_add,hmx]
   refine g9 ?_; refine tO (Z6 rfl uu) rfl rfl ?_; refine g9 ?_; refine jq ?_ ?_
   ·intro h5
    refine j3 ?_; refine tO (Z6 rfl uu) rfl rfl ?_; refine i5 ?_; refine tO (CA (c.length+k) rfl uu rfl uu (fun _=>zo)) rfl rfl ?_; refine i5 ?_
    rw[hm0]
    refine j3 ?_; refine tO (Z6 rfl uu) rfl rfl ?_; refine i5 ?_; refine tO (jC rfl uu rfl uu (fun _=>zo)) rfl rfl ?_
    rw[hmx]
    refine j1 ?_
    refine Tr.for1 (σ:=Nat) [⟨2,true,_,_⟩,⟨5,true,_,_⟩,⟨6,true,_,_⟩,⟨7,true,_,_⟩] [] (fun i=>[⟨8,true,[],kI (i:Int)⟩]) (fun i=>[⟨12,[],l5 false 22 (eL eI) (W6 f.1 ys n (m-1) i) (c.length+k)⟩]) (fun i=>i<=n) (fun i=>i=n) (fun i=>n-i) (0) zi (d6.mk (.i rfl zi<|zk) (.a ah1 zi<|.nil) rfl) ?_ ?_
    ·intro i hR2
     refine jn ?_
     have hix:(0+(((m-1:Nat):Int)-((f.1.length:Int)-1)+(i:Int)).toNat)=m-1-n+i:=by omega
     have hso:=lL (n:=n) (i:=m-1) (k:=i) hyo hdp
     have hs1:=hso (m-1-n+i)
     have hyt:=hyo (m-1)
     have hpi:=hdp i
     have hbi:=s7 (val (b6 ys (m-1))) (b6 f.1 i)
     refine j1 ?_; refine jq ?_ ?_
     ·intro h9
      refine j3 ?_; refine tO (Z6 rfl uu) rfl rfl ?_; refine j3 ?_; refine Tr.draw 16 o0 (by kernel_rfl) ?_; refine g9 ?_; refine rO (CA (c.length+k) rfl uu rfl uu (fun _=>zo)) rfl rfl ?_; refine i5 ?_
      rw[hix]
      refine j3 ?_; refine rO (N0 eI (fun hp=>.cons rfl<|.nil) rfl rfl rfl rfl) rfl rfl ?_; refine rO (i6 (fun hp=>I7 (b6 ys (m-1)) [b6 f.1 i] hyt.1 (V7 (by have:=hs i; omega)) zo (by show 1<=_; omega)) (.a rfl uu<|.a rfl uu<|.nil)) rfl rfl ?_
      rw[I3]
      refine rO (i6 (fun hp=>LY (b6 (W6 f.1 ys n (m-1) i) (m-1-n+i)) (g7 (val (b6 ys (m-1))*b6 f.1 i)) hs1.1 (u7 _) zo (by rw[r8]; omega)) (.a rfl uu<|.a rfl uu<|.nil)) rfl rfl ?_
      rw[q8]
      refine i5 ?_; refine tO (CA (c.length+k) rfl uu rfl uu (fun _=>zo)) rfl rfl ?_; refine m9 ?_
      exact d9.lp (i+1) zi zo (d6.mk (.i rfl zi<|zk) (.a (by rw[hix,ag8 zo zo]; exact ag9 zo zo zo) zi<|.nil) rfl)
     ·intro h9
      replace h9:=Int.not_lt.1 h9
      refine g9 ?_
      exact d9.cut (i) zo (d6.mk (.i rfl zi<|zk) (zk) rfl)
    ·rintro i hkn
     refine je ?_; refine i5 ?_
     exact d9.lp ((W6 f.1 ys n (m-1) n,m-1)) ⟨⟨by rw[ZE]; exact hym.1,by omega,by omega⟩,by rw[ah0 zo zo,show m-1+1=m by omega,<- ab2 (by rw[List.length_take]; omega) zo]; exact hrd,(lL hyo hdp).mono zo⟩ (by show m-1<m; omega) (d6.mk (.q rfl zi zi rfl<|zk) (.a (by rw[hkn]) zi<|.nil) rfl)
   ·intro h5
    replace h5:=Int.not_lt.1 h5
    refine g9 ?_
    exact d9.cut ((ys,m)) ⟨⟨hym.1,by omega⟩,by rw[<- hrd,show m=n by omega,ab1 (by rw[List.length_take]; omega)]⟩ (d6.mk (.q rfl zi zi rfl<|zk) (zk) rfl)
  ·rintro ⟨ys,m⟩ ⟨hym,hrd⟩
   refine jn ?_; refine i7 ?_; refine d5.frzQ 12 [65] ⟨rfl,trivial⟩ ⟨by omega,by simp only[p9]; omega⟩ rfl ?_; refine jl ?_; refine g9 ?_; exact g6.res1 (fn:=Tryz.f86) rfl (.r rfl (by rw[hrd])<|.nil)

end Go.Fl

/- Contracts: numbers of the reference: normal forms, sums, products. -/
namespace Go.Fl
open Go Go.Proofs
open d5 renaming op->tO
open i9 renaming op->rO
set_option maxRecDepth 100000

theorem ZJ {F:Nat->Int} {m B:Nat} (h:∀j,j<m->dl (F j)<=B):F0 B (j8 m fun j=>g7 (F j)):=fun i=>by
 by_cases hi:i<m
 ·rw[r5 hi]; exact RC (h i hi)
 ·rw[v5 (by rw[p8]; omega)]
  exact ⟨BV,Nat.zero_le _,by show Go.Fl.dl (val [])<=_; rw[LB,C5.2 rfl]; omega⟩
theorem mA {F:Nat->Int} {m:Nat}:((j8 m fun j=>g7 (F j)).map val)=j8 m F:=by
 unfold j8
 rw[List.map_map]
 exact List.map_congr_left fun j _=>q8 _
def XM (p:List Int) (x y:CS):l7:=loN (I1 p (LW (AH x) (AH y))) (w5 x.2*w5 y.2)
theorem ai7 {p:List Int} {x:CS}:XM p x (m8 (loN [-1] 1))=S5 (j9 p x):=by
 have e:m8 (loN [-1] 1)=([g7 (-1)],g7 1):=by rw[JZ]; rfl
 rw[e]
 unfold XM
 have e2:AH ([g7 (-1)],g7 1)=[-1]:=by show [val (g7 (-1))]=[-1]; rw[q8]
 have e3:w5 ([g7 (-1)],g7 1).2=1:=by unfold w5; rw[q8,if_neg (by decide)]
 rw[e2,e3,pL,Int.mul_one]
 exact aa6
theorem RP {x:CS} {i:Nat}:b6 (AH x) i=val (b6 x.1 i):=S7
theorem JH {x:CS} {k:Nat} (h:y3 k x) (i:Nat):dl (val (b6 x.1 i))<=k+3:=by have:=N5 (h.c i).1; have:=(h.c i).2; omega
theorem lY {F:Nat->Int} {B:Nat} (h:∀i,dl (F i)<=B):∀{k:Nat},dl (r6 F k)<=B+k
 | 0=>by rw[show r6 F 0=0 from rfl,C5.2 rfl]; omega
 | k+1=>by
  rw[M5]
  have:=lY h (k:=k)
  have:=h k
  have:=Q3 (r6 F k) (F k)
  omega
theorem bW {x y:CS} {k:Nat} (hx:y3 k x) (hy:y3 k y) (i j:Nat):dl (val (b6 x.1 i)*val (b6 y.1 j))<=2*k+6:=by
 have:=JH hx i
 have:=JH hy j
 have:=s7 (val (b6 x.1 i)) (val (b6 y.1 j))
 omega
theorem PJ (c:List (List Int)) (i:Nat):Ct Tryz.prog 124 [b8 (eL (eL eI)) c,kI (i:Int)] (b8 (eL eI) (b6 c i)):=by
 refine Ct.mk Tryz.func124 rfl Tryz.ntmps124 rfl (fun w J=>?_); refine D7 ?_; refine jq ?_ ?_
 ·intro h1
  refine y8 ?_; exact g6.res1 (fn:=Tryz.f124) rfl (.r rfl (by rfl)<|.nil)
 ·intro h1
  replace h1:=Int.not_lt.1 h1
  refine j1 ?_; exact g6.res1 (fn:=Tryz.f124) rfl (.n rfl (by rw[v5 zo]; rfl)<|.nil)

theorem dE (f:u8) (x:s5) (k:Nat) (hpo:G6 f.1) (hs:∀i,(b6 f.1 i).natAbs<=1000) (hx:y3 k x) (hk:k<=50000):Ct Tryz.prog 32 [b8 I8 (f,()),b8 j7 x] (b8 j7 (m8 (j9 f.1 x))):=by
 have hro:=YW hpo.2 (iU hx)
 have hxl:=hx.len
 have hdd:=HC hx.d.1 hx.d.2
 have hdl:=hx.d.2
 have hne:=BT (d:=x.2)
 refine Ct.mk Tryz.func32 rfl Tryz.ntmps32 rfl (fun w J=>?_); refine g8 ?_; refine jb 2 rfl ?_; refine jb 3 rfl ?_; refine ja 4 ?_; refine i7 ?_; refine Tr.frzB 2 [2] I8 (x:=(f,())) ⟨rfl,trivial⟩ rfl ?_; refine Tr.frzB 3 [3] j7 (x:=x) ⟨rfl,trivial⟩ rfl ?_; refine jn ?_; refine Tr.draw 5 o0 (by kernel_rfl) ?_; refine i7 ?_; refine jd (VK f x.1 (k+3) hpo hs (iU hx) zo zo) ?_; refine g8 ?_; refine jc (MB x hx.d.1 zo) ?_; refine tO (i6 (fun hp=>PK (AD f.1 x.1) (g7 (w5 x.2)) (fun i=>⟨(hro i).1,Nat.le_trans (hro i).2.1 zo⟩) ⟨u7 _,by rw[r8]; omega⟩ (by rw[q8]; exact hne) (by rw[YV]; have:=hpo.1; omega)) (.a rfl uu<|.a rfl uu<|.nil)) rfl rfl ?_
 refine g9 ?_; exact g6.resC1 (fn:=Tryz.f32) rfl rfl (t7 rfl (by rw[q8,ZK hpo.1.2]; rfl))

set_option maxHeartbeats 1000000 in
theorem sC (f:u8) (x y:s5) (k:Nat) (hpo:G6 f.1) (hs:∀i,(b6 f.1 i).natAbs<=1000) (hx:y3 k x) (hy:y3 k y) (hk:k<=30000):Ct Tryz.prog 72 [b8 I8 (f,()),b8 j7 x,b8 j7 y] (b8 j7 (m8 (C0 (j9 f.1 x) (j9 f.1 y)))):=by
 have hxl:=hx.len
 have hyl:=hy.len
 have hdx:=HC hx.d.1 hx.d.2
 have hdy:=HC hy.d.1 hy.d.2
 have hdl:=hx.d.2
 have hdl2:=hy.d.2
 have hne:=Int.mul_ne_zero (BT (d:=x.2)) (BT (d:=y.2))
 have hsj:∀j,dl (val (b6 x.1 j)*w5 y.2+val (b6 y.1 j)*w5 x.2)<=2*k+7:=fun j=>by have a1:=JH hx j; have a2:=JH hy j; have a3:=s7 (val (b6 x.1 j)) (w5 y.2); have a4:=s7 (val (b6 y.1 j)) (w5 x.2); have a5:=Q3 (val (b6 x.1 j)*w5 y.2) (val (b6 y.1 j)*w5 x.2); omega
 have hab:=s7 (w5 x.2) (w5 y.2)
 refine Ct.mk Tryz.func72 rfl Tryz.ntmps72 rfl (fun w J=>?_); refine g8 ?_; refine jb 3 rfl ?_; refine jb 4 rfl ?_; refine jb 5 rfl ?_; refine ja 6 ?_; refine i7 ?_; refine Tr.frzB 3 [3] I8 (x:=(f,())) ⟨rfl,trivial⟩ rfl ?_; refine Tr.frzB 4 [4] j7 (x:=x) ⟨rfl,trivial⟩ rfl ?_; refine Tr.frzB 5 [5] j7 (x:=y) ⟨rfl,trivial⟩ rfl ?_; refine jn ?_; refine Tr.draw 3 o0 (by kernel_rfl) ?_; refine i5 ?_; refine jd (MB x hx.d.1 zo) ?_; refine g8 ?_; refine jc (MB y hy.d.1 zo) ?_; refine K3 ?_; refine Tr.grow (s:=9) rfl rfl 99 rfl 22 (eL eI) rfl ?_
 refine Tr.for1 (σ:=Nat) [⟨3,true,_,_⟩,⟨4,true,_,_⟩,⟨5,true,_,_⟩,⟨6,true,_,_⟩,⟨7,true,_,_⟩,⟨8,true,_,_⟩] [⟨6,_,_⟩] (fun i=>[⟨9,true,[99],o9 99 i⟩,⟨10,true,[],kI (i:Int)⟩]) (fun i=>[⟨99,[],l5 true 22 (eL eI) (j8 i fun j=>g7 (val (b6 x.1 j)*w5 y.2+val (b6 y.1 j)*w5 x.2)) i⟩]) (fun i=>i<=max x.1.length y.1.length) (fun i=>i=max x.1.length y.1.length) (fun i=>max x.1.length y.1.length-i) (0) zi (d6.mk (.o rfl zi rfl<|.i rfl zi<|zk) (.a (by rfl) zi<|zk) rfl) ?_ ?_
 ·intro i hR0
  refine jn ?_
  have hsm1:=Nat.le_trans (s7 (val (b6 x.1 i)) (w5 y.2)) (Nat.add_le_add (JH hx i) hdy)
  have hsm2:=Nat.le_trans (s7 (val (b6 y.1 i)) (w5 x.2)) (Nat.add_le_add (JH hy i) hdx)
  refine P1 ?_; refine Tr.cnd rfl ?_ ?_
  ·intro h4
   have him:i<max x.1.length y.1.length:=by simp at h4; omega
   refine g9 ?_; refine Tr.draw 15 o0 (by kernel_rfl) ?_; refine g9 ?_; refine jd (PJ x.1 i) ?_; refine i5 ?_; refine rO (i6 (fun hp=>I7 (b6 x.1 i) (g7 (w5 y.2)) (hx.c i).1 (u7 _) (by have:=(hx.c i).2; omega) (by rw[r8]; omega)) (.a rfl uu<|.a rfl uu<|.nil)) rfl rfl ?_
   rw[q8]
   refine i7 ?_; refine jd (PJ y.1 i) ?_; refine i5 ?_; refine rO (i6 (fun hp=>I7 (b6 y.1 i) (g7 (w5 x.2)) (hy.c i).1 (u7 _) (by have:=(hy.c i).2; omega) (by rw[r8]; omega)) (.a rfl uu<|.a rfl uu<|.nil)) rfl rfl ?_
   rw[q8]
   refine rO (i6 (fun hp=>DW (g7 (val (b6 x.1 i)*w5 y.2)) (g7 (val (b6 y.1 i)*w5 x.2)) (u7 _) (u7 _) (by rw[r8]; have:=hsm1; omega) (by rw[r8]; have:=hsm2; omega)) (.a rfl uu<|.a rfl uu<|.nil)) rfl rfl ?_
   rw[q8,q8]
   refine i9.new (y7 (eL eI) 43 (fun hp=>.cons rfl<|.nil) rfl rfl rfl rfl) rfl rfl rfl rfl ?_; refine g8 ?_; refine jl ?_; refine m9 ?_
   exact d9.lp (i+1) zi zo (d6.mk (.o rfl zi rfl<|.i rfl zi<|zk) (.a H0.symm zi<|zk) rfl)
  ·intro h4
   have him:max x.1.length y.1.length<=i:=by simp at h4; omega
   refine g9 ?_
   exact d9.cut (i) zo (d6.mk (.o rfl zi rfl<|.i rfl zi<|zk) (zk) rfl)
 ·rintro i him
  refine je ?_
  rw[him]
  have hro:=YW (p:=f.1) hpo.2 (ZJ (m:=max x.1.length y.1.length) (F:=fun j=>val (b6 x.1 j)*w5 y.2+val (b6 y.1 j)*w5 x.2) (B:=2*k+7) fun j _=>hsj j)
  refine l6 ?_; refine d5.frz 99 [9,46] ⟨rfl,rfl,trivial⟩ (by simp only[p9]; omega) rfl ?_; refine jl ?_; refine tO (i6 (fun hp=>VK f (j8 (max x.1.length y.1.length) fun j=>g7 (val (b6 x.1 j)*w5 y.2+val (b6 y.1 j)*w5 x.2)) (2*k+7) hpo hs (ZJ fun j _=>hsj j) (by rw[p8]; omega) zo) (.a rfl uu<|.a rfl uu<|.nil)) rfl rfl ?_; refine g8 ?_; refine tO (i6 (fun hp=>I7 (g7 (w5 x.2)) (g7 (w5 y.2)) (u7 _) (u7 _) (by rw[r8]; omega) (by rw[r8]; omega)) (.a rfl uu<|.a rfl uu<|.nil)) rfl rfl ?_
  rw[q8,q8]
  refine tO (i6 (fun hp=>PK (AD f.1 (j8 (max x.1.length y.1.length) fun j=>g7 (val (b6 x.1 j)*w5 y.2+val (b6 y.1 j)*w5 x.2))) (g7 (w5 x.2*w5 y.2)) (fun i=>⟨(hro i).1,Nat.le_trans (hro i).2.1 (by rw[p8]; omega)⟩) ⟨u7 _,by rw[r8]; omega⟩ (by rw[q8]; exact hne) (by rw[YV]; have:=hpo.1; omega)) (.a rfl uu<|.a rfl uu<|.nil)) rfl rfl ?_; refine g9 ?_; exact g6.resC1 (fn:=Tryz.f72) rfl rfl (t7 rfl (by rw[q8,ZK hpo.1.2,mA,<- aa5 (p:=f.1) (x:=x) (y:=y) (m:=max x.1.length y.1.length) zo zo]; refine congrArg (fun l=>m8 (loN (I1 f.1 l) _)) (B5 fun j _=>?_); rw[RP,RP]))

end Go.Fl

/- Contracts: numbers of the reference: products, differences. -/
namespace Go.Fl
open Go Go.Proofs
open d5 renaming op->tO
open i9 renaming op->rO
set_option maxRecDepth 100000

theorem pR {x y:CS}:j8 (x.1.length+y.1.length-1) (fun i=>r6 (fun j=>val (b6 x.1 j)*val (b6 y.1 (i-j))) (i+1))=LW (AH x) (AH y):=by
 unfold LW
 rw[show (AH x).length=x.1.length from List.length_map ..,show (AH y).length=y.1.length from List.length_map ..]
 refine B5 fun i _=>R4 fun j _=>?_
 rw[RP,RP]
theorem uE (i:Nat):dl (b6 ([-1,0,0,0]:List Int) i)<=1:=by
 match i with
 | 0=>exact O9 (by decide)
 | 1=>show dl 0<=1; rw[C5.2 rfl]; omega
 | 2=>show dl 0<=1; rw[C5.2 rfl]; omega
 | 3=>show dl 0<=1; rw[C5.2 rfl]; omega
 | i+4=>rw[v5 (by simp)]; show dl 0<=1; rw[C5.2 rfl]; omega
set_option maxHeartbeats 1000000 in
theorem sJ (f:u8) (x y:s5) (k:Nat) (hpo:G6 f.1) (hs:∀i,(b6 f.1 i).natAbs<=1000) (hx:y3 k x) (hy:y3 k y) (hk:k<=30000):Ct Tryz.prog 79 [b8 I8 (f,()),b8 j7 x,b8 j7 y] (b8 j7 (m8 (XM f.1 x y))):=by
 have hxl:=hx.len
 have hyl:=hy.len
 have hdx:=HC hx.d.1 hx.d.2
 have hdy:=HC hy.d.1 hy.d.2
 have hdl:=hx.d.2
 have hdl2:=hy.d.2
 have hne:=Int.mul_ne_zero (BT (d:=x.2)) (BT (d:=y.2))
 have hsj:∀i m,dl (r6 (fun j=>val (b6 x.1 j)*val (b6 y.1 (i-j))) (m))<=2*k+6+m:=fun i m=>lY (fun j=>bW hx hy j (i-j))
 have hab:=s7 (w5 x.2) (w5 y.2)
 refine Ct.mk Tryz.func79 rfl Tryz.ntmps79 rfl (fun w J=>?_); refine g8 ?_; refine jb 3 rfl ?_; refine jb 4 rfl ?_; refine jb 5 rfl ?_; refine ja 6 ?_; refine i7 ?_; refine Tr.frzB 3 [3] I8 (x:=(f,())) ⟨rfl,trivial⟩ rfl ?_; refine Tr.frzB 4 [4] j7 (x:=x) ⟨rfl,trivial⟩ rfl ?_; refine Tr.frzB 5 [5] j7 (x:=y) ⟨rfl,trivial⟩ rfl ?_; refine jn ?_; refine u5 ?_; refine Tr.grow (s:=7) rfl rfl 99 rfl 22 (eL eI) rfl ?_
 refine Tr.for1 (σ:=Nat) [⟨3,true,_,_⟩,⟨4,true,_,_⟩,⟨5,true,_,_⟩,⟨6,true,_,_⟩] [⟨6,_,_⟩] (fun i=>[⟨7,true,[99],o9 99 i⟩,⟨8,true,[],kI (i:Int)⟩]) (fun i=>[⟨99,[],l5 true 22 (eL eI) (j8 i fun i=>g7 (r6 (fun j=>val (b6 x.1 j)*val (b6 y.1 (i-j))) (i+1))) i⟩]) (fun i=>i<=(x.1.length+y.1.length-1)) (fun i=>i=(x.1.length+y.1.length-1)) (fun i=>(x.1.length+y.1.length-1)-i) (0) zi (d6.mk (.o rfl zi rfl<|.i rfl zi<|zk) (.a (by rfl) zi<|zk) rfl) ?_ ?_
 ·intro i hR0
  refine jn ?_; refine K3 ?_; refine jq ?_ ?_
  ·intro h3
   refine K3 ?_
   refine Tr.for1 (σ:=Nat) [⟨3,true,_,_⟩,⟨4,true,_,_⟩,⟨5,true,_,_⟩,⟨6,true,_,_⟩,⟨7,true,_,_⟩,⟨8,true,_,_⟩] [⟨6,_,_⟩,⟨99,_,_⟩] (fun j=>[⟨9,true,[],b8 (eL eI) (g7 (r6 (fun j=>val (b6 x.1 j)*val (b6 y.1 (i-j))) (j)))⟩,⟨10,true,[],kI (j:Int)⟩]) (fun j=>[]) (fun j=>j<=i+1) (fun j=>j=i+1) (fun j=>i+1-j) (0) zi (d6.mk (.n rfl (by rfl)<|.i rfl zi<|zk) (zk) rfl) ?_ ?_
   ·intro j hR1
    refine jn ?_
    have hsb:=hsj i j
    have hcb:=bW hx hy j (i-j)
    have hij:=fun (h:j<=i)=>(show (i:Int)-(j:Int)=((i-j:Nat):Int) by omega)
    refine j1 ?_; refine jq ?_ ?_
    ·intro h7
     refine g9 ?_; refine Tr.draw 12 o0 (by kernel_rfl) ?_; refine g9 ?_; refine jd (PJ x.1 j) ?_; refine l6 ?_
     rw[hij zo]
     refine jd (PJ y.1 (i-j)) ?_; refine rO (i6 (fun hp=>I7 (b6 x.1 j) (b6 y.1 (i-j)) (hx.c j).1 (hy.c _).1 (by have:=(hx.c j).2; omega) (by have:=(hy.c (i-j)).2; omega)) (.a rfl uu<|.a rfl uu<|.nil)) rfl rfl ?_; refine i5 ?_; refine tO (i6 (fun hp=>DW (g7 (r6 (fun j=>val (b6 x.1 j)*val (b6 y.1 (i-j))) (j))) (g7 (val (b6 x.1 j)*val (b6 y.1 (i-j)))) (u7 _) (u7 _) (by rw[r8]; omega) (by rw[r8]; omega)) (.a rfl uu<|.a rfl uu<|.nil)) rfl rfl ?_
     rw[q8,q8]
     refine m9 ?_
     exact d9.lp (j+1) zi zo (d6.mk (.r rfl (by rw[M5])<|.i rfl zi<|zk) (zk) rfl)
    ·intro h7
     replace h7:=Int.not_le.1 h7
     refine g9 ?_
     exact d9.cut (j) zo (d6.mk (.r rfl zi<|.i rfl zi<|zk) (zk) rfl)
   ·rintro j hji
    refine je ?_; refine g9 ?_; refine d5.new (y7 (eL eI) 43 (fun hp=>.cons rfl<|.nil) rfl rfl rfl rfl) rfl rfl rfl rfl ?_; refine i5 ?_; refine jl ?_; refine m9 ?_
    exact d9.lp (i+1) zi zo (d6.mk (.o rfl zi rfl<|.i rfl zi<|zk) (.a (by rw[hji]; exact H0.symm) zi<|zk) rfl)
  ·intro h3
   replace h3:=Int.not_lt.1 h3
   refine g9 ?_
   exact d9.cut (i) zo (d6.mk (.o rfl zi rfl<|.i rfl zi<|zk) (zk) rfl)
 ·rintro i him
  refine je ?_
  rw[him]
  have hto:F0 (2*k+30) (j8 (x.1.length+y.1.length-1) fun i=>g7 (r6 (fun j=>val (b6 x.1 j)*val (b6 y.1 (i-j))) (i+1))):=ZJ (m:=(x.1.length+y.1.length-1)) (F:=fun i=>r6 (fun j=>val (b6 x.1 j)*val (b6 y.1 (i-j))) (i+1)) (B:=2*k+30) fun i hi=>Nat.le_trans (hsj i (i+1)) zo
  have hro:=YW (p:=f.1) hpo.2 hto
  refine g8 ?_; refine Tr.frz 99 [7] ⟨rfl,trivial⟩ (by simp only[p9]; omega) rfl ?_; refine jn ?_; refine Tr.draw 6 o0 (by kernel_rfl) ?_; refine g8 ?_; refine jd (VK f (j8 (x.1.length+y.1.length-1) fun i=>g7 (r6 (fun j=>val (b6 x.1 j)*val (b6 y.1 (i-j))) (i+1))) (2*k+30) hpo hs hto (by rw[p8]; omega) zo) ?_; refine i5 ?_; refine jd (MB x hx.d.1 zo) ?_; refine g8 ?_; refine jc (MB y hy.d.1 zo) ?_; refine tO (i6 (fun hp=>I7 (g7 (w5 x.2)) (g7 (w5 y.2)) (u7 _) (u7 _) (by rw[r8]; omega) (by rw[r8]; omega)) (.a rfl uu<|.a rfl uu<|.nil)) rfl rfl ?_
  rw[q8,q8]
  refine tO (i6 (fun hp=>PK (AD f.1 (j8 (x.1.length+y.1.length-1) fun i=>g7 (r6 (fun j=>val (b6 x.1 j)*val (b6 y.1 (i-j))) (i+1)))) (g7 (w5 x.2*w5 y.2)) (fun i=>⟨(hro i).1,Nat.le_trans (hro i).2.1 (by rw[p8]; omega)⟩) ⟨u7 _,by rw[r8]; omega⟩ (by rw[q8]; exact hne) (by rw[YV]; have:=hpo.1; omega)) (.a rfl uu<|.a rfl uu<|.nil)) rfl rfl ?_; refine g9 ?_; exact g6.resC1 (fn:=Tryz.f79) rfl rfl (t7 rfl (by rw[q8,ZK hpo.1.2,mA,pR]; rfl))

theorem sK (f:u8) (x:s5) (k:Nat) (hpo:G6 f.1) (hs:∀i,(b6 f.1 i).natAbs<=1000) (hx:y3 k x) (hk:k<=20000):Ct Tryz.prog 132 [b8 I8 (f,()),b8 j7 x] (b8 j7 (m8 (S5 (j9 f.1 x)))):=by
 have hx1:y3 (k+1) x:=hx.mono zo
 have hw:y3 (k+1) (m8 (loN [-1] 1)):=by rw[QM]; exact (X5 (⟨fun i=>uE i,by show dl 1<=1; exact K1 zo zo,by show (0:Int)<1; omega,rfl⟩:G5 1 (w6 (-1)))).mono zo
 refine Ct.mk Tryz.func132 rfl Tryz.ntmps132 rfl (fun w J=>?_); refine g8 ?_; refine jb 2 rfl ?_; refine jb 3 rfl ?_; refine ja 4 ?_; refine i7 ?_; refine Tr.frzB 2 [2] I8 (x:=(f,())) ⟨rfl,trivial⟩ rfl ?_; refine Tr.frzB 3 [3] j7 (x:=x) ⟨rfl,trivial⟩ rfl ?_; refine jn ?_; refine Tr.draw 3 o0 (by kernel_rfl) ?_; refine g8 ?_; refine jd (JC (-1) zo) ?_; refine i5 ?_; refine jc (sJ f x (m8 (loN [-1] 1)) (k+1) hpo hs hx1 hw zo) ?_; refine g9 ?_; exact g6.resC1 (fn:=Tryz.f132) rfl rfl (t7 rfl (by rw[ai7]))

theorem sP (f:u8) (x y:s5) (k:Nat) (hpo:G6 f.1) (hs:∀i,(b6 f.1 i).natAbs<=1000) (hx:y3 k x) (hy:y3 k y) (hk:k<=10000):Ct Tryz.prog 78 [b8 I8 (f,()),b8 j7 x,b8 j7 y] (b8 j7 (m8 (B0 (j9 f.1 x) (j9 f.1 y)))):=by
 have ny:G5 (k+15) (j9 f.1 y):=Y4 hpo hy
 have ry:v7 f.1 (j9 f.1 y):=HZ hpo
 have hn:=X5 (RE ny)
 have htg:=W7 (RF ry)
 refine Ct.mk Tryz.func78 rfl Tryz.ntmps78 rfl (fun w J=>?_); refine g8 ?_; refine jb 3 rfl ?_; refine jb 4 rfl ?_; refine jb 5 rfl ?_; refine ja 6 ?_; refine i7 ?_; refine Tr.frzB 3 [3] I8 (x:=(f,())) ⟨rfl,trivial⟩ rfl ?_; refine Tr.frzB 4 [4] j7 (x:=x) ⟨rfl,trivial⟩ rfl ?_; refine Tr.frzB 5 [5] j7 (x:=y) ⟨rfl,trivial⟩ rfl ?_; refine jn ?_; refine Tr.draw 5 o0 (by kernel_rfl) ?_; refine g9 ?_; refine jd (sK f y k hpo hs hy zo) ?_; refine i5 ?_; refine jc (sC f x (m8 (S5 (j9 f.1 y))) (k+15) hpo hs (hx.mono zo) hn zo) ?_; refine g9 ?_
 exact g6.resC1 (fn:=Tryz.f78) rfl rfl (t7 rfl (by rw[htg]; rfl))

end Go.Fl

/- Contracts: enclosures and halving of the reference. -/
namespace Go.Fl
open Go Go.Proofs
open d5 renaming op->tO
open i9 renaming op->rO
set_option maxRecDepth 100000

abbrev AN:=List Int×List Int×List Int
def DC:i8 AN:=eC (fun v:AN=>(v.1,v.2.1,v.2.2,())) (eP (eL eI) (eP (eL eI) (eP (eL eI) eU)))
instance {v:AN}:E9 (b8 DC v) [b8 (eL eI) (v.1),b8 (eL eI) (v.2.1),b8 (eL eI) (v.2.2)]:=inferInstanceAs (E9 (b8 (eC (fun v:AN=>(v.1,v.2.1,v.2.2,())) (eP (eL eI) (eP (eL eI) (eP (eL eI) eU)))) v) _)
instance {v:AN}:v6 DC v 0 (eL eI) (v.1) 0:=inferInstanceAs (v6 (eC (fun v:AN=>(v.1,v.2.1,v.2.2,())) (eP (eL eI) (eP (eL eI) (eP (eL eI) eU)))) v 0 _ _ _)
instance {v:AN}:v6 DC v 1 (eL eI) (v.2.1) 1:=inferInstanceAs (v6 (eC (fun v:AN=>(v.1,v.2.1,v.2.2,())) (eP (eL eI) (eP (eL eI) (eP (eL eI) eU)))) v 1 _ _ _)
instance {v:AN}:v6 DC v 2 (eL eI) (v.2.2) 2:=inferInstanceAs (v6 (eC (fun v:AN=>(v.1,v.2.1,v.2.2,())) (eP (eL eI) (eP (eL eI) (eP (eL eI) eU)))) v 2 _ _ _)
instance {ks r:List d7} {a b c:List Int} [h:t6 ks (eP (eL eI) (eP (eL eI) (eP (eL eI) eU))) (a,b,c,()) r]:t6 ks DC ((a,b,c)) r:=⟨fun h'=>h.imp h'⟩
instance {a b c d:List Int} {r:List d7}:t6 (b8 (eL eI) a::b8 (eL eI) b::b8 (eL eI) c::b8 (eL eI) d::r) (Q4 4 (eL eI)) [a,b,c,d] r:=⟨fun {g cs} h=>by
 obtain ⟨c1,t1,rfl,q1,h⟩:=(inferInstance:t6 (b8 (eL eI) a::b8 (eL eI) b::b8 (eL eI) c::b8 (eL eI) d::r) (eL eI) a _).imp h
 obtain ⟨c2,t2,rfl,q2,h⟩:=(inferInstance:t6 (b8 (eL eI) b::b8 (eL eI) c::b8 (eL eI) d::r) (eL eI) b _).imp h
 obtain ⟨c3,t3,rfl,q3,h⟩:=(inferInstance:t6 (b8 (eL eI) c::b8 (eL eI) d::r) (eL eI) c _).imp h
 obtain ⟨c4,t4,rfl,q4,h⟩:=(inferInstance:t6 (b8 (eL eI) d::r) (eL eI) d _).imp h
 exact ⟨c1++c2++c3++c4,t4,by simp,⟨rfl,c1,c2++c3++c4,by simp,q1,c2,c3++c4,by simp,q2,c3,c4,by simp,q3,c4,[],by simp,q4,rfl⟩,h⟩⟩
instance {a b c d:List Int} {tl:List d7}:H6 (Q4 4 (eL eI)) [a,b,c,d] tl (b8 (eL eI) a::b8 (eL eI) b::b8 (eL eI) c::b8 (eL eI) d::tl):=⟨fun {g cs ds} h h'=>by
 obtain ⟨_,c1,t1,rfl,q1,c2,t2,rfl,q2,c3,t3,rfl,q3,c4,t4,rfl,q4,h⟩:=h
 have h:t4=[]:=h
 subst h
 have r4:=(inferInstance:H6 (eL eI) d tl (b8 (eL eI) d::tl)).imp q4 h'
 have r3:=(inferInstance:H6 (eL eI) c (b8 (eL eI) d::tl) _).imp q3 r4
 have r2:=(inferInstance:H6 (eL eI) b (b8 (eL eI) c::b8 (eL eI) d::tl) _).imp q2 r3
 have r1:=(inferInstance:H6 (eL eI) a (b8 (eL eI) b::b8 (eL eI) c::b8 (eL eI) d::tl) _).imp q1 r2
 simpa using r1⟩
instance {a b c d:List Int}:E9 (b8 (Q4 4 (eL eI)) [a,b,c,d]) [b8 (eL eI) a,b8 (eL eI) b,b8 (eL eI) c,b8 (eL eI) d]:=⟨fun {g v} hk=>by
 have h1:=hk.cells
 have h2:=(inferInstance:H6 (Q4 4 (eL eI)) [a,b,c,d] [] _).imp (g:=g) (ds:=[]) h1 trivial
 exact ⟨by simpa using h2,List.all_eq_true.2 fun x hx=>i8.all1 _ h1 x hx⟩⟩
theorem XZ {zs:List Int} {i:Nat} (h:i<zs.length):b6 (zs.map g7) i=g7 (b6 zs i):=by simp[b6,h]
theorem pK {y z:Int}:q9 (y-z) 0=q9 y z:=by unfold q9; split<;>split<;>(try split)<;>(try split)<;>omega
theorem VI (y z:Int) (hy:dl y<=800000) (hz:dl z<=800000):Ct Tryz.prog 177 [b8 (eL eI) (g7 y),b8 (eL eI) (g7 z)] (kI (q9 y z)):=by
 have hyz:=Q3 y (-z)
 rw[K6,<- Int.sub_eq_add_neg] at hyz
 refine Ct.mk Tryz.func177 rfl Tryz.ntmps177 rfl (fun w J=>?_); refine m9 ?_; refine tO (i6 (fun hp=>LY (g7 y) (g7 z) (u7 _) (u7 _) (by rw[r8]; omega) (by rw[r8]; omega)) (.a rfl uu<|.a rfl uu<|.nil)) rfl rfl ?_; refine tO (i6 (fun hp=>BN (g7 (val (g7 y)-val (g7 z))) (u7 _) (by rw[r8,q8,q8]; omega)) (.a rfl uu<|.nil)) rfl rfl ?_; refine g9 ?_; exact g6.res1 (fn:=Tryz.f177) rfl (.i rfl (by rw[q8,q8,q8]; exact pK)<|.nil)

theorem sR (z0 z1 z2 z3:Int) (hz:∀z∈[z0,z1,z2,z3],dl z<=800000):Ct Tryz.prog 130 [b8 (Q4 4 (eL eI)) [g7 z0,g7 z1,g7 z2,g7 z3]] (z6 [b8 (eL eI) (g7 (J4 z0 z1 z2 z3)),b8 (eL eI) (g7 (I9 z0 z1 z2 z3))]):=by
 obtain ⟨zs,hzs⟩:∃zs,zs=[z0,z1,z2,z3]:=⟨_,rfl⟩
 have hll:zs.length=4:=by rw[hzs]; rfl
 have hzl:∀i,i<4->b6 [g7 z0,g7 z1,g7 z2,g7 z3] i=g7 (b6 zs i):=fun i hi=>by have:=XZ (zs:=zs) (i:=i) zo; rw[<- this,hzs]; rfl
 have hzb:∀i,i<4->dl (b6 zs i)<=800000:=fun i hi=>hz _ (by rw[<- hzs]; exact E6 zo)
 have hmb:∀i,i<4->dl (M8 zs i)<=800000/\dl (J5 zs i)<=800000:=fun i hi=>⟨hz _ (by rw[<- hzs]; exact (HJ zo).1),hz _ (by rw[<- hzs]; exact (HJ zo).2)⟩
 refine Ct.mk Tryz.func130 rfl Tryz.ntmps130 rfl (fun w J=>?_); refine g8 ?_; refine jb 1 rfl ?_; refine l6 ?_; refine Tr.frzB 1 [1] (Q4 4 (eL eI)) ⟨rfl,trivial⟩ rfl ?_; refine jn ?_; refine Tr.draw 5 o0 (by kernel_rfl) ?_; refine rO (FW rfl uu rfl uu rfl (fun _=>zo)) rfl rfl ?_; refine i5 ?_; refine rO (FW rfl uu rfl uu rfl (fun _=>zo)) rfl rfl ?_; refine v9 ?_
 refine Tr.for1 (σ:=Nat) [⟨1,true,_,_⟩] [] (fun j=>[⟨4,true,[],b8 (eL eI) (g7 (M8 zs j))⟩,⟨5,true,[],b8 (eL eI) (g7 (J5 zs j))⟩,⟨6,true,[],kI ((j:Int)+1)⟩]) (fun j=>[]) (fun j=>j+1<=4) (fun j=>j=3) (fun j=>4-j) (0) zi (d6.mk (.r rfl (by rw[hzs]; rfl)<|.r rfl (by rw[hzs]; rfl)<|.i rfl zi<|zk) (.nil) rfl) ?_ ?_
 ·intro j hR0
  refine jn ?_
  have hjn:((j:Int)+1).toNat=j+1:=by omega
  have hb2:=hmb j zo
  have hz1:=fun (h:j+1<4)=>hzl (j+1) h
  have hz2:=fun (h:j+1<4)=>hzb (j+1) h
  refine j3 ?_; refine jq ?_ ?_
  ·intro h3
   refine j1 ?_; refine tO (FW rfl uu rfl uu rfl (fun _=>zo)) rfl rfl ?_; refine i5 ?_
   rw[hjn,hz1 zo]
   refine i5 ?_; refine jc (VI (b6 zs (j+1)) (M8 zs j) (hz2 zo) hb2.1) ?_; refine i7 ?_; refine jq ?_ ?_
   ·intro h5
    have hm:M8 zs (j+1)=b6 zs (j+1):=if_pos (FG.1 h5)
    refine g8 ?_; refine tO (FW rfl uu rfl uu rfl (fun _=>zo)) rfl rfl ?_; refine i5 ?_
    rw[hjn,hz1 zo]
    refine l3 ?_; refine tO (FW rfl uu rfl uu rfl (fun _=>zo)) rfl rfl ?_; refine i5 ?_
    rw[hjn,hz1 zo]
    refine i5 ?_; refine jc (VI (b6 zs (j+1)) (J5 zs j) (hz2 zo) hb2.2) ?_; refine i7 ?_; refine jq ?_ ?_
    ·intro h7
     have hx:J5 zs (j+1)=b6 zs (j+1):=if_pos (CV.1 h7)
     refine g8 ?_; refine tO (FW rfl uu rfl uu rfl (fun _=>zo)) rfl rfl ?_; refine i5 ?_
     rw[hjn,hz1 zo]
     refine m9 ?_
     exact d9.lp (j+1) zi zo (d6.mk (.r rfl (by rw[hm])<|.r rfl (by rw[hx])<|.i rfl zi<|zk) (.nil) rfl)
    ·intro h7
     replace h7:=Int.not_lt.1 h7
     have hx:J5 zs (j+1)=J5 zs j:=if_neg (fun e=>absurd (CV.2 e) zo)
     refine j1 ?_
     exact d9.lp (j+1) zi zo (d6.mk (.r rfl (by rw[hm])<|.r rfl (by rw[hx])<|.i rfl zi<|zk) (.nil) rfl)
   ·intro h5
    replace h5:=Int.not_lt.1 h5
    have hm:M8 zs (j+1)=M8 zs j:=if_neg (fun e=>absurd (FG.2 e) zo)
    refine l6 ?_; refine tO (FW rfl uu rfl uu rfl (fun _=>zo)) rfl rfl ?_; refine i5 ?_
    rw[hjn,hz1 zo]
    refine i5 ?_; refine jc (VI (b6 zs (j+1)) (J5 zs j) (hz2 zo) hb2.2) ?_; refine i7 ?_; refine jq ?_ ?_
    ·intro h7
     have hx:J5 zs (j+1)=b6 zs (j+1):=if_pos (CV.1 h7)
     refine g8 ?_; refine tO (FW rfl uu rfl uu rfl (fun _=>zo)) rfl rfl ?_; refine i5 ?_
     rw[hjn,hz1 zo]
     refine m9 ?_
     exact d9.lp (j+1) zi zo (d6.mk (.r rfl (by rw[hm])<|.r rfl (by rw[hx])<|.i rfl zi<|zk) (.nil) rfl)
    ·intro h7
     replace h7:=Int.not_lt.1 h7
     have hx:J5 zs (j+1)=J5 zs j:=if_neg (fun e=>absurd (CV.2 e) zo)
     refine j1 ?_
     exact d9.lp (j+1) zi zo (d6.mk (.r rfl (by rw[hm])<|.r rfl (by rw[hx])<|.i rfl zi<|zk) (.nil) rfl)
  ·intro h3
   replace h3:=Int.not_lt.1 h3
   refine g9 ?_
   exact d9.cut (j) zo (d6.mk (.r rfl zi<|.r rfl zi<|.i rfl zi<|zk) (.nil) rfl)
 ·rintro j rfl
  refine je ?_
  have hfin:=XN (a:=z0) (b:=z1) (c:=z2) (d:=z3)
  rw[hzs]
  refine u5 ?_; exact g6.res (fn:=Tryz.f130) (ts:=[2,3]) rfl rfl (.r rfl (by rw[hfin.1])<|.r rfl (by rw[hfin.2])<|.nil)

end Go.Fl

/- Contracts: enclosures, halving and signs of the reference. -/
namespace Go.Fl
open Go Go.Proofs
open d5 renaming op->tO
open i9 renaming op->rO
set_option maxRecDepth 100000

theorem WK:w8 [2]:=V7 zo
theorem zM {f:u8} {k:Nat}:(i2 f.1 (u6 f) k).lo=val (U3 (f.2.1,f.2.2.1,f.2.2.2) (i2 f.1 (u6 f) k) k).1/\(i2 f.1 (u6 f) k).hi=val (U3 (f.2.1,f.2.2.1,f.2.2.2) (i2 f.1 (u6 f) k) k).2.1/\(i2 f.1 (u6 f) k).den=val (U3 (f.2.1,f.2.2.1,f.2.2.2) (i2 f.1 (u6 f) k) k).2.2:=by
 unfold U3
 by_cases h:k=0
 ·subst h
  rw[if_pos rfl]
  exact ⟨I3.symm,I3.symm,I3.symm⟩
 ·rw[if_neg h]
  exact ⟨(q8 _).symm,(q8 _).symm,(q8 _).symm⟩
theorem zL {f:u8} {k B:Nat} (hf:(1<=f.2.2.2/\f.2.2.2<=1000000)/\(-1000000<=f.2.1/\f.2.1<=1000000)/\(-1000000<=f.2.2.1/\f.2.2.1<=1000000)) (hB:1<=B) (hz:dl (i2 f.1 (u6 f) k).lo<=B/\dl (i2 f.1 (u6 f) k).hi<=B/\dl (i2 f.1 (u6 f) k).den<=B) :
  (w8 (U3 (f.2.1,f.2.2.1,f.2.2.2) (i2 f.1 (u6 f) k) k).1/\(U3 (f.2.1,f.2.2.1,f.2.2.2) (i2 f.1 (u6 f) k) k).1.length<=B)/\(w8 (U3 (f.2.1,f.2.2.1,f.2.2.2) (i2 f.1 (u6 f) k) k).2.1/\(U3 (f.2.1,f.2.2.1,f.2.2.2) (i2 f.1 (u6 f) k) k).2.1.length<=B)/\(w8 (U3 (f.2.1,f.2.2.1,f.2.2.2) (i2 f.1 (u6 f) k) k).2.2/\(U3 (f.2.1,f.2.2.1,f.2.2.2) (i2 f.1 (u6 f) k) k).2.2.length<=B):=by
 unfold U3
 by_cases h:k=0
 ·subst h
  rw[if_pos rfl]
  exact ⟨⟨V7 (x:=f.2.1) zo,hB⟩,⟨V7 (x:=f.2.2.1) zo,hB⟩,⟨V7 (x:=f.2.2.2) zo,hB⟩⟩
 ·rw[if_neg h]
  exact ⟨⟨u7 _,by rw[r8]; exact hz.1⟩,⟨u7 _,by rw[r8]; exact hz.2.1⟩,⟨u7 _,by rw[r8]; exact hz.2.2⟩⟩
theorem lH {p:List Int} {a b:Int} (h:z8 p a b≠0):s6 (u9 a b p).1≠0:=by
 have e:(u9 a b p).1=z8 p a b:=(MT (a:=a) (b:=b) (cs:=p)).2
 rw[e]
 rcases AE (z8 p a b) with ⟨_,q⟩ | ⟨q,_⟩ | ⟨_,q⟩
 ·rw[q]; decide
 ·exact absurd q h
 ·rw[q]; decide
theorem mL {v:List Int} (_:v.length=4) (h:(j6 v).length<=1):N1 v=true:=HR fun i h1 h2=>by
 rw[<- U0,v5 zo]; rfl
theorem aj2 {p:List Int} {v:l7} (hv:v7 p v) (h:2<=(j6 v.1).length):N1 v.1≠true/\3<=p.length:=by
 have h4:=hv.len
 have hne:j6 v.1≠[]:=fun e=>by rw[e] at h; simp at h
 have h1:=(mN (xs:=v.1)).top hne
 rw[U0] at h1
 have hle:=T3 (xs:=v.1)
 refine ⟨fun e=>h1.2 (KM.1 e _ zo zo),Classical.byContradiction fun hp=>h1.2 (hv.hi _ zo)⟩
theorem af3 {p:List Int} {I:Iv} {v:l7} (hv:v7 p v) (h5:p.length<=5) (hI:I.Ok) {k:Nat}:(0<(enc (i2 p I k) (j6 v.1)).1↔0<(enc (i2 p I k) (v.1.take (p.length-1))).1)/\((enc (i2 p I k) (j6 v.1)).2.1<0↔(enc (i2 p I k) (v.1.take (p.length-1))).2.1<0):=by
 rw[ai8 hv.len (show p.length-1<=4 by omega) hv.hi]
 have:=QC (V8 hI (p:=p) (k:=k)).pos (xs:=j6 v.1) (k:=p.length-1-(j6 v.1).length)
 exact ⟨this.1.symm,this.2.symm⟩
set_option maxHeartbeats 1000000 in
theorem sU (cs:List Int) (pl:AN) (I:Iv) (hI1:I.lo=val pl.1) (hI2:I.hi=val pl.2.1) (hI3:I.den=val pl.2.2) (hn1:w8 pl.1/\pl.1.length<=73000) (hn2:w8 pl.2.1/\pl.2.1.length<=73000) (hn3:w8 pl.2.2/\pl.2.2.length<=73000) (hz:dl I.lo<=73000/\dl I.hi<=73000/\dl I.den<=73000) (hcl:cs.length<=4) (hcd:∀i,dl (b6 cs i)<=540):Ct Tryz.prog 76 [b8 (eL (eL eI)) (cs.map g7),b8 DC pl] (z6 [b8 (eL eI) (g7 (enc I cs).1),b8 (eL eI) (g7 (enc I cs).2.1),b8 (eL eI) (g7 (enc I cs).2.2)]):=by
 have hml:(cs.map g7).length=cs.length:=List.length_map ..
 refine Ct.mk Tryz.func76 rfl Tryz.ntmps76 rfl (fun w J=>?_); refine g8 ?_; refine jb 3 rfl ?_; refine l3 ?_; refine Tr.frzB 3 [3] DC (x:=pl) ⟨rfl,trivial⟩ rfl ?_; refine jn ?_; refine j3 ?_; refine d5.new (y7 eI 11 (fun hp=>.cons rfl<|.nil) rfl rfl rfl rfl) rfl rfl rfl rfl ?_; refine d5.frz 11 [11] ⟨rfl,trivial⟩ (by decide) rfl ?_; refine jl ?_; refine v9 ?_
 refine Tr.for1 (σ:=Nat) [⟨0,true,_,_⟩,⟨3,true,_,_⟩] [] (fun j=>[⟨7,true,[],b8 (eL eI) (g7 (n7 I cs j).1)⟩,⟨8,true,[],b8 (eL eI) (g7 (n7 I cs j).2.1)⟩,⟨9,true,[],b8 (eL eI) (g7 (n7 I cs j).2.2)⟩,⟨10,true,[],kI ((cs.length:Int)-1-j)⟩]) (fun j=>[]) (fun j=>j<=cs.length) (fun j=>j=cs.length) (fun j=>cs.length-j) (0) zi (d6.mk (.n rfl (by rw[HE]; rfl)<|.n rfl (by rw[HE]; rfl)<|.r rfl (by rw[HE]; exact XD.symm)<|.i rfl zi<|zk) (.nil) rfl) ?_ ?_
 ·intro j hR0
  refine jn ?_
  have hb:=ME (A:=73000) (C:=540) hz.1 hz.2.1 hz.2.2 hcd (k:=j) zo
  have hj5:j*(73000+1)<=4*73001:=Nat.mul_le_mul zo zo
  have hj6:j*73000<=4*73000:=Nat.mul_le_mul zo zo
  have hcj:=hcd (cs.length-1-j)
  have hm1:=s7 (n7 I cs j).1 I.lo
  have hm2:=s7 (n7 I cs j).1 I.hi
  have hm3:=s7 (n7 I cs j).2.1 I.lo
  have hm4:=s7 (n7 I cs j).2.1 I.hi
  have hm5:=s7 (n7 I cs j).2.2 I.den
  have hm6:=s7 (b6 cs (cs.length-1-j)) ((n7 I cs j).2.2*I.den)
  have hco:∀x∈([(n7 I cs j).1*I.lo,(n7 I cs j).1*I.hi,(n7 I cs j).2.1*I.lo,(n7 I cs j).2.1*I.hi]:List Int),dl x<=800000:=fun x hx=>by simp only[List.mem_cons,List.not_mem_nil,or_false] at hx; rcases hx with rfl | rfl | rfl | rfl<;>omega
  have hmm:=eH (n:=370000) (a:=(n7 I cs j).1*I.lo) (b:=(n7 I cs j).1*I.hi) (c:=(n7 I cs j).2.1*I.lo) (d:=(n7 I cs j).2.1*I.hi) zo zo zo zo
  have hcx:=fun (h:j<cs.length)=>(show b6 (cs.map g7) ((cs.length:Int)-1-(j:Int)).toNat=g7 (b6 cs (cs.length-1-j)) by rw[show ((cs.length:Int)-1-(j:Int)).toNat=cs.length-1-j by omega]; exact XZ zo)
  refine j3 ?_; refine jq ?_ ?_
  ·intro h4
   refine l6 ?_; refine Tr.draw 22 o0 (by kernel_rfl) ?_; refine i7 ?_; refine rO (i6 (fun hp=>I7 (g7 (n7 I cs j).1) pl.1 (u7 _) hn1.1 (by rw[r8]; omega) zo) (.a rfl uu<|.a rfl uu<|.nil)) rfl rfl ?_
   rw[q8,<- hI1]
   refine i7 ?_; refine rO (i6 (fun hp=>I7 (g7 (n7 I cs j).1) pl.2.1 (u7 _) hn2.1 (by rw[r8]; omega) zo) (.a rfl uu<|.a rfl uu<|.nil)) rfl rfl ?_
   rw[q8,<- hI2]
   refine i7 ?_; refine rO (i6 (fun hp=>I7 (g7 (n7 I cs j).2.1) pl.1 (u7 _) hn1.1 (by rw[r8]; omega) zo) (.a rfl uu<|.a rfl uu<|.nil)) rfl rfl ?_
   rw[q8,<- hI1]
   refine i7 ?_; refine rO (i6 (fun hp=>I7 (g7 (n7 I cs j).2.1) pl.2.1 (u7 _) hn2.1 (by rw[r8]; omega) zo) (.a rfl uu<|.a rfl uu<|.nil)) rfl rfl ?_
   rw[q8,<- hI2]
   refine rO (iX [(0,1),(1,1),(2,1),(3,1)] rfl (fun hp=>.cons rfl rfl rfl<|.cons rfl rfl rfl<|.cons rfl rfl rfl<|.cons rfl rfl rfl<|.nil)) rfl rfl ?_; refine jd (sR ((n7 I cs j).1*I.lo) ((n7 I cs j).1*I.hi) ((n7 I cs j).2.1*I.lo) ((n7 I cs j).2.1*I.hi) hco) ?_; refine B3 ?_; refine tO (i6 (fun hp=>I7 (g7 (n7 I cs j).2.2) pl.2.2 (u7 _) hn3.1 (by rw[r8]; omega) zo) (.a rfl uu<|.a rfl uu<|.nil)) rfl rfl ?_
   rw[q8,<- hI3]
   refine i7 ?_; refine Tr.draw 15 o0 (by kernel_rfl) ?_; refine l6 ?_
   rw[hcx zo]
   refine i5 ?_; refine rO (i6 (fun hp=>I7 (g7 (b6 cs (cs.length-1-j))) (g7 ((n7 I cs j).2.2*I.den)) (u7 _) (u7 _) (by rw[r8]; omega) (by rw[r8]; omega)) (.a rfl uu<|.a rfl uu<|.nil)) rfl rfl ?_
   rw[q8,q8]
   refine rO (i6 (fun hp=>DW (g7 (J4 ((n7 I cs j).1*I.lo) ((n7 I cs j).1*I.hi) ((n7 I cs j).2.1*I.lo) ((n7 I cs j).2.1*I.hi))) (g7 ((b6 cs (cs.length-1-j))*((n7 I cs j).2.2*I.den))) (u7 _) (u7 _) (by rw[r8]; omega) (by rw[r8]; omega)) (.a rfl uu<|.a rfl uu<|.nil)) rfl rfl ?_
   rw[q8,q8]
   refine l6 ?_
   rw[hcx zo]
   refine i5 ?_; refine rO (i6 (fun hp=>I7 (g7 (b6 cs (cs.length-1-j))) (g7 ((n7 I cs j).2.2*I.den)) (u7 _) (u7 _) (by rw[r8]; omega) (by rw[r8]; omega)) (.a rfl uu<|.a rfl uu<|.nil)) rfl rfl ?_
   rw[q8,q8]
   refine i5 ?_; refine tO (i6 (fun hp=>DW (g7 (I9 ((n7 I cs j).1*I.lo) ((n7 I cs j).1*I.hi) ((n7 I cs j).2.1*I.lo) ((n7 I cs j).2.1*I.hi))) (g7 ((b6 cs (cs.length-1-j))*((n7 I cs j).2.2*I.den))) (u7 _) (u7 _) (by rw[r8]; omega) (by rw[r8]; omega)) (.a rfl uu<|.a rfl uu<|.nil)) rfl rfl ?_
   rw[q8,q8]
   refine u5 ?_
   exact d9.lp (j+1) zi zo (d6.mk (.r rfl (by rw[HD zo])<|.r rfl (by rw[HD zo])<|.r rfl (by rw[HD zo])<|.i rfl zi<|zk) (.nil) rfl)
  ·intro h4
   replace h4:=Int.not_le.1 h4
   refine g9 ?_
   exact d9.cut (j) zo (d6.mk (.r rfl zi<|.r rfl zi<|.r rfl zi<|.i rfl zi<|zk) (.nil) rfl)
 ·rintro j hjn
  refine je ?_
  rw[hjn,PZ]
  refine v9 ?_; exact g6.res (fn:=Tryz.f76) (ts:=[4,5,6]) rfl rfl (.r rfl (by rfl)<|.r rfl (by rfl)<|.r rfl (by rfl)<|.nil)

set_option maxHeartbeats 1000000 in
theorem sV (f:u8) (pl:AN) (I:Iv) (hI1:I.lo=val pl.1) (hI2:I.hi=val pl.2.1) (hI3:I.den=val pl.2.2) (hn1:w8 pl.1/\pl.1.length<=73000) (hn2:w8 pl.2.1/\pl.2.1.length<=73000) (hn3:w8 pl.2.2/\pl.2.2.length<=73000) (hz:dl I.lo<=73000/\dl I.hi<=73000/\dl I.den<=73000) (hpo:G6 f.1) (hs:∀i,(b6 f.1 i).natAbs<=1000) (hs1:s6 (u9 I.lo I.den f.1).1≠0) (hs2:s6 (u9 (I.lo+I.hi) (I.den*2) f.1).1≠0):Ct Tryz.prog 77 [b8 I8 (f,()),b8 DC pl] (b8 DC (g7 (K8 f.1 I).lo,g7 (K8 f.1 I).hi,g7 (K8 f.1 I).den)):=by
 have hff:((f,()):CT).1.1.length=f.1.length:=rfl
 have hn5:=hpo.1
 have hlo:F0 1 (f.1.map fun c=>[c]):=YH (fun i=>Nat.le_trans (hs i) zo) zo
 have ha1:=Q3 I.lo I.hi
 have ha2:=s7 I.den 2
 have ha3:=s7 I.lo 2
 have ha4:=s7 I.hi 2
 have ha5:=K1 (F:=2) zo zo
 have hv2:val [2]=2:=I3
 have hhr:=vS hs1 hs2
 refine Ct.mk Tryz.func77 rfl Tryz.ntmps77 rfl (fun w J=>?_); refine g8 ?_; refine jb 2 rfl ?_; refine jb 3 rfl ?_; refine ja 4 ?_; refine i7 ?_; refine Tr.frzB 2 [2] I8 (x:=(f,())) ⟨rfl,trivial⟩ rfl ?_; refine Tr.frzB 3 [3] DC (x:=pl) ⟨rfl,trivial⟩ rfl ?_; refine jn ?_; refine u5 ?_; refine Tr.grow (s:=5) rfl rfl 55 rfl 22 (eL eI) rfl ?_
 refine Tr.for1 (σ:=Nat) [⟨2,true,_,_⟩,⟨3,true,_,_⟩,⟨4,true,_,_⟩] [⟨4,_,_⟩] (fun k=>[⟨5,true,[55],o9 55 k⟩,⟨6,true,[],kI (k:Int)⟩]) (fun k=>[⟨55,[],l5 true 22 (eL eI) ((f.1.map fun c=>[c]).take k) k⟩]) (fun k=>k<=f.1.length) (fun k=>k=f.1.length) (fun k=>f.1.length-k) (0) zi (d6.mk (.o rfl zi rfl<|.i rfl zi<|zk) (.a (by rfl) zi<|zk) rfl) ?_ ?_
 ·intro k hR0
  refine jn ?_; refine y8 ?_; refine jq ?_ ?_
  ·intro h3
   refine v9 ?_; refine tO (N0 eI (fun hp=>.cons rfl<|.nil) rfl rfl rfl rfl) rfl rfl ?_; refine d5.new (y7 (eL eI) 26 (fun hp=>.cons rfl<|.nil) rfl rfl rfl rfl) rfl rfl rfl rfl ?_; refine i5 ?_; refine jl ?_; refine m9 ?_
   exact d9.lp (k+1) zi zo (d6.mk (.o rfl zi rfl<|.i rfl zi<|zk) (.a (ZN zo) zi<|zk) rfl)
  ·intro h3
   replace h3:=Int.not_lt.1 h3
   refine g9 ?_
   exact d9.cut (k) zo (d6.mk (.o rfl zi rfl<|.i rfl zi<|zk) (zk) rfl)
 ·rintro k hkn
  refine je ?_
  have htk1:(f.1.map fun c=>[c]).take k=f.1.map fun c=>[c]:=List.take_of_length_le (by rw[List.length_map]; omega)
  rw[htk1]
  refine i7 ?_; refine d5.new (y7 eI 28 (fun hp=>.cons rfl<|.nil) rfl rfl rfl rfl) rfl rfl rfl rfl ?_; refine d5.frz 28 [28] ⟨rfl,trivial⟩ (by decide) rfl ?_; refine jl ?_; refine g9 ?_; refine Tr.draw 8 o0 (by kernel_rfl) ?_; refine g9 ?_; refine jd (DW pl.1 pl.2.1 hn1.1 hn2.1 zo zo) ?_
  rw[<- hI1,<- hI2]
  refine g9 ?_; refine tO (i6 (fun hp=>I7 pl.2.2 [2] hn3.1 WK zo (by show 1<=_; omega)) (.a rfl uu<|.a rfl uu<|.nil)) rfl rfl ?_
  rw[<- hI3,hv2]
  refine l3 ?_; refine Tr.frz 55 [5] ⟨rfl,trivial⟩ (by simp only[p9]; omega) rfl ?_; refine jn ?_; refine i5 ?_
  have hvb1:dl (u9 I.lo I.den f.1).1<=5*73003:=by have:=(JM (p:=f.1) (B:=73000) (C:=1) hpo.2 hz.1 hz.2.2 (k:=f.1.length) (Nat.le_refl _)).1; rw[MQ] at this; have h5:f.1.length*(73000+1)<=5*73001:=Nat.mul_le_mul zo zo; omega
  have hvb2:dl (u9 (I.lo+I.hi) (I.den*2) f.1).1<=5*73005:=by have:=(JM (p:=f.1) (B:=73001) (C:=1) (a:=I.lo+I.hi) (d:=I.den*2) hpo.2 zo zo (k:=f.1.length) (Nat.le_refl _)).1; rw[MQ] at this; have h5:f.1.length*(73001+1)<=5*73002:=Nat.mul_le_mul zo zo; omega
  refine l6 ?_; refine jc (VJ (f.1.map fun c=>[c]) pl.1 pl.2.2 73001 1 hlo (by rw[List.length_map]; omega) ⟨hn1.1,by omega⟩ ⟨hn3.1,by omega⟩ (by rw[<- hI1]; omega) (by rw[<- hI3]; omega) zo zo) ?_
  rw[SK,<- hI1,<- hI3]
  refine tO (i6 (fun hp=>BN (g7 (u9 I.lo I.den f.1).1) (u7 _) (by rw[r8]; exact Nat.le_trans hvb1 zo)) (.a rfl uu<|.nil)) rfl rfl ?_
  rw[q8]
  refine i7 ?_; refine tO (i6 (fun hp=>VJ (f.1.map fun c=>[c]) (g7 (I.lo+I.hi)) (g7 (I.den*2)) 73002 1 hlo (by rw[List.length_map]; omega) ⟨u7 _,by rw[r8]; omega⟩ ⟨u7 _,by rw[r8]; omega⟩ (by rw[q8]; omega) (by rw[q8]; omega) zo zo) (.a rfl uu<|.a rfl uu<|.a rfl uu<|.nil)) rfl rfl ?_
  rw[SK,q8,q8]
  refine tO (i6 (fun hp=>BN (g7 (u9 (I.lo+I.hi) (I.den*2) f.1).1) (u7 _) (by rw[r8]; exact Nat.le_trans hvb2 zo)) (.a rfl uu<|.nil)) rfl rfl ?_
  rw[q8]
  refine i7 ?_; refine jq ?_ ?_
  ·intro h8
   replace hhr:=hhr.trans (if_pos h8)
   refine l6 ?_; refine tO (i6 (fun hp=>I7 pl.1 [2] hn1.1 WK zo (by show 1<=_; omega)) (.a rfl uu<|.a rfl uu<|.nil)) rfl rfl ?_
   rw[<- hI1,hv2]
   refine g8 ?_; refine tO (A1 (fun hp=>.cons rfl rfl rfl<|.cons rfl rfl rfl<|.cons rfl rfl rfl<|.nil)) rfl rfl ?_; refine l6 ?_; exact g6.resC1 (fn:=Tryz.f77) rfl rfl (t7 rfl (by rw[hhr]))
  ·intro h8
   replace h8:=Classical.not_not.1 h8
   replace hhr:=hhr.trans (if_neg (fun e=>e h8))
   refine j1 ?_; refine tO (i6 (fun hp=>I7 pl.2.1 [2] hn2.1 WK zo (by show 1<=_; omega)) (.a rfl uu<|.a rfl uu<|.nil)) rfl rfl ?_
   rw[<- hI2,hv2]
   refine i5 ?_; refine tO (A1 (fun hp=>.cons rfl rfl rfl<|.cons rfl rfl rfl<|.cons rfl rfl rfl<|.nil)) rfl rfl ?_; refine g9 ?_; exact g6.resC1 (fn:=Tryz.f77) rfl rfl (t7 rfl (by rw[hhr]))

set_option maxHeartbeats 1000000 in
theorem dH (f:u8) (x:s5) (h0:z5 f=0) (hx:y3 560 x) (hvb:G5 540 (j9 f.1 x)):Ct Tryz.prog 25 [b8 I8 (f,()),b8 j7 x] (kI (A7 f.1 (u6 f) (j9 f.1 x))):=by
 obtain ⟨⟨c1,c2,c3⟩,c6⟩:=Y8 h0
 have hpo:=R1 h0
 have hv:v7 f.1 (j9 f.1 x):=HZ hpo
 have hvl:=hv.len
 have htl:=T3 (xs:=(j9 f.1 x).1)
 have hml:(m8 (j9 f.1 x)).1.length=(j6 (j9 f.1 x).1).length:=List.length_map ..
 refine Ct.mk Tryz.func25 rfl Tryz.ntmps25 rfl (fun w J=>?_); refine g8 ?_; refine jb 2 rfl ?_; refine jb 3 rfl ?_; refine g9 ?_; refine Tr.frzB 2 [2] I8 (x:=(f,())) ⟨rfl,trivial⟩ rfl ?_; refine jn ?_; refine i7 ?_; refine jc (dE f x 560 hpo c2 hx zo) ?_; refine l6 ?_; refine Tr.frzB 3 [3] j7 (x:=m8 (j9 f.1 x)) ⟨rfl,trivial⟩ rfl ?_; refine jn ?_; refine j3 ?_; refine jq ?_ ?_
 ·intro h2
  have hr:=mL hvl zo
  have hz0:b6 (j9 f.1 x).1 0=0:=by rw[<- U0,v5 zo]; rfl
  have hsv:A7 f.1 (u6 f) (j9 f.1 x)=0:=by rw[SZ hr,hz0]; rfl
  refine j3 ?_; exact g6.res1 (fn:=Tryz.f25) rfl (.i rfl (by rw[hsv])<|.nil)
 ·intro h2
  refine y8 ?_; refine jq ?_ ?_
  ·intro h4
   have hr:=mL hvl zo
   have hsv:A7 f.1 (u6 f) (j9 f.1 x)=q9 (b6 (j9 f.1 x).1 0) 0:=SZ hr
   have hn0:b6 (m8 (j9 f.1 x)).1 0=g7 (b6 (j6 (j9 f.1 x).1) 0):=XZ zo
   refine g9 ?_; refine tO (F6 (i:=0) rfl uu rfl uu rfl (fun _=>zo)) rfl rfl ?_; refine i5 ?_
   rw[hn0]
   refine tO (i6 (fun hp=>BN (g7 (b6 (j6 (j9 f.1 x).1) 0)) (u7 _) (by rw[r8,U0]; exact Nat.le_trans (hvb.c 0) zo)) (.a rfl uu<|.nil)) rfl rfl ?_
   rw[q8,U0]
   refine l6 ?_; exact g6.res1 (fn:=Tryz.f25) rfl (.i rfl (by rw[hsv])<|.nil)
  ·intro h4
   have hbig:=aj2 hv zo
   have hf:=QG h0 hbig.2
   obtain ⟨K,q1,q2,q3⟩:=hf.bound (M:=540) (cs:=(j9 f.1 x).1.take (f.1.length-1)) (by rw[List.length_take]; omega) (jV hbig.2 hv hbig.1).2 (fun c hc=>by obtain ⟨i,hi,rfl⟩:=List.mem_iff_getElem.1 hc; have e:((j9 f.1 x).1.take (f.1.length-1))[i]=b6 (j9 f.1 x).1 i:=(by rw[List.length_take] at hi; rw[List.getElem_take]; have:i<(j9 f.1 x).1.length:=zo; simp[b6,this]); rw[e]; exact hvb.c i) zo zo
   have hsF:A7 f.1 (u6 f) (j9 f.1 x)=E8 f.1 (u6 f) ((j9 f.1 x).1.take (f.1.length-1)):=if_neg hbig.1
   refine j3 ?_; refine tO (N0 eI (fun hp=>.cons rfl<|.nil) rfl rfl rfl rfl) rfl rfl ?_; refine i7 ?_; refine tO (N0 eI (fun hp=>.cons rfl<|.nil) rfl rfl rfl rfl) rfl rfl ?_; refine i7 ?_; refine tO (N0 eI (fun hp=>.cons rfl<|.nil) rfl rfl rfl rfl) rfl rfl ?_; refine tO (A1 (fun hp=>.cons rfl rfl rfl<|.cons rfl rfl rfl<|.cons rfl rfl rfl<|.nil)) rfl rfl ?_; refine ja 5 ?_; refine i7 ?_
   refine Tr.for1 (σ:=Nat) [⟨2,true,_,_⟩,⟨3,true,_,_⟩,⟨5,true,_,_⟩] [] (fun k=>[]) (fun k=>[⟨5,[],j5 [b8 (eL eI) (U3 (f.2.1,f.2.2.1,f.2.2.2) (i2 f.1 (u6 f) (k)) (k)).1,b8 (eL eI) (U3 (f.2.1,f.2.2.1,f.2.2.2) (i2 f.1 (u6 f) (k)) (k)).2.1,b8 (eL eI) (U3 (f.2.1,f.2.2.1,f.2.2.2) (i2 f.1 (u6 f) (k)) (k)).2.2]⟩]) (fun k=>k<=K) (fun k=>False) (fun k=>K-k) (0) zi (d6.mk (zk) (.e (by rfl) rfl<|.nil) rfl) ?_ ?_
   ·intro k hR0
    refine jn ?_
    have hz:=q3 k hR0
    have pv:=zM (f:=f) (k:=k)
    have pin:=zL c3 zo hz
    have hst:=af3 hv c1.2 hf.iv (k:=k)
    have hip:=(V8 hf.iv (p:=f.1) (k:=k)).pos
    have heb:=ME (I:=(i2 f.1 (u6 f) k)) (A:=73000) (C:=540) hz.1 hz.2.1 hz.2.2 (fun i=>by rw[U0]; exact hvb.c i) (cs:=(j6 (j9 f.1 x).1)) (k:=(j6 (j9 f.1 x).1).length) (Nat.le_refl _)
    rw[PZ] at heb
    have hj5:(j6 (j9 f.1 x).1).length*(73000+1)<=4*73001:=Nat.mul_le_mul zo zo
    refine l3 ?_; refine jc (sU (j6 (j9 f.1 x).1) (U3 (f.2.1,f.2.2.1,f.2.2.2) (i2 f.1 (u6 f) (k)) (k)) (i2 f.1 (u6 f) k) pv.1 pv.2.1 pv.2.2 pin.1 pin.2.1 pin.2.2 hz zo (fun i=>by rw[U0]; exact hvb.c i)) ?_; refine B3 ?_; refine tO (i6 (fun hp=>BN (g7 (enc (i2 f.1 (u6 f) k) (j6 (j9 f.1 x).1)).1) (u7 _) (by rw[r8]; omega)) (.a rfl uu<|.nil)) rfl rfl ?_
    rw[q8]
    refine i7 ?_; refine jq ?_ ?_
    ·intro h8
     have hsv:A7 f.1 (u6 f) (j9 f.1 x)=1:=by rw[hsF]; exact HV (hst.1.1 (CV.1 h8))
     refine y8 ?_; exact g6.res1 (fn:=Tryz.f25) rfl (.i rfl (by rw[hsv])<|.nil)
    ·intro h8
     replace h8:=Int.not_lt.1 h8
     have hn8:¬0<(enc (i2 f.1 (u6 f) k) (j6 (j9 f.1 x).1)).1:=fun e=>absurd (CV.2 e) zo
     refine l3 ?_; refine tO (i6 (fun hp=>BN (g7 (enc (i2 f.1 (u6 f) k) (j6 (j9 f.1 x).1)).2.1) (u7 _) (by rw[r8]; omega)) (.a rfl uu<|.nil)) rfl rfl ?_
     rw[q8]
     refine i7 ?_; refine jq ?_ ?_
     ·intro h10
      have hsv:A7 f.1 (u6 f) (j9 f.1 x)=-1:=by rw[hsF]; exact KV hf.iv (hst.2.1 (FG.1 h10))
      refine y8 ?_; exact g6.res1 (fn:=Tryz.f25) rfl (.i rfl (by rw[hsv])<|.nil)
     ·intro h10
      replace h10:=Int.not_lt.1 h10
      have hn10:¬(enc (i2 f.1 (u6 f) k) (j6 (j9 f.1 x).1)).2.1<0:=fun e=>absurd (FG.2 e) zo
      have hkK:k<K:=Classical.byContradiction fun e=>(q2 k zo).elim (fun e=>hn8 (hst.1.2 e)) (fun e=>hn10 (hst.2.2 e))
      refine l6 ?_; refine tO (i6 (fun hp=>sV f (U3 (f.2.1,f.2.2.1,f.2.2.2) (i2 f.1 (u6 f) (k)) (k)) (i2 f.1 (u6 f) k) pv.1 pv.2.1 pv.2.2 pin.1 pin.2.1 pin.2.2 hz hpo c2 (lH (hf.noroot _ _ hip)) (lH (hf.noroot _ _ zo))) (.a rfl uu<|.se rfl uu rfl rfl<|.nil)) rfl rfl ?_; refine i7 ?_; exact d9.lp (k+1) zo zo (d6.mk (zk) (.e (by rfl) rfl<|.nil) rfl)
   ·intro k hE0
    exact hE0.elim

end Go.Fl

/- Sums of lengths in any order; orbits. No program in sight. -/
namespace Go.Fl
open Go
theorem DR {D:Int} {cs cs':List Int} (hD:0<D):C0 (loN cs D) (loN cs' D)=loN (j8 4 fun i=>b6 cs i+b6 cs' i) D:=by
 have hD0:D≠0:=by omega
 have p1:=EE (cs:=cs) hD0
 have p2:=EE (cs:=cs') hD0
 have p3:=Int.mul_pos p1 p2
 refine JY zo hD0 ?_
 rw[KY,KY]
 refine B5 fun i _=>?_
 have e1:=HH (cs:=cs) hD0 i
 have e2:=HH (cs:=cs') hD0 i
 generalize b6 (loN cs D).1 i=a at *
 generalize b6 (loN cs' D).1 i=b at *
 generalize (loN cs D).2=c at *
 generalize (loN cs' D).2=d at *
 generalize b6 cs i=u at *
 generalize b6 cs' i=v at *
 calc (a*d+b*c)*D=(a*D)*d+(b*D)*c:=by rw[Int.add_mul]; congr 1<;>ac_rfl
  _=u*c*d+v*d*c:=by rw[e1,e2]
  _=(u+v)*(c*d):=by rw[Int.add_mul]; congr 1<;>ac_rfl
theorem fY {D:Int} (hD:0<D):w6 0=loN (j8 4 fun _=>0) D:=by
 have:w6 0=loN [0,0,0,0] 1:=JZ.symm
 rw[this]
 exact JY (by decide) zo (by simp[j8,List.range,List.range.loop])
end Go.Fl

/- Contracts: exchanges of the reference: errors, places, shifts. -/
namespace Go.Fl
open Go Go.Proofs
open d5 renaming op->tO
open i9 renaming op->rO
set_option maxRecDepth 100000

def BI (x:s5):Prop:=(∀i,w8 (b6 x.1 i))/\w8 x.2
def AF (x:s5) (k:Nat):Bool:=decide (x.1.length<=6)&&decide (x.2.length<=k)&&x.1.all fun c=>decide (c.length<=k)
theorem ag2 {x:s5} {k:Nat} (h:AF x k=true) (hi:BI x):y3 k x:=by
 unfold AF at h
 simp only[Bool.and_eq_true,decide_eq_true_eq,List.all_eq_true] at h
 obtain ⟨⟨h1,h2⟩,h3⟩:=h
 refine ⟨h1,fun i=>⟨hi.1 i,?_⟩,hi.2,h2⟩
 by_cases hl:i<x.1.length
 ·exact h3 _ (E6 hl)
 ·rw[v5 zo]; exact Nat.zero_le _
def DK (x:o8):Bool:=decide (x.2.1.length<=12)&&decide (x.2.2.1.length<=12)&&decide (x.2.2.2.length<=12)&&decide (x.1.1.length<=8)&&x.2.2.2.all fun l=>AF l 2
structure R6 (x:o8):Prop where
 top:x.2.1.length<=12
 bot:x.2.2.1.length<=12
 len:x.2.2.2.length<=12
 num:∀a,y3 2 (b6 x.2.2.2 a)
theorem YC {k:Nat}:y3 k ([],[]):=⟨by simp,fun i=>⟨by rw[RK]; exact BV,by rw[RK]; exact Nat.zero_le _⟩,BV,Nat.zero_le _⟩
theorem ag7 {x:o8} (h:DK x=true) (hi:∀a,BI (b6 x.2.2.2 a)):R6 x:=by
 unfold DK at h
 simp only[Bool.and_eq_true,decide_eq_true_eq,List.all_eq_true] at h
 obtain ⟨⟨⟨⟨h1,h2⟩,h3⟩,h4⟩,h5⟩:=h
 refine ⟨h1,h2,h3,fun a=>?_⟩
 by_cases ha:a<x.2.2.2.length
 ·exact ag2 (h5 _ (E6 ha)) (hi a)
 ·rw[v5 zo]; exact YC
noncomputable abbrev w3 (x:o8):l7->Int:=A7 x.1.1 (u6 x.1)
abbrev F3 (x:o8):List l7:=x.2.2.2.map (j9 x.1.1)
structure L5 (x:o8):Prop where
 fld:z5 x.1=0
 rows:F2 (x.2.1,x.2.2.1)
 len:x.2.2.2.length=x.2.1.length
 num:∀a,a<x.2.1.length->y3 250 (b6 x.2.2.2 a)
 pos:∀a,a<x.2.1.length->0<w3 x (j9 x.1.1 (b6 x.2.2.2 a))
open Classical in
noncomputable def C1 (x:o8):Int:=if z5 x.1≠0 then z5 x.1 else if H7 (x.2.1,x.2.2.1)≠0 then H7 (x.2.1,x.2.2.1) else if x.2.2.2.length≠x.2.1.length then 10 else if ∀a,a<x.2.2.2.length->0<w3 x (j9 x.1.1 (b6 x.2.2.2 a)) then 0 else 12
theorem UQ {x:o8} (h:C1 x=0) (hs:R6 x):L5 x:=by
 unfold C1 at h
 by_cases c1:z5 x.1=0
 ·rw[if_neg (fun e=>e c1)] at h
  by_cases c2:H7 (x.2.1,x.2.2.1)=0
  ·rw[if_neg (fun e=>e c2)] at h
   by_cases c3:x.2.2.2.length=x.2.1.length
   ·rw[if_neg (fun e=>e c3)] at h
    by_cases c4:∀a,a<x.2.2.2.length->0<w3 x (j9 x.1.1 (b6 x.2.2.2 a))
    ·exact ⟨c1,NJ c2,c3,fun a _=>(hs.num a).mono zo,fun a ha=>c4 a zo⟩
    ·rw[if_neg c4] at h; exact absurd h (by decide)
   ·rw[if_pos c3] at h; exact absurd h (by decide)
  ·rw[if_pos c2] at h; exact absurd h c2
 ·rw[if_pos c1] at h; exact absurd h c1
theorem qG (x:s5) (k:Nat):Ct Tryz.prog 14 [b8 j7 x,kI (k:Int)] (kB (AF x k)):=by
 refine Ct.mk Tryz.func14 rfl Tryz.ntmps14 rfl (fun w J=>?_); refine g8 ?_; refine jb 2 rfl ?_; refine l6 ?_; refine Tr.frzB 2 [2] j7 (x:=x) ⟨rfl,trivial⟩ rfl ?_; refine jn ?_; refine D7 ?_; refine Tr.cnd rfl ?_ ?_
 ·intro h1
  have hr:AF x k=false:=by simp at h1; unfold AF; simp; omega
  refine j3 ?_; exact g6.res1 (fn:=Tryz.f14) rfl (.b rfl (by rw[hr])<|.nil)
 ·intro h1
  have h12:x.1.length<=6/\x.2.length<=k:=by simp at h1; omega
  refine j1 ?_
  refine Tr.for1 (σ:=Nat) [⟨1,true,_,_⟩,⟨2,true,_,_⟩] [] (fun i=>[⟨5,true,[],kI (i:Int)⟩]) (fun i=>[]) (fun i=>i<=x.1.length/\∀j,j<i->(b6 x.1 j).length<=k) (fun i=>∀j,j<x.1.length->(b6 x.1 j).length<=k) (fun i=>x.1.length-i) (0) ⟨by omega,fun j h=>absurd h (Nat.not_lt_zero _)⟩ (d6.mk (.i rfl zi<|zk) (.nil) rfl) ?_ ?_
  ·rintro i ⟨hi,hR⟩
   refine jn ?_; refine u5 ?_; refine jq ?_ ?_
   ·intro h4
    refine Z2 ?_; refine jq ?_ ?_
    ·intro h6
     have hr:AF x k=false:=by unfold AF; simp only[Bool.and_eq_false_iff,List.all_eq_false,decide_eq_true_eq]; exact .inr ⟨b6 x.1 i,E6 zo,by omega⟩
     refine v9 ?_; exact g6.res1 (fn:=Tryz.f14) rfl (.b rfl (by rw[hr])<|.nil)
    ·intro h6
     replace h6:=Int.not_lt.1 h6
     have hok:(b6 x.1 i).length<=k:=by omega
     refine j1 ?_
     exact d9.lp (i+1) ⟨by omega,fun j hj=>by by_cases e:j=i; (rw[e]; exact hok); exact hR j zo⟩ zo (d6.mk (.i rfl zi<|zk) (.nil) rfl)
   ·intro h4
    replace h4:=Int.not_lt.1 h4
    refine g9 ?_
    exact d9.cut (i) (fun j hj=>hR j zo) (d6.mk (.i rfl zi<|zk) (.nil) rfl)
  ·intro i hE
   refine je ?_
   have hr:AF x k=true:=by unfold AF; simp only[Bool.and_eq_true,decide_eq_true_eq,List.all_eq_true]; exact ⟨h12,fun c hc=>by obtain ⟨j,hj,rfl⟩:=List.mem_iff_getElem.1 hc; have:=hE j hj; have e:b6 x.1 j=x.1[j]:=(by simp[b6,hj]); rw[e] at this; exact this⟩
   refine j3 ?_; exact g6.res1 (fn:=Tryz.f14) rfl (.b rfl (by rw[hr])<|.nil)

theorem UY (a b:List s5):Ct Tryz.prog 22 [b8 (eL j7) a,b8 (eL j7) b] (kB (decide (a=b))):=by
 refine Ct.mk Tryz.func22 rfl Tryz.ntmps22 rfl (fun w J=>?_); refine Tr.fact (s:=0) rfl (fun _ _ h=>S4 h) (fun hb=>?_); refine K3 ?_; refine jq ?_ ?_
 ·intro h1
  have hne:a≠b:=fun e=>h1 (by rw[e])
  refine j3 ?_; exact g6.res1 (fn:=Tryz.f22) rfl (.b rfl (by symm; rw[decide_eq_false_iff_not]; exact hne)<|.nil)
 ·intro h1
  replace h1:=Classical.not_not.1 h1
  have hll:a.length=b.length:=by omega
  refine j1 ?_
  refine Tr.for1 (σ:=Nat) [⟨0,true,_,_⟩,⟨1,true,_,_⟩] [] (fun k=>[⟨5,true,[],kI (k:Int)⟩]) (fun k=>[]) (fun k=>k<=a.length/\∀i,i<k->b6 a i=b6 b i) (fun k=>∀i,i<a.length->b6 a i=b6 b i) (fun k=>a.length-k) (0) ⟨Nat.zero_le _,fun i h=>absurd h (Nat.not_lt_zero _)⟩ (d6.mk (.i rfl zi<|zk) (.nil) rfl) ?_ ?_
  ·rintro k ⟨hk,hR⟩
   refine jn ?_; refine m9 ?_; refine jq ?_ ?_
   ·intro h4
    refine l6 ?_; refine Tr.draw 8 o0 (by kernel_rfl) ?_; refine m9 ?_; refine jc (qF (b6 a k) (b6 b k)) ?_; refine i7 ?_; refine Tr.cnd rfl ?_ ?_
    ·intro h6
     have hne:a≠b:=fun e=>by subst e; simp at h6
     refine v9 ?_; exact g6.res1 (fn:=Tryz.f22) rfl (.b rfl (by symm; rw[decide_eq_false_iff_not]; exact hne)<|.nil)
    ·intro h6
     have hkk:b6 a k=b6 b k:=by simpa using h6
     refine j1 ?_
     exact d9.lp (k+1) ⟨by omega,fun i hi=>by by_cases e:i=k; (rw[e]; exact hkk); exact hR i zo⟩ zo (d6.mk (.i rfl zi<|zk) (.nil) rfl)
   ·intro h4
    replace h4:=Int.not_lt.1 h4
    refine g9 ?_
    exact d9.cut (k) (fun i hi=>hR i zo) (d6.mk (.i rfl zi<|zk) (.nil) rfl)
  ·rintro k hE
   refine je ?_; refine j3 ?_; exact g6.res1 (fn:=Tryz.f22) rfl (.b rfl (by symm; rw[decide_eq_true_eq]; exact D6 hll hE)<|.nil)

theorem PI (x:o8):Ct Tryz.prog 65 [b8 eX x] (b8 eO (x.2.1,x.2.2.1)):=by
 refine Ct.mk Tryz.func65 rfl Tryz.ntmps65 rfl (fun w J=>?_); refine g8 ?_; refine jb 1 rfl ?_; refine ja 2 ?_; refine j1 ?_; refine tO (A1 (fun hp=>.cons rfl rfl rfl<|.cons rfl rfl rfl<|.nil)) rfl rfl ?_; refine g9 ?_; exact g6.resC1 (fn:=Tryz.f65) rfl rfl (t7 rfl (by rfl))

theorem tT (r:o6):Ct Tryz.prog 52 [b8 eO r] (kB (decide (r.1.length<=12)&&decide (r.2.length<=12))):=by
 refine Ct.mk Tryz.func52 rfl Tryz.ntmps52 rfl (fun w J=>?_); refine g8 ?_; refine jb 1 rfl ?_; refine g9 ?_; refine Tr.frzB 1 [1] eO (x:=r) ⟨rfl,trivial⟩ rfl ?_; refine jn ?_; refine K3 ?_; exact g6.res1 (fn:=Tryz.f52) rfl (.b rfl (by congr 1<;>exact decide_eq_decide.2 zo)<|.nil)

theorem tR (x:o8):Ct Tryz.prog 13 [b8 eX x] (kB (DK x)):=by
 refine Ct.mk Tryz.func13 rfl Tryz.ntmps13 rfl (fun w J=>?_); refine g8 ?_; refine jb 1 rfl ?_; refine l6 ?_; refine Tr.frzB 1 [1] eX (x:=x) ⟨rfl,trivial⟩ rfl ?_; refine jn ?_; refine g8 ?_; refine tO (i6 (fun hp=>PI _) (.a rfl uu<|.nil)) rfl rfl ?_; refine tO (i6 (fun hp=>tT _) (.a rfl uu<|.nil)) rfl rfl ?_; refine Z2 ?_; refine Tr.cnd rfl ?_ ?_
 ·intro h1
  have hr:DK x=false:=by simp at h1; unfold DK; simp only[Bool.and_eq_false_iff,decide_eq_false_iff_not]; omega
  refine j3 ?_; exact g6.res1 (fn:=Tryz.f13) rfl (.b rfl (by rw[hr])<|.nil)
 ·intro h1
  have h12:((x.2.1.length<=12/\x.2.2.1.length<=12)/\x.2.2.2.length<=12)/\x.1.1.length<=8:=by simp at h1; omega
  refine j1 ?_
  refine Tr.for1 (σ:=Nat) [⟨1,true,_,_⟩] [] (fun i=>[⟨3,true,[],kI (i:Int)⟩]) (fun i=>[]) (fun i=>i<=x.2.2.2.length/\∀j,j<i->AF (b6 x.2.2.2 j) 2=true) (fun i=>∀j,j<x.2.2.2.length->AF (b6 x.2.2.2 j) 2=true) (fun i=>x.2.2.2.length-i) (0) ⟨by omega,fun j h=>absurd h (Nat.not_lt_zero _)⟩ (d6.mk (.i rfl zi<|zk) (.nil) rfl) ?_ ?_
  ·rintro i ⟨hi,hR⟩
   refine jn ?_; refine u5 ?_; refine jq ?_ ?_
   ·intro h4
    refine y8 ?_; refine jc (qG (b6 x.2.2.2 i) 2) ?_; refine i7 ?_; refine Tr.cnd rfl ?_ ?_
    ·intro h6
     have hr:DK x=false:=by unfold DK; simp only[Bool.and_eq_false_iff,List.all_eq_false]; exact .inr ⟨b6 x.2.2.2 i,E6 zo,by simpa using h6⟩
     refine v9 ?_; exact g6.res1 (fn:=Tryz.f13) rfl (.b rfl (by rw[hr])<|.nil)
    ·intro h6
     have hok:AF (b6 x.2.2.2 i) 2=true:=by simpa using h6
     refine j1 ?_
     exact d9.lp (i+1) ⟨by omega,fun j hj=>by by_cases e:j=i; (rw[e]; exact hok); exact hR j zo⟩ zo (d6.mk (.i rfl zi<|zk) (.nil) rfl)
   ·intro h4
    replace h4:=Int.not_lt.1 h4
    refine g9 ?_
    exact d9.cut (i) (fun j hj=>hR j zo) (d6.mk (.i rfl zi<|zk) (.nil) rfl)
  ·intro i hE
   refine je ?_
   have hr:DK x=true:=by unfold DK; simp only[Bool.and_eq_true,decide_eq_true_eq,List.all_eq_true]; exact ⟨h12,fun c hc=>by obtain ⟨j,hj,rfl⟩:=List.mem_iff_getElem.1 hc; have:=hE j hj; have e:b6 x.2.2.2 j=x.2.2.2[j]:=(by simp[b6,hj]); rw[e] at this; exact this⟩
   refine j3 ?_; exact g6.res1 (fn:=Tryz.f13) rfl (.b rfl (by rw[hr])<|.nil)

end Go.Fl

/- Contracts: exchanges of the reference: errors, places, shifts, orbits. -/
namespace Go.Fl
open Go Go.Proofs
open d5 renaming op->tO
open i9 renaming op->rO
set_option maxRecDepth 100000

theorem tC (x:o8) (h0:z5 x.1≠0):Ct Tryz.prog 17 [b8 eX x] (kI (C1 x)):=by
 refine Ct.mk Tryz.func17 rfl Tryz.ntmps17 rfl (fun w J=>?_); refine g8 ?_; refine jb 1 rfl ?_; refine g9 ?_; refine Tr.frzB 1 [1] eX (x:=x) ⟨rfl,trivial⟩ rfl ?_; refine jn ?_; refine i7 ?_; refine jc (sL x.1 h0) ?_; refine i7 ?_; refine ja 3 ?_; refine y8 ?_; refine Tr.cnd rfl ?_ ?_
 ·intro h2
  refine j1 ?_; exact g6.res1 (fn:=Tryz.f17) rfl (.i rfl (by unfold C1; rw[if_pos h0])<|.nil)
 ·intro h2
  exact absurd (of_decide_eq_false h2) (fun e=>e h0)

theorem tD (x:o8) (h0:z5 x.1=0) (hsm:R6 x):Ct Tryz.prog 17 [b8 eX x] (kI (C1 x)):=by
 have he1:=(if_neg (fun e=>e h0):C1 x=_)
 have hpo:=R1 h0
 have hsl:=hsm.len
 have hpo:=R1 h0
 refine Ct.mk Tryz.func17 rfl Tryz.ntmps17 rfl (fun w J=>?_); refine g8 ?_; refine jb 1 rfl ?_; refine g9 ?_; refine Tr.frzB 1 [1] eX (x:=x) ⟨rfl,trivial⟩ rfl ?_; refine jn ?_; refine i7 ?_; refine jc (dF x.1 h0) ?_; refine i7 ?_; refine ja 3 ?_; refine y8 ?_; refine Tr.cnd rfl ?_ ?_
 ·intro h2
  exact absurd h2 (by decide)
 ·intro h2
  refine l3 ?_; refine tO (i6 (fun hp=>PI _) (.a rfl uu<|.nil)) rfl rfl ?_; refine jc (dB (x.2.1,x.2.2.1)) ?_; refine m9 ?_; refine jq ?_ ?_
  ·intro h5
   have hr:C1 x=H7 (x.2.1,x.2.2.1):=he1.trans (if_pos h5)
   refine j1 ?_; exact g6.res1 (fn:=Tryz.f17) rfl (.i rfl (by rw[hr])<|.nil)
  ·intro h5
   replace h5:=Classical.not_not.1 h5
   have he2:=he1.trans (if_neg (fun e=>e h5))
   refine D7 ?_; refine jq ?_ ?_
   ·intro h7
    have hr:C1 x=10:=he2.trans (if_pos zo)
    refine j3 ?_; exact g6.res1 (fn:=Tryz.f17) rfl (.i rfl (by rw[hr])<|.nil)
   ·intro h7
    replace h7:=Classical.not_not.1 h7
    have he3:=he2.trans (if_neg zo)
    refine j1 ?_
    refine Tr.for1 (σ:=Nat) [⟨1,true,_,_⟩,⟨3,true,_,_⟩] [⟨3,_,_⟩] (fun i=>[⟨6,true,[],kI (i:Int)⟩]) (fun i=>[]) (fun i=>i<=x.2.2.2.length/\∀j,j<i->0<A7 x.1.1 (u6 x.1) (j9 x.1.1 (b6 x.2.2.2 j))) (fun i=>∀j,j<x.2.2.2.length->0<A7 x.1.1 (u6 x.1) (j9 x.1.1 (b6 x.2.2.2 j))) (fun i=>x.2.2.2.length-i) (0) ⟨by omega,fun j h=>absurd h (Nat.not_lt_zero _)⟩ (d6.mk (.i rfl zi<|zk) (zk) rfl) ?_ ?_
    ·rintro i ⟨hi,hR⟩
     refine jn ?_; refine u5 ?_; refine jq ?_ ?_
     ·intro h10
      refine l6 ?_; refine Tr.draw 6 o0 (by kernel_rfl) ?_; refine j3 ?_; refine jc (dH x.1 (b6 x.2.2.2 i) h0 ((hsm.num i).mono zo) ((Y4 hpo (hsm.num i)).mono zo)) ?_; refine i7 ?_; refine jq ?_ ?_
      ·intro h12
       have hr:C1 x=12:=he3.trans (if_neg (fun e=>by have e2:0<A7 x.1.1 (u6 x.1) (j9 x.1.1 (b6 x.2.2.2 i)):=e i zo; omega))
       refine v9 ?_; exact g6.res1 (fn:=Tryz.f17) rfl (.i rfl (by rw[hr])<|.nil)
      ·intro h12
       replace h12:=Int.not_le.1 h12
       have hok:0<A7 x.1.1 (u6 x.1) (j9 x.1.1 (b6 x.2.2.2 i)):=by omega
       refine j1 ?_
       exact d9.lp (i+1) ⟨by omega,fun j hj=>by by_cases e:j=i; (rw[e]; exact hok); exact hR j zo⟩ zo (d6.mk (.i rfl zi<|zk) (zk) rfl)
     ·intro h10
      replace h10:=Int.not_lt.1 h10
      refine g9 ?_
      exact d9.cut (i) (fun j hj=>hR j zo) (d6.mk (.i rfl zi<|zk) (zk) rfl)
    ·intro i hE
     refine je ?_
     have hr:C1 x=0:=he3.trans (if_pos hE)
     refine j3 ?_; exact g6.res1 (fn:=Tryz.f17) rfl (.i rfl (by rw[hr])<|.nil)

theorem sW (x:o8) (h0:z5 x.1=0):Ct Tryz.prog 71 [b8 eX x] (b8 I8 (x.1,())):=by
 refine Ct.mk Tryz.func71 rfl Tryz.ntmps71 rfl (fun w J=>?_); refine g8 ?_; refine jb 1 rfl ?_; refine ja 2 ?_; refine i7 ?_; refine Tr.frzB 1 [1] eX (x:=x) ⟨rfl,trivial⟩ rfl ?_; refine jn ?_; refine i7 ?_; refine jc (dF x.1 h0) ?_; refine i7 ?_; refine ja 3 ?_; refine y8 ?_; exact g6.resC1 (fn:=Tryz.f71) rfl rfl (t7 rfl (by rfl))

end Go.Fl

/- Contracts: shifts, letters and orbits of the reference. -/
namespace Go.Fl
open Go Go.Proofs
open d5 renaming op->tO
open i9 renaming op->rO
set_option maxRecDepth 100000

abbrev oX (x:o8):o6:=(x.2.1,x.2.2.1)
end Go.Fl

/- Contracts: open with its errors; orbits. -/
namespace Go.Fl
open Go Go.Proofs
open d5 renaming op->tO
open i9 renaming op->rO
set_option maxRecDepth 100000

theorem tB (x:o8) (hsm:R6 x):Ct Tryz.prog 17 [b8 eX x] (kI (C1 x)):=by
 by_cases h0:z5 x.1=0
 ·exact tD x h0 hsm
 ·exact tC x h0
noncomputable abbrev EG (x:o8):CR:=Z3 (N8 x.1) (oX x) (F3 x)
theorem tU (x:o8) (D:Int) (M:Nat) (hx:L5 x) (hlo:F8 x.1.1 D M x.2.1.length (F3 x)):Ct Tryz.prog 66 [b8 eX x] (z6 [r7 L8 (EG x),kI 0]) :=
 tV x (N8 x.1) (w3 x) D M (cI _ hx.fld) (R1 hx.fld) (ZC hx.fld) hx.rows hx.len (fun a h=>(hx.num a h).mono zo) hlo hx.pos
theorem dP (f:u8) (p:s5) (h0:z5 f=0) (hp:y3 250 p):Ct Tryz.prog 82 [r7 A5 (N8 f),b8 j7 p] (kI (A7 f.1 (u6 f) (j9 f.1 p))):=(ZC h0).sign p hp
theorem qN (f:u8) (p q:s5) (h0:z5 f=0) (hp:y3 250 p) (hq:y3 250 q):Ct Tryz.prog 83 [r7 A5 (N8 f),b8 j7 p,b8 j7 q] (kI (A7 f.1 (u6 f) (B0 (j9 f.1 p) (j9 f.1 q)))):=(ZC h0).cmp p q hp hq
theorem rW (f:u8) (p:s5) (h0:z5 f=0) (hp:y3 250 p):Ct Tryz.prog 69 [r7 A5 (N8 f),b8 j7 p] (b8 j7 (m8 (j9 f.1 p))):=cH (N8 f) p 250 (R1 h0) hp zo
theorem tX (x:o8) (h0:z5 x.1≠0):Ct Tryz.prog 66 [b8 eX x] (z6 [j4 (.pointer none),kI (C1 x)]):=by
 refine Ct.mk Tryz.func66 rfl Tryz.ntmps66 rfl (fun w J=>?_); refine g8 ?_; refine jb 1 rfl ?_; refine j1 ?_; refine jc (rC x.1 h0) ?_; refine D7 ?_; refine Tr.cnd rfl ?_ ?_
 ·intro h2
  refine m9 ?_; exact g6.res (fn:=Tryz.f66) (ts:=[2,3]) rfl rfl (.k rfl<|.i rfl (by unfold C1; rw[if_pos h0])<|.nil)
 ·intro h2
  exact absurd (of_decide_eq_false h2) (fun e=>e h0)

set_option maxHeartbeats 1000000 in
theorem tY (x:o8) (h0:z5 x.1=0) (hsm:R6 x) (hne:C1 x≠0):Ct Tryz.prog 66 [b8 eX x] (z6 [j4 (.pointer none),kI (C1 x)]):=by
 have he1:=(if_neg (fun e=>e h0):C1 x=_)
 have hpo:=R1 h0
 have ht1:=hsm.top
 have ht2:=hsm.bot
 have ht3:=hsm.len
 obtain ⟨ls,hls⟩:∃ls,ls=F3 x:=⟨_,rfl⟩
 have hll:ls.length=x.2.2.2.length:=by rw[hls,List.length_map]
 have hnk:∀k,k<x.2.2.2.length->b6 ls k=j9 x.1.1 (b6 x.2.2.2 k):=fun k hk=>by rw[hls]; exact RI hk
 refine Ct.mk Tryz.func66 rfl Tryz.ntmps66 rfl (fun w J=>?_); refine g8 ?_; refine jb 1 rfl ?_; refine j1 ?_; refine jc (cI x.1 h0) ?_; refine D7 ?_; refine Tr.cnd rfl ?_ ?_
 ·intro h2
  exact absurd h2 (by decide)
 ·intro h2
  refine l3 ?_; refine tO (i6 (fun hp=>PL _) (.s rfl uu rfl<|.nil)) rfl rfl ?_; refine tO (i6 (fun hp=>VC _) (.a rfl uu<|.nil)) rfl rfl ?_; refine m9 ?_; refine jq ?_ ?_
  ·intro h5
   have hr:C1 x=H7 (x.2.1,x.2.2.1):=he1.trans (if_pos h5)
   refine m9 ?_
   exact g6.res (fn:=Tryz.f66) (ts:=[2,3]) rfl rfl (.k rfl<|.i rfl zi<|.nil)
  ·intro h5
   replace h5:=Classical.not_not.1 h5
   have he2:=he1.trans (if_neg (fun e=>e h5))
   refine D7 ?_; refine jq ?_ ?_
   ·intro h7
    have hr:C1 x=10:=he2.trans (if_pos zo)
    refine j1 ?_; exact g6.res (fn:=Tryz.f66) (ts:=[2,3]) rfl rfl (.k rfl<|.i rfl (by rw[hr])<|.nil)
   ·intro h7
    replace h7:=Classical.not_not.1 h7
    have he3:=he2.trans (if_neg zo)
    refine l3 ?_; refine tO (i6 (fun hp=>PL _) (.s rfl uu rfl<|.nil)) rfl rfl ?_; refine tO (i6 (fun hp=>VA _ (by show x.2.1.length<=1000; omega) (by show x.2.2.1.length<=1000; omega)) (.a rfl uu<|.nil)) rfl rfl ?_; refine tO (A1 (fun hp=>.cons rfl rfl rfl<|.cons rfl rfl rfl<|.nil)) rfl rfl ?_; refine jb 38 rfl ?_; refine v9 ?_; refine Tr.growC 38 3 139 rfl (ks':=[_,_,_,o9 139 0,_,_,_,_,_]) rfl rfl 30 j7 rfl (.cons inferInstance rfl<|.cons inferInstance rfl<|.cons inferInstance rfl<|.cons inferInstance rfl<|.cons inferInstance rfl<|.cons inferInstance rfl<|.cons inferInstance rfl<|.cons inferInstance rfl<|.cons inferInstance rfl<|inferInstance) ?_
    refine Tr.for1 (σ:=Nat) [⟨1,true,_,_⟩,⟨4,true,_,_⟩,⟨7,true,_,_⟩,⟨40,true,_,_⟩,⟨41,true,_,_⟩] [⟨1,_,_⟩] (fun k=>[⟨42,true,[],kI (k:Int)⟩]) (fun k=>[⟨38,[139],j5 [r7 A5 (N8 x.1),b8 (eL eI) x.2.1,b8 (eL eI) x.2.2.1,o9 139 k,j4 (.slice none 0 0),j4 (.slice none 0 0),j4 (.slice none 0 0),j4 (.slice none 0 0),j4 (.slice none 0 0)]⟩,⟨139,[],l5 true 30 j7 ((ls.take k).map m8) k⟩]) (fun k=>k<=x.2.2.2.length/\∀j,j<k->0<A7 x.1.1 (u6 x.1) (j9 x.1.1 (b6 x.2.2.2 j))) (fun k=>False) (fun k=>x.2.2.2.length-k) (0) ⟨by omega,fun j h=>absurd h (Nat.not_lt_zero _)⟩ (d6.mk (.i rfl zi<|zk) (.e (by rfl) rfl<|.a (by rfl) zi<|zk) rfl) ?_ ?_
    ·rintro k ⟨hk,hR⟩
     refine jn ?_; refine l3 ?_; refine jq ?_ ?_
     ·intro h11
      refine j1 ?_; refine ja 9 ?_; refine j1 ?_; refine jc (dP x.1 (b6 x.2.2.2 k) h0 ((hsm.num k).mono zo)) ?_; refine i7 ?_; refine jq ?_ ?_
      ·intro h13
       have hr:C1 x=12:=he3.trans (if_neg (fun e=>by have e2:0<A7 x.1.1 (u6 x.1) (j9 x.1.1 (b6 x.2.2.2 k)):=e k zo; omega))
       refine D7 ?_; exact g6.res (fn:=Tryz.f66) (ts:=[2,3]) rfl rfl (.k rfl<|.i rfl (by rw[hr])<|.nil)
      ·intro h13
       replace h13:=Int.not_le.1 h13
       have hok:0<A7 x.1.1 (u6 x.1) (j9 x.1.1 (b6 x.2.2.2 k)):=by omega
       refine g8 ?_; refine Tr.drawM (m:=9) o0 (by kernel_rfl) rfl (by kernel_rfl) (by kernel_rfl) (by kernel_rfl) ?_; refine g8 ?_; refine rO (R0 rfl uu) rfl rfl ?_; refine g9 ?_; refine jd (rW x.1 (b6 x.2.2.2 k) h0 ((hsm.num k).mono zo)) ?_; refine i9.new (y7 j7 58 (fun hp=>.cons rfl<|.nil) rfl rfl rfl rfl) rfl rfl rfl rfl ?_; refine i5 ?_; refine d5.wkC 38 (.k<|.k<|.k<|.any<|.k<|.k<|.k<|.k<|.k<|.nil) rfl ?_; refine i5 ?_; refine jl ?_; refine tO (R0 rfl uu) rfl rfl ?_; refine g8 ?_; refine d5.finN ?_; refine l3 ?_
       exact d9.lp (k+1) ⟨by omega,fun j hj=>by by_cases e:j=k; (rw[e]; exact hok); exact hR j zo⟩ zo (d6.mk (.i rfl zi<|zk) (.e (by rfl) rfl<|.a (by rw[W8 zo,List.map_append,hnk k zo]; rfl) zi<|zk) rfl)
     ·intro h11
      replace h11:=Int.not_lt.1 h11
      refine g9 ?_
      exact d9.cut (k) (hne (he3.trans (if_pos fun j hj=>hR j zo))) (d6.mk (.i rfl zi<|zk) (zk) rfl)
    ·intro k hE0
     exact hE0.elim

end Go.Fl

/- Contracts: errors of Apply and Orbit. -/
namespace Go.Fl
open Go Go.Proofs
open d5 renaming op->tO
open i9 renaming op->rO
set_option maxRecDepth 100000

theorem tW (x:o8) (hsm:R6 x) (hne:C1 x≠0):Ct Tryz.prog 66 [b8 eX x] (z6 [j4 (.pointer none),kI (C1 x)]):=by
 by_cases h0:z5 x.1=0
 ·exact tY x h0 hsm hne
 ·exact tX x h0
end Go.Fl

/- The law of orbits. -/
namespace Go.Fl
open Go Go.Proofs
open d5 renaming op->tO
open i9 renaming op->rO
set_option maxRecDepth 100000

theorem L5.dm {x:o8} (hx:L5 x) (hsm:R6 x) {ps:List s5} (hp:∀p∈ps,y3 2 p) (hl:ps.length<=2):∃(D:Int) (M:Nat),F8 x.1.1 D M x.2.1.length (F3 x)/\∀p∈ps,HB D M (j9 x.1.1 p):=by
 have hpo:=R1 hx.fld
 obtain ⟨D,M,h1,h2⟩:=ai5 (more:=ps.map (j9 x.1.1)) hpo hx.len hx.rows.le (fun a _=>hsm.num a) (by rw[List.length_map]; exact hl) fun v hv=>by
  obtain ⟨p,hpm,rfl⟩:=List.mem_map.1 hv
  exact ⟨HZ hpo,Y4 hpo (hp p hpm)⟩
 exact ⟨D,M,h1,fun p hpm=>h2 _ (List.mem_map.2 ⟨p,hpm,rfl⟩)⟩
theorem fW {l:List Int} (h:P6 (S8 .i64) l):w8 l:=fun i hi=>yL (h.2 i hi)
theorem vY {c:List (List Int)} {d:List Int} (h:P6 (P6 (S8 .i64)) c) (h2:P6 (S8 .i64) d):BI (c,d):=⟨fun i=>by
 by_cases hi:i<c.length
 ·exact fW (h.2 i hi)
 ·show w8 (b6 c i); rw[v5 zo]; exact BV,fW h2⟩
theorem vZ {l:List s5} (h:P6 BI l) (a:Nat):BI (b6 l a):=by
 by_cases hi:a<l.length
 ·exact h.2 a hi
 ·rw[v5 zo]; exact ⟨fun i=>by show w8 (b6 [] i); rw[RK]; exact BV,BV⟩
end Go.Fl

/- Places of letters; lists that are filled letter by letter; renumbered rows. No program in sight. -/
namespace Go.Fl
open Go
end Go.Fl

/- Contracts: the reference: renumbered rows, normal and inverse exchanges; comparisons of exchanges. -/
namespace Go.Fl
open Go Go.Proofs
open d5 renaming op->tO
open i9 renaming op->rO
set_option maxRecDepth 100000

end Go.Fl

/- Contracts: Check, Normal, Total, Shifts and Inverse of the program. -/
namespace Go.Fl
open Go Go.Proofs
open d5 renaming op->tO
open i9 renaming op->rO
set_option maxRecDepth 100000

theorem dW (r:o6):Ct Tryz.prog 85 [b8 eO r] (b8 eO (r.2,r.1)):=by
 refine Ct.mk Tryz.func85 rfl Tryz.ntmps85 rfl (fun w J=>?_); refine g8 ?_; refine jb 1 rfl ?_; refine ja 2 ?_; refine i7 ?_; refine Tr.frzB 1 [1] eO (x:=r) ⟨rfl,trivial⟩ rfl ?_; refine jn ?_; refine l6 ?_; refine tO (A1 (fun hp=>.cons rfl rfl rfl<|.cons rfl rfl rfl<|.nil)) rfl rfl ?_; refine g9 ?_; exact g6.resC1 (fn:=Tryz.f85) rfl rfl (t7 rfl (by rfl))

theorem rB (r:C9) (hl:r.1.1.length<=1000):Ct Tryz.prog 142 [r7 A5 r] (b8 A8 r.1):=by
 refine Ct.mk Tryz.func142 rfl Tryz.ntmps142 rfl (fun w J=>?_); refine g8 ?_; refine ja 2 ?_; refine l3 ?_; refine tO (FU rfl uu) rfl rfl ?_; refine g8 ?_; refine Tr.cnd rfl ?_ ?_
 ·intro h1
  exact absurd h1 (by decide)
 ·intro h1
  refine l6 ?_; refine tO (CB rfl uu) rfl rfl ?_; refine g8 ?_; refine ja 3 ?_; refine j3 ?_; refine tO (i6 (fun hp=>CY _ zo) (.a rfl uu<|.nil)) rfl rfl ?_; refine y8 ?_
  exact g6.resC1 (fn:=Tryz.f142) rfl rfl (t7 rfl zi)

theorem tS (r:C9) (o q:o6) (ls:List l7) (l:List s5) (hf:r.1.1.length<=1000) (h1:q.1.length<=1000) (h2:q.2.length<=1000):Ct Tryz.prog 84 [r7 L8 (Z3 r o ls),b8 eO q,b8 (eL j7) l] (b8 eX (r.1,q.1,q.2,l)):=by
 refine Ct.mk Tryz.func84 rfl Tryz.ntmps84 rfl (fun w J=>?_); refine g8 ?_; refine jb 4 rfl ?_; refine ja 6 ?_; refine i7 ?_; refine Tr.frzB 4 [4] eO (x:=q) ⟨rfl,trivial⟩ rfl ?_; refine jn ?_; refine Tr.draw 12 o0 (by kernel_rfl) ?_; refine i5 ?_; refine rO (CB rfl uu) rfl rfl ?_; refine g8 ?_; refine jd (rB r hf) ?_; refine g8 ?_; refine jd (CY q.1 zo) ?_; refine g8 ?_; refine jd (CY q.2 zo) ?_; refine g8 ?_; refine tO (A1 (fun hp=>.cons rfl rfl rfl<|.cons rfl rfl rfl<|.cons rfl rfl rfl<|.cons rfl rfl rfl<|.nil)) rfl rfl ?_
 refine g9 ?_; exact g6.resC1 (fn:=Tryz.f84) rfl rfl (t7 rfl (by rfl))

end Go.Fl

/- Contracts: errors of Check, Normal, Total, Shifts and Inverse. -/
namespace Go.Fl
open Go Go.Proofs
open d5 renaming op->tO
open i9 renaming op->rO
set_option maxRecDepth 100000

end Go.Fl

/- The law of exchanges. -/
namespace Go.Fl
open Go Go.Proofs
open d5 renaming op->tO
open i9 renaming op->rO
set_option maxRecDepth 100000

end Go.Fl

/- Sums of numbers: laws; numbers in order. No program in sight. -/
namespace Go.Fl
open Go
def CD (D:Int) (v:l7):Prop:=∃cs:List Int,cs.length=4/\v=loN cs D
theorem v7.cd {p:List Int} {v:l7} (h:v7 p v):CD v.2 v:=⟨v.1,h.len,h.loN.symm⟩
theorem CD.scale {D m:Int} {v:l7} (h:CD D v) (hD:0<D) (hm:0<m):CD (D*m) v:=by
 obtain ⟨cs,l,rfl⟩:=h
 exact ⟨cs.map fun c=>c*m,by rw[List.length_map,l],(MW zo zo).symm⟩
theorem OU {p:List Int} {u v w:l7} (hu:v7 p u) (hv:v7 p v) (hw:v7 p w):∃D,0<D/\CD D u/\CD D v/\CD D w:=by
 have a:=hu.pos
 have b:=hv.pos
 have c:=hw.pos
 have ab:=Int.mul_pos a b
 have ac:=Int.mul_pos a c
 refine ⟨u.2*v.2*w.2,Int.mul_pos ab c,(hu.cd.scale a b).scale ab c,?_,?_⟩
 ·have:=(hv.cd.scale b a).scale (Int.mul_pos b a) c
  rwa [Int.mul_comm v.2 u.2] at this
 ·have:=hw.cd.scale c ab
  rwa [Int.mul_comm w.2 (u.2*v.2)] at this
theorem lZ {cs:List Int} (h:cs.length=4):j8 4 (b6 cs)=cs:=D6 (by rw[p8,h]) fun i hi=>by rw[p8] at hi; exact r5 hi
theorem aM {p:List Int} {u v:l7} (hu:v7 p u) (hv:v7 p v):C0 u v=C0 v u:=by
 obtain ⟨D,hD,⟨a,_,rfl⟩,⟨b,_,rfl⟩,_⟩:=OU hu hv hv
 rw[DR hD,DR hD]
 exact congrArg (fun l=>loN l D) (B5 fun i _=>Int.add_comm _ _)
theorem aO {p:List Int} {u:l7} (hu:v7 p u):C0 u (w6 0)=u:=by
 obtain ⟨D,hD,⟨a,ha,rfl⟩,_,_⟩:=OU hu hu hu
 rw[fY hD,DR hD]
 refine congrArg (fun l=>loN l D) ((B5 fun i hi=>?_).trans (lZ ha))
 rw[r5 hi]; omega
theorem MV {cs:List Int} {d:Int}:loN (cs.map fun z=>-z) d=S5 (loN cs d):=QY
theorem xU {p:List Int} {u v:l7} (hu:v7 p u) (hv:v7 p v):S5 (B0 u v)=B0 v u:=by
 obtain ⟨D,hD,⟨a,ha,rfl⟩,⟨b,hb,rfl⟩,_⟩:=OU hu hv hv
 unfold B0
 rw[<- MV,<- MV,DR hD,DR hD,<- MV]
 refine congrArg (fun l=>loN l D) ?_
 refine D6 (by rw[List.length_map,p8,p8]) fun i hi=>?_
 rw[List.length_map,p8] at hi
 rw[AW,r5 hi,r5 hi,AW,AW]; omega
theorem ah7 {p:List Int} {u v w:l7} (hu:v7 p u) (hv:v7 p v) (hw:v7 p w):C0 (B0 u v) (B0 v w)=B0 u w:=by
 obtain ⟨D,hD,⟨a,ha,rfl⟩,⟨b,hb,rfl⟩,⟨c,hc,rfl⟩⟩:=OU hu hv hw
 unfold B0
 rw[<- MV,<- MV,DR hD,DR hD,DR hD,DR hD]
 exact congrArg (fun l=>loN l D) (B5 fun i hi=>by rw[r5 hi,r5 hi,AW,AW]; omega)
structure O5 (p:List Int) (sg:l7->Int):Prop where
 pol:G6 p
 neg:∀v,v7 p v->sg (S5 v)=-sg v
 add:∀u v,v7 p u->v7 p v->0<=sg u->0<sg v->0<sg (C0 u v)
 zero:∀v,v7 p v->sg v=0->v=w6 0
 int0:sg (w6 0)=0
section
variable {p:List Int} {sg:l7->Int} (h:O5 p sg) {u v w:l7} (hu:v7 p u) (hv:v7 p v) (hw:v7 p w)
include h hu hv
theorem O5.swap:sg (B0 v u)=-sg (B0 u v):=by
 rw[<- xU hu hv]
 exact h.neg _ (HW hu hv)
include hw
theorem O5.lt_of (a:0<=sg (B0 v u)) (b:0<sg (B0 w v)):0<sg (B0 w u):=by
 have:=h.add _ _ (HW hv hu) (HW hw hv) a b
 rwa [aM (HW hv hu) (HW hw hv),ah7 hw hv hu] at this
end
end Go.Fl

/- The sign of a field's numbers goes with sums. No program in sight. -/
namespace Go.Fl
open Go
theorem NO {p:List Int} {I:Iv} {cs:List Int}:E8 p I cs=1\/E8 p I cs=-1\/E8 p I cs=0:=by
 unfold E8
 split
 ·exact .inl rfl
 ·split
  ·exact .inr (.inl rfl)
  ·exact .inr (.inr rfl)
theorem lG {p:List Int} {I:Iv} {cs:List Int} (h:E8 p I cs=1):∃k,0<(enc (i2 p I k) cs).1:=by
 unfold E8 at h
 split at h
 ·assumption
 ·split at h<;>omega
theorem lF {p:List Int} {I:Iv} {cs:List Int} (h:E8 p I cs=-1):∃k,(enc (i2 p I k) cs).2.1<0:=by
 unfold E8 at h
 split at h
 ·omega
 ·split at h
  ·assumption
  ·omega
theorem af8 {p:List Int} {I:Iv} {cs:List Int} (hI:I.Ok):E8 p I (cs.map fun c=>-c)=-E8 p I cs:=by
 rcases NO (p:=p) (I:=I) (cs:=cs) with h | h | h
 ·obtain ⟨k,hk⟩:=lG h
  rw[h]
  exact KV (k:=k) hI (by rw[MH]; show -(enc (i2 p I k) cs).1<0; omega)
 ·obtain ⟨k,hk⟩:=lF h
  rw[h]
  exact HV (k:=k) (by rw[MH]; show 0 < -(enc (i2 p I k) cs).2.1; omega)
 ·rcases NO (p:=p) (I:=I) (cs:=cs.map fun c=>-c) with h' | h' | h'
  ·obtain ⟨k,hk⟩:=lG h'
   rw[MH] at hk
   have:=KV (k:=k) hI (show (enc (i2 p I k) cs).2.1<0 by have:0 < -(enc (i2 p I k) cs).2.1:=hk; omega)
   omega
  ·obtain ⟨k,hk⟩:=lF h'
   rw[MH] at hk
   have:=HV (p:=p) (I:=I) (cs:=cs) (k:=k) (show 0<(enc (i2 p I k) cs).1 by have:-(enc (i2 p I k) cs).1<0:=hk; omega)
   omega
  ·rw[h,h']; rfl
theorem ai0 {cs:List Int}:∀c∈cs,c.natAbs<=(cs.map Int.natAbs).foldr (·+·) 0:=by
 induction cs with
 | nil=>intro c h; cases h
 | cons x cs ih =>
  intro c h
  rw[List.map_cons,List.foldr_cons]
  rcases List.mem_cons.1 h with rfl | h
  ·omega
  ·have:=ih c h; omega
theorem X0.ne0 {p cs:List Int} {I:Iv} (h:X0 p I) (hcl:cs.length=p.length-1) (hc0:∃c∈cs,c≠0):E8 p I cs=1\/E8 p I cs=-1:=by
 obtain ⟨F,hF⟩:∃F,F=1000+(cs.map Int.natAbs).foldr (·+·) 0:=⟨_,rfl⟩
 obtain ⟨k,hk⟩:∃k,k=FJ (p.length-1) F 1000000 2000000:=⟨_,rfl⟩
 have h2:k<2 ^ k:=Nat.lt_two_pow_self
 have hd:=h.iv.pos
 rcases h.told (k:=k) hcl hc0 (F:=F) zo (fun c hc=>by have:=ai0 c hc; omega) (by
  rw[<- hk]
  have e:((2 ^ k:Nat):Int)=2 ^ k:=by push_cast; rfl
  rw[<- e]
  have:=Int.mul_le_mul_of_nonneg_right (show (1:Int)<=I.den by omega) (show (0:Int)<=((2 ^ k:Nat):Int) by omega)
  omega) with q | q
 ·exact .inl (HV q)
 ·exact .inr (KV h.iv q)
theorem ag0 {p:List Int} {I:Iv} {cs:List Int} (h:∀c∈cs,c=0):E8 p I cs=0:=by
 have e:cs=cs.map fun c=>c*0:=by
  conv=>lhs; rw[<- List.map_id cs]
  exact List.map_congr_left fun c hc=>by rw[h c hc]; rfl
 unfold E8
 rw[if_neg,if_neg]
 ·rintro ⟨k,hk⟩
  rw[e,MG (Int.le_refl 0)] at hk
  simp at hk
 ·rintro ⟨k,hk⟩
  rw[e,MG (Int.le_refl 0)] at hk
  simp at hk
theorem IW {a:Int}:(0<a/\q9 a 0=1)\/(a<0/\q9 a 0=-1)\/(a=0/\q9 a 0=0):=by
 unfold q9
 by_cases h:a<0
 ·exact .inr (.inl ⟨h,if_pos h⟩)
 ·by_cases h2:0<a
  ·exact .inl ⟨h2,by rw[if_neg h,if_pos h2]⟩
  ·exact .inr (.inr ⟨by omega,by rw[if_neg h,if_neg h2]⟩)
theorem fB {I:Iv} {c:Int}:enc I [c]=(c*I.den,c*I.den,I.den):=by
 simp[enc,J4,I9]
theorem af9 {p:List Int} {I:Iv} (hI:I.Ok) {c:Int} {n:Nat}:E8 p I (c::List.replicate n 0)=q9 c 0:=by
 have hp:∀k,0<(i2 p I k).den:=fun k=>(V8 hI).pos
 rcases IW (a:=c) with ⟨h,e⟩ | ⟨h,e⟩ | ⟨h,e⟩
 ·rw[e]
  refine HV (k:=0) ((QC (hp 0) (xs:=[c])).1.2 ?_)
  rw[fB]
  exact Int.mul_pos h (hp 0)
 ·rw[e]
  refine KV (k:=0) hI ((QC (hp 0) (xs:=[c])).2.2 ?_)
  rw[fB]
  exact Int.mul_neg_of_neg_of_pos h (hp 0)
 ·rw[e]
  refine ag0 fun x hx=>?_
  rcases List.mem_cons.1 hx with rfl | hx
  ·exact h
  ·exact (List.mem_replicate.1 hx).2
theorem KU {p:List Int} {I:Iv} {v:l7} (hI:I.Ok) (h3:3<=p.length) (h5:p.length<=5) (hv:v7 p v):A7 p I v=E8 p I (v.1.take (p.length-1)):=by
 unfold A7
 by_cases h:N1 v.1=true
 ·rw[if_pos h]
  have e:v.1.take (p.length-1)=b6 v.1 0::List.replicate (p.length-2) 0:=by
   have hl:=hv.len
   refine D6 (by rw[List.length_take,hl,List.length_cons,List.length_replicate]; omega) fun i hi=>?_
   rw[List.length_take,hl] at hi
   rw[M3 zo]
   by_cases h0:i=0
   ·subst h0; rfl
   ·obtain ⟨j,rfl⟩:∃j,i=j+1:=⟨i-1,by omega⟩
    rw[KM.1 h (j+1) zo zo]
    show 0=b6 (List.replicate (p.length-2) 0) j
    simp[b6,show j<p.length-2 by omega]
  rw[e]
  exact (af9 hI).symm
 ·rw[if_neg h]
end Go.Fl

/- The sign of a field's numbers goes with sums: fields of every degree. No program in sight. -/
namespace Go.Fl
open Go
theorem yJ {a b:List Int} {i:Nat} (ha:i<a.length) (hb:i<b.length):b6 (List.zipWith (·+·) a b) i=b6 a i+b6 b i:=by
 have h:i<(List.zipWith (·+·) a b).length:=by rw[List.length_zipWith]; omega
 have e:∀{l:List Int} (q:i<l.length),b6 l i=l[i]:=fun q=>by simp[b6,q]
 rw[e h,e ha,e hb,List.getElem_zipWith]
theorem xR {v:l7} {n:Nat}:(S5 v).1.take n=(v.1.take n).map fun c=>-c:=by
 unfold S5
 rw[List.map_take]
theorem kQ {p:List Int} {v:l7} (hv:v7 p v) (h:∀i,i<4->b6 v.1 i=0):v=w6 0:=by
 have e:v.1=j8 4 fun _=>0:=by
  rw[<- lZ hv.len]
  exact B5 fun i hi=>h i hi
 rw[<- hv.loN,e,<- fY hv.pos]
theorem aN {u v:l7} (hu:0<u.2) (hv:0<v.2) {i:Nat} (hi:i<4):b6 (C0 u v).1 i*(u.2*v.2)=(b6 u.1 i*v.2+b6 v.1 i*u.2)*(C0 u v).2:=by
 have hD:=Int.mul_pos hu hv
 unfold C0
 rw[HH zo i,r5 hi]
theorem O5.of_fld {p:List Int} {I:Iv} (h:X0 p I):O5 p (A7 p I):=by
 have h3:=h.three
 have h5:=h.len4
 have hl4:∀v,v7 p v->(v.1.take (p.length-1)).length=p.length-1:=fun v hv=>by rw[List.length_take,hv.len]; omega
 have hz:∀v,v7 p v->A7 p I v=0->v=w6 0:=fun v hv e=>by
  rw[KU h.iv h3 h5 hv] at e
  refine kQ hv fun i hi=>?_
  by_cases hip:i<p.length-1
  ·refine Classical.byContradiction fun hne=>?_
   rcases h.ne0 (hl4 v hv) ⟨b6 v.1 i,by rw[<- M3 hip]; exact RJ (by rw[hl4 v hv]; exact hip),hne⟩ with q | q<;>omega
  ·exact hv.hi i zo
 refine ⟨h.pol,fun v hv=>?_,fun u v hu hv a b=>?_,hz,?_⟩
 ·rw[KU h.iv h3 h5 hv,KU h.iv h3 h5 (RF hv),xR]
  exact af8 h.iv
 ·by_cases e:A7 p I u=0
  ·rw[hz u hu e,aM (QP h.pol 0) hv,aO hv]; exact b
  ·have hs:=LP hu hv
   rw[KU h.iv h3 h5 hs]
   rw[KU h.iv h3 h5 hu] at a e
   rw[KU h.iv h3 h5 hv] at b
   have a1:E8 p I (u.1.take (p.length-1))=1:=by rcases NO (p:=p) (I:=I) (cs:=u.1.take (p.length-1)) with q | q | q<;>omega
   have b1:E8 p I (v.1.take (p.length-1))=1:=by rcases NO (p:=p) (I:=I) (cs:=v.1.take (p.length-1)) with q | q | q<;>omega
   have pu:=hu.pos
   have pv:=hv.pos
   have key:=af6 (p:=p) (I:=I) (xs:=(u.1.take (p.length-1)).map fun c=>c*v.2) (ys:=(v.1.take (p.length-1)).map fun c=>c*u.2) h.iv (by rw[List.length_map,List.length_map,hl4 u hu,hl4 v hv]) (by rw[TA pv]; exact a1) (by rw[TA pu]; exact b1)
   rw[<- TA (m:=u.2*v.2) (Int.mul_pos pu pv)]
   have e2:((C0 u v).1.take (p.length-1)).map (fun c=>c*(u.2*v.2))=(List.zipWith (·+·) ((u.1.take (p.length-1)).map fun c=>c*v.2) ((v.1.take (p.length-1)).map fun c=>c*u.2)).map fun c=>c*(C0 u v).2:=by
    refine D6 (by rw[List.length_map,hl4 _ hs,List.length_map,List.length_zipWith,List.length_map,List.length_map,hl4 u hu,hl4 v hv]; omega) fun i hi=>?_
    have hi:i<p.length-1:=by rw[List.length_map,hl4 _ hs] at hi; exact hi
    have m:∀{l:List Int} {c:Int},i<l.length->b6 (l.map fun x=>x*c) i=b6 l i*c:=fun hl=>by simp[b6,hl]
    rw[m (by rw[hl4 _ hs]; exact hi),m (by rw[List.length_zipWith,List.length_map,List.length_map,hl4 u hu,hl4 v hv]; omega),M3 hi]
    have z:b6 (List.zipWith (·+·) ((u.1.take (p.length-1)).map fun c=>c*v.2) ((v.1.take (p.length-1)).map fun c=>c*u.2)) i=b6 u.1 i*v.2+b6 v.1 i*u.2:=by
     have q1:=m (l:=u.1.take (p.length-1)) (c:=v.2) (by rw[hl4 u hu]; exact hi)
     have q2:=m (l:=v.1.take (p.length-1)) (c:=u.2) (by rw[hl4 v hv]; exact hi)
     rw[M3 hi] at q1 q2
     rw[<- q1,<- q2]
     exact yJ (by rw[List.length_map,hl4 u hu]; exact hi) (by rw[List.length_map,hl4 v hv]; exact hi)
    rw[z]
    exact aN pu pv zo
   rw[e2,TA hs.pos,key]
   omega
 ·unfold A7
  rw[if_pos (by decide)]
  rfl
theorem O5.of_rat {p:List Int} {I:Iv} (hp:G6 p) (h2:p.length=2):O5 p (A7 p I):=by
 have hr:∀v,v7 p v->N1 v.1=true:=fun v hv=>HR fun i h1 _=>hv.hi i zo
 have hs:∀v,v7 p v->A7 p I v=q9 (b6 v.1 0) 0:=fun v hv=>if_pos (hr v hv)
 refine ⟨hp,fun v hv=>?_,fun u v hu hv a b=>?_,fun v hv e=>?_,?_⟩
 ·rw[hs _ hv,hs _ (RF hv)]
  have:b6 (S5 v).1 0=-b6 v.1 0:=AW
  rw[this]
  unfold q9
  by_cases q:b6 v.1 0<0
  ·rw[if_neg zo,if_pos zo,if_pos q]; rfl
  ·by_cases q2:0<b6 v.1 0
   ·rw[if_pos zo,if_neg q,if_pos q2]
   ·rw[if_neg zo,if_neg zo,if_neg q,if_neg q2]; rfl
 ·rw[hs _ hu] at a
  rw[hs _ hv] at b
  rw[hs _ (LP hu hv)]
  have pu:=hu.pos
  have pv:=hv.pos
  have a0:0<=b6 u.1 0:=by rcases IW (a:=b6 u.1 0) with q | q | q<;>omega
  have b0:0<b6 v.1 0:=by rcases IW (a:=b6 v.1 0) with q | q | q<;>omega
  have c:=aN pu pv (i:=0) zo
  have d1:=Int.mul_nonneg a0 (show 0<=v.2 by omega)
  have d2:=Int.mul_pos b0 pu
  have d3:0<(b6 u.1 0*v.2+b6 v.1 0*u.2)*(C0 u v).2:=Int.mul_pos zo (LP hu hv).pos
  rw[<- c] at d3
  have d4:0<b6 (C0 u v).1 0:=by
   refine Classical.byContradiction fun hn=>?_
   have:=Int.mul_nonpos_of_nonpos_of_nonneg (show b6 (C0 u v).1 0<=0 by omega) (show 0<=u.2*v.2 from Int.le_of_lt (Int.mul_pos pu pv))
   omega
  rcases IW (a:=b6 (C0 u v).1 0) with q | q | q<;>omega
 ·rw[hs _ hv] at e
  have e0:b6 v.1 0=0:=by rcases IW (a:=b6 v.1 0) with q | q | q<;>omega
  refine kQ hv fun i hi=>?_
  by_cases h0:i=0
  ·rw[h0]; exact e0
  ·exact KM.1 (hr v hv) i zo hi
 ·unfold A7
  rw[if_pos (by decide)]
  rfl
end Go.Fl

/- Points, letters and images: the interval of a point is the only one that holds it. No program in sight. -/
namespace Go.Fl
open Go
section
variable {p:List Int} {sg:l7->Int} {D:Int} {M n:Nat} {ls:List l7} {row:List Int} (h:O5 p sg) (hlo:F8 p D M n ls) (hr:A6 row n) (hpos:∀a,a<n->0<sg (b6 ls a))
include h hlo hr
include hpos
end
end Go.Fl

/- The image of a point lies in the image of its interval; the inverse exchange takes it back. No program in sight. -/
namespace Go.Fl
open Go
structure nO (p:List Int) (sg:l7->Int) (D:Int) (M:Nat) (o:List Int×List Int) (ls:List l7):Prop where
 sgl:O5 p sg
 len:F8 p D M o.1.length ls
 top:A6 o.1 o.1.length
 bot:A6 o.2 o.1.length
 two:1<=o.1.length
 pos:∀a,a<o.1.length->0<sg (b6 ls a)
section
variable {p:List Int} {sg:l7->Int} {D:Int} {M:Nat} {o:List Int×List Int} {ls:List l7} (h:nO p sg D M o ls) {pv:l7} (hv:v7 p pv)
include h hv
end
end Go.Fl

/- The law: an exchange is a bijection. -/
namespace Go.Fl
open Go Go.Proofs
open d5 renaming op->tO
open i9 renaming op->rO
set_option maxRecDepth 100000

theorem O5.of_chk {f:u8} (h0:z5 f=0):O5 f.1 (A7 f.1 (u6 f)):=by
 have hpo:=R1 h0
 have hl:=(Y8 h0).1.1
 by_cases h2:f.1.length=2
 ·exact O5.of_rat hpo h2
 ·exact O5.of_fld (QG h0 zo)
end Go.Fl

/- Connections: which interval begins at a point. No program in sight. -/
namespace Go.Fl
open Go
def hJ (sg:l7->Int) (row:List Int) (ls:List l7) (pv:l7):Option Int:=if QV sg (L0 ls row) row pv (row.length-1)≠b6 row 0/\sg (B0 (b6 (L0 ls row) (QV sg (L0 ls row) row pv (row.length-1)).toNat) pv)=0 then some (QV sg (L0 ls row) row pv (row.length-1)) else none
section
variable {p:List Int} {sg:l7->Int} {D:Int} {M n:Nat} {ls:List l7} {row:List Int} (h:O5 p sg) (hlo:F8 p D M n ls) (hr:A6 row n) (hpos:∀a,a<n->0<sg (b6 ls a)) {pv:l7} (hv:v7 p pv)
include h hlo hr hpos hv
end
end Go.Fl

/- Contracts: connections of exchanges. -/
namespace Go.Fl
open Go Go.Proofs
open d5 renaming op->tO
open i9 renaming op->rO
set_option maxRecDepth 100000

end Go.Fl

/- Contracts: connections of the program. -/
namespace Go.Fl
open Go Go.Proofs
open d5 renaming op->tO
open i9 renaming op->rO
set_option maxRecDepth 100000

end Go.Fl

/- Contracts: connections of the reference; the law of connections. -/
namespace Go.Fl
open Go Go.Proofs
open d5 renaming op->tO
open i9 renaming op->rO
set_option maxRecDepth 100000

end Go.Fl

/- The law of connections. -/
namespace Go.Fl
open Go Go.Proofs
open d5 renaming op->tO
open i9 renaming op->rO
set_option maxRecDepth 100000

theorem qD (n a b:Int):Ct Tryz.prog 34 [kI n,kI a,kI b] (kB (decide (a<=n/\n<=b))):=by
 refine Ct.mk Tryz.func34 rfl Tryz.ntmps34 rfl (fun w J=>?_); refine JO ?_; exact g6.res1 (fn:=Tryz.f34) rfl (.b rfl (by symm; exact Bool.decide_and _ _)<|.nil)

end Go.Fl

/- Matrices of integers, minors, determinants: how large they are. The first of so many times. No program in sight. -/
namespace Go.Fl
open Go
section
variable {α:Type} [Inhabited α] {l:List α} {r k:Nat}
end
end Go.Fl

/- Contracts: lowest terms over any denominator, matrices and minors. -/
namespace Go.Fl
open Go Go.Proofs
open d5 renaming op->tO
open i9 renaming op->rO
set_option maxRecDepth 100000

end Go.Fl

/- Contracts: matrices of multiplications, determinants. -/
namespace Go.Fl
open Go Go.Proofs
open d5 renaming op->tO
open i9 renaming op->rO
set_option maxRecDepth 100000

end Go.Fl

/- Contracts: inverses and quotients of the reference. -/
namespace Go.Fl
open Go Go.Proofs
open d5 renaming op->tO
open i9 renaming op->rO
set_option maxRecDepth 100000

end Go.Fl

/- Contracts: first returns. -/
namespace Go.Fl
open Go Go.Proofs
open d5 renaming op->tO
open i9 renaming op->rO
set_option maxRecDepth 100000

end Go.Fl

/- The law of first returns. -/
namespace Go.Fl
open Go Go.Proofs
open d5 renaming op->tO
open i9 renaming op->rO
set_option maxRecDepth 100000

end Go.Fl

/- Rows as they are printed, step by step. Plain Lean, no program in sight. -/
namespace Go.Fl
end Go.Fl

/- Irreducible rows, step by step. Plain Lean, no program in sight. -/
namespace Go.Fl
theorem ad6 {r:o6} {k:Nat}:DJ r k 0=true:=rfl
theorem ad5 {r:o6} {k i:Nat} (h:i<r.2.length):DJ r k (i+1)=(DJ r k i&&decide (b6 r.2 i∈r.1.take k)):=by
 unfold DJ
 rw[W8 h,List.all_append]
 simp
theorem wA {r:o6} (h:F2 r) {k:Nat} (h1:1<=k) (hk:k<r.1.length) (hs:DJ r k k=true):z7 r=false:=by
 unfold z7
 rw[decide_eq_false_iff_not]
 intro hh
 have:=hh k hk h1
 rw[QT h zo,hs] at this
 cases this
theorem wB {r:o6} {k:Nat} (h1:1<=k) (hk:k<r.1.length) (hs:T8 r k=false):z7 r=false:=by
 unfold z7
 rw[decide_eq_false_iff_not]
 intro hh
 have:=hh k hk h1
 rw[hs] at this
 cases this
theorem gB {r:o6} (h:∀k,k<r.1.length->1<=k->T8 r k=true):z7 r=true:=decide_eq_true h
end Go.Fl

/- Steps of rows, and their matrices. No program in sight. -/
namespace Go.Fl
open Go
def P0 (f:Int->Bool):List Int->Int
 | []=>-1
 | x::l=>if f x=true then 0 else if P0 f l<0 then -1 else P0 f l+1
theorem WS {f:Int->Bool}:∀{l:List Int},(∀i,i<l.length->f (b6 l i)=false)->P0 f l=-1
 | [],_=>rfl
 | x::l,h=>by
  have h0:=h 0 (by simp)
  have e:b6 (x::l) 0=x:=rfl
  rw[e] at h0
  rw[P0,if_neg (by rw[h0]; simp),WS fun i hi=>h (i+1) (by simpa using hi)]
  rfl
theorem QU {f:Int->Bool}:∀{l:List Int} {k:Nat},k<l.length->(∀i,i<k->f (b6 l i)=false)->f (b6 l k)=true->P0 f l=k
 | [],k,hk,_,_=>by simp at hk
 | x::l,0,_,_,h=>by
  have e:b6 (x::l) 0=x:=rfl
  rw[e] at h
  rw[P0,if_pos h]; rfl
 | x::l,k+1,hk,hn,h=>by
  have h0:=hn 0 zo
  have e:b6 (x::l) 0=x:=rfl
  rw[e] at h0
  have ih:=QU (l:=l) (k:=k) (by simpa using hk) (fun i hi=>hn (i+1) zo) h
  rw[P0,if_neg (by rw[h0]; simp),ih,if_neg zo]
  rfl
theorem WR {f:Int->Bool}:∀{l:List Int},decide (0<=P0 f l)=l.any f
 | []=>rfl
 | x::l=>by
  have ih:=WR (f:=f) (l:=l)
  rw[List.any_cons,P0]
  by_cases h:f x=true
  ·rw[if_pos h,h]; rfl
  ·rw[if_neg h,Bool.eq_false_iff.2 h,Bool.false_or,<- ih]
   split
   ·rw[decide_eq_decide]; omega
   ·rw[decide_eq_decide]; omega
def o4 (l:List Int):Int:=b6 l (l.length-1)
def O1 (row:List Int) (b:Int):List Int:=DD (row.take (row.length-1)) (P0 (fun y=>decide (b=y)) (row.take (row.length-1))+1).toNat (o4 row)
def L9 (r:o6) (kind:Int):o6:=if kind=0 then (r.1,O1 r.2 (o4 r.1)) else (O1 r.1 (o4 r.2),r.2)
def w7 (r:o6) (kind:Int):Int:=if kind=0 then o4 r.1 else o4 r.2
def y6 (r:o6) (kind:Int):Int:=if kind=0 then o4 r.2 else o4 r.1
def I0 (row:List Int) (l b:Int):Nat->List Int
 | 0=>[]
 | i+1=>I0 row l b i++(if b6 row i≠l then [b6 row i] else [])++(if b6 row i=b then [l] else [])
theorem NQ {row:List Int} {i:Nat} (h:i<row.length):row.take (i+1)=row.take i++[b6 row i]:=by
 rw[List.take_succ_eq_append_getElem h]
 congr 2
 simp[b6,h]
theorem SV {row:List Int} {n:Nat} (hl:row.length=n) (h:1<=n):row.take (n-1)++[o4 row]=row:=by
 unfold o4
 rw[hl,<- NQ zo,show n-1+1=n by omega,<- hl,List.take_length]
theorem wD {row:List Int} {n j:Nat} {b:Int} (hp:A6 row n) (hj:j<n-1) (hb:b6 row j=b):P0 (fun y=>decide (b=y)) (row.take (row.length-1))=(j:Int):=by
 have hl:=hp.2.2
 have ht:(row.take (row.length-1)).length=n-1:=by rw[List.length_take]; omega
 have hg:∀i,i<n-1->b6 (row.take (row.length-1)) i=b6 row i:=fun i hi=>by
  unfold b6
  simp only[List.getD_eq_getElem?_getD]
  rw[List.getElem?_take,if_pos zo]
 refine QU zo (fun i hi=>?_) ?_
 ·rw[hg i zo]
  refine decide_eq_false fun e=>?_
  have:=KB hp.2.1 (i:=i) (j:=j) zo zo (by rw[hb,<- e])
  omega
 ·rw[hg j hj,hb]; exact decide_eq_true rfl
theorem lI {row:List Int} {n j:Nat} {b:Int} (hp:A6 row n) (hj:j<n-1) (hb:b6 row j=b):O1 row b=row.take (j+1)++[o4 row]++(row.take (n-1)).drop (j+1):=by
 have hl:=hp.2.2
 unfold O1 DD
 rw[wD hp hj hb,show ((j:Int)+1).toNat=j+1 by omega,hl,List.take_take,Nat.min_eq_left zo]
theorem ZD {row:List Int} {n:Nat} {b:Int} (hl:row.length=n) (h:1<=n):(O1 row b).Perm row:=by
 unfold O1 DD
 generalize (P0 (fun y=>decide (b=y)) (row.take (row.length-1))+1).toNat=i
 have h1:((row.take (row.length-1)).take i++[o4 row]++(row.take (row.length-1)).drop i).Perm ((row.take (row.length-1)).take i++(row.take (row.length-1)).drop i++[o4 row]):=by
  rw[List.append_assoc,List.append_assoc]
  exact List.Perm.append_left _ List.perm_append_comm
 rw[List.take_append_drop,hl,SV hl h] at h1
 rw[hl]; exact h1
theorem zQ {p q:List Int} {n:Nat} (h:q.Perm p) (hp:A6 p n):A6 q n:=by
 have hl:=h.length_eq
 refine ⟨fun i hi=>?_,h.nodup_iff.2 hp.2.1,by rw[hl]; exact hp.2.2⟩
 have:b6 q i∈p:=h.mem_iff.1 (E6 hi)
 obtain ⟨k,hk,e⟩:=List.mem_iff_getElem.1 this
 have:=hp.1 k hk
 rw[show b6 p k=p[k] by simp[b6,hk],e] at this
 exact this
theorem gC {r:o6} (h:F2 r) (hi:z7 r=true):F2 (r.2,r.1)/\z7 (r.2,r.1)=true:=by
 have hl:=h.len
 refine ⟨⟨hl.symm,by show 2<=r.2.length; rw[hl]; exact h.two,by show r.2.length<=8; rw[hl]; exact h.le,by show A6 r.2 r.2.length; rw[hl]; exact h.p2,by show A6 r.1 r.2.length; rw[hl]; exact h.p1⟩,decide_eq_true fun k hk h1=>?_⟩
 have hk:k<r.2.length:=hk
 have hi:=of_decide_eq_true hi k zo h1
 rw[QT h zo,Bool.not_eq_true'] at hi
 unfold DJ at hi
 unfold T8
 rw[<- Bool.not_eq_true,List.all_eq_true] at hi
 refine Classical.byContradiction fun hn=>hi fun a ha=>?_
 refine Classical.byContradiction fun hq=>hn ?_
 exact List.any_eq_true.2 ⟨a,ha,by simpa using hq⟩
theorem WY {r:o6} (h:F2 r) (hi:z7 r=true):o4 r.1≠o4 r.2:=by
 have hl:=h.len
 have h2:=h.two
 have hi:=of_decide_eq_true hi (r.1.length-1) zo zo
 obtain ⟨a,ha,hb⟩:=List.any_eq_true.1 hi
 simp only[Bool.not_eq_true',decide_eq_false_iff_not] at hb
 intro e
 have h1:=SV (row:=r.1) rfl zo
 have d:=h.p1.2.1
 rw[<- h1] at d
 have:a≠o4 r.1:=fun e=>(List.nodup_append.1 d).2.2 a ha (o4 r.1) (by simp) e
 have ha2:a∈r.2:=by
  have hm:a∈r.1:=List.mem_of_mem_take ha
  obtain ⟨i,hi',e'⟩:=List.mem_iff_getElem.1 hm
  have hr:=h.p1.1 i hi'
  rw[show b6 r.1 i=r.1[i] by simp[b6,hi'],e'] at hr
  obtain ⟨j,hj,ej⟩:=NF h.p2.2.1 h.p2.1 h.p2.2.2 hr.1 hr.2
  rw[<- ej]; exact E6 zo
 have h3:=SV (row:=r.2) hl zo
 rw[<- h3] at ha2
 rcases List.mem_append.1 ha2 with ha2 | ha2
 ·exact hb ha2
 ·rw[List.mem_singleton,<- e] at ha2; exact this ha2
theorem aX {row:List Int} {n:Nat} {b:Int} (hp:A6 row n) (h0:0<=b/\b<n) (hb:b≠o4 row):∃j,j<n-1/\b6 row j=b:=by
 obtain ⟨j,hj,e⟩:=NF hp.2.1 hp.1 hp.2.2 h0.1 h0.2
 refine ⟨j,Nat.lt_of_le_of_ne zo fun e'=>hb ?_,e⟩
 unfold o4
 rw[hp.2.2,<- e',e]
theorem BX {row:List Int} {n:Nat} (hp:A6 row n) (h:1<=n):0<=o4 row/\o4 row<n:=by
 have:=hp.1 (row.length-1) (by have:=hp.2.2; omega)
 exact this
theorem iA {r:o6} (h:F2 r) (hi:z7 r=true):F2 (r.1,O1 r.2 (o4 r.1))/\z7 (r.1,O1 r.2 (o4 r.1))=true:=by
 have hl:=h.len
 have h2:=h.two
 have hp:=ZD (b:=o4 r.1) hl zo
 have hv:F2 (r.1,O1 r.2 (o4 r.1)):=⟨by show (O1 r.2 (o4 r.1)).length=_; rw[hp.length_eq,hl],h.two,h.le,h.p1,zQ hp h.p2⟩
 refine ⟨hv,decide_eq_true fun k hk h1=>?_⟩
 have hk:k<r.1.length:=hk
 obtain ⟨j,hj,ej⟩:=aX h.p2 (BX h.p1 zo) (WY h hi)
 have es:=lI h.p2 hj ej
 by_cases c:k<=j
 ·have e:(O1 r.2 (o4 r.1)).take k=r.2.take k:=by
   rw[es,List.append_assoc,List.take_append_of_le_length (by rw[List.length_take]; omega),List.take_take,Nat.min_eq_left zo]
  have:=of_decide_eq_true hi k hk h1
  unfold T8 at this ⊢
  show (r.1.take k).any (fun a=>!decide (a∈(O1 r.2 (o4 r.1)).take k))=true
  rw[e]; exact this
 ·rw[QT hv (Nat.le_of_lt hk)]
  have hm:o4 r.1∈(O1 r.2 (o4 r.1)).take k:=by
   rw[es,List.append_assoc,List.take_append,List.mem_append]
   left
   rw[List.take_take,Nat.min_eq_right zo,NQ zo,ej]
   simp
  have hn:o4 r.1∉r.1.take k:=fun hm=>by
   have d:=h.p1.2.1
   rw[<- SV (row:=r.1) rfl zo] at d
   refine (List.nodup_append.1 d).2.2 (o4 r.1) ?_ (o4 r.1) (by simp) rfl
   exact List.Sublist.subset (List.take_sublist_take_left zo) hm
  rw[Bool.not_eq_true']
  unfold DJ
  refine Bool.eq_false_iff.2 fun ha=>hn ?_
  have:=List.all_eq_true.1 ha (o4 r.1) hm
  simpa using this
theorem RD {r:o6} (h:F2 r) (hi:z7 r=true) (kind:Int):F2 (L9 r kind)/\z7 (L9 r kind)=true:=by
 unfold L9
 split
 ·exact iA h hi
 ·obtain ⟨h1,h2⟩:=gC h hi
  obtain ⟨h3,h4⟩:=iA h1 h2
  exact gC h3 h4
theorem iE {row:List Int} {n j:Nat} {b:Int} (hp:A6 row n) (hj:j<n-1) (hb:b6 row j=b):∀{i:Nat},i<=j->I0 row (o4 row) b i=row.take i
 | 0,_=>rfl
 | i+1,hi=>by
  have hl:=hp.2.2
  rw[I0,iE hp hj hb zo,if_pos,if_neg,List.append_nil,NQ zo]
  ·intro e
   have:=KB hp.2.1 (i:=i) (j:=j) zo zo (by rw[e,hb])
   omega
  ·intro e
   have:=KB hp.2.1 (i:=i) (j:=row.length-1) zo zo e
   omega
theorem iD {row:List Int} {n j:Nat} {b:Int} (hp:A6 row n) (hj:j<n-1) (hb:b6 row j=b):∀{i:Nat},j<i->i<=n-1->I0 row (o4 row) b i=row.take (j+1)++[o4 row]++(row.take i).drop (j+1)
 | 0,q,_=>by omega
 | i+1,q,hi=>by
  have hl:=hp.2.2
  have hne:b6 row i≠o4 row:=fun e=>by
   have:=KB hp.2.1 (i:=i) (j:=row.length-1) zo zo e
   omega
  by_cases e:i=j
  ·subst e
   rw[I0,iE hp hj hb (Nat.le_refl _),if_pos hne,if_pos hb,<- NQ zo,List.drop_of_length_le (by rw[List.length_take]; omega),List.append_nil]
  ·rw[I0,iD hp hj hb zo zo,if_pos hne,if_neg,List.append_nil,NQ (row:=row) (i:=i) zo,List.drop_append_of_le_length (by rw[List.length_take]; omega),List.append_assoc]
   intro e'
   have:=KB hp.2.1 (i:=i) (j:=j) zo zo (by rw[e',hb])
   omega
theorem iC {row:List Int} {n:Nat} {b:Int} (hp:A6 row n) (h2:2<=n) (h0:0<=b/\b<n) (hb:b≠o4 row):I0 row (o4 row) b row.length=O1 row b:=by
 obtain ⟨j,hj,ej⟩:=aX hp h0 hb
 have hl:=hp.2.2
 rw[hl,show n=(n-1)+1 by omega,I0,iD hp hj ej zo (Nat.le_refl _),lI hp hj ej]
 have e:b6 row (n-1)=o4 row:=by unfold o4; rw[hl]
 rw[if_neg (fun a=>a e),if_neg (fun a=>hb (by rw[<- a,e])),List.append_nil,List.append_nil]
theorem XT {row:List Int} {l b:Int}:∀{i:Nat},(I0 row l b i).length<=2*i
 | 0=>Nat.le_refl _
 | i+1=>by
  rw[I0,List.length_append,List.length_append]
  have:=XT (row:=row) (l:=l) (b:=b) (i:=i)
  have h1:(if b6 row i≠l then [b6 row i] else []).length<=1:=by split<;>simp
  have h2:(if b6 row i=b then [l] else []).length<=1:=by split<;>simp
  omega
abbrev ZM:=List (List Int)
structure FA (n B:Nat) (m:ZM):Prop where
 len:m.length=n
 row:∀i,i<n->(b6 m i).length=n
 rg:∀i j,0<=b6 (b6 m i) j/\b6 (b6 m i) j<=B
def OI (to col:Nat) (row:List Int):List Int:=row.set to (b6 row to+b6 row col)
def O6 (m:ZM) (to col:Nat):ZM:=m.map (OI to col)
theorem YA {m:ZM} {f:List Int->List Int} {i:Nat} (h:i<m.length):b6 (m.map f) i=f (b6 m i):=by simp[b6,h]
theorem RO {l:List Int} {k j:Nat} {x:Int} (h:k<l.length):b6 (l.set k x) j=if j=k then x else b6 l j:=by
 by_cases e:j=k
 ·subst e; rw[if_pos rfl]; simp[b6,h]
 ·rw[if_neg e]; simp[b6,List.getElem?_set_ne (Ne.symm e)]
theorem nR {n B:Nat} {m:ZM} {to col:Nat} (h:FA n B m) (ht:to<n):FA n (2*B) (O6 m to col):=by
 have hl:(O6 m to col).length=n:=by unfold O6; rw[List.length_map,h.len]
 refine ⟨hl,fun i hi=>?_,fun i j=>?_⟩
 ·unfold O6; rw[YA (by rw[h.len]; exact hi)]; unfold OI; rw[List.length_set]; exact h.row i hi
 ·by_cases hi:i<n
  ·unfold O6; rw[YA (by rw[h.len]; exact hi)]; unfold OI
   rw[RO (by rw[h.row i hi]; exact ht)]
   have a:=h.rg i to; have b:=h.rg i col; have d:=h.rg i j
   split<;>omega
  ·rw[show b6 (O6 m to col) i=[] from by simp[b6,List.getElem?_eq_none (show (O6 m to col).length<=i by omega)]; rfl]
   show 0<=(0:Int)/\(0:Int)<=_
   omega
end Go.Fl

/- The matrix of a step, and products with it. No program in sight. -/
namespace Go.Fl
open Go
def B8 (n:Nat):List (List Int):=j8 n fun i=>(List.replicate n 0).set i 1
def Q6 (n p q:Nat):ZM:=(B8 n).set p ((b6 (B8 n) p).set q 1)
theorem iT {n i j:Nat} (hi:i<n) (hj:j<n):b6 (b6 (B8 n) i) j=if i=j then 1 else 0:=by
 unfold B8
 rw[r5 hi,RO (by rw[List.length_replicate]; exact hi)]
 by_cases e:j=i
 ·rw[if_pos e,if_pos e.symm]
 ·rw[if_neg e,if_neg (Ne.symm e)]; simp[b6,hj]
theorem TL {n:Nat}:(B8 n).length=n:=p8
theorem NT {n i:Nat} (h:i<n):(b6 (B8 n) i).length=n:=by unfold B8; rw[r5 h,List.length_set,List.length_replicate]
theorem eV {n p q i:Nat} (hp:p<n) (h:i<n):(b6 (Q6 n p q) i).length=n:=by
 unfold Q6
 by_cases e:i=p
 ·subst e
  rw[show b6 ((B8 n).set i ((b6 (B8 n) i).set q 1)) i=(b6 (B8 n) i).set q 1 by simp[b6,TL,h],List.length_set,NT h]
 ·rw[show b6 ((B8 n).set p ((b6 (B8 n) p).set q 1)) i=b6 (B8 n) i by simp[b6,List.getElem?_set_ne (Ne.symm e)],NT h]
theorem yI {n p q i j:Nat} (hp:p<n) (hq:q<n) (hpq:p≠q) (hi:i<n) (hj:j<n):b6 (b6 (Q6 n p q) i) j=(if i=j then 1 else 0)+(if i=p/\j=q then 1 else 0):=by
 unfold Q6
 by_cases e:i=p
 ·subst e
  rw[show b6 ((B8 n).set i ((b6 (B8 n) i).set q 1)) i=(b6 (B8 n) i).set q 1 by simp[b6,TL,hi],RO (by rw[NT hi]; exact hq),iT hi hj]
  by_cases c:j=q
  ·subst c; rw[if_pos rfl,if_neg hpq,if_pos ⟨rfl,rfl⟩]; rfl
  ·rw[if_neg c,if_neg (show ¬(i=i/\j=q) from fun a=>c a.2)]; omega
 ·rw[show b6 ((B8 n).set p ((b6 (B8 n) p).set q 1)) i=b6 (B8 n) i by simp[b6,List.getElem?_set_ne (Ne.symm e)],iT hi hj,if_neg (show ¬(i=p/\j=q) from fun a=>e a.1)]; omega
theorem uX {n p q:Nat} (hp:p<n) (hq:q<n) (hpq:p≠q):∀k j,0<=b6 (b6 (Q6 n p q) k) j/\b6 (b6 (Q6 n p q) k) j<=1:=fun k j=>by
 have hel:(Q6 n p q).length=n:=by unfold Q6; rw[List.length_set,TL]
 by_cases hk:k<n
 ·by_cases hj:j<n
  ·rw[yI hp hq hpq hk hj]
   split<;>split<;>omega
  ·rw[v5 (show (b6 (Q6 n p q) k).length<=j by rw[eV hp hk]; omega)]
   show 0<=(0:Int)/\(0:Int)<=1
   omega
 ·rw[show b6 (Q6 n p q) k=[] from by simp[b6,List.getElem?_eq_none (show (Q6 n p q).length<=k by omega)]<;>rfl]
  show 0<=(0:Int)/\(0:Int)<=1
  omega
end Go.Fl

/- Contracts: unit matrices. -/
namespace Go.Fl
open Go Go.Proofs
open d5 renaming op->tO
open i9 renaming op->rO
set_option maxRecDepth 100000

def L4 (n k:Nat):List (List Int):=j8 n fun i=>if i<k then (List.replicate n 0).set i 1 else []
theorem GI {n:Nat}:List.replicate n []=L4 n 0:=by
 refine D6 (by rw[List.length_replicate]; exact p8.symm) fun i hi=>?_
 rw[List.length_replicate] at hi
 unfold L4
 rw[r5 hi,if_neg zo]
 simp[b6,hi]
theorem GG {n:Nat}:L4 n n=B8 n:=B5 fun _ hi=>if_pos hi
theorem ak0 {n k j:Nat} (h:k<=j):b6 (L4 n k) j=[]:=by
 by_cases hj:j<n
 ·unfold L4; rw[r5 hj,if_neg zo]
 ·exact v5 (by show (j8 _ _).length<=j; rw[p8]; omega)
theorem KD {α:Type} [Inhabited α] {l:List α} {k:Nat} {x:α} (h:k<l.length):b6 (l.set k x) k=x:=by simp[b6,h]
theorem NA {α:Type} [Inhabited α] {l:List α} {k j:Nat} {x:α} (h:j≠k):b6 (l.set k x) j=b6 l j:=by simp[b6,List.getElem?_set_ne (Ne.symm h)]
theorem GH {n k:Nat} (hk:k<n):((L4 n k).set k (List.replicate n 0)).set k ((b6 ((L4 n k).set k (List.replicate n 0)) k).set k 1)=L4 n (k+1):=by
 have hl:(L4 n k).length=n:=p8
 rw[KD zo]
 refine D6 (by rw[List.length_set,List.length_set,hl]; exact p8.symm) fun i hi=>?_
 rw[List.length_set,List.length_set,hl] at hi
 by_cases e:i=k
 ·subst e
  rw[KD (by rw[List.length_set]; omega)]
  unfold L4; rw[r5 hi,if_pos zo]
 ·rw[NA e,NA e]
  unfold L4; rw[r5 hi,r5 hi]
  by_cases q:i<k
  ·rw[if_pos q,if_pos zo]
  ·rw[if_neg q,if_neg zo]
theorem ac3 {hs:List Value} {rows:List (List Int)} {k:Nat} {v:Value} {xs:List Int} (hk:k<hs.length) (hr:k<rows.length):k<(hs.set k v).length/\b6 (hs.set k v) k=v/\b6 (rows.set k xs) k=xs/\∀j,j≠k->(j<(hs.set k v).length->j<hs.length/\b6 (hs.set k v) j=b6 hs j/\b6 (rows.set k xs) j=b6 rows j)/\((hs.set k v).length<=j->hs.length<=j) :=
 ⟨by rw[List.length_set]; exact hk,KD hk,KD hr,fun j hj=>⟨fun h=>⟨by rw[List.length_set] at h; exact h,NA hj,NA hj⟩,fun h=>by rw[List.length_set] at h; exact h⟩⟩
theorem ac4 {n:Nat}:∀j,j<(List.replicate n (Value.slice none 0 0)).length->b6 (List.replicate n (Value.slice none 0 0)) j=.slice none 0 0/\b6 (List.replicate n ([]:List Int)) j=[]:=fun j hj=>by
 rw[List.length_replicate] at hj
 constructor<;>simp[b6,hj]
end Go.Fl

/-
 DERIVED: THE SHELF's CONTRACTS AT THIS DUMP, IN PLAIN WORDS (tools/lay-plain.mjs out of 'YthfaleobmefibaaGreatInsRaw.lean', which tools/lay-shelf.mjs wrote): THE SAME DECLARATIONS UNDER THE SAME NAMES: 'import', 'namespace', 'open', 'def', 'theorem' AND NOTHING ELSE: no command of the shelf's: FOR A HAND-IN. Each laying: the table of numbers ('.._ren') and one theorem, a field a fact of the dump's own or the kernel's comparison; each contract: ONE APPLICATION.
-/
namespace Go.Proofs
open Go.Shelf
def Tryz.laysIns_ren:Go.Shelf.Ren:=⟨fun | 21=>184 | 27=>207 | 28=>208 | 35=>220 | 39=>226 | n=>n,fun | 22=>22 | 3=>3 | 4=>4 | 0=>0 | n=>n,fun | n=>n⟩
theorem Tryz.laysIns:Go.Proofs.Lays2.n21 Tryz.prog Tryz.laysIns_ren:={
 mixed:=by kernel_rfl
 f21:=Tryz.func184.trans (congrArg some (by kernel_rfl))
 f27:=Tryz.func207.trans (congrArg some (by kernel_rfl))
 f28:=Tryz.func208.trans (congrArg some (by kernel_rfl))
 f35:=Tryz.func220.trans (congrArg some (by kernel_rfl))
 f39:=Tryz.func226.trans (congrArg some (by kernel_rfl))
 t0:=Tryz.underlying0
 a0:=Tryz.isAgg0
 z0:=Tryz.sizeOf0
 v0:=Tryz.zeroValue0
 t3:=Tryz.underlying3
 a3:=Tryz.isAgg3
 z3:=Tryz.sizeOf3
 v3:=Tryz.zeroValue3
 t4:=Tryz.underlying4
 a4:=Tryz.isAgg4
 z4:=Tryz.sizeOf4
 v4:=Tryz.zeroValue4
 t22:=Tryz.underlying22
 a22:=Tryz.isAgg22
 z22:=Tryz.sizeOf22
 v22:=Tryz.zeroValue22
 i3:=by kernel_rfl }
end Go.Proofs

/- Contracts: irreducible rows, steps of rows. -/
namespace Go.Fl
open Go Go.Proofs
open d5 renaming op->tO
open i9 renaming op->rO
set_option maxRecDepth 100000

def E0 (r:o6):Int:=if H7 r≠0 then H7 r else if z7 r=true then 0 else 3
theorem WN {r:o6} (h:E0 r=0):F2 r/\z7 r=true:=by
 unfold E0 at h
 by_cases c:H7 r=0
 ·rw[if_neg (fun a=>a c)] at h
  by_cases c2:z7 r=true
  ·exact ⟨NJ c,c2⟩
  ·rw[if_neg c2] at h; omega
 ·rw[if_pos c] at h; exact absurd h c
theorem gI {f:Int->Bool}:∀{l:List Int},-1<=P0 f l/\P0 f l<l.length
 | []=>by show -1<=(-1:Int)/\(-1:Int)<_; simp
 | x::l=>by
  have ih:=gI (f:=f) (l:=l)
  rw[P0,List.length_cons]
  split
  ·omega
  ·split<;>omega
theorem sH (r:o6) (v:F2 r):Ct Tryz.prog 105 [b8 eO r] (kB (z7 r)):=by
 have hv1:=v.len
 have hv2:=v.two
 have hv3:=v.le
 have hrb:∀i,i<r.1.length->0<=b6 r.1 i/\b6 r.1 i<100:=fun i hi=>v.b1 _ (E6 hi)
 have hub:∀i,i<r.2.length->0<=b6 r.2 i/\b6 r.2 i<100:=fun i hi=>v.b2 _ (E6 hi)
 have hpl:=jP v
 refine Ct.mk Tryz.func105 rfl Tryz.ntmps105 rfl (fun w J=>?_); refine g8 ?_; refine jb 1 rfl ?_; refine m9 ?_; refine Tr.for1 (σ:=Nat) [⟨1,true,_,_⟩] [⟨1,_,_⟩] (fun k=>[⟨3,true,[],kI (k:Int)⟩]) (fun k=>[]) (fun k=>1<=k/\k<=r.1.length/\∀j,j<k->1<=j->T8 r j=true) (fun k=>∀j,j<r.1.length->1<=j->T8 r j=true) (fun k=>r.1.length-k) (1) ⟨Nat.le_refl _,by omega,fun j hj hj1=>absurd hj1 zo⟩ (d6.mk (.i rfl (by rfl)<|zk) (zk) rfl) ?_ ?_
 ·rintro k ⟨hk1,hk2,hR0⟩
  refine jn ?_; refine u5 ?_; refine jq ?_ ?_
  ·intro h2
   refine K3 ?_
   refine Tr.for1 (σ:=Nat) [⟨1,true,_,_⟩,⟨3,true,_,_⟩] [⟨1,_,_⟩] (fun i=>[⟨5,true,[],kI (i:Int)⟩,⟨4,true,[],kB (DJ r k i)⟩]) (fun i=>[]) (fun i=>i<=k) (fun i=>i=k) (fun i=>k-i) (0) (Nat.zero_le _) (d6.mk (.i rfl zi<|.b rfl ad6.symm<|zk) (zk) rfl) ?_ ?_
   ·intro i hR1
    refine jn ?_; refine j1 ?_; refine jq ?_ ?_
    ·intro h6
     refine g9 ?_; refine Tr.draw 11 o0 (by kernel_rfl) ?_; refine l6 ?_; refine i9.gd rfl rfl rfl (FY rfl id rfl id (fun hp=>by simp at hp; omega)) rfl rfl ?_; refine i7 ?_
     first | refine i9.gd rfl rfl rfl (F6 rfl id rfl id rfl (fun hp=>by simp at hp; omega)) rfl rfl ?_ | refine i9.gd rfl rfl rfl (AY rfl id rfl id rfl (fun hp=>by simp at hp; omega)) rfl rfl ?_
     refine g8 ?_; refine d5.gd rfl rfl rfl (i6 (fun hp=>cD _ _) (.a rfl id<|.a rfl id<|.nil)) rfl rfl ?_; refine u5 ?_
     exact d9.lp (i+1) zi zo (d6.mk (.i rfl zi<|.b rfl (ad5 zo).symm<|zk) (zk) rfl)
    ·intro h6
     replace h6:=Int.not_lt.1 h6
     refine g9 ?_
     exact d9.cut (i) zo (d6.mk (.i rfl zi<|.b rfl zi<|zk) (zk) rfl)
   ·intro i hEi
    refine je ?_; refine l3 ?_; refine Tr.cnd rfl ?_ ?_
    ·intro h9
     rw[hEi] at h9
     have hno:=wA v (k:=k) zo zo h9
     refine v9 ?_; exact g6.res1 (fn:=Tryz.f105) rfl (.b rfl hno.symm<|.nil)
    ·intro h9
     rw[hEi] at h9
     have hyes:T8 r k=true:=by rw[QT v zo,h9]; rfl
     refine j1 ?_
     exact d9.lp (k+1) ⟨by omega,by omega,fun j hj hj1=>by (rcases Nat.lt_succ_iff_lt_or_eq.1 hj with h | h; exact hR0 j h hj1; rw[h]; exact hyes)⟩ zo (d6.mk (.i rfl zi<|zk) (zk) rfl)
  ·intro h2
   replace h2:=Int.not_lt.1 h2
   refine g9 ?_
   exact d9.cut (k) (fun j hj hj1=>hR0 j zo hj1) (d6.mk (.i rfl zi<|zk) (zk) rfl)
 ·intro k hE0
  refine je ?_; refine j3 ?_; exact g6.res1 (fn:=Tryz.f105) rfl (.b rfl (gB hE0).symm<|.nil)

theorem rR (l:List Int) (φ:Int->Prop) (f:Int->Bool) (hl:∀x∈l,φ x):Ct Tryz.prog 149 [b8 (eL eI) l,FQ Tryz.prog φ (fun x:Int=>[kI x]) (fun x:Int=>kB (f x))] (kI (P0 f l)):=by
 refine Ct.mk Tryz.func149 rfl Tryz.ntmps149 rfl (fun w J=>?_); refine Tr.fact (s:=0) rfl (fun _ _ h=>S4 h) (fun hb=>?_); refine B3 ?_
 refine Tr.for1 (σ:=Nat) [⟨0,true,_,_⟩,⟨1,true,_,_⟩,⟨7,true,_,_⟩] [] (fun k=>[⟨8,true,[],kI (k:Int)⟩]) (fun k=>[]) (fun k=>k<=l.length/\∀i,i<k->f (b6 l i)=false) (fun k=>∀i,i<l.length->f (b6 l i)=false) (fun k=>l.length-k) (0) ⟨by omega,fun i h=>absurd h zo⟩ (d6.mk (.i rfl zi<|zk) (.nil) rfl) ?_ ?_
 ·rintro k ⟨hk,hR⟩
  refine jn ?_; refine l3 ?_; refine jq ?_ ?_
  ·intro h2
   refine P1 ?_; refine tO (RS (b6 l k) rfl uu (fun _=>hl _ (E6 zo)) (.a rfl uu<|.nil)) rfl rfl ?_; refine g8 ?_; refine Tr.cnd rfl ?_ ?_
   ·intro h4
    refine B3 ?_; exact g6.res1 (fn:=Tryz.f149) rfl (.i rfl (QU zo hR h4).symm<|.nil)
   ·intro h4
    refine j3 ?_
    exact d9.lp (k+1) ⟨by omega,fun i hi=>by (rcases Nat.lt_succ_iff_lt_or_eq.1 hi with h | h; exact hR i h; subst h; exact h4)⟩ zo (d6.mk (.i rfl zi<|zk) (.nil) rfl)
  ·intro h2
   replace h2:=Int.not_lt.1 h2
   refine g9 ?_
   exact d9.cut (k) (fun i hi=>hR i zo) (d6.mk (.i rfl zi<|zk) (.nil) rfl)
 ·intro k hE
  refine je ?_; refine j3 ?_; exact g6.res1 (fn:=Tryz.f149) rfl (.i rfl (WS hE).symm<|.nil)

theorem UZ (l:List Int) (φ:Int->Prop) (f:Int->Bool) (hl:∀x∈l,φ x):Ct Tryz.prog 99 [b8 (eL eI) l,FQ Tryz.prog φ (fun x:Int=>[kI x]) (fun x:Int=>kB (f x))] (kB (l.any f)):=by
 refine Ct.mk Tryz.func99 rfl Tryz.ntmps99 rfl (fun w J=>?_); refine m9 ?_; refine tO (i6 (fun hp=>rR _ _ _ (by assumption)) (.a rfl uu<|.a rfl uu<|.nil)) rfl rfl ?_; refine l6 ?_; exact g6.res1 (fn:=Tryz.f99) rfl (.b rfl WR<|.nil)

theorem dU (l:List Int) (x:Int):Ct Tryz.prog 185 [b8 (eL eI) l,kI x] (kI (P0 (fun y=>decide (x=y)) l)):=by
 refine Ct.mk Tryz.func185 rfl Tryz.ntmps185 rfl (fun w J=>?_); refine Tr.fact (s:=0) rfl (fun _ _ h=>S4 h) (fun hb=>?_); refine B3 ?_
 refine Tr.for1 (σ:=Nat) [⟨0,true,_,_⟩,⟨1,true,_,_⟩,⟨7,true,_,_⟩] [] (fun k=>[⟨8,true,[],kI (k:Int)⟩]) (fun k=>[]) (fun k=>k<=l.length/\∀i,i<k->decide (x=b6 l i)=false) (fun k=>∀i,i<l.length->decide (x=b6 l i)=false) (fun k=>l.length-k) (0) ⟨by omega,fun i h=>absurd h zo⟩ (d6.mk (.i rfl zi<|zk) (.nil) rfl) ?_ ?_
 ·rintro k ⟨hk,hR⟩
  refine jn ?_; refine l3 ?_; refine jq ?_ ?_
  ·intro h2
   refine JP ?_; refine jq ?_ ?_
   ·intro h4
    refine B3 ?_; exact g6.res1 (fn:=Tryz.f185) rfl (.i rfl (QU zo hR (decide_eq_true h4)).symm<|.nil)
   ·intro h4
    refine j3 ?_
    exact d9.lp (k+1) ⟨by omega,fun i hi=>by (rcases Nat.lt_succ_iff_lt_or_eq.1 hi with h | h; exact hR i h; subst h; exact decide_eq_false h4)⟩ zo (d6.mk (.i rfl zi<|zk) (.nil) rfl)
  ·intro h2
   replace h2:=Int.not_lt.1 h2
   refine g9 ?_
   exact d9.cut (k) (fun i hi=>hR i zo) (d6.mk (.i rfl zi<|zk) (.nil) rfl)
 ·intro k hE
  refine je ?_; refine j3 ?_; exact g6.res1 (fn:=Tryz.f185) rfl (.i rfl (WS hE).symm<|.nil)

theorem tH (l:List Int) (x:Int):Ct Tryz.prog 155 [b8 (eL eI) l,kI x] (kB (l.any fun y=>decide (x=y))):=by
 refine Ct.mk Tryz.func155 rfl Tryz.ntmps155 rfl (fun w J=>?_); refine m9 ?_; refine tO (i6 (fun hp=>dU _ _) (.a rfl uu<|.a rfl uu<|.nil)) rfl rfl ?_; refine l6 ?_; exact g6.res1 (fn:=Tryz.f155) rfl (.b rfl WR<|.nil)

theorem rV (x:Int) (r:o6) (k:Nat) (hk:k<=r.2.length):Ct Tryz.prog 154 [kI x,r7 eO r,r7 eI (k:Int)] (kB (!decide (x∈r.2.take k))):=by
 refine Ct.mk Tryz.func154 rfl Tryz.ntmps154 rfl (fun w J=>?_); refine u5 ?_; refine tO (FY rfl uu rfl uu (fun _=>zo)) rfl rfl ?_; refine i5 ?_; refine tO (i6 (fun hp=>tH _ _) (.a rfl uu<|.a rfl uu<|.nil)) rfl rfl ?_; refine l6 ?_; exact g6.res1 (fn:=Tryz.f154) rfl (.b rfl (by congr 1; rw[Bool.eq_iff_iff]; simp[List.any_eq_true])<|.nil)

theorem rU (r:o6) (v:F2 r):Ct Tryz.prog 109 [b8 eO r] (kB (z7 r)):=by
 have hv1:=v.len
 have hv2:=v.two
 have hv3:=v.le
 have hrb:∀i,i<r.1.length->0<=b6 r.1 i/\b6 r.1 i<100:=fun i hi=>v.b1 _ (E6 hi)
 have hub:∀i,i<r.2.length->0<=b6 r.2 i/\b6 r.2 i<100:=fun i hi=>v.b2 _ (E6 hi)
 have hpl:=jP v
 refine Ct.mk Tryz.func109 rfl Tryz.ntmps109 rfl (fun w J=>?_); refine g8 ?_; refine jb 1 rfl ?_; refine l6 ?_; refine Tr.frzB 1 [1] eO ⟨rfl,trivial⟩ rfl ?_; refine jn ?_; refine i5 ?_; refine ja 3 ?_; refine i7 ?_; refine Tr.for1 (σ:=Nat) [⟨1,true,_,_⟩] [] (fun k=>[⟨3,true,[3],y5 3 0⟩]) (fun k=>[⟨3,[],j5 [kI (k:Int)]⟩]) (fun k=>1<=k/\k<=r.1.length/\∀j,j<k->1<=j->T8 r j=true) (fun k=>∀j,j<r.1.length->1<=j->T8 r j=true) (fun k=>r.1.length-k) (1) ⟨Nat.le_refl _,by omega,fun j hj hj1=>absurd hj1 zo⟩ (d6.mk (zk) (.e (by rfl) rfl<|.nil) rfl) ?_ ?_
 ·rintro k ⟨hk1,hk2,hR0⟩
  refine jn ?_; refine u5 ?_; refine jq ?_ ?_
  ·intro h2
   refine l6 ?_; refine Tr.frzB 3 [3] eI ⟨rfl,trivial⟩ rfl ?_; refine jn ?_; refine g9 ?_; refine tO (FY rfl uu rfl uu (fun _=>zo)) rfl rfl ?_; refine tO (EK (.cons rfl uu<|.cons rfl uu .nil)) rfl rfl ?_; refine tO (i6 (fun hp=>UZ (r.1.take k) (fun _=>True) (fun x=>!decide (x∈r.2.take k)) (fun _ _=>trivial)) (.a rfl uu<|.cons rfl uu (fun g u h=>JR (fun a _=>rV a r k zo) g u h)<|.nil)) rfl rfl ?_; refine i7 ?_; refine Tr.cnd rfl ?_ ?_
   ·intro h4
    have hno:T8 r k=false:=by simpa [T8] using h4
    refine v9 ?_; exact g6.res1 (fn:=Tryz.f109) rfl (.b rfl (wB hk1 zo hno).symm<|.nil)
   ·intro h4
    have hyes:T8 r k=true:=by simpa [T8] using h4
    refine u5 ?_; refine ja 3 ?_; refine j1 ?_; exact d9.lp (k+1) ⟨by omega,by omega,fun j hj hj1=>by (rcases Nat.lt_succ_iff_lt_or_eq.1 hj with h | h; exact hR0 j h hj1; rw[h]; exact hyes)⟩ zo (d6.mk (zk) (.e (by rfl) rfl<|.nil) rfl)
  ·intro h2
   replace h2:=Int.not_lt.1 h2
   refine g9 ?_; exact d9.cut (k) (fun j hj hj1=>hR0 j zo hj1) (d6.mk (zk) (zk) rfl)
 ·intro k hE0
  refine je ?_; refine j3 ?_; exact g6.res1 (fn:=Tryz.f109) rfl (.b rfl (gB hE0).symm<|.nil)

theorem VF (r:o6):Ct Tryz.prog 98 [b8 eO r] (kI (E0 r)):=by
 refine Ct.mk Tryz.func98 rfl Tryz.ntmps98 rfl (fun w J=>?_); refine g8 ?_; refine jb 1 rfl ?_; refine j3 ?_; refine tO (i6 (fun hp=>VC _) (.s rfl uu rfl<|.nil)) rfl rfl ?_; refine m9 ?_; refine jq ?_ ?_
 ·intro h2
  have hr:E0 r=H7 r:=if_pos h2
  refine j1 ?_; exact g6.res1 (fn:=Tryz.f98) rfl (.i rfl hr.symm<|.nil)
 ·intro h2
  replace h2:=Classical.not_not.1 h2
  have v:=NJ (by omega:H7 r=0)
  refine l3 ?_; refine tO (i6 (fun hp=>rU _ v) (.s rfl uu rfl<|.nil)) rfl rfl ?_; refine i7 ?_; refine Tr.cnd rfl ?_ ?_
  ·intro h4
   have hir:z7 r=false:=by simpa using h4
   have hr:E0 r=3:=by unfold E0; rw[if_neg (fun a=>a h2),hir]; rfl
   refine j3 ?_; exact g6.res1 (fn:=Tryz.f98) rfl (.i rfl hr.symm<|.nil)
  ·intro h4
   have hir:z7 r=true:=by simpa using h4
   have hr:E0 r=0:=by unfold E0; rw[if_neg (fun a=>a h2),if_pos hir]
   refine j1 ?_; exact g6.res1 (fn:=Tryz.f98) rfl (.i rfl hr.symm<|.nil)

theorem sD (r:o6):Ct Tryz.prog 55 [b8 eO r] (kI (E0 r)):=by
 refine Ct.mk Tryz.func55 rfl Tryz.ntmps55 rfl (fun w J=>?_); refine g8 ?_; refine jb 1 rfl ?_; refine j3 ?_; refine tO (i6 (fun hp=>dB _) (.s rfl uu rfl<|.nil)) rfl rfl ?_; refine m9 ?_; refine jq ?_ ?_
 ·intro h2
  have hr:E0 r=H7 r:=if_pos h2
  refine j1 ?_; exact g6.res1 (fn:=Tryz.f55) rfl (.i rfl hr.symm<|.nil)
 ·intro h2
  replace h2:=Classical.not_not.1 h2
  have v:=NJ (by omega:H7 r=0)
  refine l3 ?_; refine tO (i6 (fun hp=>sH _ v) (.s rfl uu rfl<|.nil)) rfl rfl ?_; refine i7 ?_; refine Tr.cnd rfl ?_ ?_
  ·intro h4
   have hir:z7 r=false:=by simpa using h4
   have hr:E0 r=3:=by unfold E0; rw[if_neg (fun a=>a h2),hir]; rfl
   refine j3 ?_; exact g6.res1 (fn:=Tryz.f55) rfl (.i rfl hr.symm<|.nil)
  ·intro h4
   have hir:z7 r=true:=by simpa using h4
   have hr:E0 r=0:=by unfold E0; rw[if_neg (fun a=>a h2),if_pos hir]
   refine j1 ?_; exact g6.res1 (fn:=Tryz.f55) rfl (.i rfl hr.symm<|.nil)

theorem PF (row:List Int) (h:1<=row.length):Ct Tryz.prog 147 [b8 (eL eI) row] (kI (o4 row)):=by
 refine Ct.mk Tryz.func147 rfl Tryz.ntmps147 rfl (fun w J=>?_); refine Tr.fact (s:=0) rfl (fun _ _ h=>S4 h) (fun hb=>?_); refine P1 ?_; exact g6.res1 (fn:=Tryz.f147) rfl (.i rfl (by unfold o4; rw[show ((row.length:Int)-1).toNat=row.length-1 by omega])<|.nil)

theorem VN (row:List Int) (b:Int) (h2:2<=row.length) (hn:row.length<=900):Ct Tryz.prog 151 [b8 (eL eI) row,kI b] (b8 (eL eI) (O1 row b)):=by
 have hix:=gI (f:=fun y=>decide (b=y)) (l:=(row.take (row.length-1)))
 have htl:(row.take (row.length-1)).length=row.length-1:=by rw[List.length_take]; omega
 have htk:row.take ((row.length:Int)-1).toNat=(row.take (row.length-1)):=by rw[show ((row.length:Int)-1).toNat=row.length-1 by omega]
 refine Ct.mk Tryz.func151 rfl Tryz.ntmps151 rfl (fun w J=>?_); refine P1 ?_; refine tO (FY rfl uu rfl uu (fun _=>zo)) rfl rfl ?_
 rw[htk]
 refine d5.new (EJ 13 (fun hp=>PD (row.take (row.length-1)) zo zo) (.a rfl uu<|.nil)) rfl rfl rfl rfl ?_; refine g9 ?_; refine Tr.draw 10 o0 (by kernel_rfl) ?_; refine i7 ?_; refine rO (yV (fun hp=>dU (row.take (row.length-1)) b) rfl uu (fun _=>by simp only[p9]; omega) (.a rfl uu<|.nil)) rfl rfl ?_; refine i5 ?_
 rw[show (P0 (fun y=>decide (b=y)) (row.take (row.length-1)))+1=((((P0 (fun y=>decide (b=y)) (row.take (row.length-1)))+1).toNat:Nat):Int) by omega]
 refine g9 ?_; refine i9.new (y7 eI 23 (fun hp=>.cons rfl<|.nil) rfl rfl rfl rfl) rfl rfl rfl rfl ?_; refine i5 ?_; refine d5.insI (f:=184) Go.Proofs.Tryz.laysIns rfl rfl rfl rfl zo rfl rfl zo rfl rfl ?_; refine jl ?_; refine i7 ?_; refine Tr.frz 13 [4] ⟨rfl,trivial⟩ (by simp only[p9]; omega) rfl ?_; refine i5 ?_; exact g6.res1 (fn:=Tryz.f151) rfl (.r rfl (by unfold O1 o4; rw[show ((row.length:Int)-1).toNat=row.length-1 by omega])<|.nil)

theorem cU (r:o6) (h1:2<=r.1.length/\r.1.length<=900) (h2:2<=r.2.length/\r.2.length<=900):Ct Tryz.prog 150 [b8 eO r] (z6 [b8 eO (r.1,O1 r.2 (o4 r.1)),kI (o4 r.1),kI (o4 r.2)]):=by
 refine Ct.mk Tryz.func150 rfl Tryz.ntmps150 rfl (fun w J=>?_); refine g8 ?_; refine jb 1 rfl ?_; refine ja 2 ?_; refine l6 ?_; refine Tr.draw 5 o0 (by kernel_rfl) ?_; refine g8 ?_; refine jd (PF r.1 zo) ?_; refine i7 ?_; refine jc (PF r.2 zo) ?_; refine l6 ?_; refine Tr.drawA o0 #[false,false,false,false,false,false,false,false,false,false,false,false,false] rfl ?_; refine b7.take 0 #[true,false,false,false,false,false,false,false,false,false,false,false,false] (by kernel_rfl) (by kernel_rfl) (by kernel_rfl) rfl rfl (GL rfl) rfl rfl ?_
 refine b7.take 3 #[true,false,false,true,false,false,false,false,false,false,false,false,false] (by kernel_rfl) (by kernel_rfl) (by kernel_rfl) rfl rfl (GL rfl) rfl rfl ?_; refine b7.take 5 #[true,false,false,true,false,true,false,false,false,false,false,false,false] (by kernel_rfl) (by kernel_rfl) (by kernel_rfl) rfl rfl (CO rfl) rfl rfl ?_; refine b7.take 8 #[true,false,false,true,false,true,false,false,true,false,false,false,false] (by kernel_rfl) (by kernel_rfl) (by kernel_rfl) rfl rfl (CO rfl) rfl rfl ?_; refine b7.take 9 #[true,false,false,true,false,true,false,false,true,true,false,false,false] (by kernel_rfl) (by kernel_rfl) (by kernel_rfl) rfl rfl (CO rfl) rfl rfl ?_
 refine b7.all [1,4] (by kernel_rfl) (by simp) (fun i hi=>?_)
 simp only[List.mem_cons,List.not_mem_nil,or_false] at hi
 rcases hi with rfl | rfl
 ·refine ⟨_,rfl,?_⟩
  refine tO (E2 rfl uu rfl) rfl rfl ?_; refine b7.k #[true,true,false,true,false,true,false,false,true,true,false,false,false] rfl (fun _ _ _ _=>trivial) ?_; refine b7.all [2,4] (by kernel_rfl) (by simp) (fun i hi=>?_)
  simp only[List.mem_cons,List.not_mem_nil,or_false] at hi
  rcases hi with rfl | rfl
  ·refine ⟨_,rfl,?_⟩
   refine jc (CY r.1 zo) ?_; refine b7.k #[true,true,true,true,false,true,false,false,true,true,false,false,false] rfl (fun _ _ _ _=>trivial) ?_; refine b7.one 4 (by kernel_rfl) rfl ?_; refine tO (E2 rfl uu rfl) rfl rfl ?_; refine b7.k #[true,true,true,true,true,true,false,false,true,true,false,false,false] rfl (fun _ _ _ _=>trivial) ?_; refine b7.one 6 (by kernel_rfl) rfl ?_; refine jc (VN r.2 (o4 r.1) h2.1 h2.2) ?_; refine b7.k #[true,true,true,true,true,true,true,false,true,true,false,false,false] rfl (fun _ _ _ _=>trivial) ?_
   refine b7.one 7 (by kernel_rfl) rfl ?_; refine tO (A1 (fun hp=>.cons rfl rfl rfl<|.cons rfl rfl rfl<|.nil)) rfl rfl ?_; refine b7.k #[true,true,true,true,true,true,true,true,true,true,false,false,false] rfl (fun _ _ _ _=>trivial) ?_; refine b7.one 10 (by kernel_rfl) rfl ?_; refine d5.stB rfl rfl rfl rfl ?_; refine b7.k #[true,true,true,true,true,true,true,true,true,true,true,false,false] rfl (fun _ _ _ _=>trivial) ?_; refine b7.one 11 (by kernel_rfl) rfl ?_; refine mw rfl rfl rfl ?_; refine b7.k #[true,true,true,true,true,true,true,true,true,true,true,true,false] rfl (fun _ _ _ _=>trivial) ?_
   refine b7.one 12 (by kernel_rfl) rfl ?_; refine mw rfl rfl rfl ?_; refine b7.k #[true,true,true,true,true,true,true,true,true,true,true,true,true] rfl (fun _ _ _ _=>trivial) ?_; refine b7.done (by kernel_rfl) ?_; refine g8 ?_
   exact g6.resC (fn:=Tryz.f150) (ts:=[3,4]) rfl rfl rfl (t7 rfl (by rfl)) (.i rfl zi<|.i rfl zi<|.nil)
  ·refine ⟨_,rfl,?_⟩
   refine tO (E2 rfl uu rfl) rfl rfl ?_; refine b7.k #[true,true,false,true,true,true,false,false,true,true,false,false,false] rfl (fun _ _ _ _=>trivial) ?_; refine b7.one 2 (by kernel_rfl) rfl ?_; refine jc (CY r.1 zo) ?_; refine b7.k #[true,true,true,true,true,true,false,false,true,true,false,false,false] rfl (fun _ _ _ _=>trivial) ?_; refine b7.one 6 (by kernel_rfl) rfl ?_; refine jc (VN r.2 (o4 r.1) h2.1 h2.2) ?_; refine b7.k #[true,true,true,true,true,true,true,false,true,true,false,false,false] rfl (fun _ _ _ _=>trivial) ?_
   refine b7.one 7 (by kernel_rfl) rfl ?_; refine tO (A1 (fun hp=>.cons rfl rfl rfl<|.cons rfl rfl rfl<|.nil)) rfl rfl ?_; refine b7.k #[true,true,true,true,true,true,true,true,true,true,false,false,false] rfl (fun _ _ _ _=>trivial) ?_; refine b7.one 10 (by kernel_rfl) rfl ?_; refine d5.stB rfl rfl rfl rfl ?_; refine b7.k #[true,true,true,true,true,true,true,true,true,true,true,false,false] rfl (fun _ _ _ _=>trivial) ?_; refine b7.one 11 (by kernel_rfl) rfl ?_; refine mw rfl rfl rfl ?_; refine b7.k #[true,true,true,true,true,true,true,true,true,true,true,true,false] rfl (fun _ _ _ _=>trivial) ?_
   refine b7.one 12 (by kernel_rfl) rfl ?_; refine mw rfl rfl rfl ?_; refine b7.k #[true,true,true,true,true,true,true,true,true,true,true,true,true] rfl (fun _ _ _ _=>trivial) ?_; refine b7.done (by kernel_rfl) ?_; refine g8 ?_
   exact g6.resC (fn:=Tryz.f150) (ts:=[3,4]) rfl rfl rfl (t7 rfl (by rfl)) (.i rfl zi<|.i rfl zi<|.nil)
 ·refine ⟨_,rfl,?_⟩
  refine tO (E2 rfl uu rfl) rfl rfl ?_; refine b7.k #[true,false,false,true,true,true,false,false,true,true,false,false,false] rfl (fun _ _ _ _=>trivial) ?_; refine b7.one 1 (by kernel_rfl) rfl ?_; refine tO (E2 rfl uu rfl) rfl rfl ?_; refine b7.k #[true,true,false,true,true,true,false,false,true,true,false,false,false] rfl (fun _ _ _ _=>trivial) ?_; refine b7.one 2 (by kernel_rfl) rfl ?_; refine jc (CY r.1 zo) ?_; refine b7.k #[true,true,true,true,true,true,false,false,true,true,false,false,false] rfl (fun _ _ _ _=>trivial) ?_
  refine b7.one 6 (by kernel_rfl) rfl ?_; refine jc (VN r.2 (o4 r.1) h2.1 h2.2) ?_; refine b7.k #[true,true,true,true,true,true,true,false,true,true,false,false,false] rfl (fun _ _ _ _=>trivial) ?_; refine b7.one 7 (by kernel_rfl) rfl ?_; refine tO (A1 (fun hp=>.cons rfl rfl rfl<|.cons rfl rfl rfl<|.nil)) rfl rfl ?_; refine b7.k #[true,true,true,true,true,true,true,true,true,true,false,false,false] rfl (fun _ _ _ _=>trivial) ?_; refine b7.one 10 (by kernel_rfl) rfl ?_; refine d5.stB rfl rfl rfl rfl ?_; refine b7.k #[true,true,true,true,true,true,true,true,true,true,true,false,false] rfl (fun _ _ _ _=>trivial) ?_
  refine b7.one 11 (by kernel_rfl) rfl ?_; refine mw rfl rfl rfl ?_; refine b7.k #[true,true,true,true,true,true,true,true,true,true,true,true,false] rfl (fun _ _ _ _=>trivial) ?_; refine b7.one 12 (by kernel_rfl) rfl ?_; refine mw rfl rfl rfl ?_; refine b7.k #[true,true,true,true,true,true,true,true,true,true,true,true,true] rfl (fun _ _ _ _=>trivial) ?_; refine b7.done (by kernel_rfl) ?_; refine g8 ?_
  exact g6.resC (fn:=Tryz.f150) (ts:=[3,4]) rfl rfl rfl (t7 rfl (by rfl)) (.i rfl zi<|.i rfl zi<|.nil)

theorem cT (r:o6) (kind:Int) (g1:2<=r.1.length/\r.1.length<=900) (g2:2<=r.2.length/\r.2.length<=900):Ct Tryz.prog 103 [b8 eO r,kI kind] (z6 [b8 eO (L9 r kind),kI (w7 r kind),kI (y6 r kind)]):=by
 refine Ct.mk Tryz.func103 rfl Tryz.ntmps103 rfl (fun w J=>?_); refine g8 ?_; refine jb 2 rfl ?_; refine ja 4 ?_; refine Z2 ?_; refine jq ?_ ?_
 ·intro h2
  have h2_:kind=0:=by assumption
  refine g9 ?_; refine tO (KF rfl uu (fun hp=>cU r g1 g2) (.s rfl uu rfl<|.nil)) rfl rfl ?_; refine u5 ?_; exact g6.resC (fn:=Tryz.f103) (ts:=[5,6]) rfl rfl rfl (t7 rfl (by unfold L9; rw[if_pos h2_])) (.i rfl (by unfold w7; rw[if_pos h2_])<|.i rfl (by unfold y6; rw[if_pos h2_])<|.nil)
 ·intro h2
  have h2_:¬kind=0:=by assumption
  refine l3 ?_; refine jc (dW r) ?_; refine tO (KF rfl uu (fun hp=>cU (r.2,r.1) g2 g1) (.a rfl uu<|.nil)) rfl rfl ?_; refine g9 ?_; refine ja 8 ?_; refine j1 ?_; refine jc (dW (r.2,O1 r.1 (o4 r.2))) ?_; refine j1 ?_; exact g6.resC (fn:=Tryz.f103) (ts:=[5,6]) rfl rfl rfl (t7 rfl (by unfold L9; rw[if_neg h2_])) (.i rfl (by unfold w7; rw[if_neg h2_])<|.i rfl (by unfold y6; rw[if_neg h2_])<|.nil)

set_option maxHeartbeats 1000000 in
theorem dN (row:List Int) (l b:Int) (hn:row.length<=900):Ct Tryz.prog 107 [b8 (eL eI) row,kI l,kI b] (b8 (eL eI) (I0 row l b row.length)):=by
 refine Ct.mk Tryz.func107 rfl Tryz.ntmps107 rfl (fun w J=>?_); refine Z2 ?_; refine Tr.grow (s:=7) rfl rfl 107 rfl 3 eI rfl ?_
 refine Tr.for1 (σ:=Nat) [⟨0,true,_,_⟩,⟨1,true,_,_⟩,⟨2,true,_,_⟩] [] (fun i=>[⟨7,true,[107],o9 107 (I0 row l b i).length⟩,⟨8,true,[],kI (i:Int)⟩]) (fun i=>[⟨107,[],l5 true 3 eI (I0 row l b i) (I0 row l b i).length⟩]) (fun i=>i<=row.length) (fun i=>i=row.length) (fun i=>row.length-i) (0) zi (d6.mk (.o rfl zi rfl<|.i rfl zi<|zk) (.a (by rfl) zi<|.nil) rfl) ?_ ?_
 ·intro i hR0
  refine jn ?_
  have hml:=XT (row:=row) (l:=l) (b:=b) (i:=i)
  refine m9 ?_; refine jq ?_ ?_
  ·intro h3
   refine K3 ?_; refine jq ?_ ?_
   ·intro h5
    have e5:(if b6 row i≠l then [b6 row i] else [])=[b6 row i]:=if_pos h5
    refine l3 ?_; refine d5.new (y7 eI 26 (fun hp=>.cons rfl<|.nil) rfl rfl rfl rfl) rfl rfl rfl rfl ?_; refine i5 ?_; refine jl ?_; refine B3 ?_; refine jq ?_ ?_
    ·intro h7
     have e7:(if b6 row i=b then [l] else [])=[l]:=if_pos h7
     refine i7 ?_; refine d5.new (y7 eI 36 (fun hp=>.cons rfl<|.nil) rfl rfl rfl rfl) rfl rfl rfl rfl ?_; refine i5 ?_; refine jl ?_; refine m9 ?_
     exact d9.lp (i+1) zi zo (d6.mk (.o rfl (by rw[I0,e5,e7]; simp) rfl<|.i rfl zi<|zk) (.a (by rw[I0,e5,e7]) (by rw[I0,e5,e7]; simp)<|.nil) rfl)
    ·intro h7
     have e7:(if b6 row i=b then [l] else [])=[]:=if_neg h7
     refine j1 ?_
     exact d9.lp (i+1) zi zo (d6.mk (.o rfl (by rw[I0,e5,e7]; simp) rfl<|.i rfl zi<|zk) (.a (by rw[I0,e5,e7]; simp) (by rw[I0,e5,e7]; simp)<|.nil) rfl)
   ·intro h5
    replace h5:=Classical.not_not.1 h5
    have e5:(if b6 row i≠l then [b6 row i] else [])=[]:=if_neg (fun a=>a h5)
    refine v9 ?_; refine jq ?_ ?_
    ·intro h7
     have e7:(if b6 row i=b then [l] else [])=[l]:=if_pos h7
     refine i7 ?_; refine d5.new (y7 eI 36 (fun hp=>.cons rfl<|.nil) rfl rfl rfl rfl) rfl rfl rfl rfl ?_; refine i5 ?_; refine jl ?_; refine m9 ?_
     exact d9.lp (i+1) zi zo (d6.mk (.o rfl (by rw[I0,e5,e7]; simp) rfl<|.i rfl zi<|zk) (.a (by rw[I0,e5,e7]; simp) (by rw[I0,e5,e7]; simp)<|.nil) rfl)
    ·intro h7
     have e7:(if b6 row i=b then [l] else [])=[]:=if_neg h7
     refine j1 ?_
     exact d9.lp (i+1) zi zo (d6.mk (.o rfl (by rw[I0,e5,e7]; simp) rfl<|.i rfl zi<|zk) (.a (by rw[I0,e5,e7]; simp) (by rw[I0,e5,e7]; simp)<|.nil) rfl)
  ·intro h3
   replace h3:=Int.not_lt.1 h3
   refine g9 ?_
   exact d9.cut (i) zo (d6.mk (.o rfl zi rfl<|.i rfl zi<|zk) (zk) rfl)
 ·rintro i hin
  refine je ?_
  rw[hin]
  have hml:=XT (row:=row) (l:=l) (b:=b) (i:=row.length)
  refine j3 ?_; refine Tr.frz 107 [6] ⟨rfl,trivial⟩ (by simp only[p9]; omega) rfl ?_; refine i5 ?_
  exact g6.res1 (fn:=Tryz.f107) rfl (.r rfl zi<|.nil)

end Go.Fl

/- Contracts: paths of rows and their matrices. -/
namespace Go.Fl
open Go Go.Proofs
open d5 renaming op->tO
open i9 renaming op->rO
set_option maxRecDepth 100000

def o7 (r:o6) (ks:List Int):Nat->o6
 | 0=>r
 | i+1=>L9 (o7 r ks i) (b6 ks i)
def E5 (r:o6) (ks:List Int):Nat->ZM
 | 0=>B8 r.1.length
 | i+1=>O6 (E5 r ks i) (y6 (o7 r ks i) (b6 ks i)).toNat (w7 (o7 r ks i) (b6 ks i)).toNat
theorem iB {r:o6} {k:Int} (h2:r.2.length=r.1.length) (h1:2<=r.1.length):(L9 r k).1.length=r.1.length/\(L9 r k).2.length=r.1.length:=by
 unfold L9
 split
 ·exact ⟨rfl,by show (O1 r.2 (o4 r.1)).length=_; rw[(ZD (b:=o4 r.1) h2 zo).length_eq,h2]⟩
 ·exact ⟨by show (O1 r.1 (o4 r.2)).length=_; rw[(ZD (row:=r.1) (b:=o4 r.2) rfl zo).length_eq],h2⟩
theorem WE {r:o6} {ks:List Int} (v:F2 r) (hi:z7 r=true):∀i,(F2 (o7 r ks i)/\z7 (o7 r ks i)=true)/\(o7 r ks i).1.length=r.1.length
 | 0=>⟨⟨v,hi⟩,rfl⟩
 | i+1=>by
  obtain ⟨⟨h1,h2⟩,h3⟩:=WE v hi (ks:=ks) i
  exact ⟨RD h1 h2 _,(iB h1.len h1.two).1.trans h3⟩
theorem DG {r:o6} (v:F2 r) (k:Int):(0<=y6 r k/\y6 r k<r.1.length)/\(0<=w7 r k/\w7 r k<r.1.length):=by
 have h1:=BX v.p1 (by have:=v.two; omega)
 have h2:=BX v.p2 (by have:=v.two; omega)
 unfold y6 w7
 split<;>exact ⟨by assumption,by assumption⟩
theorem aj9 {n:Nat}:FA n 1 (B8 n):=by
 refine ⟨p8,fun i hi=>?_,fun i j=>?_⟩
 ·unfold B8; rw[r5 hi,List.length_set,List.length_replicate]
 ·by_cases hi:i<n
  ·unfold B8; rw[r5 hi,RO (by rw[List.length_replicate]; exact hi)]
   split
   ·omega
   ·by_cases hj:j<n
    ·have:b6 (List.replicate n (0:Int)) j=0:=by simp[b6,hj]
     rw[this]; omega
    ·rw[v5 (by rw[List.length_replicate]; omega)]; show 0<=(0:Int)/\(0:Int)<=_; omega
  ·rw[show b6 (B8 n) i=[] from v5 (by show (j8 _ _).length<=i; rw[p8]; omega)]
   show 0<=(0:Int)/\(0:Int)<=_; omega
theorem fJ {r:o6} {ks:List Int} (v:F2 r) (hi:z7 r=true):∀i,FA r.1.length (2 ^ i) (E5 r ks i)
 | 0=>aj9
 | i+1=>by
  obtain ⟨⟨h1,_⟩,h3⟩:=WE v hi (ks:=ks) i
  have:=nR (to:=(y6 (o7 r ks i) (b6 ks i)).toNat) (col:=(w7 (o7 r ks i) (b6 ks i)).toNat) (fJ v hi (ks:=ks) i) (by have:=(DG h1 (b6 ks i)).1; omega)
  rw[<- Nat.pow_succ'] at this
  exact this
theorem FA.mono {n B C:Nat} {m:ZM} (h:FA n B m) (hBC:B<=C):FA n C m:=⟨h.len,h.row,fun i j=>⟨(h.rg i j).1,Int.le_trans (h.rg i j).2 zo⟩⟩
theorem fK {r:o6} {ks:List Int} (v:F2 r) (hi:z7 r=true) {i:Nat} (h:i<=61):FA r.1.length 2305843009213693952 (E5 r ks i):=(fJ v hi i).mono (Nat.le_trans (Nat.pow_le_pow_right zo h) (by decide))
def R5 (n k:Nat):ZM:=j8 k fun i=>(List.replicate n 0).set i 1
def I5 (m:ZM) (to col i:Nat):ZM:=j8 m.length fun q=>if q<i then OI to col (b6 m q) else b6 m q
theorem FC {m:ZM} {to col:Nat}:m=I5 m to col 0:=by
 refine D6 (by show m.length=(j8 _ _).length; rw[p8]) fun i hi=>?_
 unfold I5; rw[r5 hi,if_neg zo]
theorem FB {m:ZM} {to col:Nat}:I5 m to col m.length=O6 m to col:=by
 refine D6 (by show (j8 _ _).length=_; unfold O6; rw[p8,List.length_map]) fun i hi=>?_
 have hi:i<m.length:=by rw[show (I5 m to col m.length).length=m.length from p8] at hi; exact hi
 unfold I5 O6; rw[r5 hi,if_pos hi,YA hi]
theorem aL {m:ZM} {to col i:Nat} (h:i<m.length):b6 (I5 m to col i) i=b6 m i:=by unfold I5; rw[r5 h,if_neg zo]
theorem T5 {m:ZM} {to col i:Nat} (h:i<m.length):(I5 m to col i).set i ((b6 (I5 m to col i) i).set to (b6 (b6 (I5 m to col i) i) to+b6 (b6 (I5 m to col i) i) col))=I5 m to col (i+1):=by
 rw[aL h]
 refine D6 (by rw[List.length_set]; show (j8 _ _).length=(j8 _ _).length; rw[p8,p8]) fun q hq=>?_
 have hq:q<m.length:=by rw[List.length_set,show (I5 m to col i).length=m.length from p8] at hq; exact hq
 by_cases e:q=i
 ·subst e
  rw[KD (by rw[show (I5 m to col q).length=m.length from p8]; exact h)]
  unfold I5; rw[r5 h,if_pos zo]; rfl
 ·rw[NA e]
  unfold I5; rw[r5 hq,r5 hq]
  by_cases c:q<i
  ·rw[if_pos c,if_pos zo]
  ·rw[if_neg c,if_neg zo]
theorem ac2 {hs:List Value} {rows:List (List Int)} {k:Nat} {v:Value} {xs:List Int} (hk:hs.length=k) (hr:rows.length=k):k<(hs++[v]).length/\b6 (hs++[v]) k=v/\b6 (rows++[xs]) k=xs/\∀j,j≠k->(j<(hs++[v]).length->j<hs.length/\b6 (hs++[v]) j=b6 hs j/\b6 (rows++[xs]) j=b6 rows j)/\((hs++[v]).length<=j->hs.length<=j):=by
 subst hk
 refine ⟨by simp,by simp[b6],by rw[<- hr]; simp[b6],fun j hj=>⟨fun h=>?_,fun h=>by simp at h; omega⟩⟩
 have h:j<hs.length:=by simp at h; omega
 refine ⟨h,?_,?_⟩
 ·simp[b6,List.getElem?_append_left h]
 ·simp[b6,List.getElem?_append_left (show j<rows.length by omega)]
theorem OX {r:o6} (v:F2 r):H7 r=0:=by
 have h1:=v.len; have h2:=v.two; have h3:=v.le
 unfold H7
 rw[if_neg zo,if_neg (fun a=>a ⟨v.p1,v.p2⟩)]
theorem cN (k:Int):Ct Tryz.prog 100 [kI k] (kB (decide (k≠0)&&decide (k≠1))):=by
 refine Ct.mk Tryz.func100 rfl Tryz.ntmps100 rfl (fun w J=>?_); refine P1 ?_
 exact g6.res1 (fn:=Tryz.f100) rfl (.b rfl zi<|.nil)

set_option maxHeartbeats 2000000 in
theorem cO (r:o6) (ks:List Int) (v:F2 r) (hi:z7 r=true) (hl:ks.length<=60) (hk:∀k∈ks,k=0\/k=1):Ct Tryz.prog 54 [b8 eO r,b8 (eL eI) ks] (z6 [b8 eO (o7 r ks ks.length),b8 (eL (eL eI)) (E5 r ks ks.length),kI 0]):=by
 have hle:=v.le
 have htw:=v.two
 have hbl:=v.len
 have hic:E0 r=0:=by unfold E0; rw[if_neg,if_pos hi]; exact fun a=>a (OX v)
 have han:ks.any (fun x=>decide (x≠0)&&decide (x≠1))=false:=by rw[<- Bool.not_eq_true,List.any_eq_true]; rintro ⟨x,hx,e⟩; rcases hk x hx with h | h<;>simp[h] at e
 refine Ct.mk Tryz.func54 rfl Tryz.ntmps54 rfl (fun w J=>?_); refine g8 ?_; refine jb 2 rfl ?_; refine ja 4 ?_; refine j1 ?_; refine jc (VF r) ?_; refine m9 ?_; refine jq ?_ ?_
 ·intro h2
  exact absurd hic h2
 ·intro h2
  replace h2:=Classical.not_not.1 h2
  refine u5 ?_; refine jq ?_ ?_
  ·intro h4
   omega
  ·intro h4
   replace h4:=Int.not_lt.1 h4
   refine l3 ?_; refine tO (i6 (fun hp=>UZ ks (fun _=>True) (fun x=>decide (x≠0)&&decide (x≠1)) (fun _ _=>trivial)) (.a rfl uu<|.cons rfl uu (fun g u h=>JR (cks:=[]) (fun a _=>cN a) g u ⟨[],h,trivial⟩)<|.nil)) rfl rfl ?_; refine g8 ?_; refine Tr.cnd rfl ?_ ?_
   ·intro h6
    rw[han] at h6; cases h6
   ·intro h6
    refine l6 ?_; refine jc (VA r zo zo) ?_; refine j1 ?_; refine d5.inlX (σ:=List Value) [2,4] Tryz.func102 rfl Tryz.ntmps102 rfl (.cons rfl (fun _=>rfl)<|.nil) rfl rfl (fun hs=>[⟨103,[],l5 true 22 Q5 hs r.1.length⟩,⟨1000,[],s9 3 hs (B8 r.1.length) 0⟩,⟨1001,[],s9 3 hs (B8 r.1.length) 1⟩,⟨1002,[],s9 3 hs (B8 r.1.length) 2⟩,⟨1003,[],s9 3 hs (B8 r.1.length) 3⟩,⟨1004,[],s9 3 hs (B8 r.1.length) 4⟩,⟨1005,[],s9 3 hs (B8 r.1.length) 5⟩,⟨1006,[],s9 3 hs (B8 r.1.length) 6⟩,⟨1007,[],s9 3 hs (B8 r.1.length) 7⟩,⟨2,[],j5 [b8 (eL eI) r.1,b8 (eL eI) r.2]⟩,⟨4,[],j5 [j4 (.slice none 0 0),j4 (.slice none 0 0)]⟩]) (fun hs=>o9 103 r.1.length) (fun hs=>hs.length=r.1.length) (fun _=>rfl) (fun _=>inferInstance) (fun _=>rfl) rfl (fun J9 bks9 om9=>?_) ?_
    ·skip
     refine jn ?_; refine P1 ?_; refine Tr.grow (s:=3) rfl rfl 103 rfl 22 Q5 rfl ?_; refine Tr.fam 1000 3 (hs:=[]) (rows:=[]) (fun j h=>absurd h (Nat.not_lt_zero _)) rfl ?_; refine jn ?_
     refine Tr.for1 (σ:=Nat×List Value) [⟨0,true,_,_⟩,⟨6,true,_,_⟩,⟨23,true,_,_⟩,⟨25,true,_,_⟩] [⟨2,_,_⟩,⟨4,_,_⟩] (fun (k,hs)=>[⟨3,true,[103],o9 103 k⟩,⟨7,true,[],kI (k:Int)⟩]) (fun (k,hs)=>[⟨103,[],l5 true 22 Q5 hs k⟩,⟨1000,[],s9 3 hs (R5 r.1.length k) 0⟩,⟨1001,[],s9 3 hs (R5 r.1.length k) 1⟩,⟨1002,[],s9 3 hs (R5 r.1.length k) 2⟩,⟨1003,[],s9 3 hs (R5 r.1.length k) 3⟩,⟨1004,[],s9 3 hs (R5 r.1.length k) 4⟩,⟨1005,[],s9 3 hs (R5 r.1.length k) 5⟩,⟨1006,[],s9 3 hs (R5 r.1.length k) 6⟩,⟨1007,[],s9 3 hs (R5 r.1.length k) 7⟩]) (fun (k,hs)=>k<=r.1.length/\hs.length=k) (fun (k,hs)=>k=r.1.length/\hs.length=r.1.length) (fun (k,hs)=>r.1.length-k) ((0,[])) ⟨by omega,rfl⟩ (d6.mk (.o rfl zi rfl<|.i rfl zi<|zk) (.k rfl<|.e (by rfl) rfl<|.e (by rfl) rfl<|.e (by rfl) rfl<|.e (by rfl) rfl<|.e (by rfl) rfl<|.e (by rfl) rfl<|.e (by rfl) rfl<|.e (by rfl) rfl<|zk) rfl) ?_ ?_
     ·rintro ⟨k,hs⟩ ⟨hk,hhl⟩
      refine jn ?_; refine l3 ?_; refine jq ?_ ?_
      ·intro h3
       refine B3 ?_; refine d5.new (FX eI 11 rfl uu rfl uu rfl rfl rfl (fun _=>zo)) rfl rfl rfl rfl ?_; refine D7 ?_; refine d5.raw 16 11 rfl (fun v=>?_); refine d5.norm (S':=⟨_,_,_,_⟩::⟨_,_,_,_⟩::⟨_,_,_,_⟩::⟨_,_,_,_⟩::⟨_,_,_,_⟩::⟨_,_,_,_⟩::⟨_,_,_,_⟩::⟨_,_,_,_⟩::⟨_,_,_,_⟩::⟨_,_,_,_⟩::⟨_,_,_,_⟩::⟨_,_,_,_⟩::⟨_,_,_,_⟩::⟨_,_,_,_⟩::⟨_,_,_,_⟩::⟨_,_,_,_⟩::⟨_,_,_,_⟩::⟨_,_,_,_⟩::[]) (M':=[⟨_,_,_⟩,⟨_,_,_⟩,⟨_,_,_⟩,⟨_,_,_⟩,⟨_,_,_⟩,⟨_,_,_⟩,⟨_,_,_⟩,⟨_,_,_⟩,⟨_,_,_⟩,⟨_,_,_⟩,⟨_,_,_⟩,⟨_,_,_⟩]) rfl rfl ?_
       refine d5.new (y7 Q5 17 (fun hp=>.cons rfl<|.nil) rfl rfl rfl rfl) rfl rfl rfl rfl ?_; refine i5 ?_; refine jl ?_; refine i5 ?_
       obtain ⟨q1,q2,q3,q4⟩:=ac2 (hs:=hs) (rows:=R5 r.1.length k) (k:=k) (v:=v) (xs:=(List.replicate r.1.length 0).set k 1) hhl p8
       refine d5.ren 11 1000 k (hs++[v]) (R5 r.1.length k++[(List.replicate r.1.length 0).set k 1]) inferInstance zo zo (.inl zo) q1 q2 q3 q4 rfl rfl ?_; refine d5.norm (S':=⟨_,_,_,_⟩::⟨_,_,_,_⟩::⟨_,_,_,_⟩::⟨_,_,_,_⟩::⟨_,_,_,_⟩::⟨_,_,_,_⟩::⟨_,_,_,_⟩::⟨_,_,_,_⟩::⟨_,_,_,_⟩::⟨_,_,_,_⟩::⟨_,_,_,_⟩::⟨_,_,_,_⟩::⟨_,_,_,_⟩::⟨_,_,_,_⟩::⟨_,_,_,_⟩::⟨_,_,_,_⟩::⟨_,_,_,_⟩::⟨_,_,_,_⟩::⟨_,_,_,_⟩::⟨_,_,_,_⟩::⟨_,_,_,_⟩::[]) (M':=[⟨_,_,_⟩,⟨_,_,_⟩,⟨_,_,_⟩,⟨_,_,_⟩,⟨_,_,_⟩,⟨_,_,_⟩,⟨_,_,_⟩,⟨_,_,_⟩,⟨_,_,_⟩,⟨_,_,_⟩,⟨_,_,_⟩,⟨_,_,_⟩]) rfl rfl ?_
       refine j3 ?_
       exact d9.lp ((k+1,hs++[v])) ⟨by omega,by rw[List.length_append,hhl]; rfl⟩ (by show r.1.length-(k+1)<r.1.length-k; omega) (d6.mk (.o rfl zi rfl<|.i rfl zi<|zk) (.k rfl<|.e (by rw[show R5 r.1.length (k+1)=_ from H0]; rfl) rfl<|.e (by rw[show R5 r.1.length (k+1)=_ from H0]; rfl) rfl<|.e (by rw[show R5 r.1.length (k+1)=_ from H0]; rfl) rfl<|.e (by rw[show R5 r.1.length (k+1)=_ from H0]; rfl) rfl<|.e (by rw[show R5 r.1.length (k+1)=_ from H0]; rfl) rfl<|.e (by rw[show R5 r.1.length (k+1)=_ from H0]; rfl) rfl<|.e (by rw[show R5 r.1.length (k+1)=_ from H0]; rfl) rfl<|.e (by rw[show R5 r.1.length (k+1)=_ from H0]; rfl) rfl<|zk) rfl)
      ·intro h3
       replace h3:=Int.not_lt.1 h3
       refine g9 ?_
       exact d9.cut ((k,hs)) ⟨zo,zo⟩ (d6.mk (.o rfl zi rfl<|.i rfl zi<|zk) (zk) rfl)
     ·rintro ⟨_,hs⟩ ⟨rfl,hhl⟩
      refine je ?_; refine j1 ?_; exact g6.inlX (n:=21) (bks:=bks9) (hs) hhl (t:=2) rfl (d6.mk (zk) (.k rfl<|.e (by rfl) rfl<|.e (by rfl) rfl<|.e (by rfl) rfl<|.e (by rfl) rfl<|.e (by rfl) rfl<|.e (by rfl) rfl<|.e (by rfl) rfl<|.e (by rfl) rfl<|zk) rfl) (.cons rfl<|.cons rfl<|.nil) (fun _ _ h=>h)
    intro hs hhl
    refine d5.norm (S':=⟨_,_,_,_⟩::⟨_,_,_,_⟩::⟨_,_,_,_⟩::⟨_,_,_,_⟩::⟨_,_,_,_⟩::⟨_,_,_,_⟩::⟨_,_,_,_⟩::⟨_,_,_,_⟩::⟨_,_,_,_⟩::⟨_,_,_,_⟩::⟨_,_,_,_⟩::⟨_,_,_,_⟩::⟨_,_,_,_⟩::⟨_,_,_,_⟩::⟨_,_,_,_⟩::⟨_,_,_,_⟩::⟨_,_,_,_⟩::⟨_,_,_,_⟩::⟨_,_,_,_⟩::⟨_,_,_,_⟩::⟨_,_,_,_⟩::⟨_,_,_,_⟩::[]) (M':=[⟨_,_,_⟩,⟨_,_,_⟩,⟨_,_,_⟩,⟨_,_,_⟩,⟨_,_,_⟩,⟨_,_,_⟩,⟨_,_,_⟩,⟨_,_,_⟩,⟨_,_,_⟩,⟨_,_,_⟩,⟨_,_,_⟩]) rfl rfl ?_; refine y8 ?_
    refine Tr.for1 (σ:=Nat) [⟨2,true,_,_⟩,⟨4,true,_,_⟩,⟨8,true,_,_⟩,⟨32,true,_,_⟩,⟨33,true,_,_⟩] [⟨103,_,_⟩,⟨4,_,_⟩] (fun k=>[⟨34,true,[],kI (k:Int)⟩]) (fun k=>[⟨2,[],j5 [b8 (eL eI) (o7 r ks k).1,b8 (eL eI) (o7 r ks k).2]⟩,⟨1000,[],s9 3 hs (E5 r ks k) 0⟩,⟨1001,[],s9 3 hs (E5 r ks k) 1⟩,⟨1002,[],s9 3 hs (E5 r ks k) 2⟩,⟨1003,[],s9 3 hs (E5 r ks k) 3⟩,⟨1004,[],s9 3 hs (E5 r ks k) 4⟩,⟨1005,[],s9 3 hs (E5 r ks k) 5⟩,⟨1006,[],s9 3 hs (E5 r ks k) 6⟩,⟨1007,[],s9 3 hs (E5 r ks k) 7⟩]) (fun k=>k<=ks.length) (fun k=>k=ks.length) (fun k=>ks.length-k) (0) zi (d6.mk (.i rfl zi<|zk) (.e (by rfl) rfl<|.e (by rfl) rfl<|.e (by rfl) rfl<|.e (by rfl) rfl<|.e (by rfl) rfl<|.e (by rfl) rfl<|.e (by rfl) rfl<|.e (by rfl) rfl<|.e (by rfl) rfl<|zk) rfl) ?_ ?_
    ·intro k hR0
     refine jn ?_; refine l3 ?_; refine jq ?_ ?_
     ·intro h11
      refine JO ?_
      obtain ⟨⟨v2,_⟩,hfl⟩:=WE v hi (ks:=ks) k
      have hfl2:=v2.len
      have hmz:=fK (ks:=ks) v hi (i:=k) zo
      have hlw:=DG v2 (b6 ks k)
      refine g8 ?_; refine jc (cT (o7 r ks k) (b6 ks k) ⟨zo,zo⟩ ⟨zo,zo⟩) ?_; refine B3 ?_; refine d5.inlX (σ:=Unit) [2,4,103,1000,1001,1002,1003,1004,1005,1006,1007] Tryz.func104 rfl Tryz.ntmps104 rfl (.cons rfl (fun _=>rfl)<|.cons rfl (fun _=>rfl)<|.cons rfl (fun _=>rfl)<|.nil) rfl rfl (fun _=>[⟨103,[],l5 true 22 Q5 hs r.1.length⟩,⟨1000,[],s9 3 hs (O6 (E5 r ks k) (y6 (o7 r ks k) (b6 ks k)).toNat (w7 (o7 r ks k) (b6 ks k)).toNat) 0⟩,⟨1001,[],s9 3 hs (O6 (E5 r ks k) (y6 (o7 r ks k) (b6 ks k)).toNat (w7 (o7 r ks k) (b6 ks k)).toNat) 1⟩,⟨1002,[],s9 3 hs (O6 (E5 r ks k) (y6 (o7 r ks k) (b6 ks k)).toNat (w7 (o7 r ks k) (b6 ks k)).toNat) 2⟩,⟨1003,[],s9 3 hs (O6 (E5 r ks k) (y6 (o7 r ks k) (b6 ks k)).toNat (w7 (o7 r ks k) (b6 ks k)).toNat) 3⟩,⟨1004,[],s9 3 hs (O6 (E5 r ks k) (y6 (o7 r ks k) (b6 ks k)).toNat (w7 (o7 r ks k) (b6 ks k)).toNat) 4⟩,⟨1005,[],s9 3 hs (O6 (E5 r ks k) (y6 (o7 r ks k) (b6 ks k)).toNat (w7 (o7 r ks k) (b6 ks k)).toNat) 5⟩,⟨1006,[],s9 3 hs (O6 (E5 r ks k) (y6 (o7 r ks k) (b6 ks k)).toNat (w7 (o7 r ks k) (b6 ks k)).toNat) 6⟩,⟨1007,[],s9 3 hs (O6 (E5 r ks k) (y6 (o7 r ks k) (b6 ks k)).toNat (w7 (o7 r ks k) (b6 ks k)).toNat) 7⟩,⟨2,[],j5 [b8 (eL eI) (L9 (o7 r ks k) (b6 ks k)).1,b8 (eL eI) (L9 (o7 r ks k) (b6 ks k)).2]⟩,⟨4,[],j5 [j4 (.slice none 0 0),j4 (.slice none 0 0)]⟩]) (fun _=>j4 (.tuple #[])) (fun _=>True) (fun _=>rfl) (fun _=>inferInstance) (fun _=>rfl) rfl (fun J15 bks15 om15=>?_) ?_
      ·skip
       refine jn ?_; refine i7 ?_; refine tO (U1 rfl uu) rfl rfl ?_; refine i7 ?_
       refine Tr.for1 (σ:=Nat) [⟨1,true,_,_⟩,⟨2,true,_,_⟩,⟨8,true,_,_⟩,⟨9,true,_,_⟩,⟨27,true,_,_⟩,⟨29,true,_,_⟩,⟨128,true,_,_⟩,⟨1025,true,_,_⟩,⟨1026,true,_,_⟩,⟨1027,true,_,_⟩,⟨1028,true,_,_⟩,⟨1029,true,_,_⟩,⟨1030,true,_,_⟩,⟨1031,true,_,_⟩,⟨1032,true,_,_⟩] [⟨103,_,_⟩,⟨4,_,_⟩,⟨2,_,_⟩] (fun i=>[⟨10,true,[],kI (i:Int)⟩]) (fun i=>[⟨1000,[],s9 3 hs (I5 (E5 r ks k) (y6 (o7 r ks k) (b6 ks k)).toNat (w7 (o7 r ks k) (b6 ks k)).toNat i) 0⟩,⟨1001,[],s9 3 hs (I5 (E5 r ks k) (y6 (o7 r ks k) (b6 ks k)).toNat (w7 (o7 r ks k) (b6 ks k)).toNat i) 1⟩,⟨1002,[],s9 3 hs (I5 (E5 r ks k) (y6 (o7 r ks k) (b6 ks k)).toNat (w7 (o7 r ks k) (b6 ks k)).toNat i) 2⟩,⟨1003,[],s9 3 hs (I5 (E5 r ks k) (y6 (o7 r ks k) (b6 ks k)).toNat (w7 (o7 r ks k) (b6 ks k)).toNat i) 3⟩,⟨1004,[],s9 3 hs (I5 (E5 r ks k) (y6 (o7 r ks k) (b6 ks k)).toNat (w7 (o7 r ks k) (b6 ks k)).toNat i) 4⟩,⟨1005,[],s9 3 hs (I5 (E5 r ks k) (y6 (o7 r ks k) (b6 ks k)).toNat (w7 (o7 r ks k) (b6 ks k)).toNat i) 5⟩,⟨1006,[],s9 3 hs (I5 (E5 r ks k) (y6 (o7 r ks k) (b6 ks k)).toNat (w7 (o7 r ks k) (b6 ks k)).toNat i) 6⟩,⟨1007,[],s9 3 hs (I5 (E5 r ks k) (y6 (o7 r ks k) (b6 ks k)).toNat (w7 (o7 r ks k) (b6 ks k)).toNat i) 7⟩]) (fun i=>i<=r.1.length) (fun i=>i=r.1.length) (fun i=>r.1.length-i) (0) zi (d6.mk (.i rfl zi<|zk) (.e (by rw[<- FC]) rfl<|.e (by rw[<- FC]) rfl<|.e (by rw[<- FC]) rfl<|.e (by rw[<- FC]) rfl<|.e (by rw[<- FC]) rfl<|.e (by rw[<- FC]) rfl<|.e (by rw[<- FC]) rfl<|.e (by rw[<- FC]) rfl<|zk) rfl) ?_ ?_
       ·intro i hR0
        refine jn ?_; refine l3 ?_; refine jq ?_ ?_
        ·intro h1
         refine j1 ?_; refine d5.asRow 13 1000 rfl inferInstance zo zo ?_; refine d5.norm (S':=⟨_,_,_,_⟩::⟨_,_,_,_⟩::⟨_,_,_,_⟩::⟨_,_,_,_⟩::⟨_,_,_,_⟩::⟨_,_,_,_⟩::⟨_,_,_,_⟩::⟨_,_,_,_⟩::⟨_,_,_,_⟩::⟨_,_,_,_⟩::⟨_,_,_,_⟩::⟨_,_,_,_⟩::⟨_,_,_,_⟩::⟨_,_,_,_⟩::⟨_,_,_,_⟩::⟨_,_,_,_⟩::⟨_,_,_,_⟩::⟨_,_,_,_⟩::⟨_,_,_,_⟩::⟨_,_,_,_⟩::[]) (M':=[⟨_,_,_⟩,⟨_,_,_⟩,⟨_,_,_⟩,⟨_,_,_⟩,⟨_,_,_⟩,⟨_,_,_⟩,⟨_,_,_⟩,⟨_,_,_⟩,⟨_,_,_⟩,⟨_,_,_⟩,⟨_,_,_⟩]) rfl rfl ?_; refine i7 ?_
         refine Tr.drawA o0 #[false,false,false,false,false,false,false,false,false,false,false] rfl ?_
         have hat:=aL (m:=(E5 r ks k)) (to:=(y6 (o7 r ks k) (b6 ks k)).toNat) (col:=(w7 (o7 r ks k) (b6 ks k)).toNat) (i:=i) (by rw[hmz.len]; omega)
         have hrl:(b6 (I5 (E5 r ks k) (y6 (o7 r ks k) (b6 ks k)).toNat (w7 (o7 r ks k) (b6 ks k)).toNat i) i).length=r.1.length:=by rw[hat]; exact hmz.row i zo
         have hr1:=hmz.rg i (y6 (o7 r ks k) (b6 ks k)).toNat
         have hr2:=hmz.rg i (w7 (o7 r ks k) (b6 ks k)).toNat
         rw[<- hat] at hr1 hr2
         refine b7.take 0 #[true,false,false,false,false,false,false,false,false,false,false] (by kernel_rfl) (by kernel_rfl) (by kernel_rfl) rfl rfl (CO rfl) rfl rfl ?_; refine b7.take 1 #[true,true,false,false,false,false,false,false,false,false,false] (by kernel_rfl) (by kernel_rfl) (by kernel_rfl) rfl rfl (CO rfl) rfl rfl ?_; refine b7.take 2 #[true,true,true,false,false,false,false,false,false,false,false] (by kernel_rfl) (by kernel_rfl) (by kernel_rfl) rfl rfl (TS rfl rfl zo) rfl rfl ?_; refine b7.take 4 #[true,true,true,false,true,false,false,false,false,false,false] (by kernel_rfl) (by kernel_rfl) (by kernel_rfl) rfl rfl (CO rfl) rfl rfl ?_
         refine b7.take 5 #[true,true,true,false,true,true,false,false,false,false,false] (by kernel_rfl) (by kernel_rfl) (by kernel_rfl) rfl rfl (CO rfl) rfl rfl ?_; refine b7.take 6 #[true,true,true,false,true,true,true,false,false,false,false] (by kernel_rfl) (by kernel_rfl) (by kernel_rfl) rfl rfl (TS rfl rfl zo) rfl rfl ?_; refine b7.all [3,7] (by kernel_rfl) (by simp) (fun i hi=>?_)
         simp only[List.mem_cons,List.not_mem_nil,or_false] at hi
         rcases hi with rfl | rfl
         ·refine ⟨_,rfl,?_⟩
          refine tO (SA (t0:=1000) inferInstance rfl uu (fun _=>zo)) rfl rfl ?_; refine b7.k #[true,true,true,true,true,true,true,false,false,false,false] rfl (fun _ _ _ _=>trivial) ?_; refine b7.one 7 (by kernel_rfl) rfl ?_; refine tO (SA (t0:=1000) inferInstance rfl uu (fun _=>zo)) rfl rfl ?_; refine b7.k #[true,true,true,true,true,true,true,true,false,false,false] rfl (fun _ _ _ _=>trivial) ?_; refine b7.take 8 #[true,true,true,true,true,true,true,true,true,false,false] (by kernel_rfl) (by kernel_rfl) (by kernel_rfl) rfl rfl (nN rfl rfl zo) rfl rfl ?_
          refine b7.take 9 #[true,true,true,true,true,true,true,true,true,true,false] (by kernel_rfl) (by kernel_rfl) (by kernel_rfl) rfl rfl (TS rfl rfl zo) rfl rfl ?_; refine b7.one 10 (by kernel_rfl) rfl ?_; refine d5.stR (t0:=1000) inferInstance rfl rfl zo ?_; refine d5.norm (S':=⟨_,_,_,_⟩::⟨_,_,_,_⟩::⟨_,_,_,_⟩::⟨_,_,_,_⟩::⟨_,_,_,_⟩::⟨_,_,_,_⟩::⟨_,_,_,_⟩::⟨_,_,_,_⟩::⟨_,_,_,_⟩::⟨_,_,_,_⟩::⟨_,_,_,_⟩::⟨_,_,_,_⟩::⟨_,_,_,_⟩::⟨_,_,_,_⟩::⟨_,_,_,_⟩::⟨_,_,_,_⟩::⟨_,_,_,_⟩::⟨_,_,_,_⟩::⟨_,_,_,_⟩::⟨_,_,_,_⟩::⟨_,_,_,_⟩::⟨_,_,_,_⟩::⟨_,_,_,_⟩::⟨_,_,_,_⟩::⟨_,_,_,_⟩::⟨_,_,_,_⟩::⟨_,_,_,_⟩::⟨_,_,_,_⟩::⟨_,_,_,_⟩::⟨_,_,_,_⟩::⟨_,_,_,_⟩::[]) (M':=[⟨_,_,_⟩,⟨_,_,_⟩,⟨_,_,_⟩,⟨_,_,_⟩,⟨_,_,_⟩,⟨_,_,_⟩,⟨_,_,_⟩,⟨_,_,_⟩,⟨_,_,_⟩,⟨_,_,_⟩,⟨_,_,_⟩]) rfl rfl ?_
          refine b7.k #[true,true,true,true,true,true,true,true,true,true,true] rfl (fun _ _ _ _=>trivial) ?_; refine b7.done (by kernel_rfl) ?_; refine l3 ?_
          exact d9.lp (i+1) zi zo (d6.mk (.i rfl zi<|zk) (.e (by rw[<- T5 (by rw[hmz.len]; omega)]) rfl<|.e (by rw[<- T5 (by rw[hmz.len]; omega)]) rfl<|.e (by rw[<- T5 (by rw[hmz.len]; omega)]) rfl<|.e (by rw[<- T5 (by rw[hmz.len]; omega)]) rfl<|.e (by rw[<- T5 (by rw[hmz.len]; omega)]) rfl<|.e (by rw[<- T5 (by rw[hmz.len]; omega)]) rfl<|.e (by rw[<- T5 (by rw[hmz.len]; omega)]) rfl<|.e (by rw[<- T5 (by rw[hmz.len]; omega)]) rfl<|zk) rfl)
         ·refine ⟨_,rfl,?_⟩
          refine tO (SA (t0:=1000) inferInstance rfl uu (fun _=>zo)) rfl rfl ?_; refine b7.k #[true,true,true,false,true,true,true,true,false,false,false] rfl (fun _ _ _ _=>trivial) ?_; refine b7.one 3 (by kernel_rfl) rfl ?_; refine tO (SA (t0:=1000) inferInstance rfl uu (fun _=>zo)) rfl rfl ?_; refine b7.k #[true,true,true,true,true,true,true,true,false,false,false] rfl (fun _ _ _ _=>trivial) ?_; refine b7.take 8 #[true,true,true,true,true,true,true,true,true,false,false] (by kernel_rfl) (by kernel_rfl) (by kernel_rfl) rfl rfl (nN rfl rfl zo) rfl rfl ?_
          refine b7.take 9 #[true,true,true,true,true,true,true,true,true,true,false] (by kernel_rfl) (by kernel_rfl) (by kernel_rfl) rfl rfl (TS rfl rfl zo) rfl rfl ?_; refine b7.one 10 (by kernel_rfl) rfl ?_; refine d5.stR (t0:=1000) inferInstance rfl rfl zo ?_; refine d5.norm (S':=⟨_,_,_,_⟩::⟨_,_,_,_⟩::⟨_,_,_,_⟩::⟨_,_,_,_⟩::⟨_,_,_,_⟩::⟨_,_,_,_⟩::⟨_,_,_,_⟩::⟨_,_,_,_⟩::⟨_,_,_,_⟩::⟨_,_,_,_⟩::⟨_,_,_,_⟩::⟨_,_,_,_⟩::⟨_,_,_,_⟩::⟨_,_,_,_⟩::⟨_,_,_,_⟩::⟨_,_,_,_⟩::⟨_,_,_,_⟩::⟨_,_,_,_⟩::⟨_,_,_,_⟩::⟨_,_,_,_⟩::⟨_,_,_,_⟩::⟨_,_,_,_⟩::⟨_,_,_,_⟩::⟨_,_,_,_⟩::⟨_,_,_,_⟩::⟨_,_,_,_⟩::⟨_,_,_,_⟩::⟨_,_,_,_⟩::⟨_,_,_,_⟩::⟨_,_,_,_⟩::⟨_,_,_,_⟩::[]) (M':=[⟨_,_,_⟩,⟨_,_,_⟩,⟨_,_,_⟩,⟨_,_,_⟩,⟨_,_,_⟩,⟨_,_,_⟩,⟨_,_,_⟩,⟨_,_,_⟩,⟨_,_,_⟩,⟨_,_,_⟩,⟨_,_,_⟩]) rfl rfl ?_
          refine b7.k #[true,true,true,true,true,true,true,true,true,true,true] rfl (fun _ _ _ _=>trivial) ?_; refine b7.done (by kernel_rfl) ?_; refine l3 ?_
          exact d9.lp (i+1) zi zo (d6.mk (.i rfl zi<|zk) (.e (by rw[<- T5 (by rw[hmz.len]; omega)]) rfl<|.e (by rw[<- T5 (by rw[hmz.len]; omega)]) rfl<|.e (by rw[<- T5 (by rw[hmz.len]; omega)]) rfl<|.e (by rw[<- T5 (by rw[hmz.len]; omega)]) rfl<|.e (by rw[<- T5 (by rw[hmz.len]; omega)]) rfl<|.e (by rw[<- T5 (by rw[hmz.len]; omega)]) rfl<|.e (by rw[<- T5 (by rw[hmz.len]; omega)]) rfl<|.e (by rw[<- T5 (by rw[hmz.len]; omega)]) rfl<|zk) rfl)
        ·intro h1
         replace h1:=Int.not_lt.1 h1
         refine g9 ?_
         exact d9.cut (i) zo (d6.mk (.i rfl zi<|zk) (zk) rfl)
       ·intro i hin
        refine je ?_; exact d9.inlX (n:=25) (bks:=bks15) (()) trivial rfl (d6.mk (zk) (.k rfl<|.e (by rw[hin,<- hmz.len,FB]) rfl<|.e (by rw[hin,<- hmz.len,FB]) rfl<|.e (by rw[hin,<- hmz.len,FB]) rfl<|.e (by rw[hin,<- hmz.len,FB]) rfl<|.e (by rw[hin,<- hmz.len,FB]) rfl<|.e (by rw[hin,<- hmz.len,FB]) rfl<|.e (by rw[hin,<- hmz.len,FB]) rfl<|.e (by rw[hin,<- hmz.len,FB]) rfl<|zk) rfl) (.cons rfl<|.cons rfl<|.cons rfl<|.cons rfl<|.cons rfl<|.cons rfl<|.cons rfl<|.cons rfl<|.cons rfl<|.cons rfl<|.cons rfl<|.nil) rfl
      intro _ hX15
      refine d5.norm (S':=⟨_,_,_,_⟩::⟨_,_,_,_⟩::⟨_,_,_,_⟩::⟨_,_,_,_⟩::⟨_,_,_,_⟩::⟨_,_,_,_⟩::⟨_,_,_,_⟩::⟨_,_,_,_⟩::⟨_,_,_,_⟩::⟨_,_,_,_⟩::⟨_,_,_,_⟩::⟨_,_,_,_⟩::⟨_,_,_,_⟩::⟨_,_,_,_⟩::⟨_,_,_,_⟩::⟨_,_,_,_⟩::⟨_,_,_,_⟩::⟨_,_,_,_⟩::⟨_,_,_,_⟩::⟨_,_,_,_⟩::⟨_,_,_,_⟩::⟨_,_,_,_⟩::⟨_,_,_,_⟩::⟨_,_,_,_⟩::⟨_,_,_,_⟩::[]) (M':=[⟨_,_,_⟩,⟨_,_,_⟩,⟨_,_,_⟩,⟨_,_,_⟩,⟨_,_,_⟩,⟨_,_,_⟩,⟨_,_,_⟩,⟨_,_,_⟩,⟨_,_,_⟩,⟨_,_,_⟩,⟨_,_,_⟩]) rfl rfl ?_; refine j3 ?_
      exact d9.lp (k+1) zi zo (d6.mk (.i rfl zi<|zk) (.e (by rfl) rfl<|.e (by rfl) rfl<|.e (by rfl) rfl<|.e (by rfl) rfl<|.e (by rfl) rfl<|.e (by rfl) rfl<|.e (by rfl) rfl<|.e (by rfl) rfl<|.e (by rfl) rfl<|zk) rfl)
     ·intro h11
      replace h11:=Int.not_lt.1 h11
      refine g9 ?_
      exact d9.cut (k) zo (d6.mk (.i rfl zi<|zk) (zk) rfl)
    ·rintro _ rfl
     refine je ?_
     have hmz:=fK (ks:=ks) v hi (i:=ks.length) zo
     refine g8 ?_; refine Tr.frzM 8 103 1000 rfl inferInstance zo (by rw[hmz.len,hhl]) (fun i=>by by_cases hi:i<r.1.length; (rw[hmz.row i hi]; simp only[p9]; omega); (rw[v5 (by rw[hmz.len]; omega)]; exact Nat.zero_le _)) rfl ?_; refine jn ?_; refine m9 ?_
     exact g6.resC (fn:=Tryz.f54) (ts:=[5,6]) rfl rfl rfl (t7 rfl (by rfl)) (.r rfl zi<|.i rfl zi<|.nil)

end Go.Fl

/- Contracts: kinds and steps of exchanges (the program). -/
namespace Go.Fl
open Go Go.Proofs
open d5 renaming op->tO
open i9 renaming op->rO
set_option maxRecDepth 100000

theorem lE {p:List Int} {I:Iv} {v:l7}:A7 p I v=1\/A7 p I v=-1\/A7 p I v=0:=by
 unfold A7
 split
 ·rcases IW (a:=b6 v.1 0) with h | h | h
  ·exact .inl h.2
  ·exact .inr (.inl h.2)
  ·exact .inr (.inr h.2)
 ·exact NO
structure R7 (p:List Int) (D:Int) (M n e:Nat) (r:o6) (ls:List l7):Prop where
 rows:F2 r
 nn:r.1.length=n
 len:ls.length=n
 red:∀a,a<n->v7 p (b6 ls a)
 hb:∀a,a<n->HB D (2 ^ e*M) (b6 ls a)
def H4 (sg:l7->Int) (r:o6) (ls:List l7):Int:=sg (B0 (b6 ls (o4 r.1).toNat) (b6 ls (o4 r.2).toNat))
def T9 (sg:l7->Int) (r:o6) (ls:List l7):Int:=if H4 sg r ls=1 then 0 else 1
def T2 (r:o6) (ls:List l7) (kind:Int):List l7:=ls.set (w7 r kind).toNat (B0 (b6 ls (w7 r kind).toNat) (b6 ls (y6 r kind).toNat))
theorem R7.nbd {p:List Int} {D:Int} {M n e a:Nat} {r:o6} {ls l0:List l7} (h:R7 p D M n e r ls) (h0:F8 p D M n l0) (he:e<=16) (ha:a<n):G5 200 (b6 ls a) :=
 h0.nbd (h.hb a ha) (Nat.le_trans (Nat.pow_le_pow_right zo he) (by decide))
theorem YB {l:List l7} {k j:Nat} {x:l7} (h:k<l.length):b6 (l.set k x) j=if j=k then x else b6 l j:=by
 by_cases e:j=k
 ·subst e; rw[if_pos rfl]; simp[b6,h]
 ·rw[if_neg e]; simp[b6,List.getElem?_set_ne (Ne.symm e)]
theorem R7.step {p:List Int} {D:Int} {M n e:Nat} {r:o6} {ls l0:List l7} (h:R7 p D M n e r ls) (h0:F8 p D M n l0) (hi:z7 r=true) (kind:Int):R7 p D M n (e+1) (L9 r kind) (T2 r ls kind):=by
 obtain ⟨h1,h2⟩:=DG h.rows kind
 have hn:=h.nn
 have e1:(w7 r kind).toNat<n:=by omega
 have e2:(y6 r kind).toNat<n:=by omega
 refine ⟨(RD h.rows hi kind).1,(iB h.rows.len h.rows.two).1.trans hn,by unfold T2; rw[List.length_set]; exact h.len,fun a ha=>?_,fun a ha=>?_⟩
 ·unfold T2
  rw[YB (by rw[h.len]; exact e1)]
  split
  ·exact HW (h.red _ e1) (h.red _ e2)
  ·exact h.red a ha
 ·unfold T2
  rw[YB (by rw[h.len]; exact e1)]
  have:2 ^ (e+1)*M=2 ^ e*M+2 ^ e*M:=by rw[Nat.pow_succ',Nat.mul_assoc,Nat.two_mul]
  split
  ·rw[this]; exact (h.hb _ e1).sub h0.pos (h.hb _ e2)
  ·exact (h.hb a ha).mono zo
theorem tF (f:u8) (p q:s5) (h0:z5 f=0) (hp:y3 250 p) (hq:y3 250 q):Ct Tryz.prog 116 [r7 A5 (N8 f),b8 j7 p,b8 j7 q] (b8 j7 (m8 (B0 (j9 f.1 p) (j9 f.1 q)))):=cJ (N8 f) p q 250 (R1 h0) hp hq zo
theorem map_set {l:List l7} {k:Nat} {x:l7}:(l.map m8).set k (m8 x)=(l.set k x).map m8:=by
 rw[List.map_set]
theorem qK (p:List s5) (hn:p.length<=100000) (h0:0<p.length):U9 Tryz.prog 148 [b8 (eL j7) p] (fun t=>o9 t p.length) (l5 false 30 j7 p p.length):=by
 refine U9.mk Tryz.func148 rfl Tryz.ntmps148 rfl (fun w J=>?_); refine m9 ?_; refine tO (ND rfl uu) rfl rfl ?_; refine g8 ?_; refine Tr.exB (s:=4) rfl (fun b1 q1=>?_); refine Tr.cnd rfl ?_ ?_
 ·intro h1
  exact absurd (congrArg List.length (q1 h1)) (by simp only[List.length_nil]; omega)
 ·intro h1
  refine g9 ?_; refine d5.new (AX j7 5) rfl rfl rfl rfl ?_; refine g8 ?_; refine jl ?_; refine g9 ?_
  exact g6.resN (fn:=Tryz.f148) (u:=5) rfl rfl (GY zi zi) (HO zi) inferInstance

set_option maxHeartbeats 1000000 in
theorem cS (x:o8) (D:Int) (M e:Nat) (r:o6) (ls:List l7) (hx:L5 x) (hlo:F8 x.1.1 D M x.2.1.length (F3 x)) (hst:R7 x.1.1 D M x.2.1.length e r ls) (he:e<=16):Ct Tryz.prog 94 [r7 L8 (EG x),b8 eO r,b8 (eL j7) (ls.map m8)] (z6 [kI (if H4 (w3 x) r ls=0 then 0 else T9 (w3 x) r ls),kI (if H4 (w3 x) r ls=0 then 14 else 0)]):=by
 have h0:=hx.fld
 have hpo:=R1 h0
 have hle:x.2.1.length<=8:=hx.rows.le
 have htwo:2<=x.2.1.length:=hx.rows.two
 have hnn:=hst.nn
 have hr2:=hst.rows.len
 have hln:=hst.len
 have hml:(ls.map m8).length=x.2.1.length:=by rw[List.length_map,hln]
 have hg:∀a,a<x.2.1.length->b6 (ls.map m8) a=m8 (b6 ls a):=fun a ha=>EI (by rw[hln]; exact ha)
 have hnb:=fun a (ha:a<x.2.1.length)=>hst.nbd hlo he ha
 have hl1:=BX hst.rows.p1 zo
 have hl2:=BX hst.rows.p2 zo
 have hga:=hg (o4 r.1).toNat zo
 have hgb:=hg (o4 r.2).toNat zo
 have htr:H4 (w3 x) r ls=1\/H4 (w3 x) r ls=-1\/H4 (w3 x) r ls=0:=lE
 have hks:H4 (w3 x) r ls=w3 x (B0 (b6 ls (o4 r.1).toNat) (b6 ls (o4 r.2).toNat)):=rfl
 refine Ct.mk Tryz.func94 rfl Tryz.ntmps94 rfl (fun w J=>?_); refine g8 ?_; refine jb 4 rfl ?_; refine l3 ?_; refine Tr.draw 16 o0 (by kernel_rfl) ?_; refine i5 ?_; refine rO (CB rfl uu) rfl rfl ?_; refine l6 ?_; refine jd (PF r.1 zo) ?_; refine l6 ?_; refine jd (PF r.2 zo) ?_; refine i7 ?_; refine tO (i6 (fun hp=>qN x.1 (b6 (ls.map m8) (o4 r.1).toNat) (b6 (ls.map m8) (o4 r.2).toNat) h0 (by rw[hga]; exact (X5 (hnb _ zo)).mono zo) (by rw[hgb]; exact (X5 (hnb _ zo)).mono zo)) (.a rfl uu<|.a rfl uu<|.a rfl uu<|.nil)) rfl rfl ?_
 rw[hga,hgb,W7 (hst.red _ zo),W7 (hst.red _ zo)]
 refine m9 ?_; refine Tr.cnd rfl ?_ ?_
 ·intro h2
  try simp only[decide_eq_true_eq] at h2
  have q1:H4 (w3 x) r ls=1:=by rw[hks]; assumption
  have q2:T9 (w3 x) r ls=0:=if_pos q1
  refine m9 ?_; exact g6.res (fn:=Tryz.f94) (ts:=[6,7]) rfl rfl (.i rfl (by rw[q1,q2]; rfl)<|.i rfl (by rw[q1]; rfl)<|.nil)
 ·intro h2
  try simp only[decide_eq_false_iff_not] at h2
  have q1:¬H4 (w3 x) r ls=1:=by rw[hks]; assumption
  have q2:T9 (w3 x) r ls=1:=if_neg q1
  refine l3 ?_; refine Tr.cnd rfl ?_ ?_
  ·intro h4
   try simp only[decide_eq_true_eq] at h4
   have q3:H4 (w3 x) r ls=-1:=by rw[hks]; assumption
   refine m9 ?_; exact g6.res (fn:=Tryz.f94) (ts:=[6,7]) rfl rfl (.i rfl (by rw[q3,q2]; rfl)<|.i rfl (by rw[q3]; rfl)<|.nil)
  ·intro h4
   try simp only[decide_eq_false_iff_not] at h4
   have q4:¬H4 (w3 x) r ls=-1:=by rw[hks]; assumption
   have q3:H4 (w3 x) r ls=0:=by omega
   refine u5 ?_; exact g6.res (fn:=Tryz.f94) (ts:=[6,7]) rfl rfl (.i rfl (by rw[q3]; rfl)<|.i rfl (by rw[q3]; rfl)<|.nil)

set_option maxHeartbeats 1000000 in
theorem VE (x:o8) (D:Int) (M e:Nat) (r:o6) (ls:List l7) (k:Int) (hx:L5 x) (hlo:F8 x.1.1 D M x.2.1.length (F3 x)) (hst:R7 x.1.1 D M x.2.1.length e r ls) (he:e<=16):Ct Tryz.prog 95 [r7 L8 (EG x),b8 eO r,b8 (eL j7) (ls.map m8),kI k] (z6 [b8 eO (L9 r k),b8 (eL j7) ((T2 r ls k).map m8)]):=by
 have h0:=hx.fld
 have hpo:=R1 h0
 have hle:x.2.1.length<=8:=hx.rows.le
 have htwo:2<=x.2.1.length:=hx.rows.two
 have hnn:=hst.nn
 have hr2:=hst.rows.len
 have hln:=hst.len
 have hml:(ls.map m8).length=x.2.1.length:=by rw[List.length_map,hln]
 have hg:∀a,a<x.2.1.length->b6 (ls.map m8) a=m8 (b6 ls a):=fun a ha=>EI (by rw[hln]; exact ha)
 have hnb:=fun a (ha:a<x.2.1.length)=>hst.nbd hlo he ha
 obtain ⟨hl1,hl2⟩:=DG hst.rows k
 have hga:=hg (w7 r k).toNat zo
 have hgb:=hg (y6 r k).toNat zo
 refine Ct.mk Tryz.func95 rfl Tryz.ntmps95 rfl (fun w J=>?_); refine g8 ?_; refine jb 5 rfl ?_; refine ja 8 ?_; refine j3 ?_; refine jc (cT r k ⟨zo,zo⟩ ⟨zo,zo⟩) ?_; refine v9 ?_; refine d5.new (EJ 20 (fun hp=>qK (ls.map m8) zo zo) (.a rfl uu<|.nil)) rfl rfl rfl rfl ?_; refine g9 ?_; refine Tr.draw 15 o0 (by kernel_rfl) ?_; refine i7 ?_; refine rO (CB rfl uu) rfl rfl ?_; refine l6 ?_; refine rO (X8 rfl uu rfl rfl rfl rfl) rfl rfl ?_; refine i7 ?_; refine rO (X8 rfl uu rfl rfl rfl rfl) rfl rfl ?_
 refine rO (i6 (fun hp=>tF x.1 (b6 (ls.map m8) (w7 r k).toNat) (b6 (ls.map m8) (y6 r k).toNat) h0 (by rw[hga]; exact (X5 (hnb _ zo)).mono zo) (by rw[hgb]; exact (X5 (hnb _ zo)).mono zo)) (.a rfl uu<|.a rfl uu<|.a rfl uu<|.nil)) rfl rfl ?_
 rw[hga,hgb,W7 (hst.red _ zo),W7 (hst.red _ zo)]
 refine B3 ?_; refine Tr.frz 20 [9] ⟨rfl,trivial⟩ (by simp only[p9]; omega) rfl ?_; refine i5 ?_; exact g6.resC (fn:=Tryz.f95) (ts:=[9]) rfl rfl rfl (t7 rfl (by rfl)) (.r rfl (by unfold T2; rw[map_set])<|.nil)

end Go.Fl

/- Contracts: Path and Step (the program). -/
namespace Go.Fl
open Go Go.Proofs
open d5 renaming op->tO
open i9 renaming op->rO
set_option maxRecDepth 100000

def K9 (sg:l7->Int) (r:o6) (ls:List l7):Nat->o6×List l7
 | 0=>(r,ls)
 | i+1=>(L9 (K9 sg r ls i).1 (T9 sg (K9 sg r ls i).1 (K9 sg r ls i).2),T2 (K9 sg r ls i).1 (K9 sg r ls i).2 (T9 sg (K9 sg r ls i).1 (K9 sg r ls i).2))
def X9 (sg:l7->Int) (r:o6) (ls:List l7) (i:Nat):Int:=T9 sg (K9 sg r ls i).1 (K9 sg r ls i).2
def HP (sg:l7->Int) (r:o6) (ls:List l7) (i:Nat):Int:=H4 sg (K9 sg r ls i).1 (K9 sg r ls i).2
theorem zH {sg:l7->Int} {r:o6} {ls:List l7} {i:Nat}:X9 sg r ls i=0\/X9 sg r ls i=1:=by unfold X9 T9; split<;>simp
theorem SM {p:List Int} {sg:l7->Int} {D:Int} {M n:Nat} {r:o6} {ls l0:List l7} (h:R7 p D M n 0 r ls) (h0:F8 p D M n l0) (hi:z7 r=true):∀i,R7 p D M n i (K9 sg r ls i).1 (K9 sg r ls i).2/\z7 (K9 sg r ls i).1=true
 | 0=>⟨h,hi⟩
 | i+1=>by
  obtain ⟨h1,h2⟩:=SM h h0 hi (sg:=sg) i
  exact ⟨h1.step h0 h2 _,(RD h1.rows h2 _).2⟩
theorem L5.st {x:o8} {D:Int} {M:Nat} (hx:L5 x) (hlo:F8 x.1.1 D M x.2.1.length (F3 x)):R7 x.1.1 D M x.2.1.length 0 (oX x) (F3 x) :=
 ⟨hx.rows,rfl,hlo.len,hlo.red,fun a ha=>by rw[Nat.pow_zero,Nat.one_mul]; exact hlo.hb a ha⟩
abbrev zX:o8:=(([],0,0,0),[],[],[])
noncomputable abbrev E7 (x:o8) (i:Nat):o6×List l7:=K9 (w3 x) (oX x) (F3 x) i
noncomputable abbrev P2 (x:o8) (i:Nat):Int:=X9 (w3 x) (oX x) (F3 x) i
noncomputable abbrev AB (x:o8) (i:Nat):Int:=HP (w3 x) (oX x) (F3 x) i
noncomputable def NE (x:o8) (n:Nat):o8:=(x.1,(E7 x n).1.1,(E7 x n).1.2,(E7 x n).2.map m8)
theorem QS {r:o6} (v:F2 r) (hi:z7 r=true):E0 r=0:=by unfold E0; rw[if_neg (fun a=>a (OX v)),if_pos hi]
theorem LZ (x:o8) (D:Int) (M:Nat) (hx:L5 x) (hlo:F8 x.1.1 D M x.2.1.length (F3 x)):Ct Tryz.prog 93 [b8 eX x] (z6 [r7 L8 (EG x),kI (E0 (oX x))]):=by
 refine Ct.mk Tryz.func93 rfl Tryz.ntmps93 rfl (fun w J=>?_); refine g8 ?_; refine jb 1 rfl ?_; refine j3 ?_; refine jc (tU x D M hx hlo) ?_; refine D7 ?_; refine Tr.cnd rfl ?_ ?_
 ·intro h2
  exact absurd h2 (by decide)
 ·intro h2
  refine l3 ?_; refine tO (CB rfl uu) rfl rfl ?_; refine g8 ?_; refine jc (VF (oX x)) ?_; refine l6 ?_
  exact g6.res (fn:=Tryz.f93) (ts:=[2,3]) rfl rfl (.p rfl zi<|.i rfl zi<|.nil)

theorem dJ (x:o8) (hsm:R6 x) (hne:C1 x≠0):Ct Tryz.prog 93 [b8 eX x] (z6 [j4 (.pointer none),kI (C1 x)]):=by
 refine Ct.mk Tryz.func93 rfl Tryz.ntmps93 rfl (fun w J=>?_); refine g8 ?_; refine jb 1 rfl ?_; refine j3 ?_; refine jc (tW x hsm hne) ?_; refine D7 ?_; refine Tr.cnd rfl ?_ ?_
 ·intro h2
  refine m9 ?_
  exact g6.res (fn:=Tryz.f93) (ts:=[2,3]) rfl rfl (.k rfl<|.i rfl zi<|.nil)
 ·intro h2
  exact absurd (of_decide_eq_false h2) (fun e=>e hne)

set_option maxHeartbeats 2000000 in
theorem rY (x:o8) (D:Int) (M:Nat) (n:Nat) (hx:L5 x) (hlo:F8 x.1.1 D M x.2.1.length (F3 x)) (hir:z7 (oX x)=true) (hn:n<=16) (hnt:∀i,i<n->AB x i≠0):Ct Tryz.prog 47 [b8 eX x,kI (n:Int)] (z6 [b8 eX (NE x n),b8 (eL eI) (j8 n (P2 x)),b8 (eL (eL eI)) (E5 (oX x) (j8 n (P2 x)) n),kI 0]):=by
 have h0:=hx.fld
 have hpo:=R1 h0
 have hs:=(Y8 h0).1.2.1
 have v:=hx.rows
 have hp1:A6 x.2.1 x.2.1.length:=v.p1
 have hp2:A6 x.2.2.1 x.2.1.length:=v.p2
 have hle:x.2.1.length<=8:=v.le
 have htwo:2<=x.2.1.length:=v.two
 have hbl:x.2.2.1.length=x.2.1.length:=v.len
 have hxl:=hx.len
 have hll:=hlo.len
 have hic:=QS hx.rows hir
 have htl:(j8 n (P2 x)).length=n:=p8
 have hfg:=cO (oX x) (j8 n (P2 x)) hx.rows hir (by rw[htl]; omega) (fun k hk=>by obtain ⟨i,_,rfl⟩:=List.mem_map.1 hk; exact zH)
 rw[htl] at hfg
 refine Ct.mk Tryz.func47 rfl Tryz.ntmps47 rfl (fun w J=>?_); refine g8 ?_; refine jb 2 rfl ?_; refine ja 4 ?_; refine j1 ?_; refine jc (LZ x D M hx hlo) ?_
 rw[hic]
 refine D7 ?_; refine Tr.cnd rfl ?_ ?_
 ·intro h2
  exact absurd h2 (by decide)
 ·intro h2
  refine B3 ?_; refine Tr.cnd rfl ?_ ?_
  ·intro h4
   simp at h4; omega
  ·intro h4
   refine g8 ?_; refine Tr.meet2 (σ:=Unit) [⟨1,true,_,_⟩,⟨4,true,_,_⟩,⟨8,true,_,_⟩] [⟨4,_,_⟩] (zk) (zk) (fun _=>[⟨10,true,[10],y5 10 0⟩,⟨11,true,[],b8 (eL j7) ((F3 x).map m8)⟩]) (fun _=>[⟨10,[],j5 [b8 (eL eI) (oX x).1,b8 (eL eI) (oX x).2]⟩]) (fun _=>True) ?_ ?_
   ·skip
    refine Tr.drawA o0 #[false,false,false,false,false,false,false,false,false,false,false] rfl ?_; refine b7.take 0 #[true,false,false,false,false,false,false,false,false,false,false] (by kernel_rfl) (by kernel_rfl) (by kernel_rfl) rfl rfl (CO rfl) rfl rfl ?_; refine b7.take 1 #[true,true,false,false,false,false,false,false,false,false,false] (by kernel_rfl) (by kernel_rfl) (by kernel_rfl) rfl rfl (J7 rfl) rfl rfl ?_; refine b7.take 2 #[true,true,true,false,false,false,false,false,false,false,false] (by kernel_rfl) (by kernel_rfl) (by kernel_rfl) rfl rfl (J6 rfl rfl) rfl rfl ?_
    refine b7.take 4 #[true,true,true,false,true,false,false,false,false,false,false] (by kernel_rfl) (by kernel_rfl) (by kernel_rfl) rfl rfl (CO rfl) rfl rfl ?_; refine b7.take 5 #[true,true,true,false,true,true,false,false,false,false,false] (by kernel_rfl) (by kernel_rfl) (by kernel_rfl) rfl rfl (J7 rfl) rfl rfl ?_; refine b7.take 6 #[true,true,true,false,true,true,true,false,false,false,false] (by kernel_rfl) (by kernel_rfl) (by kernel_rfl) rfl rfl (J6 rfl rfl) rfl rfl ?_; refine b7.all [3,7,8] (by kernel_rfl) (by simp) (fun i hi=>?_)
    simp only[List.mem_cons,List.not_mem_nil,or_false] at hi
    rcases hi with rfl | rfl | rfl
    ·refine ⟨_,rfl,?_⟩
     refine tO (C2 rfl uu rfl rfl) rfl rfl ?_; refine b7.k #[true,true,true,true,true,true,true,false,false,false,false] rfl (fun _ _ _ _=>trivial) ?_; refine b7.all [7,8] (by kernel_rfl) (by simp) (fun i hi=>?_)
     simp only[List.mem_cons,List.not_mem_nil,or_false] at hi
     rcases hi with rfl | rfl
     ·refine ⟨_,rfl,?_⟩
      refine tO (v8 rfl uu rfl) rfl rfl ?_; refine b7.k #[true,true,true,true,true,true,true,true,false,false,false] rfl (fun _ _ _ _=>trivial) ?_; refine b7.one 8 (by kernel_rfl) rfl ?_; refine ja 10 ?_; refine b7.k #[true,true,true,true,true,true,true,true,true,false,false] rfl (fun _ _ _ _=>trivial) ?_; refine b7.one 9 (by kernel_rfl) rfl ?_; refine d5.stB rfl rfl rfl rfl ?_; refine b7.k #[true,true,true,true,true,true,true,true,true,true,false] rfl (fun _ _ _ _=>trivial) ?_; refine b7.one 10 (by kernel_rfl) rfl ?_; refine mw rfl rfl rfl ?_
      refine b7.k #[true,true,true,true,true,true,true,true,true,true,true] rfl (fun _ _ _ _=>trivial) ?_; refine b7.done (by kernel_rfl) ?_
      exact d9.cut (()) zi (d6.mk (.k rfl rfl<|.r rfl (by rfl)<|zk) (zk) rfl)
     ·refine ⟨_,rfl,?_⟩
      refine ja 10 ?_; refine b7.k #[true,true,true,true,true,true,true,false,true,false,false] rfl (fun _ _ _ _=>trivial) ?_; refine b7.all [7,9] (by kernel_rfl) (by simp) (fun i hi=>?_)
      simp only[List.mem_cons,List.not_mem_nil,or_false] at hi
      rcases hi with rfl | rfl
      ·refine ⟨_,rfl,?_⟩
       refine tO (v8 rfl uu rfl) rfl rfl ?_; refine b7.k #[true,true,true,true,true,true,true,true,true,false,false] rfl (fun _ _ _ _=>trivial) ?_; refine b7.one 9 (by kernel_rfl) rfl ?_; refine d5.stB rfl rfl rfl rfl ?_; refine b7.k #[true,true,true,true,true,true,true,true,true,true,false] rfl (fun _ _ _ _=>trivial) ?_; refine b7.one 10 (by kernel_rfl) rfl ?_; refine mw rfl rfl rfl ?_; refine b7.k #[true,true,true,true,true,true,true,true,true,true,true] rfl (fun _ _ _ _=>trivial) ?_; refine b7.done (by kernel_rfl) ?_
       exact d9.cut (()) zi (d6.mk (.k rfl rfl<|.r rfl (by rfl)<|zk) (zk) rfl)
      ·refine ⟨_,rfl,?_⟩
       refine d5.stB rfl rfl rfl rfl ?_; refine b7.k #[true,true,true,true,true,true,true,false,true,true,false] rfl (fun _ _ _ _=>trivial) ?_; refine b7.one 7 (by kernel_rfl) rfl ?_; refine tO (v8 rfl uu rfl) rfl rfl ?_; refine b7.k #[true,true,true,true,true,true,true,true,true,true,false] rfl (fun _ _ _ _=>trivial) ?_; refine b7.one 10 (by kernel_rfl) rfl ?_; refine mw rfl rfl rfl ?_; refine b7.k #[true,true,true,true,true,true,true,true,true,true,true] rfl (fun _ _ _ _=>trivial) ?_; refine b7.done (by kernel_rfl) ?_
       exact d9.cut (()) zi (d6.mk (.k rfl rfl<|.r rfl (by rfl)<|zk) (zk) rfl)
    ·refine ⟨_,rfl,?_⟩
     refine tO (v8 rfl uu rfl) rfl rfl ?_; refine b7.k #[true,true,true,false,true,true,true,true,false,false,false] rfl (fun _ _ _ _=>trivial) ?_; refine b7.all [3,8] (by kernel_rfl) (by simp) (fun i hi=>?_)
     simp only[List.mem_cons,List.not_mem_nil,or_false] at hi
     rcases hi with rfl | rfl
     ·refine ⟨_,rfl,?_⟩
      refine tO (C2 rfl uu rfl rfl) rfl rfl ?_; refine b7.k #[true,true,true,true,true,true,true,true,false,false,false] rfl (fun _ _ _ _=>trivial) ?_; refine b7.one 8 (by kernel_rfl) rfl ?_; refine ja 10 ?_; refine b7.k #[true,true,true,true,true,true,true,true,true,false,false] rfl (fun _ _ _ _=>trivial) ?_; refine b7.one 9 (by kernel_rfl) rfl ?_; refine d5.stB rfl rfl rfl rfl ?_; refine b7.k #[true,true,true,true,true,true,true,true,true,true,false] rfl (fun _ _ _ _=>trivial) ?_; refine b7.one 10 (by kernel_rfl) rfl ?_; refine mw rfl rfl rfl ?_
      refine b7.k #[true,true,true,true,true,true,true,true,true,true,true] rfl (fun _ _ _ _=>trivial) ?_; refine b7.done (by kernel_rfl) ?_
      exact d9.cut (()) zi (d6.mk (.k rfl rfl<|.r rfl (by rfl)<|zk) (zk) rfl)
     ·refine ⟨_,rfl,?_⟩
      refine ja 10 ?_; refine b7.k #[true,true,true,false,true,true,true,true,true,false,false] rfl (fun _ _ _ _=>trivial) ?_; refine b7.one 3 (by kernel_rfl) rfl ?_; refine tO (C2 rfl uu rfl rfl) rfl rfl ?_; refine b7.k #[true,true,true,true,true,true,true,true,true,false,false] rfl (fun _ _ _ _=>trivial) ?_; refine b7.one 9 (by kernel_rfl) rfl ?_; refine d5.stB rfl rfl rfl rfl ?_; refine b7.k #[true,true,true,true,true,true,true,true,true,true,false] rfl (fun _ _ _ _=>trivial) ?_; refine b7.one 10 (by kernel_rfl) rfl ?_; refine mw rfl rfl rfl ?_
      refine b7.k #[true,true,true,true,true,true,true,true,true,true,true] rfl (fun _ _ _ _=>trivial) ?_; refine b7.done (by kernel_rfl) ?_
      exact d9.cut (()) zi (d6.mk (.k rfl rfl<|.r rfl (by rfl)<|zk) (zk) rfl)
    ·refine ⟨_,rfl,?_⟩
     refine ja 10 ?_; refine b7.k #[true,true,true,false,true,true,true,false,true,false,false] rfl (fun _ _ _ _=>trivial) ?_; refine b7.all [3,7] (by kernel_rfl) (by simp) (fun i hi=>?_)
     simp only[List.mem_cons,List.not_mem_nil,or_false] at hi
     rcases hi with rfl | rfl
     ·refine ⟨_,rfl,?_⟩
      refine tO (C2 rfl uu rfl rfl) rfl rfl ?_; refine b7.k #[true,true,true,true,true,true,true,false,true,false,false] rfl (fun _ _ _ _=>trivial) ?_; refine b7.all [7,9] (by kernel_rfl) (by simp) (fun i hi=>?_)
      simp only[List.mem_cons,List.not_mem_nil,or_false] at hi
      rcases hi with rfl | rfl
      ·refine ⟨_,rfl,?_⟩
       refine tO (v8 rfl uu rfl) rfl rfl ?_; refine b7.k #[true,true,true,true,true,true,true,true,true,false,false] rfl (fun _ _ _ _=>trivial) ?_; refine b7.one 9 (by kernel_rfl) rfl ?_; refine d5.stB rfl rfl rfl rfl ?_; refine b7.k #[true,true,true,true,true,true,true,true,true,true,false] rfl (fun _ _ _ _=>trivial) ?_; refine b7.one 10 (by kernel_rfl) rfl ?_; refine mw rfl rfl rfl ?_; refine b7.k #[true,true,true,true,true,true,true,true,true,true,true] rfl (fun _ _ _ _=>trivial) ?_; refine b7.done (by kernel_rfl) ?_
       exact d9.cut (()) zi (d6.mk (.k rfl rfl<|.r rfl (by rfl)<|zk) (zk) rfl)
      ·refine ⟨_,rfl,?_⟩
       refine d5.stB rfl rfl rfl rfl ?_; refine b7.k #[true,true,true,true,true,true,true,false,true,true,false] rfl (fun _ _ _ _=>trivial) ?_; refine b7.one 7 (by kernel_rfl) rfl ?_; refine tO (v8 rfl uu rfl) rfl rfl ?_; refine b7.k #[true,true,true,true,true,true,true,true,true,true,false] rfl (fun _ _ _ _=>trivial) ?_; refine b7.one 10 (by kernel_rfl) rfl ?_; refine mw rfl rfl rfl ?_; refine b7.k #[true,true,true,true,true,true,true,true,true,true,true] rfl (fun _ _ _ _=>trivial) ?_; refine b7.done (by kernel_rfl) ?_
       exact d9.cut (()) zi (d6.mk (.k rfl rfl<|.r rfl (by rfl)<|zk) (zk) rfl)
     ·refine ⟨_,rfl,?_⟩
      refine tO (v8 rfl uu rfl) rfl rfl ?_; refine b7.k #[true,true,true,false,true,true,true,true,true,false,false] rfl (fun _ _ _ _=>trivial) ?_; refine b7.one 3 (by kernel_rfl) rfl ?_; refine tO (C2 rfl uu rfl rfl) rfl rfl ?_; refine b7.k #[true,true,true,true,true,true,true,true,true,false,false] rfl (fun _ _ _ _=>trivial) ?_; refine b7.one 9 (by kernel_rfl) rfl ?_; refine d5.stB rfl rfl rfl rfl ?_; refine b7.k #[true,true,true,true,true,true,true,true,true,true,false] rfl (fun _ _ _ _=>trivial) ?_; refine b7.one 10 (by kernel_rfl) rfl ?_
      refine mw rfl rfl rfl ?_; refine b7.k #[true,true,true,true,true,true,true,true,true,true,true] rfl (fun _ _ _ _=>trivial) ?_; refine b7.done (by kernel_rfl) ?_
      exact d9.cut (()) zi (d6.mk (.k rfl rfl<|.r rfl (by rfl)<|zk) (zk) rfl)
   ·intro _ hM
    refine jn ?_; refine v9 ?_; refine Tr.grow (s:=12) rfl rfl 112 rfl 3 eI rfl ?_
    refine Tr.for1 (σ:=Nat) [⟨4,true,_,_⟩,⟨8,true,_,_⟩,⟨10,true,_,_⟩,⟨42,true,_,_⟩] [] (fun k=>[⟨11,true,[],b8 (eL j7) ((E7 x k).2.map m8)⟩,⟨12,true,[112],o9 112 k⟩,⟨43,true,[],kI (k:Int)⟩]) (fun k=>[⟨10,[],j5 [b8 (eL eI) (E7 x k).1.1,b8 (eL eI) (E7 x k).1.2]⟩,⟨4,[],j5 [j4 (.slice none 0 0),kI 0,kI 0,kI 0,j4 (.slice none 0 0),j4 (.slice none 0 0),j4 (.slice none 0 0)]⟩,⟨112,[],l5 true 3 eI (j8 k (P2 x)) k⟩]) (fun k=>k<=n) (fun k=>n=k) (fun k=>n-k) (0) zi (d6.mk (.r rfl (by rfl)<|.o rfl zi rfl<|.i rfl zi<|zk) (.e (by rfl) rfl<|.k rfl<|.a (by rfl) zi<|.nil) rfl) ?_ ?_
    ·intro k hR0
     refine jn ?_
     obtain ⟨hst,hik⟩:=SM (sg:=w3 x) (hx.st hlo) hlo hir k
     refine l3 ?_; refine jq ?_ ?_
     ·intro h9
      refine m9 ?_; refine jc (cS x D M k (E7 x k).1 (E7 x k).2 hx hlo hst zo) ?_
      rw[show H4 (w3 x) (E7 x k).1 (E7 x k).2=AB x k from rfl,if_neg (hnt k zo),if_neg (hnt k zo),show T9 (w3 x) (E7 x k).1 (E7 x k).2=P2 x k from rfl]
      refine D7 ?_; refine Tr.cnd rfl ?_ ?_
      ·intro h11
       exact absurd h11 (by decide)
      ·intro h11
       refine l3 ?_; refine d5.new (y7 eI 58 (fun hp=>.cons rfl<|.nil) rfl rfl rfl rfl) rfl rfl rfl rfl ?_; refine i5 ?_; refine jl ?_; refine j1 ?_; refine jc (VE x D M k (E7 x k).1 (E7 x k).2 (P2 x k) hx hlo hst zo) ?_; refine v9 ?_
       exact d9.lp (k+1) zi zo (d6.mk (.r rfl (by rfl)<|.o rfl zi rfl<|.i rfl zi<|zk) (.e (by rfl) rfl<|.k rfl<|.a H0.symm zi<|.nil) rfl)
     ·intro h9
      replace h9:=Int.not_lt.1 h9
      refine g9 ?_
      exact d9.cut (k) zo (d6.mk (.r rfl zi<|.o rfl zi rfl<|.i rfl zi<|zk) (zk) rfl)
    ·rintro _ rfl
     refine je ?_
     obtain ⟨hsn,hin⟩:=SM (sg:=w3 x) (hx.st hlo) hlo hir n
     have hsn1:(E7 x n).1.1.length=x.2.1.length:=hsn.nn
     have hsn2:(E7 x n).1.2.length=(E7 x n).1.1.length:=hsn.rows.len
     refine g9 ?_; refine tO (CB rfl uu) rfl rfl ?_; refine i7 ?_; refine d5.frz 112 [12,74] ⟨rfl,rfl,trivial⟩ (by simp only[p9]; omega) rfl ?_; refine jl ?_; refine jc hfg ?_; refine g9 ?_; refine ja 15 ?_; refine u5 ?_; refine jc (tS (N8 x.1) (oX x) (E7 x n).1 (F3 x) ((E7 x n).2.map m8) (by show x.1.1.length<=1000; have:=hpo.1; omega) zo zo) ?_; refine m9 ?_
     exact g6.resC (fn:=Tryz.f47) (ts:=[5,6,7]) rfl rfl rfl (t7 rfl (by rfl)) (.r rfl zi<|.r rfl zi<|.i rfl zi<|.nil)

end Go.Fl

/- Contracts: errors of Path; Step (the program). -/
namespace Go.Fl
open Go Go.Proofs
open d5 renaming op->tO
open i9 renaming op->rO
set_option maxRecDepth 100000

noncomputable def Y5 (x:o8):Nat->Bool
 | 0=>false
 | i+1=>Y5 x i||decide (AB x i=0)
theorem ZP {x:o8}:∀{n:Nat},Y5 x n=true->∃i,i<n/\AB x i=0
 | n+1,h=>by
  rw[Y5,Bool.or_eq_true,decide_eq_true_eq] at h
  rcases h with h | h
  ·obtain ⟨i,hi,e⟩:=ZP h; exact ⟨i,by omega,e⟩
  ·exact ⟨n,by omega,h⟩
theorem ZQ {x:o8}:∀{n:Nat},Y5 x n=false->∀i,i<n->AB x i≠0
 | n+1,h,i,hi=>by
  rw[Y5,Bool.or_eq_false_iff,decide_eq_false_iff_not] at h
  by_cases e:i=n
  ·rw[e]; exact h.2
  ·exact ZQ h.1 i zo
theorem rX (x:o8) (n:Int) (hsm:R6 x) (hne:C1 x≠0):Ct Tryz.prog 47 [b8 eX x,kI n] (z6 [b8 eX zX,b8 (eL eI) [],b8 (eL (eL eI)) [],kI (C1 x)]):=by
 refine Ct.mk Tryz.func47 rfl Tryz.ntmps47 rfl (fun w J=>?_); refine g8 ?_; refine jb 2 rfl ?_; refine ja 4 ?_; refine j1 ?_; refine jc (dJ x hsm hne) ?_; refine D7 ?_; refine Tr.cnd rfl ?_ ?_
 ·intro h2
  refine g8 ?_; refine tO (A1 (fun hp=>.nil)) rfl rfl ?_; refine m9 ?_
  exact g6.resC (fn:=Tryz.f47) (ts:=[5,6,7]) rfl rfl rfl (t7 rfl (by rfl)) (.n rfl zi<|.n rfl zi<|.i rfl zi<|.nil)
 ·intro h2
  exact absurd (of_decide_eq_false h2) (fun e=>e hne)

theorem rZ (x:o8) (D:Int) (M:Nat) (n:Int) (hx:L5 x) (hlo:F8 x.1.1 D M x.2.1.length (F3 x)) (hne:E0 (oX x)≠0):Ct Tryz.prog 47 [b8 eX x,kI n] (z6 [b8 eX zX,b8 (eL eI) [],b8 (eL (eL eI)) [],kI (E0 (oX x))]):=by
 have h0:=hx.fld
 have hpo:=R1 h0
 have hs:=(Y8 h0).1.2.1
 have v:=hx.rows
 have hp1:A6 x.2.1 x.2.1.length:=v.p1
 have hp2:A6 x.2.2.1 x.2.1.length:=v.p2
 have hle:x.2.1.length<=8:=v.le
 have htwo:2<=x.2.1.length:=v.two
 have hbl:x.2.2.1.length=x.2.1.length:=v.len
 have hxl:=hx.len
 have hll:=hlo.len
 refine Ct.mk Tryz.func47 rfl Tryz.ntmps47 rfl (fun w J=>?_); refine g8 ?_; refine jb 2 rfl ?_; refine ja 4 ?_; refine j1 ?_; refine jc (LZ x D M hx hlo) ?_; refine D7 ?_; refine Tr.cnd rfl ?_ ?_
 ·intro h2
  refine g8 ?_; refine tO (A1 (fun hp=>.nil)) rfl rfl ?_; refine m9 ?_
  exact g6.resC (fn:=Tryz.f47) (ts:=[5,6,7]) rfl rfl rfl (t7 rfl (by rfl)) (.n rfl zi<|.n rfl zi<|.i rfl zi<|.nil)
 ·intro h2
  exact absurd (of_decide_eq_false h2) (fun e=>e hne)

theorem sA (x:o8) (D:Int) (M:Nat) (n:Int) (hx:L5 x) (hlo:F8 x.1.1 D M x.2.1.length (F3 x)) (hir:z7 (oX x)=true) (hnr:-9223372036854775808<=n/\n<=9223372036854775807) (hrg:n<0\/60<n):Ct Tryz.prog 47 [b8 eX x,kI n] (z6 [b8 eX zX,b8 (eL eI) [],b8 (eL (eL eI)) [],kI 2]):=by
 have h0:=hx.fld
 have hpo:=R1 h0
 have hs:=(Y8 h0).1.2.1
 have v:=hx.rows
 have hp1:A6 x.2.1 x.2.1.length:=v.p1
 have hp2:A6 x.2.2.1 x.2.1.length:=v.p2
 have hle:x.2.1.length<=8:=v.le
 have htwo:2<=x.2.1.length:=v.two
 have hbl:x.2.2.1.length=x.2.1.length:=v.len
 have hxl:=hx.len
 have hll:=hlo.len
 have hic:=QS hx.rows hir
 refine Ct.mk Tryz.func47 rfl Tryz.ntmps47 rfl (fun w J=>?_); refine g8 ?_; refine jb 2 rfl ?_; refine ja 4 ?_; refine j1 ?_; refine jc (LZ x D M hx hlo) ?_
 rw[hic]
 refine D7 ?_; refine Tr.cnd rfl ?_ ?_
 ·intro h2
  exact absurd h2 (by decide)
 ·intro h2
  refine B3 ?_; refine Tr.cnd rfl ?_ ?_
  ·intro h4
   refine g8 ?_; refine tO (A1 (fun hp=>.nil)) rfl rfl ?_; refine j1 ?_
   exact g6.resC (fn:=Tryz.f47) (ts:=[5,6,7]) rfl rfl rfl (t7 rfl (by rfl)) (.n rfl zi<|.n rfl zi<|.i rfl zi<|.nil)
  ·intro h4
   simp at h4; omega

set_option maxHeartbeats 2000000 in
theorem sB (x:o8) (D:Int) (M:Nat) (n i0:Nat) (hx:L5 x) (hlo:F8 x.1.1 D M x.2.1.length (F3 x)) (hir:z7 (oX x)=true) (hn:n<=16) (hi0:i0<n) (hz0:AB x i0=0):Ct Tryz.prog 47 [b8 eX x,kI (n:Int)] (z6 [b8 eX zX,b8 (eL eI) [],b8 (eL (eL eI)) [],kI 14]):=by
 have h0:=hx.fld
 have hpo:=R1 h0
 have hs:=(Y8 h0).1.2.1
 have v:=hx.rows
 have hp1:A6 x.2.1 x.2.1.length:=v.p1
 have hp2:A6 x.2.2.1 x.2.1.length:=v.p2
 have hle:x.2.1.length<=8:=v.le
 have htwo:2<=x.2.1.length:=v.two
 have hbl:x.2.2.1.length=x.2.1.length:=v.len
 have hxl:=hx.len
 have hll:=hlo.len
 have hic:=QS hx.rows hir
 refine Ct.mk Tryz.func47 rfl Tryz.ntmps47 rfl (fun w J=>?_); refine g8 ?_; refine jb 2 rfl ?_; refine ja 4 ?_; refine j1 ?_; refine jc (LZ x D M hx hlo) ?_
 rw[hic]
 refine D7 ?_; refine Tr.cnd rfl ?_ ?_
 ·intro h2
  exact absurd h2 (by decide)
 ·intro h2
  refine B3 ?_; refine Tr.cnd rfl ?_ ?_
  ·intro h4
   simp at h4; omega
  ·intro h4
   refine g8 ?_; refine Tr.meet2 (σ:=Unit) [⟨1,true,_,_⟩,⟨4,true,_,_⟩,⟨8,true,_,_⟩] [⟨4,_,_⟩] (zk) (zk) (fun _=>[⟨10,true,[10],y5 10 0⟩,⟨11,true,[],b8 (eL j7) ((F3 x).map m8)⟩]) (fun _=>[⟨10,[],j5 [b8 (eL eI) (oX x).1,b8 (eL eI) (oX x).2]⟩]) (fun _=>True) ?_ ?_
   ·skip
    refine Tr.drawA o0 #[false,false,false,false,false,false,false,false,false,false,false] rfl ?_; refine b7.take 0 #[true,false,false,false,false,false,false,false,false,false,false] (by kernel_rfl) (by kernel_rfl) (by kernel_rfl) rfl rfl (CO rfl) rfl rfl ?_; refine b7.take 1 #[true,true,false,false,false,false,false,false,false,false,false] (by kernel_rfl) (by kernel_rfl) (by kernel_rfl) rfl rfl (J7 rfl) rfl rfl ?_; refine b7.take 2 #[true,true,true,false,false,false,false,false,false,false,false] (by kernel_rfl) (by kernel_rfl) (by kernel_rfl) rfl rfl (J6 rfl rfl) rfl rfl ?_
    refine b7.take 4 #[true,true,true,false,true,false,false,false,false,false,false] (by kernel_rfl) (by kernel_rfl) (by kernel_rfl) rfl rfl (CO rfl) rfl rfl ?_; refine b7.take 5 #[true,true,true,false,true,true,false,false,false,false,false] (by kernel_rfl) (by kernel_rfl) (by kernel_rfl) rfl rfl (J7 rfl) rfl rfl ?_; refine b7.take 6 #[true,true,true,false,true,true,true,false,false,false,false] (by kernel_rfl) (by kernel_rfl) (by kernel_rfl) rfl rfl (J6 rfl rfl) rfl rfl ?_; refine b7.all [3,7,8] (by kernel_rfl) (by simp) (fun i hi=>?_)
    simp only[List.mem_cons,List.not_mem_nil,or_false] at hi
    rcases hi with rfl | rfl | rfl
    ·refine ⟨_,rfl,?_⟩
     refine tO (C2 rfl uu rfl rfl) rfl rfl ?_; refine b7.k #[true,true,true,true,true,true,true,false,false,false,false] rfl (fun _ _ _ _=>trivial) ?_; refine b7.all [7,8] (by kernel_rfl) (by simp) (fun i hi=>?_)
     simp only[List.mem_cons,List.not_mem_nil,or_false] at hi
     rcases hi with rfl | rfl
     ·refine ⟨_,rfl,?_⟩
      refine tO (v8 rfl uu rfl) rfl rfl ?_; refine b7.k #[true,true,true,true,true,true,true,true,false,false,false] rfl (fun _ _ _ _=>trivial) ?_; refine b7.one 8 (by kernel_rfl) rfl ?_; refine ja 10 ?_; refine b7.k #[true,true,true,true,true,true,true,true,true,false,false] rfl (fun _ _ _ _=>trivial) ?_; refine b7.one 9 (by kernel_rfl) rfl ?_; refine d5.stB rfl rfl rfl rfl ?_; refine b7.k #[true,true,true,true,true,true,true,true,true,true,false] rfl (fun _ _ _ _=>trivial) ?_; refine b7.one 10 (by kernel_rfl) rfl ?_; refine mw rfl rfl rfl ?_
      refine b7.k #[true,true,true,true,true,true,true,true,true,true,true] rfl (fun _ _ _ _=>trivial) ?_; refine b7.done (by kernel_rfl) ?_
      exact d9.cut (()) zi (d6.mk (.k rfl rfl<|.r rfl (by rfl)<|zk) (zk) rfl)
     ·refine ⟨_,rfl,?_⟩
      refine ja 10 ?_; refine b7.k #[true,true,true,true,true,true,true,false,true,false,false] rfl (fun _ _ _ _=>trivial) ?_; refine b7.all [7,9] (by kernel_rfl) (by simp) (fun i hi=>?_)
      simp only[List.mem_cons,List.not_mem_nil,or_false] at hi
      rcases hi with rfl | rfl
      ·refine ⟨_,rfl,?_⟩
       refine tO (v8 rfl uu rfl) rfl rfl ?_; refine b7.k #[true,true,true,true,true,true,true,true,true,false,false] rfl (fun _ _ _ _=>trivial) ?_; refine b7.one 9 (by kernel_rfl) rfl ?_; refine d5.stB rfl rfl rfl rfl ?_; refine b7.k #[true,true,true,true,true,true,true,true,true,true,false] rfl (fun _ _ _ _=>trivial) ?_; refine b7.one 10 (by kernel_rfl) rfl ?_; refine mw rfl rfl rfl ?_; refine b7.k #[true,true,true,true,true,true,true,true,true,true,true] rfl (fun _ _ _ _=>trivial) ?_; refine b7.done (by kernel_rfl) ?_
       exact d9.cut (()) zi (d6.mk (.k rfl rfl<|.r rfl (by rfl)<|zk) (zk) rfl)
      ·refine ⟨_,rfl,?_⟩
       refine d5.stB rfl rfl rfl rfl ?_; refine b7.k #[true,true,true,true,true,true,true,false,true,true,false] rfl (fun _ _ _ _=>trivial) ?_; refine b7.one 7 (by kernel_rfl) rfl ?_; refine tO (v8 rfl uu rfl) rfl rfl ?_; refine b7.k #[true,true,true,true,true,true,true,true,true,true,false] rfl (fun _ _ _ _=>trivial) ?_; refine b7.one 10 (by kernel_rfl) rfl ?_; refine mw rfl rfl rfl ?_; refine b7.k #[true,true,true,true,true,true,true,true,true,true,true] rfl (fun _ _ _ _=>trivial) ?_; refine b7.done (by kernel_rfl) ?_
       exact d9.cut (()) zi (d6.mk (.k rfl rfl<|.r rfl (by rfl)<|zk) (zk) rfl)
    ·refine ⟨_,rfl,?_⟩
     refine tO (v8 rfl uu rfl) rfl rfl ?_; refine b7.k #[true,true,true,false,true,true,true,true,false,false,false] rfl (fun _ _ _ _=>trivial) ?_; refine b7.all [3,8] (by kernel_rfl) (by simp) (fun i hi=>?_)
     simp only[List.mem_cons,List.not_mem_nil,or_false] at hi
     rcases hi with rfl | rfl
     ·refine ⟨_,rfl,?_⟩
      refine tO (C2 rfl uu rfl rfl) rfl rfl ?_; refine b7.k #[true,true,true,true,true,true,true,true,false,false,false] rfl (fun _ _ _ _=>trivial) ?_; refine b7.one 8 (by kernel_rfl) rfl ?_; refine ja 10 ?_; refine b7.k #[true,true,true,true,true,true,true,true,true,false,false] rfl (fun _ _ _ _=>trivial) ?_; refine b7.one 9 (by kernel_rfl) rfl ?_; refine d5.stB rfl rfl rfl rfl ?_; refine b7.k #[true,true,true,true,true,true,true,true,true,true,false] rfl (fun _ _ _ _=>trivial) ?_; refine b7.one 10 (by kernel_rfl) rfl ?_; refine mw rfl rfl rfl ?_
      refine b7.k #[true,true,true,true,true,true,true,true,true,true,true] rfl (fun _ _ _ _=>trivial) ?_; refine b7.done (by kernel_rfl) ?_
      exact d9.cut (()) zi (d6.mk (.k rfl rfl<|.r rfl (by rfl)<|zk) (zk) rfl)
     ·refine ⟨_,rfl,?_⟩
      refine ja 10 ?_; refine b7.k #[true,true,true,false,true,true,true,true,true,false,false] rfl (fun _ _ _ _=>trivial) ?_; refine b7.one 3 (by kernel_rfl) rfl ?_; refine tO (C2 rfl uu rfl rfl) rfl rfl ?_; refine b7.k #[true,true,true,true,true,true,true,true,true,false,false] rfl (fun _ _ _ _=>trivial) ?_; refine b7.one 9 (by kernel_rfl) rfl ?_; refine d5.stB rfl rfl rfl rfl ?_; refine b7.k #[true,true,true,true,true,true,true,true,true,true,false] rfl (fun _ _ _ _=>trivial) ?_; refine b7.one 10 (by kernel_rfl) rfl ?_; refine mw rfl rfl rfl ?_
      refine b7.k #[true,true,true,true,true,true,true,true,true,true,true] rfl (fun _ _ _ _=>trivial) ?_; refine b7.done (by kernel_rfl) ?_
      exact d9.cut (()) zi (d6.mk (.k rfl rfl<|.r rfl (by rfl)<|zk) (zk) rfl)
    ·refine ⟨_,rfl,?_⟩
     refine ja 10 ?_; refine b7.k #[true,true,true,false,true,true,true,false,true,false,false] rfl (fun _ _ _ _=>trivial) ?_; refine b7.all [3,7] (by kernel_rfl) (by simp) (fun i hi=>?_)
     simp only[List.mem_cons,List.not_mem_nil,or_false] at hi
     rcases hi with rfl | rfl
     ·refine ⟨_,rfl,?_⟩
      refine tO (C2 rfl uu rfl rfl) rfl rfl ?_; refine b7.k #[true,true,true,true,true,true,true,false,true,false,false] rfl (fun _ _ _ _=>trivial) ?_; refine b7.all [7,9] (by kernel_rfl) (by simp) (fun i hi=>?_)
      simp only[List.mem_cons,List.not_mem_nil,or_false] at hi
      rcases hi with rfl | rfl
      ·refine ⟨_,rfl,?_⟩
       refine tO (v8 rfl uu rfl) rfl rfl ?_; refine b7.k #[true,true,true,true,true,true,true,true,true,false,false] rfl (fun _ _ _ _=>trivial) ?_; refine b7.one 9 (by kernel_rfl) rfl ?_; refine d5.stB rfl rfl rfl rfl ?_; refine b7.k #[true,true,true,true,true,true,true,true,true,true,false] rfl (fun _ _ _ _=>trivial) ?_; refine b7.one 10 (by kernel_rfl) rfl ?_; refine mw rfl rfl rfl ?_; refine b7.k #[true,true,true,true,true,true,true,true,true,true,true] rfl (fun _ _ _ _=>trivial) ?_; refine b7.done (by kernel_rfl) ?_
       exact d9.cut (()) zi (d6.mk (.k rfl rfl<|.r rfl (by rfl)<|zk) (zk) rfl)
      ·refine ⟨_,rfl,?_⟩
       refine d5.stB rfl rfl rfl rfl ?_; refine b7.k #[true,true,true,true,true,true,true,false,true,true,false] rfl (fun _ _ _ _=>trivial) ?_; refine b7.one 7 (by kernel_rfl) rfl ?_; refine tO (v8 rfl uu rfl) rfl rfl ?_; refine b7.k #[true,true,true,true,true,true,true,true,true,true,false] rfl (fun _ _ _ _=>trivial) ?_; refine b7.one 10 (by kernel_rfl) rfl ?_; refine mw rfl rfl rfl ?_; refine b7.k #[true,true,true,true,true,true,true,true,true,true,true] rfl (fun _ _ _ _=>trivial) ?_; refine b7.done (by kernel_rfl) ?_
       exact d9.cut (()) zi (d6.mk (.k rfl rfl<|.r rfl (by rfl)<|zk) (zk) rfl)
     ·refine ⟨_,rfl,?_⟩
      refine tO (v8 rfl uu rfl) rfl rfl ?_; refine b7.k #[true,true,true,false,true,true,true,true,true,false,false] rfl (fun _ _ _ _=>trivial) ?_; refine b7.one 3 (by kernel_rfl) rfl ?_; refine tO (C2 rfl uu rfl rfl) rfl rfl ?_; refine b7.k #[true,true,true,true,true,true,true,true,true,false,false] rfl (fun _ _ _ _=>trivial) ?_; refine b7.one 9 (by kernel_rfl) rfl ?_; refine d5.stB rfl rfl rfl rfl ?_; refine b7.k #[true,true,true,true,true,true,true,true,true,true,false] rfl (fun _ _ _ _=>trivial) ?_; refine b7.one 10 (by kernel_rfl) rfl ?_
      refine mw rfl rfl rfl ?_; refine b7.k #[true,true,true,true,true,true,true,true,true,true,true] rfl (fun _ _ _ _=>trivial) ?_; refine b7.done (by kernel_rfl) ?_
      exact d9.cut (()) zi (d6.mk (.k rfl rfl<|.r rfl (by rfl)<|zk) (zk) rfl)
   ·intro _ hM
    refine jn ?_; refine v9 ?_; refine Tr.grow (s:=12) rfl rfl 112 rfl 3 eI rfl ?_
    refine Tr.for1 (σ:=Nat) [⟨4,true,_,_⟩,⟨8,true,_,_⟩,⟨10,true,_,_⟩,⟨42,true,_,_⟩] [] (fun k=>[⟨11,true,[],b8 (eL j7) ((E7 x k).2.map m8)⟩,⟨12,true,[112],o9 112 k⟩,⟨43,true,[],kI (k:Int)⟩]) (fun k=>[⟨10,[],j5 [b8 (eL eI) (E7 x k).1.1,b8 (eL eI) (E7 x k).1.2]⟩,⟨4,[],j5 [j4 (.slice none 0 0),kI 0,kI 0,kI 0,j4 (.slice none 0 0),j4 (.slice none 0 0),j4 (.slice none 0 0)]⟩,⟨112,[],l5 true 3 eI (j8 k (P2 x)) k⟩]) (fun k=>k<=i0) (fun k=>False) (fun k=>i0+1-k) (0) zi (d6.mk (.r rfl (by rfl)<|.o rfl zi rfl<|.i rfl zi<|zk) (.e (by rfl) rfl<|.k rfl<|.a (by rfl) zi<|.nil) rfl) ?_ ?_
    ·intro k hR0
     refine jn ?_
     obtain ⟨hst,hik⟩:=SM (sg:=w3 x) (hx.st hlo) hlo hir k
     refine l3 ?_; refine jq ?_ ?_
     ·intro h9
      refine m9 ?_; refine jc (cS x D M k (E7 x k).1 (E7 x k).2 hx hlo hst zo) ?_
      rw[show H4 (w3 x) (E7 x k).1 (E7 x k).2=AB x k from rfl,show T9 (w3 x) (E7 x k).1 (E7 x k).2=P2 x k from rfl]
      refine D7 ?_; refine Tr.cnd rfl ?_ ?_
      ·intro h11
       have hz:AB x k=0:=Classical.byContradiction fun a=>by rw[if_neg a] at h11; exact absurd h11 (by decide)
       refine g8 ?_; refine tO (A1 (fun hp=>.nil)) rfl rfl ?_; refine K3 ?_
       exact g6.resC (fn:=Tryz.f47) (ts:=[5,6,7]) rfl rfl rfl (t7 rfl (by rfl)) (.n rfl zi<|.n rfl zi<|.i rfl (by rw[if_pos hz])<|.nil)
      ·intro h11
       have hz:¬AB x k=0:=fun a=>by rw[if_pos a] at h11; exact absurd h11 (by decide)
       have hki:k≠i0:=fun a=>hz (by rw[a]; exact hz0)
       refine Tr.rwI (s:=13) rfl (if_neg hz) ?_; refine l3 ?_; refine d5.new (y7 eI 58 (fun hp=>.cons rfl<|.nil) rfl rfl rfl rfl) rfl rfl rfl rfl ?_; refine i5 ?_; refine jl ?_; refine j1 ?_; refine jc (VE x D M k (E7 x k).1 (E7 x k).2 (P2 x k) hx hlo hst zo) ?_; refine v9 ?_
       exact d9.lp (k+1) zo zo (d6.mk (.r rfl (by rfl)<|.o rfl zi rfl<|.i rfl zi<|zk) (.e (by rfl) rfl<|.k rfl<|.a H0.symm zi<|.nil) rfl)
     ·intro h9
      replace h9:=Int.not_lt.1 h9
      refine g9 ?_
      exact d9.cut (k) zo (d6.mk (.r rfl zi<|.o rfl zi rfl<|.i rfl zi<|zk) (zk) rfl)
    ·intro k hE0
     exact hE0.elim

theorem tI (x y:o8) (kk:List Int) (m:ZM) (e:Int) (hpa:Ct Tryz.prog 47 [b8 eX x,kI 1] (z6 [b8 eX y,b8 (eL eI) kk,b8 (eL (eL eI)) m,kI e])) (hk:e=0->0<kk.length):Ct Tryz.prog 46 [b8 eX x] (z6 [b8 eX (if e=0 then y else zX),kI (if e=0 then b6 kk 0 else 0),kI e]):=by
 refine Ct.mk Tryz.func46 rfl Tryz.ntmps46 rfl (fun w J=>?_); refine g8 ?_; refine jb 1 rfl ?_; refine ja 2 ?_; refine j3 ?_; refine jc hpa ?_; refine l6 ?_; refine ja 5 ?_; refine B3 ?_; refine jq ?_ ?_
 ·intro h2
  have he:¬e=0:=h2
  refine g8 ?_; refine tO (A1 (fun hp=>.nil)) rfl rfl ?_; refine j1 ?_
  exact g6.resC (fn:=Tryz.f46) (ts:=[3,4]) rfl rfl rfl (t7 rfl (by rw[if_neg he])) (.i rfl (by rw[if_neg he])<|.i rfl zi<|.nil)
 ·intro h2
  replace h2:=Classical.not_not.1 h2
  have he:e=0:=by omega
  have hkl:=hk he
  refine i7 ?_; refine Tr.drawS 4 2 o0 (by kernel_rfl) ?_; refine n8.opA (Q9 rfl uu) (by kernel_rfl) rfl rfl ?_; refine n8.op (G7 rfl uu) rfl rfl ?_; refine n8.op (F6 (i:=0) rfl uu rfl uu rfl (fun _=>zo)) rfl rfl ?_; refine n8.op (v8 rfl uu rfl) rfl rfl ?_; refine n8.z (DL rfl rfl rfl) rfl rfl rfl ?_; refine l6 ?_
  exact g6.resC (fn:=Tryz.f46) (ts:=[3,4]) rfl rfl rfl (t7 rfl (by rw[if_pos he])) (.i rfl (by rw[if_pos he])<|.i rfl zi<|.nil)

end Go.Fl

/- Contracts: Path and Step put together; the step of the example. -/
namespace Go.Fl
open Go Go.Proofs
open d5 renaming op->tO
open i9 renaming op->rO
set_option maxRecDepth 100000

noncomputable def G3 (x:o8):Int:=if C1 x≠0 then C1 x else E0 (oX x)
noncomputable def G8 (x:o8) (n:Int):Int:=if G3 x≠0 then G3 x else if 0<=n/\n<=60 then (if Y5 x n.toNat=true then 14 else 0) else 2
noncomputable def Z9 (x:o8) (n:Int):o8:=if G8 x n≠0 then zX else NE x n.toNat
noncomputable def U2 (x:o8) (n:Int):List Int:=if G8 x n≠0 then [] else j8 n.toNat (P2 x)
noncomputable def EO (x:o8) (n:Int):ZM:=if G8 x n≠0 then [] else E5 (oX x) (j8 n.toNat (P2 x)) n.toNat
theorem gA {r:o6} (h:H7 r=0):E0 r=0/\z7 r=true\/E0 r=3/\z7 r=false:=by
 unfold E0
 rw[if_neg (fun a=>a h)]
 cases hi:z7 r with
 | true=>exact .inl ⟨rfl,rfl⟩
 | false=>exact .inr ⟨rfl,rfl⟩
theorem L5.d0 {x:o8} (hx:L5 x) (hsm:R6 x):∃(D:Int) (M:Nat),F8 x.1.1 D M x.2.1.length (F3 x):=by
 obtain ⟨D,M,h,_⟩:=hx.dm hsm (ps:=[]) (fun p h=>by cases h) (Nat.zero_le _)
 exact ⟨D,M,h⟩
theorem cV (x:o8) (n:Int) (hsm:R6 x) (hnr:-9223372036854775808<=n/\n<=9223372036854775807) (hn:n<=16\/60<n):Ct Tryz.prog 47 [b8 eX x,kI n] (z6 [b8 eX (Z9 x n),b8 (eL eI) (U2 x n),b8 (eL (eL eI)) (EO x n),kI (G8 x n)]):=by
 by_cases h:C1 x=0
 ·have hx:=UQ h hsm
  obtain ⟨D,M,hlo⟩:=hx.d0 hsm
  rcases gA (r:=oX x) (OX hx.rows) with ⟨hi,hir⟩ | ⟨hi,hir⟩
  ·have hrd:G3 x=0:=by unfold G3; rw[if_neg (fun a=>a h)]; exact hi
   by_cases c:0<=n/\n<=60
   ·cases ht:Y5 x n.toNat with
    | true =>
     have e:G8 x n=14:=by unfold G8; rw[if_neg (fun a=>a hrd),if_pos c,ht]; rfl
     obtain ⟨i,hi1,hi2⟩:=ZP ht
     have:=sB x D M n.toNat i hx hlo hir zo hi1 hi2
     rw[show ((n.toNat:Nat):Int)=n by omega] at this
     unfold Z9 U2 EO
     rw[e,if_pos (by decide),if_pos (by decide),if_pos (by decide)]
     exact this
    | false =>
     have e:G8 x n=0:=by unfold G8; rw[if_neg (fun a=>a hrd),if_pos c,ht]; rfl
     have:=rY x D M n.toNat hx hlo hir zo (ZQ ht)
     rw[show ((n.toNat:Nat):Int)=n by omega] at this
     unfold Z9 U2 EO
     rw[e,if_neg (fun a=>a rfl),if_neg (fun a=>a rfl),if_neg (fun a=>a rfl)]
     exact this
   ·have e:G8 x n=2:=by unfold G8; rw[if_neg (fun a=>a hrd),if_neg c]
    unfold Z9 U2 EO
    rw[e,if_pos (by decide),if_pos (by decide),if_pos (by decide)]
    exact sA x D M n hx hlo hir hnr zo
  ·have hrd:G3 x=3:=by unfold G3; rw[if_neg (fun a=>a h)]; exact hi
   have e:G8 x n=E0 (oX x):=by unfold G8; rw[if_pos (by rw[hrd]; decide),hrd,hi]
   have hne:E0 (oX x)≠0:=by rw[hi]; decide
   unfold Z9 U2 EO
   rw[e,if_pos hne,if_pos hne,if_pos hne]
   exact rZ x D M n hx hlo hne
 ·have hrd:G3 x=C1 x:=by unfold G3; rw[if_pos h]
  have e:G8 x n=C1 x:=by unfold G8; rw[if_pos (by rw[hrd]; exact h),hrd]
  unfold Z9 U2 EO
  rw[e,if_pos h,if_pos h,if_pos h]
  exact rX x n hsm h
noncomputable def NM (x:o8):o8:=if G8 x 1≠0 then zX else NE x 1
noncomputable def NL (x:o8):Int:=if G8 x 1≠0 then 0 else P2 x 0
theorem tJ (x:o8) (hsm:R6 x):Ct Tryz.prog 46 [b8 eX x] (z6 [b8 eX (NM x),kI (NL x),kI (G8 x 1)]):=by
 have h:=tI x (Z9 x 1) (U2 x 1) (EO x 1) (G8 x 1) (cV x 1 hsm zo zo) (fun e=>by
  unfold U2; rw[if_neg (fun a=>a e)]; show 0<(j8 1 _).length; rw[p8]; omega)
 have e1:(if G8 x 1=0 then Z9 x 1 else zX)=NM x:=by
  unfold NM Z9
  by_cases c:G8 x 1=0
  ·rw[if_pos c,if_neg (fun a=>a c),if_neg (fun a=>a c)]; rfl
  ·rw[if_neg c,if_pos c]
 have e2:(if G8 x 1=0 then b6 (U2 x 1) 0 else 0)=NL x:=by
  unfold NL U2
  by_cases c:G8 x 1=0
  ·rw[if_pos c,if_neg (fun a=>a c),if_neg (fun a=>a c)]; exact r5 (by decide)
  ·rw[if_neg c,if_pos c]
 rw[e1,e2] at h
 exact h
theorem oY:z5 KN=0:=by
 unfold z5
 rw[if_neg (by decide),if_neg (by decide),if_neg (by decide),if_neg,if_neg (by decide),if_neg (by decide)]
 rintro (h | h)
 ·exact h rfl
 ·rw[KO (fun a=>by have:=a.1; revert this; decide)] at h; cases h
theorem mQ:F3 E3=ZR:=aj7
theorem ZX {n:Int}:w3 E3 (w6 n)=q9 n 0:=by
 show A7 [0,1] _ (w6 n)=_
 unfold A7
 rw[if_pos (by rfl)]; rfl
theorem mR {n:Int} (h:-1000<=n/\n<=1000):y3 2 (m8 (w6 n)):=by
 refine (X5 (⟨fun i=>?_,by show dl 1<=1; exact K1 zo zo,by show (0:Int)<1; omega,rfl⟩:G5 1 (w6 n))).mono zo
 match i with
 | 0=>show dl n<=1; exact O9 (by simp[BP]; omega)
 | 1=>show dl 0<=1; rw[C5.2 rfl]; omega
 | 2=>show dl 0<=1; rw[C5.2 rfl]; omega
 | 3=>show dl 0<=1; rw[C5.2 rfl]; omega
 | i+4=>rw[v5 (by show 4<=i+4; omega)]; show dl 0<=1; rw[C5.2 rfl]; omega
theorem aj8:R6 E3:=⟨by decide,by decide,by show 2<=12; omega,fun a=>by
 match a with
 | 0=>exact mR zo
 | 1=>exact mR zo
 | a+2=>exact YC⟩
theorem aj5:C1 E3=0:=by
 unfold C1
 rw[if_neg (fun a=>a oY),if_neg (by decide),if_neg (fun a=>a rfl),if_pos]
 intro a ha
 have ha:a<2:=ha
 match a,ha with
 | 0,_=>show 0<w3 E3 (j9 [0,1] (m8 (w6 3))); rw[ZL,ZX]; decide
 | 1,_=>show 0<w3 E3 (j9 [0,1] (m8 (w6 2))); rw[ZL,ZX]; decide
theorem aj6:z7 (oX E3)=true:=by decide
theorem mT:AB E3 0=-1:=by
 show w3 E3 (B0 (b6 (F3 E3) (o4 (oX E3).1).toNat) (b6 (F3 E3) (o4 (oX E3).2).toNat))=-1
 rw[mQ]
 show w3 E3 (B0 (w6 2) (w6 3))=-1
 rw[lS,ZX]; decide
theorem mP:P2 E3 0=1:=by
 show T9 (w3 E3) (E7 E3 0).1 (E7 E3 0).2=1
 unfold T9
 rw[if_neg]
 intro h
 have:AB E3 0=1:=h
 rw[mT] at this; exact absurd this (by decide)
theorem ZW:G8 E3 1=0:=by
 have hrd:G3 E3=0:=by unfold G3; rw[if_neg (fun a=>a aj5)]; exact QS (NJ (by decide)) aj6
 unfold G8
 rw[if_neg (fun a=>a hrd),if_pos (by decide)]
 have:Y5 E3 (Int.toNat 1)=false:=by
  show (false||decide (AB E3 0=0))=false
  rw[mT]; decide
 rw[this]; rfl
theorem mS:NM E3=(KN,[0,1],[1,0],[m8 (w6 1),m8 (w6 2)])/\NL E3=1:=by
 unfold NM NL
 rw[if_neg (fun a=>a ZW),if_neg (fun a=>a ZW)]
 refine ⟨?_,mP⟩
 have h1:E7 E3 1=(L9 (oX E3) (P2 E3 0),T2 (oX E3) (F3 E3) (P2 E3 0)):=rfl
 unfold NE
 rw[h1,mP,mQ]
 have h2:L9 (oX E3) 1=([0,1],[1,0]):=by decide
 have h3:T2 (oX E3) ZR 1=[w6 1,w6 2]:=by
  show [B0 (w6 3) (w6 2),w6 2]=_
  rw[lS]; rfl
 rw[h2,h3]; rfl
end Go.Fl
