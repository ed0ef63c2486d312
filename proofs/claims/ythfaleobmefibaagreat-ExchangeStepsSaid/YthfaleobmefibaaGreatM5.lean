/- Laws on walking typed knowledge through code, and contracts. -/
import Derived.Test.YthfaleobmefibaaGreatM4
import Derived.Ground.Names2Prog
import Derived.Shelf.Spec.SlicesInsert
import Derived.Shelf.Spec.SlicesInsertGrow
import Derived.Test.YthfaleobmefibaaGreatProg

/- Contracts: roots between two fractions, fields. -/
namespace Go.Fl
open Go Go.Proofs
open b8 renaming op->tO
open j1 renaming op->rO
set_option maxRecDepth 100000

def Y7 (f:u8):Bool:=if f.1.length=2 then decide (f.2.1<=-b6 f.1 0*f.2.2.2/\-b6 f.1 0*f.2.2.2<=f.2.2.1) else decide (((D7 (K8 f.1 f.2.1 f.2.2.2)).1:Int)-(D7 (K8 f.1 f.2.2.1 f.2.2.2)).1=1)
noncomputable def z6 (f:u8):Int :=
 if ¬(2<=f.1.length/\f.1.length<=5) then 10
 else if f.1.any BZ=true then 2
 else if ¬((1<=f.2.2.2/\f.2.2.2<=1000000)/\(-1000000<=f.2.1/\f.2.1<=1000000)/\(-1000000<=f.2.2.1/\f.2.2.1<=1000000)) then 2
 else if b6 f.1 (f.1.length-1)≠1\/X2 f.1=true then 3
 else if f.2.1>f.2.2.1 then 9
 else if Y7 f=false then 11 else 0
theorem aC (l:List Int) (h:∀s∈l,-1<=s/\s<=1):-1<=(D7 l).2/\(D7 l).2<=1:=by
 have key:∀(l:List Int) (st:Nat×Int),(∀s∈l,-1<=s/\s<=1)->(-1<=st.2/\st.2<=1)->-1<=(l.foldl A5 st).2/\(l.foldl A5 st).2<=1:=by
  intro l
  induction l with
  | nil=>intro st _ h; exact h
  | cons s l ih =>
   intro st h1 h2
   rw[List.foldl_cons]
   refine ih _ (fun x hx=>h1 x (List.mem_cons_of_mem _ hx)) ?_
   have:=h1 s List.mem_cons_self
   unfold A5; simp only; split<;>assumption
 exact key l (0,0) h (by decide)
theorem wI {s l:Int} (h1:-1<=s/\s<=1) (h2:-1<=l/\l<=1):-1<=s*l/\s*l<=1:=by
 rcases (show s=-1\/s=0\/s=1 by omega) with rfl | rfl | rfl<;>omega
theorem XB {p:List Int} (h:p.any BZ≠true) (i:Nat):(b6 p i).natAbs<=1000:=by
 by_cases hi:i<p.length
 ·have:=List.any_eq_false.1 (by simpa using h) (b6 p i) (G1 hi)
  unfold BZ at this
  simp at this
  omega
 ·rw[v6 zo]; show (0:Int).natAbs<=_; omega
theorem HD {α:Type} [Inhabited α] {xs:List α} {i k:Nat} (h:i<k):b6 (xs.take k) i=b6 xs i:=by simp[b6,List.getD,h]
theorem cH (a d:Int) (ch:List (List Int)) (ha:-1000000<=a/\a<=1000000) (hd:1<=d/\d<=1000000) (hl:ch.length<=5) (hc:∀j,j<ch.length->(b6 ch j).length<=5/\∀i,dl (b6 (b6 ch j) i)<=1681):Ct Tryz.prog 223 [kI a,s6 (eL (eL eZ)) ch,s6 eI d] (kI ((D7 (ch.map fun q=>s8 (v8 a d q).1)).1:Int)):=by
 obtain ⟨sl,hsl⟩:∃sl,sl=(ch.map fun q=>s8 (v8 a d q).1):=⟨_,rfl⟩
 have hll:sl.length=ch.length:=by rw[hsl,List.length_map]
 have hsn:∀j,j<ch.length->b6 sl j=s8 (v8 a d (b6 ch j)).1:=fun j hj=>by rw[hsl]; simp[b6,hj]
 have hsb:∀s∈sl,-1<=s/\s<=1:=fun s hs=>by rw[hsl] at hs; obtain ⟨q,_,rfl⟩:=List.mem_map.1 hs; exact KE _
 have hcle:=fun k=>OH (l:=sl.take k)
 have htk:∀k,(sl.take k).length<=5:=fun k=>by rw[List.length_take]; omega
 rw[<- hsl]
 have had:=J6 (F:=d) zo zo
 have haa:dl a<=1:=O3 (by simp[BP]; omega)
 refine Ct.mk Tryz.func223 rfl Tryz.ntmps223 rfl (fun w J=>?_); refine IZ ?_
 refine Tr.for1 (σ:=Nat) [⟨0,true,_,_⟩,⟨2,true,_,_⟩,⟨10,true,_,_⟩,⟨11,true,_,_⟩] [] (fun k=>[⟨5,true,[],kI ((D7 (sl.take k)).1:Int)⟩,⟨6,true,[],kI (D7 (sl.take k)).2⟩,⟨12,true,[],kI (k:Int)⟩]) (fun k=>[]) (fun k=>k<=ch.length) (fun k=>k=ch.length) (fun k=>ch.length-k) (0) zi (d6.mk (.i rfl (by rfl)<|.i rfl (by rfl)<|.i rfl zi<|zk) (.nil) rfl) ?_ ?_
 ·intro k hR0
  refine jn ?_
  have hck:=fun (h:k<ch.length)=>hc k h
  have hcs:=fun (h:k<ch.length)=>aD (l:=sl) (k:=k) zo
  have hsk:=fun (h:k<ch.length)=>hsn k h
  have hb1:=KE (v8 a d (b6 ch k)).1
  have hb2:=aC (sl.take k) (fun s hs=>hsb s (List.mem_of_mem_take hs))
  have hb3:=wI hb1 hb2
  have hb4:=hcle k
  have hb5:=htk k
  refine l6 ?_; refine jq ?_ ?_
  ·intro h3
   refine u9 ?_; refine Tr.draw 5 n8 (by kernel_rfl) ?_
   replace hck:=hck zo
   refine g9 ?_; refine jd (P2 a zo) ?_; refine i4 ?_; refine jd (P2 d zo) ?_; refine i4 ?_; refine jc (UJ (b6 ch k) a d 1 1681 zo hck.2 haa had zo zo) ?_; refine u9 ?_; refine jq ?_ ?_
   ·intro h6
    refine u9 ?_; refine jq ?_ ?_
    ·intro h8
     refine u5 ?_
     exact g6.lp (k+1) zi zo (d6.mk (.i rfl (by rw[hcs zo,hsk zo]; unfold A5; simp only; split<;>omega)<|.i rfl (by rw[hcs zo,hsk zo]; unfold A5; simp only; split<;>omega)<|.i rfl zi<|zk) (.nil) rfl)
    ·intro h8
     replace h8:=Classical.not_not.1 h8
     refine j6 ?_
     exact g6.lp (k+1) zi zo (d6.mk (.i rfl (by rw[hcs zo,hsk zo]; unfold A5; simp only; split<;>omega)<|.i rfl (by rw[hcs zo,hsk zo]; unfold A5; simp only; split<;>omega)<|.i rfl zi<|zk) (.nil) rfl)
   ·intro h6
    replace h6:=Int.not_lt.1 h6
    refine j3 ?_; refine jq ?_ ?_
    ·intro h8
     refine u5 ?_
     exact g6.lp (k+1) zi zo (d6.mk (.i rfl (by rw[hcs zo,hsk zo]; unfold A5; simp only; split<;>omega)<|.i rfl (by rw[hcs zo,hsk zo]; unfold A5; simp only; split<;>omega)<|.i rfl zi<|zk) (.nil) rfl)
    ·intro h8
     replace h8:=Classical.not_not.1 h8
     refine j6 ?_
     exact g6.lp (k+1) zi zo (d6.mk (.i rfl (by rw[hcs zo,hsk zo]; unfold A5; simp only; split<;>omega)<|.i rfl (by rw[hcs zo,hsk zo]; unfold A5; simp only; split<;>omega)<|.i rfl zi<|zk) (.nil) rfl)
  ·intro h3
   replace h3:=Int.not_lt.1 h3
   refine g8 ?_
   exact g6.cut (k) zo (d6.mk (.i rfl zi<|.i rfl zi<|.i rfl zi<|zk) (.nil) rfl)
 ·rintro k hkn
  refine je ?_
  have htl:sl.take k=sl:=List.take_of_length_le zo
  refine j3 ?_; exact d9.res1 (fn:=Tryz.f223) rfl (.i rfl (by rw[htl])<|.nil)

set_option maxHeartbeats 1000000 in
theorem qL (p:List Int) (lo hi d:Int) (h3':3<=p.length) (h5':p.length<=5) (h1':b6 p (p.length-1)=1) (hs:∀i,(b6 p i).natAbs<=1000) (hlo:-1000000<=lo/\lo<=1000000) (hhi:-1000000<=hi/\hi<=1000000) (hd:1<=d/\d<=1000000):Ct Tryz.prog 213 [b7 (eL eZ) p,kI lo,kI hi,kI d] (kI (((D7 (K8 p lo d)).1:Int)-(D7 (K8 p hi d)).1)):=by
 have hdd:=(dF h3' h5' h1' hs).1
 have hL5:=ZX h3' h5' h1' hs
 have hel:=fun (j:Nat) (hj:j<(v9 p).length)=>CS h3' h5' h1' hs hj
 have hne:=fun (j:Nat) (hj:j<(v9 p).length)=>List.length_pos_iff.2 (OG h3' h5' h1' hj)
 have hL2:2<=(v9 p).length:=by unfold v9; simp
 have hcl:∀a:Int,(D7 (K8 p a d)).1<=5:=fun a=>by have:=OH (l:=K8 p a d); unfold K8 at this ⊢; rw[List.length_map] at this; omega
 have hc1:(D7 ((v9 p).map fun q=>s8 (v8 lo d q).1)).1<=5:=hcl lo
 have hc2:(D7 ((v9 p).map fun q=>s8 (v8 hi d q).1)).1<=5:=hcl hi
 refine Ct.mk Tryz.func213 rfl Tryz.ntmps213 rfl (fun w J=>?_); refine g9 ?_; refine jb 7 rfl ?_; refine j6 ?_; refine jc (qG p zo h5' hdd) ?_; refine b8.new (w4 (eL eZ) 15 (fun hp=>.cons rfl<|.cons rfl<|.nil) rfl rfl rfl rfl) rfl rfl rfl rfl ?_; refine ja 9 ?_; refine i7 ?_
 refine Tr.for (σ:=Nat) [⟨1,true,_,_⟩,⟨2,true,_,_⟩,⟨7,true,_,_⟩,⟨9,true,_,_⟩] [⟨7,_,_⟩] (fun m=>[]) (fun m=>[⟨9,[15],j5 [o5 15 m]⟩,⟨15,[],l3 false 193 (eL eZ) ((v9 p).take m) m⟩]) (fun m=>2<=m/\m<=(v9 p).length) (fun m=>m=(v9 p).length) (fun m=>(v9 p).length-m) (2) ⟨Nat.le_refl _,hL2⟩ (d6.mk (zk) (.k rfl<|.a (by rfl) zi<|zk) rfl) ?_ ?_
 ·intro m hR0
  refine jn ?_
  have hX:b6 ((v9 p).take m) ((m:Int)-2).toNat=b6 (v9 p) (m-2):=by rw[show ((m:Int)-2).toNat=m-2 by omega]; exact HD zo
  have hY:b6 ((v9 p).take m) ((m:Int)-1).toNat=b6 (v9 p) (m-1):=by rw[show ((m:Int)-1).toNat=m-1 by omega]; exact HD zo
  refine g9 ?_; refine Tr.draw 12 n8 (by kernel_rfl) ?_; refine g9 ?_; refine rO (S8 rfl uu) rfl rfl ?_; refine i7 ?_
  rw[hX]
  refine g9 ?_; refine rO (S8 rfl uu) rfl rfl ?_; refine i7 ?_
  rw[hY]
  refine i4 ?_; refine tO (i6 (fun hp=>qD (b6 (v9 p) (m-2)) (b6 (v9 p) (m-1)) 1681 1681 (hne _ zo) (by have:=(hel (m-2) zo).2.1; omega) (hne _ zo) (by have:=(hel (m-1) zo).2.1; omega) (hel _ zo).2.2 (hel _ zo).2.2 zo zo) (.a rfl uu<|.a rfl uu<|.nil)) rfl rfl ?_; refine y7 ?_; refine jq ?_ ?_
  ·intro h3
   have A3:m=(v9 p).length:=Classical.byContradiction fun e=>by have hq:=II h3' h5' h1' hR0.1 hR0.2; rw[if_pos zo] at hq; have:=List.length_pos_iff.2 (hq.2 zo); rw[<- hq.1] at this; omega
   refine l8 ?_; exact g6.cut (m) A3 (d6.mk (zk) (zk) rfl)
  ·intro h3
   have hq:=II h3' h5' h1' hR0.1 hR0.2
   have A3:m<(v9 p).length:=Classical.byContradiction fun e=>by rw[if_neg e] at hq; rw[hq.1] at h3; exact h3 rfl
   rw[if_pos A3] at hq
   rw[hq.1]
   refine l8 ?_; refine b8.new (w4 (eL eZ) 34 (fun hp=>.cons rfl<|.nil) rfl rfl rfl rfl) rfl rfl rfl rfl ?_; refine b8.wkC 9 (.any<|.nil) rfl ?_; refine i4 ?_; refine jl ?_; refine i7 ?_
   exact g6.lp (m+1) zi zo (d6.mk (zk) (.e (by rfl) rfl<|.a (by rw[V5 A3]) zi<|zk) rfl)
 ·rintro m A3
  refine jn ?_
  have htk:(v9 p).take m=v9 p:=by rw[A3,List.take_length]
  rw[htk]
  refine i4 ?_; refine Tr.frzC 15 9 (by simp only[p6]; omega) rfl rfl ?_; refine jn ?_; refine Tr.frzB 9 [9] (eL (eL eZ)) ⟨rfl,trivial⟩ rfl ?_; refine Tr.frzB 7 [7] eI ⟨rfl,trivial⟩ rfl ?_; refine jn ?_; refine i4 ?_; refine tO (FP (.cons rfl uu<|.cons rfl uu<|.nil)) rfl rfl ?_; refine j6 ?_; refine tO (hZ rfl uu (fun hp=>cH lo d (v9 p) hlo hd hL5 (fun j hj=>⟨by have:=(hel j hj).2.1; omega,(hel j hj).2.2⟩)) (.a rfl uu<|.nil)) rfl rfl ?_; refine g9 ?_; refine tO (hZ rfl uu (fun hp=>cH hi d (v9 p) hhi hd hL5 (fun j hj=>⟨by have:=(hel j hj).2.1; omega,(hel j hj).2.2⟩)) (.a rfl uu<|.nil)) rfl rfl ?_
  refine l8 ?_; exact d9.res1 (fn:=Tryz.f213) rfl (.i rfl (by rfl)<|.nil)

theorem qK (f:u8) (h2':2<=f.1.length) (h5':f.1.length<=5) (h1':b6 f.1 (f.1.length-1)=1) (hs:∀i,(b6 f.1 i).natAbs<=1000) (hd:1<=f.2.2.2/\f.2.2.2<=1000000) (hlo:-1000000<=f.2.1/\f.2.1<=1000000) (hhi:-1000000<=f.2.2.1/\f.2.2.1<=1000000):Ct Tryz.prog 189 [b7 z7 f] (kB (Y7 f)):=by
 have hm0:(-b6 f.1 0*f.2.2.2).natAbs<=1000*1000000:=L9 (by rw[Int.natAbs_neg]; exact hs 0) zo
 have hs0:=hs 0
 have hf:∀i,-9223372036854775808<=b6 f.1 i/\b6 f.1 i<=9223372036854775807:=fun i=>by have:=hs i; omega
 refine Ct.mk Tryz.func189 rfl Tryz.ntmps189 rfl (fun w J=>?_); refine g9 ?_; refine jb 1 rfl ?_; refine l8 ?_; refine Tr.frzB 1 [1] z7 (x:=f) ⟨rfl,trivial⟩ rfl ?_; refine jn ?_; refine j6 ?_; refine jq ?_ ?_
 ·intro h1
  have hb:Y7 f=decide (f.2.1<=-b6 f.1 0*f.2.2.2/\-b6 f.1 0*f.2.2.2<=f.2.2.1):=if_pos zo
  refine i4 ?_; refine Tr.draw 12 n8 (by kernel_rfl) ?_; refine g9 ?_; refine rO (F2 (i:=0) rfl uu rfl uu rfl (fun _=>zo)) rfl rfl ?_; refine i4 ?_; refine rO (EF rfl uu (fun _=>zo)) rfl rfl ?_; refine j3 ?_; refine tO (i6 (fun hp=>IL _ _ _) (.a rfl uu<|.a rfl uu<|.a rfl uu<|.nil)) rfl rfl ?_; refine l8 ?_; exact d9.res1 (fn:=Tryz.f189) rfl (.b rfl (by rw[hb])<|.nil)
 ·intro h1
  have hb:Y7 f=decide (((D7 (K8 f.1 f.2.1 f.2.2.2)).1:Int)-(D7 (K8 f.1 f.2.2.1 f.2.2.2)).1=1):=if_neg zo
  refine i7 ?_; refine Tr.draw 8 n8 (by kernel_rfl) ?_; refine i4 ?_; refine jd (bQ f hf zo) ?_; refine j6 ?_; refine jc (qL f.1 f.2.1 f.2.2.1 f.2.2.2 zo h5' h1' hs hlo hhi hd) ?_; refine l8 ?_; exact d9.res1 (fn:=Tryz.f189) rfl (.b rfl (by rw[hb])<|.nil)

end Go.Fl

/- Contracts: errors of fields, opening. -/
namespace Go.Fl
open Go Go.Proofs
open b8 renaming op->tO
open j1 renaming op->rO
set_option maxRecDepth 100000

theorem X5 {f:u8} (h:z6 f=0):((2<=f.1.length/\f.1.length<=5)/\(∀i,(b6 f.1 i).natAbs<=1000)/\((1<=f.2.2.2/\f.2.2.2<=1000000)/\(-1000000<=f.2.1/\f.2.1<=1000000)/\(-1000000<=f.2.2.1/\f.2.2.1<=1000000)))/\b6 f.1 (f.1.length-1)=1/\X2 f.1=false/\f.2.1<=f.2.2.1/\Y7 f=true:=by
 unfold z6 at h
 by_cases c1:2<=f.1.length/\f.1.length<=5
 ·rw[if_neg (fun e=>e c1)] at h
  by_cases c2:f.1.any BZ=true
  ·rw[if_pos c2] at h; exact absurd h (by decide)
  ·rw[if_neg c2] at h
   by_cases c3:(1<=f.2.2.2/\f.2.2.2<=1000000)/\(-1000000<=f.2.1/\f.2.1<=1000000)/\(-1000000<=f.2.2.1/\f.2.2.1<=1000000)
   ·rw[if_neg (fun e=>e c3)] at h
    by_cases c4:b6 f.1 (f.1.length-1)≠1\/X2 f.1=true
    ·rw[if_pos c4] at h; exact absurd h (by decide)
    ·rw[if_neg c4] at h
     by_cases c5:f.2.1>f.2.2.1
     ·rw[if_pos c5] at h; exact absurd h (by decide)
     ·rw[if_neg c5] at h
      by_cases c6:Y7 f=false
      ·rw[if_pos c6] at h; exact absurd h (by decide)
      ·refine ⟨⟨c1,XB c2,c3⟩,Classical.byContradiction fun e=>c4 (.inl e),?_,by omega,by simpa using c6⟩
       cases hr:X2 f.1 with
       | false=>rfl
       | true=>exact absurd (.inr hr) c4
   ·rw[if_pos c3] at h; exact absurd h (by decide)
 ·rw[if_pos c1] at h; exact absurd h (by decide)
def u7 (f:u8):Iv:=⟨f.2.1,f.2.2.1,f.2.2.2⟩
theorem VA {f:u8} (h:z6 f=0) (h3:3<=f.1.length):BB f.1 (u7 f):=by
 obtain ⟨⟨c1,c2,c3,c4,c5⟩,c6,c7,c8,c9⟩:=X5 h
 have hred:¬GD (lP f.1) (f.1.length-1):=zI h3 fun e=>by rw[JZ e] at c7; cases c7
 refine ⟨⟨c1,fun i=>O3 (by have:=c2 i; simp[BP]; omega)⟩,h3,c6,fun c hc=>?_,⟨c8,by show 0<f.2.2.2; omega⟩,?_,?_,?_,c3.2,hred,?_⟩
 ·obtain ⟨i,hi,rfl⟩:=List.mem_iff_getElem.1 hc
  have:=c2 i
  simpa [b6,hi] using this
 ·show -(1000000*f.2.2.2)<=f.2.1; omega
 ·show f.2.2.1<=1000000*f.2.2.2; omega
 ·show f.2.2.1-f.2.1<=2000000; omega
 ·unfold Y7 at c9
  rw[if_neg zo,decide_eq_true_eq] at c9
  exact ae7 h3 c1.2 c6 hred (by show 0<f.2.2.2; omega) c9
def V1 (p l:List Int) (n k i:Nat):Int:=b6 p (n-(k+1))*((k:Int)+1)+r6 (fun j=>b6 p (n-(j+1))*b6 l (k-j)) i
def I3 (p:List Int) (n:Nat):Nat->List Int
 | 0=>[(n:Int)]
 | k+1=>I3 p n k++[-V1 p (I3 p n k) n k k]
theorem lK {p:List Int} {n:Nat}:∀{k:Nat},(I3 p n k).length=k+1
 | 0=>rfl
 | k+1=>by rw[I3,List.length_append,lK]; rfl
theorem iR {p l:List Int} {n k i:Nat}:V1 p l n k (i+1)=V1 p l n k i+b6 p (n-(i+1))*b6 l (k-i):=by unfold V1; rw[K2]; omega
theorem XJ {p l:List Int} {n k B:Nat} (hp:∀i,dl (b6 p i)<=1) (hl:∀i,dl (b6 l i)<=B) (hk:k<=4) (hB:1<=B):∀{i:Nat},dl (V1 p l n k i)<=B+2+i
 | 0=>by
  unfold V1
  have h1:=hp (n-(k+1))
  have h2:=J6 (F:=(k:Int)+1) zo zo
  have h3:=s9 (b6 p (n-(k+1))) ((k:Int)+1)
  simp only[r6,Int.add_zero]
  omega
 | i+1=>by
  have ih:=XJ (n:=n) hp hl hk hB (i:=i)
  rw[iR]
  have h1:=hp (n-(i+1))
  have h2:=hl (k-i)
  have h3:=s9 (b6 p (n-(i+1))) (b6 l (k-i))
  have h4:=P3 (V1 p l n k i) (b6 p (n-(i+1))*b6 l (k-i))
  omega
theorem lJ {p:List Int} {n:Nat} (hp:∀i,dl (b6 p i)<=1) (hn:n<=4):∀{k:Nat},k<=4->∀i,dl (b6 (I3 p n k) i)<=1+8*k
 | 0,_,i=>by
  match i with
  | 0=>exact J6 (F:=(n:Int)) zo zo
  | i+1=>rw[v6 (by rw[lK]; omega)]; show dl 0<=_; rw[C5.2 rfl]; omega
 | k+1,hk,i=>by
  have ih:=lJ hp hn (k:=k) zo
  rw[I3]
  by_cases h:i<(I3 p n k).length
  ·have e:b6 (I3 p n k++[-V1 p (I3 p n k) n k k]) i=b6 (I3 p n k) i:=by simp[b6,List.getD,List.getElem?_append_left h]
   rw[e]; have:=ih i; omega
  ·by_cases h2:i=(I3 p n k).length
   ·subst h2
    have e:b6 (I3 p n k++[-V1 p (I3 p n k) n k k]) (I3 p n k).length=-V1 p (I3 p n k) n k k:=by simp[b6]
    rw[e,K4]
    have:=XJ (n:=n) hp ih (k:=k) zo zo (i:=k)
    omega
   ·rw[v6 (by rw[List.length_append]; simp; omega)]; show dl 0<=_; rw[C5.2 rfl]; omega
def FT (f:u8):Iv:=if f.1.length=2 then u7 f else i2 f.1 (u7 f) 64
def N5 (f:u8):D0:=(f,f.1,I3 f.1 (f.1.length-1) (f.1.length-2),(FT f).lo,(FT f).hi,(FT f).den)
theorem XA {f:u8} (h:z6 f=0) (h3:3<=f.1.length) {k:Nat} (hk:k<=64):dl (i2 f.1 (u7 f) k).lo<=73000/\dl (i2 f.1 (u7 f) k).hi<=73000/\dl (i2 f.1 (u7 f) k).den<=73000:=by
 have hf:=VA h h3
 have h5:=hf.len4
 obtain ⟨K,q1,_,q3⟩:=hf.bound (cs:=List.replicate (f.1.length-1) 1) (M:=1) (by simp) ⟨1,List.mem_replicate.2 ⟨by omega,rfl⟩,by decide⟩ (fun c hc=>by rw[(List.mem_replicate.1 hc).2]; exact J6 zo zo) zo zo
 exact q3 k zo
theorem aX (f:u8):Ct Tryz.prog 157 [b7 z7 f] (kI (z6 f)):=by
 refine Ct.mk Tryz.func157 rfl Tryz.ntmps157 rfl (fun w J=>?_); refine g9 ?_; refine jb 1 rfl ?_; refine g8 ?_; refine Tr.frzB 1 [1] z7 (x:=f) ⟨rfl,trivial⟩ rfl ?_; refine jn ?_; refine u9 ?_; refine tO (i6 (fun hp=>IL _ _ _) (.a rfl uu<|.a rfl uu<|.a rfl uu<|.nil)) rfl rfl ?_; refine g8 ?_; refine Tr.cnd rfl ?_ ?_
 ·intro h2
  try simp only[decide_eq_false_iff_not,Bool.not_eq_true'] at h2
  have hc1:¬(2<=f.1.length/\f.1.length<=5):=by omega
  have he:z6 f=10:=if_pos hc1
  refine j3 ?_; exact d9.res1 (fn:=Tryz.f157) rfl (.i rfl (by rw[he])<|.nil)
 ·intro h2
  try simp only[decide_eq_true_eq,Bool.not_eq_false'] at h2
  have hc1:2<=f.1.length/\f.1.length<=5:=by omega
  have he1:=(if_neg (fun e=>e hc1):z6 f=_)
  refine g8 ?_; refine tO (i6 (fun hp=>oY _ 187 BZ (fun x=>pV x)) (.a rfl uu<|.a rfl uu<|.nil)) rfl rfl ?_; refine i7 ?_; refine Tr.cnd rfl ?_ ?_
  ·intro h4
   have he:z6 f=2:=he1.trans (if_pos h4)
   refine j3 ?_; exact d9.res1 (fn:=Tryz.f157) rfl (.i rfl (by rw[he])<|.nil)
  ·intro h4
   have hc2:f.1.any BZ≠true:=by rw[h4]; decide
   have hs:=XB hc2
   have he2:=he1.trans (if_neg hc2)
   refine g8 ?_; refine tO (i6 (fun hp=>IL _ _ _) (.a rfl uu<|.a rfl uu<|.a rfl uu<|.nil)) rfl rfl ?_; refine g8 ?_; refine b8.gd rfl rfl rfl (i6 (fun hp=>IL _ _ _) (.a rfl id<|.a rfl uu<|.a rfl uu<|.nil)) rfl rfl ?_; refine l8 ?_; refine b8.gd rfl rfl rfl (i6 (fun hp=>IL _ _ _) (.a rfl id<|.a rfl uu<|.a rfl uu<|.nil)) rfl rfl ?_; refine l8 ?_; refine Tr.cnd rfl ?_ ?_
   ·intro h6
    have hc3:¬((1<=f.2.2.2/\f.2.2.2<=1000000)/\(-1000000<=f.2.1/\f.2.1<=1000000)/\(-1000000<=f.2.2.1/\f.2.2.1<=1000000)):=fun ⟨q1,q2,q3⟩=>by simp[q1,q2,q3] at h6
    have he:z6 f=2:=he2.trans (if_pos hc3)
    refine j3 ?_; exact d9.res1 (fn:=Tryz.f157) rfl (.i rfl (by rw[he])<|.nil)
   ·intro h6
    have hc3:(1<=f.2.2.2/\f.2.2.2<=1000000)/\(-1000000<=f.2.1/\f.2.1<=1000000)/\(-1000000<=f.2.2.1/\f.2.2.1<=1000000):=by simp at h6; omega
    have he3:=he2.trans (if_neg (fun e=>e hc3))
    refine g9 ?_
    have hix:((f.1.length:Int)-1).toNat=f.1.length-1:=by omega
    refine u5 ?_; refine b8.gd rfl rfl rfl (i6 (fun hp=>pR f.1 hc1.1 hc1.2 hs) (.a rfl id<|.nil)) rfl rfl ?_; refine g8 ?_; refine Tr.cnd rfl ?_ ?_
    ·intro h8
     have hc4:b6 f.1 (f.1.length-1)≠1\/X2 f.1=true:=by simp[hix] at h8; simpa using h8
     have he:z6 f=3:=he3.trans (if_pos hc4)
     refine j3 ?_; exact d9.res1 (fn:=Tryz.f157) rfl (.i rfl (by rw[he])<|.nil)
    ·intro h8
     have hc4:b6 f.1 (f.1.length-1)=1/\X2 f.1=false:=by simp[hix] at h8; simpa using h8
     have he4:=he3.trans (if_neg (fun e=>e.elim (fun e=>e hc4.1) (fun e=>by rw[hc4.2] at e; cases e)))
     refine u5 ?_; refine Tr.cnd rfl ?_ ?_
     ·intro h10
      try simp only[decide_eq_true_eq] at h10
      have he:z6 f=9:=he4.trans (if_pos h10)
      refine j3 ?_; exact d9.res1 (fn:=Tryz.f157) rfl (.i rfl (by rw[he])<|.nil)
     ·intro h10
      try simp only[decide_eq_false_iff_not,Int.not_lt] at h10
      have he5:=he4.trans (if_neg (show ¬f.2.1>f.2.2.1 by omega))
      refine i7 ?_; refine jc (qK f hc1.1 hc1.2 hc4.1 hs hc3.1 hc3.2.1 hc3.2.2) ?_; refine g8 ?_; refine Tr.cnd rfl ?_ ?_
      ·intro h12
       have hc6:Y7 f=false:=by simpa using h12
       have he:z6 f=11:=he5.trans (if_pos hc6)
       refine j3 ?_; exact d9.res1 (fn:=Tryz.f157) rfl (.i rfl (by rw[he])<|.nil)
      ·intro h12
       have hc6:Y7 f=true:=by simpa using h12
       have he:z6 f=0:=he5.trans (if_neg (by rw[hc6]; decide))
       refine m8 ?_; exact d9.res1 (fn:=Tryz.f157) rfl (.i rfl (by rw[he])<|.nil)

theorem pZ (f:u8) (h0:z6 f≠0):Ct Tryz.prog 113 [b7 z7 f] (z9 [i9 (.pointer none),kI (z6 f)]):=by
 refine Ct.mk Tryz.func113 rfl Tryz.ntmps113 rfl (fun w J=>?_); refine g9 ?_; refine jb 1 rfl ?_; refine j3 ?_; refine jc (aX f) ?_; refine m8 ?_; refine Tr.cnd rfl ?_ ?_
 ·intro h2
  refine m8 ?_
  exact d9.res (fn:=Tryz.f113) (ts:=[2,3]) rfl rfl (.k rfl<|.i rfl zi<|.nil)
 ·intro h2
  exact absurd (of_decide_eq_false h2) (fun e=>e h0)

set_option maxHeartbeats 2000000 in
theorem aZ (f:u8) (h0:z6 f=0):Ct Tryz.prog 113 [b7 z7 f] (z9 [s6 A7 (N5 f),kI 0]):=by
 obtain ⟨⟨c1,c2,c3,c4,c5⟩,c6,c7,c8,c9⟩:=X5 h0
 have hf:∀i,-9223372036854775808<=b6 f.1 i/\b6 f.1 i<=9223372036854775807:=fun i=>by have:=c2 i; omega
 have hdp:∀i,dl (b6 f.1 i)<=1:=fun i=>O3 (by have:=c2 i; simp[BP]; omega)
 have hdg:Ct Tryz.prog 160 [s6 A7 (f,f.1,[],f.2.1,f.2.2.1,f.2.2.2)] (kI ((f.1.length:Int)-1)):=TY (f,f.1,[],f.2.1,f.2.2.1,f.2.2.2) c1
 have htr:=fun (k:Nat) (hk:k<=4)=>lJ (n:=f.1.length-1) hdp zo hk
 refine Ct.mk Tryz.func113 rfl Tryz.ntmps113 rfl (fun w J=>?_); refine g9 ?_; refine jb 1 rfl ?_; refine j3 ?_; refine jc (aX f) ?_; refine m8 ?_; refine Tr.cnd rfl ?_ ?_
 ·intro h2
  exact absurd h0 (of_decide_eq_true h2)
 ·intro h2
  refine l6 ?_; refine tO (i6 (fun hp=>CU _ zo) (.a rfl uu<|.nil)) rfl rfl ?_; refine l8 ?_; refine Tr.draw 12 n8 (by kernel_rfl) ?_; refine g9 ?_; refine jd (bQ f hf zo) ?_; refine g9 ?_; refine jd (P2 f.2.1 zo) ?_; refine g9 ?_; refine jd (P2 f.2.2.1 zo) ?_; refine g9 ?_; refine jd (P2 f.2.2.2 zo) ?_; refine i4 ?_; refine tO (A1 (fun hp=>.cons rfl rfl rfl<|.cons rfl rfl rfl<|.cons rfl rfl rfl<|.cons rfl rfl rfl<|.cons rfl rfl rfl<|.nil)) rfl rfl ?_; refine jb 32 rfl ?_; refine l6 ?_
  refine tO (xR (fun hp=>hdg) rfl rfl uu (.nil)) rfl rfl ?_; refine j6 ?_; refine jc (P2 ((f.1.length:Int)-1) zo) ?_; refine b8.new (w4 eZ 38 (fun hp=>.cons rfl<|.nil) rfl rfl rfl rfl) rfl rfl rfl rfl ?_; refine tO (P9 rfl uu) rfl rfl ?_; refine u5 ?_
  refine Tr.for1 (σ:=Nat) [⟨5,true,_,_⟩,⟨6,true,_,_⟩] [] (fun k=>[⟨7,true,[],kI ((k:Int)+1)⟩]) (fun k=>[⟨32,[38],j5 [b7 (eL eI) f.1,kI f.2.1,kI f.2.2.1,kI f.2.2.2,b7 (eL eZ) f.1,o5 38 (k+1),kB (decide ((u7 f).lo<0)),b7 (eL eI) (d7 ((u7 f).lo).natAbs),kB (decide ((u7 f).hi<0)),b7 (eL eI) (d7 ((u7 f).hi).natAbs),kB (decide ((u7 f).den<0)),b7 (eL eI) (d7 ((u7 f).den).natAbs)]⟩,⟨38,[],l3 false 160 eZ (I3 f.1 (f.1.length-1) k) (k+1)⟩]) (fun k=>k+2<=f.1.length) (fun k=>k+2=f.1.length) (fun k=>f.1.length-k) (0) zo (d6.mk (.i rfl zi<|zk) (.e (by rfl) rfl<|.a (by show [(f.1.length:Int)-1]=[((f.1.length-1:Nat):Int)]; congr 1; omega) zi<|.nil) rfl) ?_ ?_
  ·intro k hR0
   refine jn ?_
   have hix:((f.1.length:Int)-1-((k:Int)+1)).toNat=(f.1.length-1-(k+1)):=by omega
   refine j3 ?_; refine jq ?_ ?_
   ·intro h9
    refine l8 ?_; refine Tr.draw 13 n8 (by kernel_rfl) ?_; refine i4 ?_; refine rO (P9 rfl uu) rfl rfl ?_; refine l6 ?_
    rw[hix]
    refine g9 ?_; refine jd (P2 ((k:Int)+1) zo) ?_; refine jd (L3 (b6 f.1 (f.1.length-1-(k+1))) ((k:Int)+1) (by have:=hdp (f.1.length-1-(k+1)); omega) (by have:=J6 (F:=(k:Int)+1) zo zo; omega)) ?_; refine j1.new (HF 8) rfl rfl rfl rfl ?_; refine u5 ?_
    refine Tr.for1 (σ:=Nat) [⟨5,true,_,_⟩,⟨6,true,_,_⟩,⟨7,true,_,_⟩,⟨8,true,_,_⟩] [⟨32,_,_⟩,⟨38,_,_⟩] (fun i=>[⟨9,true,[],kI ((i:Int)+1)⟩]) (fun i=>[⟨8,[],j5 [kB (decide ((V1 f.1 (I3 f.1 (f.1.length-1) k) (f.1.length-1) k i)<0)),b7 (eL eI) (d7 ((V1 f.1 (I3 f.1 (f.1.length-1) k) (f.1.length-1) k i)).natAbs)]⟩]) (fun i=>i<=k) (fun i=>i=k) (fun i=>k-i) (0) zi (d6.mk (.i rfl zi<|zk) (.conv (AK (BL (by unfold V1; simp only[r6,Int.add_zero]))) rfl<|zk) rfl) ?_ ?_
    ·intro i hR1
     refine jn ?_
     have hiy:((f.1.length:Int)-1-((i:Int)+1)).toNat=(f.1.length-1-(i+1)):=by omega
     have hiz:((k:Int)+1-((i:Int)+1)).toNat=k-i:=by omega
     have hb1:=hdp (f.1.length-1-(i+1))
     have hb2:=htr k zo (k-i)
     have hb3:=s9 (b6 f.1 (f.1.length-1-(i+1))) (b6 (I3 f.1 (f.1.length-1) k) (k-i))
     have hb4:=XJ (n:=f.1.length-1) hdp (htr k zo) (k:=k) zo zo (i:=i)
     refine j3 ?_; refine jq ?_ ?_
     ·intro h13
      refine g8 ?_; refine Tr.draw 20 n8 (by kernel_rfl) ?_; refine g9 ?_; refine rO (P9 rfl uu) rfl rfl ?_; refine l6 ?_
      rw[hiy]
      refine g9 ?_; refine rO (P9 rfl uu) rfl rfl ?_; refine l6 ?_
      rw[hiz]
      refine rO (DF rfl uu rfl rfl rfl rfl) rfl rfl ?_; refine jd (L3 (b6 f.1 (f.1.length-1-(i+1))) (b6 (I3 f.1 (f.1.length-1) k) (k-i)) zo zo) ?_; refine i4 ?_; refine jc (V9 (V1 f.1 (I3 f.1 (f.1.length-1) k) (f.1.length-1) k i) (b6 f.1 (f.1.length-1-(i+1))*b6 (I3 f.1 (f.1.length-1) k) (k-i)) zo zo) ?_; refine m8 ?_
      exact g6.lp (i+1) zi zo (d6.mk (.i rfl zi<|zk) (.conv (AK (BL (by rw[iR]))) rfl<|zk) rfl)
     ·intro h13
      replace h13:=Int.not_lt.1 h13
      refine g8 ?_
      exact g6.cut (i) zo (d6.mk (.i rfl zi<|zk) (zk) rfl)
    ·rintro i hik
     refine je ?_; refine i4 ?_; refine Tr.drawM (m:=8) n8 (by kernel_rfl) rfl (by kernel_rfl) (by kernel_rfl) (by kernel_rfl) ?_; refine g9 ?_; refine rO (P9 rfl uu) rfl rfl ?_; refine i7 ?_; refine jd (DS (V1 f.1 (I3 f.1 (f.1.length-1) k) (f.1.length-1) k i)) ?_; refine j1.new (w4 eZ 91 (fun hp=>.cons rfl<|.nil) rfl rfl rfl rfl) rfl rfl rfl rfl ?_; refine i4 ?_; refine b8.wkC 32 (.k<|.k<|.k<|.k<|.k<|.any<|.k<|.k<|.k<|.k<|.k<|.k<|.nil) rfl ?_; refine i4 ?_; refine jl ?_; refine tO (P9 rfl uu) rfl rfl ?_; refine g9 ?_
     refine b8.finN ?_; refine j6 ?_
     exact g6.lp (k+1) zi zo (d6.mk (.i rfl zi<|zk) (.e (by rfl) rfl<|.a (by rw[hik]; rfl) zi<|.nil) rfl)
   ·intro h9
    replace h9:=Int.not_lt.1 h9
    refine g8 ?_
    exact g6.cut (k) zo (d6.mk (.i rfl zi<|zk) (zk) rfl)
  ·rintro k hkn
   refine je ?_; refine i7 ?_; refine Tr.frzC 38 32 (by simp only[p6]; omega) rfl rfl ?_; refine jn ?_; refine l8 ?_; refine jq ?_ ?_
   ·intro h17
    have hl3:3<=f.1.length:=by omega
    refine l8 ?_
    refine Tr.for1 (σ:=Nat) [⟨5,true,_,_⟩] [] (fun h=>[⟨97,true,[],kI (h:Int)⟩]) (fun h=>[⟨32,[],j5 [b7 (eL eI) f.1,kI f.2.1,kI f.2.2.1,kI f.2.2.2,b7 (eL eZ) f.1,b7 (eL eZ) (I3 f.1 (f.1.length-1) k),kB (decide ((i2 f.1 (u7 f) h).lo<0)),b7 (eL eI) (d7 ((i2 f.1 (u7 f) h).lo).natAbs),kB (decide ((i2 f.1 (u7 f) h).hi<0)),b7 (eL eI) (d7 ((i2 f.1 (u7 f) h).hi).natAbs),kB (decide ((i2 f.1 (u7 f) h).den<0)),b7 (eL eI) (d7 ((i2 f.1 (u7 f) h).den).natAbs)]⟩]) (fun h=>h<=64) (fun h=>h=64) (fun h=>64-h) (0) zi (d6.mk (.i rfl zi<|zk) (.e (by rfl) rfl<|.nil) rfl) ?_ ?_
    ·intro h hR2
     refine jn ?_; refine l6 ?_; refine jq ?_ ?_
     ·intro h19
      refine l6 ?_; refine b8.mutP (bF (b7 (eL eI) f.1) (kI f.2.1) (kI f.2.2.1) (kI f.2.2.2) (b7 (eL eZ) (I3 f.1 (f.1.length-1) k)) f.1 (i2 f.1 (u7 f) h) 73000 zo hdp (XA h0 hl3 zo).1 (XA h0 hl3 zo).2.1 (XA h0 hl3 zo).2.2 zo) rfl (.nil) (fun g b cap o h=>AL (g:=g) (g':=g1 g.J b cap) rfl h) (fun {J b cap o g} h=>AL (g:=g1 J b cap) (g':=⟨J,g.M⟩) rfl h) rfl ?_; refine j6 ?_
      exact g6.lp (h+1) zi zo (d6.mk (.i rfl zi<|zk) (.e (by rfl) rfl<|.nil) rfl)
     ·intro h19
      replace h19:=Int.not_lt.1 h19
      refine g8 ?_
      exact g6.cut (h) zo (d6.mk (.i rfl zi<|zk) (zk) rfl)
    ·rintro _ rfl
     refine je ?_; refine g9 ?_; refine Tr.frzB 32 [5] A7 ⟨rfl,trivial⟩ rfl ?_; refine jn ?_; refine j6 ?_; exact d9.res (fn:=Tryz.f113) (ts:=[2,3]) rfl rfl (.p rfl (by unfold N5 FT; rw[if_neg zo,show k=f.1.length-2 by omega])<|.i rfl (by rfl)<|.nil)
   ·intro h17
    replace h17:=Int.not_lt.1 h17
    have hl2:f.1.length=2:=by omega
    refine i7 ?_; refine Tr.frzB 32 [5] A7 ⟨rfl,trivial⟩ rfl ?_; refine jn ?_; refine j6 ?_; exact d9.res (fn:=Tryz.f113) (ts:=[2,3]) rfl rfl (.p rfl (by unfold N5 FT; rw[if_pos hl2,show k=f.1.length-2 by omega])<|.i rfl (by rfl)<|.nil)

end Go.Fl

/- Numbers as the reference of chapter 1 reckons them: the same as the program's. No program in sight. -/
namespace Go.Fl
open Go
def AO (a b:Int) (xs ys:List Int):List Int:=j4 xs.length fun i=>b6 xs i*a+b6 ys i*b
theorem DY {a b:Int} {xs ys:List Int}:(AO a b xs ys).length=xs.length:=p8
theorem JH {a b:Int} {xs ys:List Int} (h:xs.length=ys.length) (i:Nat):b6 (AO a b xs ys) i=b6 xs i*a+b6 ys i*b:=by
 by_cases hi:i<xs.length
 ·exact q9 hi
 ·rw[v6 (by rw[DY]; omega),v6 (xs:=xs) zo,v6 (xs:=ys) zo]
  show (0:Int)=0*a+0*b
  rw[Int.zero_mul,Int.zero_mul]; rfl
theorem GK {xs:List Int} {k i:Nat}:b6 (xs++List.replicate k 0) i=b6 xs i:=by
 rw[JK]
 split
 ·rfl
 ·rw[v6 zo]; rfl
theorem fN {a b:Int} {xs ys:List Int} {k:Nat} (h:xs.length=ys.length):AO a b xs ys++List.replicate k 0=AO a b (xs++List.replicate k 0) (ys++List.replicate k 0):=by
 refine D1 (by simp[DY]) fun i _=>?_
 rw[GK,JH h,JH (by simp[h]),GK,GK]
theorem zH {p:List Int} {n:Nat} {a b:Int} {xs ys:List Int} (h:xs.length=ys.length):X1 p n (AO a b xs ys)=AO a b (X1 p n xs) (X1 p n ys):=by
 refine D1 (by rw[AU,DY,DY,AU]) fun i hi=>?_
 rw[AU,DY] at hi
 rw[JH (by rw[AU,AU,h])]
 unfold X1
 rw[DY,q9 hi,q9 hi,q9 zo,<- h,JH h,JH h]
 split
 ·generalize b6 p _=q
  generalize b6 xs i=x1
  generalize b6 ys i=y1
  generalize b6 xs (xs.length-1)=x2
  generalize b6 ys (xs.length-1)=y2
  have e1:(x2*a+y2*b)*q=x2*q*a+y2*q*b:=by rw[Int.add_mul,Int.mul_right_comm,Int.mul_right_comm y2]
  rw[e1,Int.sub_mul,Int.sub_mul]; omega
 ·rw[Int.sub_zero,Int.sub_zero,Int.sub_zero]
theorem jL {p:List Int} {n:Nat} {a b:Int}:∀{f:Nat} {xs ys:List Int},xs.length=ys.length->L5 p n f (AO a b xs ys)=AO a b (L5 p n f xs) (L5 p n f ys)
 | 0,xs,ys,h=>by rw[L5,L5,L5,DY,<- h,fN h]
 | f+1,xs,ys,h=>by
  rw[L5,L5,L5,DY,<- h]
  split
  ·rw[fN h]
  ·rw[zH h,jL (by rw[AU,AU,h])]
theorem zJ {p:List Int} {a b:Int} {xs ys:List Int} (h:xs.length=ys.length):red p (AO a b xs ys)=AO a b (red p xs) (red p ys):=by
 unfold red
 rw[DY,<- h]
 exact jL h
theorem zO {p xs:List Int}:red p (xs++[0])=red p xs:=by
 by_cases hl:(xs++[0]).length<=p.length-1
 ·rw[RT rfl hl]
  have h2:xs.length<=p.length-1:=by rw[List.length_append] at hl; omega
  rw[RT rfl h2,List.append_assoc]
  congr 1
  rw[List.length_append,List.length_singleton] at hl ⊢
  rw[show p.length-1-xs.length=p.length-1-(xs.length+1)+1 by omega,List.replicate_succ]; rfl
 ·rw[<- jM rfl zo]
  congr 1
  refine D1 (by rw[AU,List.length_append]; simp) fun i hi=>?_
  rw[AU,List.length_append,List.length_singleton,Nat.add_sub_cancel] at hi
  unfold X1
  rw[List.length_append,List.length_singleton,Nat.add_sub_cancel,q9 hi]
  have e1:b6 (xs++[0]) xs.length=0:=by simp[b6]
  have e2:b6 (xs++[0]) i=b6 xs i:=by simp[b6,List.getD,List.getElem?_append_left hi]
  rw[e1,e2]
  split
  ·rw[Int.zero_mul,Int.sub_zero]
  ·rw[Int.sub_zero]
theorem XR {p xs:List Int}:∀{k:Nat},red p (xs++List.replicate k 0)=red p xs
 | 0=>by rw[List.replicate_zero,List.append_nil]
 | k+1=>by rw[List.replicate_succ',<- List.append_assoc,zO,XR]
theorem iK {p xs ys:List Int} {a b:Int} {m:Nat} (h1:xs.length<=m) (h2:ys.length<=m):I2 p (j4 m fun i=>b6 xs i*a+b6 ys i*b)=j4 4 fun i=>b6 (I2 p xs) i*a+b6 (I2 p ys) i*b:=by
 have e:(j4 m fun i=>b6 xs i*a+b6 ys i*b)=AO a b (xs++List.replicate (m-xs.length) 0) (ys++List.replicate (m-ys.length) 0):=by
  unfold AO
  rw[List.length_append,List.length_replicate,show xs.length+(m-xs.length)=m by omega]
  exact C9 fun i _=>by rw[GK,GK]
 rw[e]
 unfold I2
 rw[zJ (by simp; omega),XR,XR]
 refine C9 fun i hi=>?_
 rw[JH (by rw[KA,KA]),q9 hi,q9 hi]
theorem yG {p xs:List Int}:I2 p (xs.map fun z=>-z)=(I2 p xs).map fun z=>-z:=by
 have e:(xs.map fun z=>-z)=j4 xs.length fun i=>b6 xs i*(-1)+b6 xs i*0:=by
  conv=>lhs; rw[ME rfl]
  exact C9 fun i _=>by omega
 rw[e,iK (Nat.le_refl _) (Nat.le_refl _)]
 conv=>rhs; rw[ME HJ]
 exact C9 fun i _=>by omega
theorem mV {cs cs':List Int} {a b:Int} (ha:a≠0) (hb:b≠0):H8 (loN cs a) (loN cs' b)=loN (j4 4 fun i=>b6 cs i*b+b6 cs' i*a) (a*b):=by
 have p1:=GX (cs:=cs) ha
 have p2:=GX (cs:=cs') hb
 have p3:=Int.mul_pos p1 p2
 refine QE zo (Int.mul_ne_zero ha hb) ?_
 rw[SG,SG]
 refine C9 fun i _=>?_
 have e1:=QD (cs:=cs) ha i
 have e2:=QD (cs:=cs') hb i
 generalize b6 (loN cs a).1 i=x at *
 generalize b6 (loN cs' b).1 i=y at *
 generalize (loN cs a).2=c at *
 generalize (loN cs' b).2=d at *
 generalize b6 cs i=u at *
 generalize b6 cs' i=v at *
 calc (x*d+y*c)*(a*b)=x*a*(d*b)+y*b*(c*a):=by rw[Int.add_mul]; congr 1<;>ac_rfl
  _=u*c*(d*b)+v*d*(c*a):=by rw[e1,e2]
  _=(u*b+v*a)*(c*d):=by rw[Int.add_mul]; congr 1<;>ac_rfl
abbrev CP:=List (List Int)×List Int
def Z9 (x:CP):List Int:=x.1.map val
theorem yY {p:List Int} {x y:CP} {m:Nat} (h1:x.1.length<=m) (h2:y.1.length<=m):loN (I2 p (j4 m fun i=>b6 (Z9 x) i*w3 y.2+b6 (Z9 y) i*w3 x.2)) (w3 x.2*w3 y.2)=H8 (j9 p x) (j9 p y):=by
 unfold j9
 rw[mV BN BN,iK (by unfold Z9; rw[List.length_map]; exact h1) (by unfold Z9; rw[List.length_map]; exact h2)]
 rfl
theorem yZ {p:List Int} {x:CP}:loN (I2 p ((Z9 x).map fun z=>-z)) (w3 x.2)=BU (j9 p x):=by
 rw[yG,VX]
 rfl
def LC (xs ys:List Int):List Int:=j4 (xs.length+ys.length-1) fun i=>r6 (fun k=>b6 xs k*b6 ys (i-k)) (i+1)
theorem oQ {xs:List Int}:LC xs [-1]=xs.map fun z=>-z:=by
 unfold LC
 rw[show xs.length+[(-1:Int)].length-1=xs.length by simp]
 conv=>rhs; rw[ME rfl]
 refine C9 fun i hi=>?_
 rw[SF (j:=i) zo fun k hk hne=>?_]
 ·simp only[Nat.sub_self]
  show b6 xs i*-1=_
  omega
 ·have:b6 ([-1]:List Int) (i-k)=0:=v6 (by simp; omega)
  rw[this,Int.mul_zero]
theorem af2 {cs:List Int} (h:cs.length<=4):j4 4 (b6 cs)=cs++List.replicate (4-cs.length) 0:=by
 refine D1 (by rw[p8]; simp; omega) fun i hi=>?_
 rw[p8] at hi
 rw[q9 hi,GK]
theorem uE {cs:List Int} {d:Int} (h:cs.length<=4):l5 (loN cs d)=l5 (loN (j4 4 (b6 cs)) d):=by
 rw[af2 h,vQ]
 unfold l5
 simp only[ND]
theorem uF {p xs:List Int} {d:Int} (h5:p.length<=5):l5 (loN (red p xs) d)=l5 (loN (I2 p xs) d):=uE (by rw[KA]; omega)
def EJ (p:List Int) (n:Nat) (xs:List (List Int)):List (List Int):=j4 (xs.length-1) fun j=>if xs.length-1-n<=j then g7 (val (b6 xs j)-val (b6 xs (xs.length-1))*b6 p (j-(xs.length-1-n))) else b6 xs j
theorem RR {p:List Int} {n:Nat} {xs:List (List Int)}:(EJ p n xs).length=xs.length-1:=p8
def R6 (p:List Int) (n:Nat):Nat->List (List Int)->List (List Int)
 | 0,xs=>xs++List.replicate (n-xs.length) []
 | f+1,xs=>if xs.length<=n then xs++List.replicate (n-xs.length) [] else R6 p n f (EJ p n xs)
def Z1 (p:List Int) (xs:List (List Int)):List (List Int):=R6 p (p.length-1) (xs.length-(p.length-1)) xs
theorem zC {p:List Int} {n:Nat} {xs:List (List Int)}:(EJ p n xs).map val=X1 p n (xs.map val):=by
 refine D1 (by rw[List.length_map,RR,AU,List.length_map]) fun i hi=>?_
 rw[List.length_map,RR] at hi
 rw[R2]
 unfold EJ X1
 rw[List.length_map,q9 hi,q9 hi,R2,R2]
 split
 ·rw[q8]
 ·rw[Int.sub_zero]
theorem jC {p:List Int} {n:Nat}:∀{f:Nat} {xs:List (List Int)},(R6 p n f xs).map val=L5 p n f (xs.map val)
 | 0,xs=>by rw[R6,L5,List.map_append,List.map_replicate,List.length_map]; rfl
 | f+1,xs=>by
  rw[R6,L5,List.length_map]
  split
  ·rw[List.map_append,List.map_replicate]; rfl
  ·rw[jC,zC]
theorem jJ {p:List Int} {xs:List (List Int)}:(Z1 p xs).map val=red p (xs.map val):=by unfold Z1 red; rw[jC,List.length_map]
theorem XP {p:List Int} {xs:List (List Int)}:(Z1 p xs).length=p.length-1:=by
 have:=congrArg List.length (jJ (p:=p) (xs:=xs))
 rw[List.length_map,KA] at this
 exact this
def E6 (B:Nat) (xs:List (List Int)):Prop:=∀i,w7 (b6 xs i)/\(b6 xs i).length<=B/\dl (val (b6 xs i))<=B
theorem BQ:w7 []:=fun _ h=>absurd h (Nat.not_lt_zero _)
theorem E6.app {B k:Nat} {xs:List (List Int)} (h:E6 B xs):E6 B (xs++List.replicate k []):=fun i=>by
 by_cases hi:i<xs.length
 ·have e:b6 (xs++List.replicate k []) i=b6 xs i:=by simp[b6,List.getD,List.getElem?_append_left hi]
  rw[e]; exact h i
 ·have e:b6 (xs++List.replicate k []) i=[]:=by
   simp only[b6,List.getD,List.getElem?_append_right (Nat.le_of_not_lt hi),List.getElem?_replicate]
   split<;>rfl
  rw[e]
  exact ⟨BQ,Nat.zero_le _,by rw[KH,C5.2 rfl]; omega⟩
theorem E6.mono {B C:Nat} {xs:List (List Int)} (h:E6 B xs) (hBC:B<=C):E6 C xs:=fun i=>⟨(h i).1,Nat.le_trans (h i).2.1 hBC,Nat.le_trans (h i).2.2 hBC⟩
theorem QJ {z:Int} {B:Nat} (h:dl z<=B):w7 (g7 z)/\(g7 z).length<=B/\dl (val (g7 z))<=B:=⟨v5 _,by rw[r9]; exact h,by rw[q8]; exact h⟩
theorem jB {p:List Int} {n:Nat} (hp:∀i,dl (b6 p i)<=1):∀{f B:Nat} {xs:List (List Int)},E6 B xs->E6 (B+2*f) (R6 p n f xs)
 | 0,B,xs,h=>by rw[R6]; exact h.app
 | f+1,B,xs,h=>by
  rw[R6]
  split
  ·exact h.app.mono zo
  ·have h1:E6 (B+2) (EJ p n xs):=fun j=>by
    by_cases hj:j<xs.length-1
    ·unfold EJ
     rw[q9 hj]
     split
     ·refine QJ ?_
      rw[Int.sub_eq_add_neg]
      have:=PC (h j).2.2 (h (xs.length-1)).2.2 (hp (j-(xs.length-1-n)))
      omega
     ·have:=h j; exact ⟨this.1,by omega,by omega⟩
    ·rw[v6 (by rw[RR]; omega)]
     exact ⟨BQ,Nat.zero_le _,by show dl (val [])<=_; rw[KH,C5.2 rfl]; omega⟩
   exact (jB hp h1).mono zo
theorem XQ {p:List Int} {xs:List (List Int)} {B:Nat} (hp:∀i,dl (b6 p i)<=1) (h:E6 B xs):E6 (B+2*xs.length) (Z1 p xs):=(jB hp h).mono zo
theorem gX {x:CP} {k:Nat} (h:y0 k x):E6 (k+3) x.1:=fun i=>by
 have:=M7 (h.c i).1
 have:=(h.c i).2
 exact ⟨(h.c i).1,by omega,by omega⟩
theorem YF {p:List Int} {c:List (List Int)} {d:Int} (h5:p.length<=5):l5 (loN ((Z1 p c).map val) d)=l5 (loN (I2 p (c.map val)) d):=by rw[jJ,uF h5]
theorem dN {I:Iv} (hI:0<I.den):∀{xs:List Int},enc I (xs++[0])=(I.den*(enc I xs).1,I.den*(enc I xs).2.1,I.den*(enc I xs).2.2)
 | []=>by simp[enc,N0,M9]
 | c::xs=>by
  rw[List.cons_append,enc,dN hI,enc]
  simp only[Int.mul_assoc,fY (Int.le_of_lt hI),fW (Int.le_of_lt hI)]
  refine Prod.ext ?_ (Prod.ext ?_ rfl)
  ·simp only; rw[Int.mul_add,<- Int.mul_assoc c,<- Int.mul_assoc I.den c,Int.mul_comm I.den c]
  ·simp only; rw[Int.mul_add,<- Int.mul_assoc c,<- Int.mul_assoc I.den c,Int.mul_comm I.den c]
theorem dO {I:Iv} (hI:0<I.den) {xs:List Int}:∀{k:Nat},(0<(enc I (xs++List.replicate k 0)).1↔0<(enc I xs).1)/\((enc I (xs++List.replicate k 0)).2.1<0↔(enc I xs).2.1<0)
 | 0=>by simp
 | k+1=>by
  obtain ⟨h1,h2⟩:=dO hI (xs:=xs) (k:=k)
  rw[List.replicate_succ',<- List.append_assoc,dN hI,<- h1,<- h2]
  constructor
  ·exact ⟨fun h=>Classical.byContradiction fun hn=>by have:=Int.mul_nonneg (Int.le_of_lt hI) (show 0<=-(enc I (xs++List.replicate k 0)).1 by omega); rw[Int.mul_neg] at this; simp only at h; omega,fun h=>Int.mul_pos hI h⟩
  ·exact ⟨fun h=>Classical.byContradiction fun hn=>by have:=Int.mul_nonneg (Int.le_of_lt hI) (show 0<=(enc I (xs++List.replicate k 0)).2.1 by omega); simp only at h; omega,fun h=>Int.mul_neg_of_pos_of_neg hI h⟩
theorem af8 {v:List Int} {n:Nat} (h4:v.length=4) (hn:n<=4) (hz:∀i,n<=i->b6 v i=0):v.take n=j7 v++List.replicate (n-(j7 v).length) 0:=by
 have h1:=YL hz
 refine D1 (by simp; omega) fun i hi=>?_
 rw[List.length_take] at hi
 rw[P8 zo,GK,S7]
theorem uL {p:List Int} {I:Iv} (h1:s8 (v8 I.lo I.den p).1≠0) (h2:s8 (v8 (I.lo+I.hi) (I.den*2) p).1≠0):K6 p I=if s8 (v8 I.lo I.den p).1≠s8 (v8 (I.lo+I.hi) (I.den*2) p).1 then ⟨I.lo*2,I.lo+I.hi,I.den*2⟩ else ⟨I.lo+I.hi,I.hi*2,I.den*2⟩:=by
 unfold K6
 rw[show I.den+I.den=I.den*2 by omega,show I.lo+I.lo=I.lo*2 by omega,show I.hi+I.hi=I.hi*2 by omega]
 have b1:=Z5 (v8 I.lo I.den p).1
 have b2:=Z5 (v8 (I.lo+I.hi) (I.den*2) p).1
 generalize s8 (v8 I.lo I.den p).1=s at *
 generalize s8 (v8 (I.lo+I.hi) (I.den*2) p).1=t at *
 have a1:s=-1\/s=1:=by omega
 have a2:t=-1\/t=1:=by omega
 rcases a1 with rfl | rfl<;>rcases a2 with rfl | rfl<;>rfl
def T0 (f:Int×Int×Int) (I:Iv) (k:Nat):List Int×List Int×List Int:=if k=0 then ([f.1],[f.2.1],[f.2.2]) else (g7 I.lo,g7 I.hi,g7 I.den)
end Go.Fl

/- Contracts: fields of the reference. -/
namespace Go.Fl
open Go Go.Proofs
open b8 renaming op->tO
open j1 renaming op->rO
set_option maxRecDepth 100000

theorem Q0 {f:u8} (h:z6 f=0):G3 f.1:=by
 obtain ⟨⟨c1,c2,_⟩,_⟩:=X5 h
 exact ⟨c1,fun i=>O3 (by have:=c2 i; simp[BP]; omega)⟩
theorem RZ {p:List Int} {I:Iv} {v:n7} (h:O5 v.1=true):E0 p I v=r7 (b6 v.1 0) 0:=if_pos h
theorem xW {f:u8} (h:¬f.1.length=2):i2 f.1 (u7 f) 64=FT f:=by unfold FT; rw[if_neg h]
theorem xX {f:u8}:(⟨(N5 f).2.2.2.1,(N5 f).2.2.2.2.1,(N5 f).2.2.2.2.2⟩:Iv)=FT f:=by simp only[N5]
def KR (p:List Int):Prop:=¬∃x,J7 p x=0
def HY (p:List Int) (b:Int):Prop:=(b≠0/\b∣b6 p 0)/\∃a,-2002<=a/\a<=2002/\IB p b a
theorem wX {p:List Int} (hl:1<=p.length) (hp:(b6 p 0).natAbs<=1000) (h:∀j:Nat,j<2003->J7 p ((j:Int)-1001)≠0):KR p:=fun e=>by
 obtain ⟨x,h1,h2,h3⟩:=(zM hl hp).1 e
 have:=h (x+1001).toNat zo
 rw[show (((x+1001).toNat:Nat):Int)-1001=x by omega] at this
 exact this h3
theorem WN {p:List Int} (hl:1<=p.length) (h:KR p):b6 p 0≠0:=fun e=>h ⟨0,by rw[XS hl,e]⟩
theorem wW {p:List Int} (_:3<=p.length) (hs:∀i,(b6 p i).natAbs<=1000) (hn:KR p) (h:p.length=5->∀j:Nat,j<2001->¬HY p ((j:Int)-1000)):¬DM p:=fun ⟨_,e⟩=>by
 rcases e with e | ⟨h5,e⟩
 ·exact hn e
 ·obtain ⟨b,h1,h2,h3,h4,h6⟩:=(jN (WN zo hn) (hs 0) (hs 2) (hs 3)).1 e
  have:=h h5 (b+1000).toNat zo
  rw[show (((b+1000).toNat:Nat):Int)-1000=b by omega] at this
  exact this ⟨⟨h3,h4⟩,h6⟩
theorem zK {p:List Int} (h5:p.length=5) (hs:∀i,(b6 p i).natAbs<=1000) (hn:KR p) {b:Int} (hb:-1000<=b/\b<=1000) (h:HY p b):DM p :=
 ⟨by omega,.inr ⟨h5,(jN (WN zo hn) (hs 0) (hs 2) (hs 3)).2 ⟨b,hb.1,hb.2,h.1.1,h.1.2,h.2⟩⟩⟩
theorem yR {p:List Int} {b:Int} (h:∀j:Nat,j<4005->¬IB p b ((j:Int)-2002)):¬HY p b:=fun ⟨_,a,h1,h2,h3⟩=>by
 have:=h (a+2002).toNat zo
 rw[show (((a+2002).toNat:Nat):Int)-2002=a by omega] at this
 exact this h3
theorem ac5 {r:D0} {I:Iv} (hpo:G3 r.2.1) (h2:r.2.1.length=2):NR r (E0 r.2.1 I):=by
 have hr:∀x:y3,O5 (j9 r.2.1 x).1=true:=fun x=>RP h2
 refine ⟨fun x hx=>?_,fun x y hx hy=>?_⟩
 ·rw[RZ (hr x)]
  exact qB r x 250 hpo h2 hx zo
 ·have e:E0 r.2.1 I (H0 (j9 r.2.1 x) (j9 r.2.1 y))=r7 (b6 (H0 (j9 r.2.1 x) (j9 r.2.1 y)).1 0) 0:=RZ (iU (hr x) (iV (hr y)))
  rw[e]
  exact pX r x y 250 hpo hx hy zo h2
theorem ac4 {r:D0} {I:Iv} (hf:BB r.2.1 I) (hI:i2 r.2.1 I 64=⟨r.2.2.2.1,r.2.2.2.2.1,r.2.2.2.2.2⟩):NR r (E0 r.2.1 I) :=
 ⟨fun x hx=>qA r I x hf hI hx,fun x y hx hy=>pW r I x y hf hI hx hy⟩
theorem XW {f:u8} (h:z6 f=0):NR (N5 f) (E0 f.1 (u7 f)):=by
 have e:(N5 f).2.1=f.1:=rfl
 have hpo:=Q0 h
 rw[<- e] at hpo ⊢
 by_cases h2:f.1.length=2
 ·rw[<- e] at h2
  exact ac5 hpo h2
 ·obtain ⟨⟨c1,_⟩,_⟩:=X5 h
  have hf:=VA h zo
  have hI:=xW h2
  rw[<- xX] at hI
  generalize N5 f=r at *
  rw[<- e] at hf hI
  exact ac4 hf hI
theorem rU (p:List Int) (x:Int) (h5:p.length<=5) (hs:∀i,(b6 p i).natAbs<=1000) (hx:x.natAbs<=1001):Ct Tryz.prog 171 [b7 (eL eI) p,kI x] (kI (J7 p x)):=by
 refine Ct.mk Tryz.func171 rfl Tryz.ntmps171 rfl (fun w J=>?_); refine IZ ?_
 refine Tr.for1 (σ:=Nat) [⟨0,true,_,_⟩,⟨1,true,_,_⟩] [] (fun k=>[⟨5,true,[],kI (W0 p x k)⟩,⟨6,true,[],kI ((p.length:Int)-1-k)⟩]) (fun k=>[]) (fun k=>k<=p.length) (fun k=>k=p.length) (fun k=>p.length-k) (0) zi (d6.mk (.i rfl (by rw[PL])<|.i rfl zi<|zk) (.nil) rfl) ?_ ?_
 ·intro k hR0
  refine jn ?_
  have hb1:=fun (h:k<p.length)=>PK hs hx h5 (k:=k+1) zo
  have hb2:=PK hs hx h5 (k:=k) zo
  have hb3:=hs (p.length-1-k)
  have hix:=fun (h:k<p.length)=>(show ((p.length:Int)-1-(k:Int)).toNat=p.length-1-k by omega)
  refine j6 ?_; refine jq ?_ ?_
  ·intro h3
   refine l8 ?_
   have hixk:=hix zo
   have hbk:=hb1 zo
   rw[LN zo] at hbk
   refine l6 ?_
   rw[hixk]
   refine y7 ?_
   exact g6.lp (k+1) zi zo (d6.mk (.i rfl (by rw[LN zo])<|.i rfl zi<|zk) (.nil) rfl)
  ·intro h3
   replace h3:=Int.not_le.1 h3
   refine g8 ?_
   exact g6.cut (k) zo (d6.mk (.i rfl zi<|.i rfl zi<|zk) (.nil) rfl)
 ·rintro k hkn
  refine je ?_; refine j3 ?_; exact d9.res1 (fn:=Tryz.f171) rfl (.i rfl (by rw[hkn,dR])<|.nil)

theorem rH (p:List Int) (h2':2<=p.length) (h5':p.length<=5) (hs:∀i,(b6 p i).natAbs<=1000):Ct Tryz.prog 126 [b7 (eL eI) p] (kB (X2 p)):=by
 have hs0:=hs 0
 have hs1:=hs 1
 have hs2:=hs 2
 have hs3:=hs 3
 refine Ct.mk Tryz.func126 rfl Tryz.ntmps126 rfl (fun w J=>?_); refine JA ?_; refine jq ?_ ?_
 ·intro h2
  have hr:=JY (p:=p) (fun e=>e.1 zo)
  refine j6 ?_; exact d9.res1 (fn:=Tryz.f126) rfl (.b rfl (by rw[hr])<|.nil)
 ·intro h2
  have hl3:3<=p.length:=by omega
  refine j3 ?_
  refine Tr.for1 (σ:=Nat) [⟨0,true,_,_⟩,⟨3,true,_,_⟩] [] (fun k=>[⟨4,true,[],kI ((k:Int)-1001)⟩]) (fun k=>[]) (fun k=>k<=2003/\∀j:Nat,j<k->J7 p ((j:Int)-1001)≠0) (fun k=>KR p) (fun k=>2003-k) (0) ⟨by omega,fun j h=>absurd h (Nat.not_lt_zero _)⟩ (d6.mk (.i rfl zi<|zk) (.nil) rfl) ?_ ?_
  ·rintro k ⟨hk,hR⟩
   refine jn ?_; refine j6 ?_; refine jq ?_ ?_
   ·intro h5
    refine j3 ?_; refine jc (rU p ((k:Int)-1001) h5' hs zo) ?_; refine i7 ?_; refine jq ?_ ?_
    ·intro h7
     have hr:=JZ (p:=p) ⟨by omega,.inl ⟨(k:Int)-1001,h7⟩⟩
     refine u9 ?_; exact d9.res1 (fn:=Tryz.f126) rfl (.b rfl (by rw[hr])<|.nil)
    ·intro h7
     have hno:J7 p ((k:Int)-1001)≠0:=h7
     refine j3 ?_
     exact g6.lp (k+1) ⟨by omega,fun j hj=>by by_cases e:j=k; (subst e; exact hno); exact hR j zo⟩ zo (d6.mk (.i rfl zi<|zk) (.nil) rfl)
   ·intro h5
    replace h5:=Int.not_le.1 h5
    refine g8 ?_
    exact g6.cut (k) (wX zo hs0 (fun j hj=>hR j zo)) (d6.mk (.i rfl zi<|zk) (.nil) rfl)
  ·intro k hnr
   refine je ?_
   have hp0:b6 p 0≠0:=WN zo hnr
   refine j6 ?_
   refine Tr.for1 (σ:=Nat) [⟨0,true,_,_⟩,⟨3,true,_,_⟩] [] (fun k=>[⟨5,true,[],kI ((k:Int)-1000)⟩]) (fun k=>[]) (fun k=>k<=2001/\(p.length=5->∀j:Nat,j<k->¬HY p ((j:Int)-1000))) (fun k=>X2 p=false) (fun k=>2001-k) (0) ⟨by omega,fun _ j h=>absurd h (Nat.not_lt_zero _)⟩ (d6.mk (.i rfl zi<|zk) (.nil) rfl) ?_ ?_
   ·rintro k ⟨hk,hR⟩
    refine jn ?_; refine y7 ?_; refine Tr.cnd rfl ?_ ?_
    ·intro h10
     have hk5:k<2001/\p.length=5:=by simp at h10; omega
     refine y7 ?_; refine b8.gd rfl rfl rfl (F2 (i:=0) rfl id rfl uu rfl (fun _=>zo)) rfl rfl ?_; refine g9 ?_; refine b8.gd rfl rfl rfl (EH rfl id rfl id (fun hp=>by simp at hp; omega)) rfl rfl ?_; refine g8 ?_; refine Tr.cnd rfl ?_ ?_
     ·intro h12
      have hnb:¬HY p ((k:Int)-1000):=fun e=>by simp[Int.tmod_eq_zero_of_dvd e.1.2] at h12; exact e.1.1 zo
      refine m8 ?_
      exact g6.lp (k+1) ⟨by omega,fun h5 j hj=>by by_cases e:j=k; (subst e; exact hnb); exact hR h5 j zo⟩ zo (d6.mk (.i rfl zi<|zk) (.nil) rfl)
     ·intro h12
      have hb0:((k:Int)-1000)≠0/\((k:Int)-1000)∣b6 p 0:=by simp at h12; exact ⟨by omega,Int.dvd_of_tmod_eq_zero h12.2⟩
      refine j6 ?_
      refine Tr.for1 (σ:=Nat) [⟨0,true,_,_⟩,⟨3,true,_,_⟩,⟨5,true,_,_⟩] [] (fun i=>[⟨6,true,[],kI ((i:Int)-2002)⟩]) (fun i=>[]) (fun i=>i<=4005/\∀j:Nat,j<i->¬IB p ((k:Int)-1000) ((j:Int)-2002)) (fun i=>¬HY p ((k:Int)-1000)) (fun i=>4005-i) (0) ⟨by omega,fun j h=>absurd h (Nat.not_lt_zero _)⟩ (d6.mk (.i rfl zi<|zk) (.nil) rfl) ?_ ?_
      ·rintro i ⟨hi,hRi⟩
       refine jn ?_
       have m1:(((i:Int)-2002)*(b6 p 3-((i:Int)-2002))).natAbs<=2003*3003:=L9 zo zo
       have m2:(((k:Int)-1000)*(b6 p 2-((k:Int)-1000)-((i:Int)-2002)*(b6 p 3-((i:Int)-2002)))).natAbs<=1001*6020000:=L9 zo zo
       have m3:(((i:Int)-2002)*(b6 p 2-((k:Int)-1000)-((i:Int)-2002)*(b6 p 3-((i:Int)-2002)))).natAbs<=2003*6020000:=L9 zo zo
       have m4:(((k:Int)-1000)*(b6 p 3-((i:Int)-2002))).natAbs<=1001*3003:=L9 zo zo
       refine j6 ?_; refine jq ?_ ?_
       ·intro h14
        refine j6 ?_; refine tO (F2 (i:=3) rfl uu rfl uu rfl (fun _=>zo)) rfl rfl ?_; refine m8 ?_; refine tO (F2 (i:=2) rfl uu rfl uu rfl (fun _=>zo)) rfl rfl ?_; refine S6 ?_; refine tO (F2 (i:=0) rfl uu rfl uu rfl (fun _=>zo)) rfl rfl ?_; refine l8 ?_; refine b8.gd rfl rfl rfl (EE rfl id rfl id (fun hp=>by simp at hp; omega)) rfl rfl ?_; refine g9 ?_; refine b8.gd rfl rfl rfl (EE rfl id rfl id (fun hp=>by simp at hp; omega)) rfl rfl ?_; refine b8.gd rfl rfl rfl (HE rfl id rfl id (fun hp=>by simp at hp; omega)) rfl rfl ?_
        refine i4 ?_; refine b8.gd rfl rfl rfl (F2 (i:=1) rfl id rfl uu rfl (fun _=>zo)) rfl rfl ?_; refine l8 ?_; refine Tr.cnd rfl ?_ ?_
        ·intro h18
         have hq:IB p ((k:Int)-1000) ((i:Int)-2002):=by simp at h18; exact h18
         have hr:X2 p=true:=JZ (zK hk5.2 hs hnr zo ⟨hb0,((i:Int)-2002),by omega,by omega,hq⟩)
         refine P5 ?_; exact d9.res1 (fn:=Tryz.f126) rfl (.b rfl (by rw[hr])<|.nil)
        ·intro h18
         have hnri:¬IB p ((k:Int)-1000) ((i:Int)-2002):=fun e=>by simp[e.1,e.2] at h18
         refine j3 ?_
         exact g6.lp (i+1) ⟨by omega,fun j hj=>by by_cases e:j=i; (subst e; exact hnri); exact hRi j zo⟩ zo (d6.mk (.i rfl zi<|zk) (.nil) rfl)
       ·intro h14
        replace h14:=Int.not_le.1 h14
        refine g8 ?_
        exact g6.cut (i) (yR (fun j hj=>hRi j zo)) (d6.mk (.i rfl zi<|zk) (.nil) rfl)
      ·intro i hnb
       refine je ?_; refine j6 ?_
       exact g6.lp (k+1) ⟨by omega,fun h5 j hj=>by by_cases e:j=k; (subst e; exact hnb); exact hR h5 j zo⟩ zo (d6.mk (.i rfl zi<|zk) (.nil) rfl)
    ·intro h10
     have hk5:p.length=5->k=2001:=by simp at h10; omega
     refine g8 ?_
     exact g6.cut (k) (JY (wW hl3 hs hnr (fun h5 j hj=>hR h5 j (by have:=hk5 h5; omega)))) (d6.mk (.i rfl zi<|zk) (.nil) rfl)
   ·intro k hnq
    refine je ?_; refine j6 ?_; exact d9.res1 (fn:=Tryz.f126) rfl (.b rfl (by rw[hnq])<|.nil)

end Go.Fl

/- Contracts: remainders, values at fractions and changes of sign, as the reference finds them. -/
namespace Go.Fl
open Go Go.Proofs
open b8 renaming op->tO
open j1 renaming op->rO
set_option maxRecDepth 100000

theorem VY:g7 1=[1]:=by decide
theorem ad4 {xs:List (List Int)} {n:Nat} (hn:n<=xs.length) (hz:∀i,n<=i->i<xs.length->val (b6 xs i)=0) (hnz:¬(0<n/\val (b6 xs (n-1))=0)):(j7 (xs.map val)).length=n:=by
 have hl:(xs.map val).length=xs.length:=List.length_map ..
 have:=cR (ys:=xs.map val) (m:=xs.length) (j:=n) zo hn (fun i h1 h2=>by rw[R2]; exact hz i h1 h2) (fun ⟨h1,h2⟩=>hnz ⟨h1,by rw[R2] at h2; exact h2⟩)
 rw[List.take_of_length_le zo] at this
 exact this
theorem WA {xs:List Int}:(xs.map g7).map val=xs:=fU
theorem af6 {xs:List Int}:(xs.map g7).take (j7 ((xs.map g7).map val)).length=(j7 xs).map g7:=by
 rw[WA,<- List.map_take,HP]
theorem QG {xs:List Int} {B:Nat} (h:∀i,dl (b6 xs i)<=B):E6 B (xs.map g7):=fun i=>by
 by_cases hi:i<xs.length
 ·have e:b6 (xs.map g7) i=g7 (b6 xs i):=by simp[b6,hi]
  rw[e]; exact QJ (h i)
 ·rw[v6 (by rw[List.length_map]; omega)]
  exact ⟨BQ,Nat.zero_le _,by show dl (val [])<=_; rw[KH,C5.2 rfl]; omega⟩
theorem E6.dl {B:Nat} {xs:List (List Int)} (h:E6 B xs) (i:Nat):dl (b6 (xs.map val) i)<=B:=by rw[R2]; exact (h i).2.2
theorem lB {xs:List Int} {k:Nat} (h:xs.length=k):(j4 k fun j=>g7 (b6 xs j))=xs.map g7:=by
 conv=>rhs; rw[T2 h]
 simp[j4]
theorem gA {s l:Int} (h1:-1<=s/\s<=1) (h2:-1<=l/\l<=1):s*l<0↔s≠0/\l≠0/\s≠l:=by
 rcases (show s=-1\/s=0\/s=1 by omega) with rfl | rfl | rfl<;>omega
theorem nY {c d:Nat×Int} {s t:Int} (h:c=A5 d t) (ht:t=s8 s) (h1:-1<=r7 s 0/\r7 s 0<=1) (h2:-1<=d.2/\d.2<=1) (q1:r7 s 0≠0) (q2:d.2≠0) (q3:r7 s 0≠d.2):(d.1:Int)+1=(c.1:Int):=by
 rw[h,ht]
 have:(A5 d (s8 s)).1=d.1+1:=if_pos ((gA (s:=s8 s) h1 h2).2 ⟨q1,q2,q3⟩)
 omega
theorem ZZ {c d:Nat×Int} {s t:Int} (h:c=A5 d t) (ht:t=s8 s) (h1:-1<=r7 s 0/\r7 s 0<=1) (h2:-1<=d.2/\d.2<=1) (q:¬(r7 s 0≠0/\d.2≠0/\r7 s 0≠d.2)):(d.1:Int)=(c.1:Int):=by
 rw[h,ht]
 have:(A5 d (s8 s)).1=d.1:=if_neg fun e=>q ((gA (s:=s8 s) h1 h2).1 e)
 omega
theorem aA {c d:Nat×Int} {s t:Int} (h:c=A5 d t) (ht:t=s8 s) (q:r7 s 0≠0):r7 s 0=c.2:=by
 rw[h,ht]; exact (if_pos q:(A5 d (s8 s)).2=s8 s).symm
theorem nZ {c d:Nat×Int} {s t:Int} (h:c=A5 d t) (ht:t=s8 s) (q:r7 s 0=0):d.2=c.2:=by
 rw[h,ht]; exact (if_neg (fun e=>e q):(A5 d (s8 s)).2=d.2).symm
theorem zQ {ql rs:List (List Int)} {k:Nat} (hq:1<=ql.length/\ql.length<=rs.length) (hk:k<rs.length) (h:0<=(k:Int)-(rs.length:Int)+(ql.length:Int)):((j4 k fun j=>g7 (b6 (F9 (ql.map val) (rs.map val)) j))++[g7 (val (b6 rs k)*val (b6 ql ((ql.length:Int)-1).toNat)*val (b6 ql ((ql.length:Int)-1).toNat)-val (b6 rs ((rs.length:Int)-1).toNat)*val (b6 ql ((ql.length:Int)-1).toNat)*val (b6 ql ((k:Int)-(rs.length:Int)+(ql.length:Int)).toNat))])=j4 (k+1) fun j=>g7 (b6 (F9 (ql.map val) (rs.map val)) j):=by
 have e:b6 (F9 (ql.map val) (rs.map val)) k=val (b6 rs k)*val (b6 ql ((ql.length:Int)-1).toNat)*val (b6 ql ((ql.length:Int)-1).toNat)-val (b6 rs ((rs.length:Int)-1).toNat)*val (b6 ql ((ql.length:Int)-1).toNat)*val (b6 ql ((k:Int)-(rs.length:Int)+(ql.length:Int)).toNat):=by
  unfold F9
  rw[List.length_map,List.length_map,q9 hk,if_pos zo,R2,R2,R2,R2,show ((ql.length:Int)-1).toNat=ql.length-1 by omega,show ((rs.length:Int)-1).toNat=rs.length-1 by omega,show ((k:Int)-(rs.length:Int)+(ql.length:Int)).toNat=k-(rs.length-ql.length) by omega,Int.mul_assoc (val (b6 rs k)),Int.sub_eq_add_neg]
 rw[F0,e]
theorem zR {ql rs:List (List Int)} {k:Nat} (hq:1<=ql.length/\ql.length<=rs.length) (hk:k<rs.length) (h:(k:Int)-(rs.length:Int)+(ql.length:Int)<0):((j4 k fun j=>g7 (b6 (F9 (ql.map val) (rs.map val)) j))++[g7 (val (b6 rs k)*val (b6 ql ((ql.length:Int)-1).toNat)*val (b6 ql ((ql.length:Int)-1).toNat))])=j4 (k+1) fun j=>g7 (b6 (F9 (ql.map val) (rs.map val)) j):=by
 have e:b6 (F9 (ql.map val) (rs.map val)) k=val (b6 rs k)*val (b6 ql ((ql.length:Int)-1).toNat)*val (b6 ql ((ql.length:Int)-1).toNat):=by
  unfold F9
  rw[List.length_map,List.length_map,q9 hk,if_neg zo,R2,R2,show ((ql.length:Int)-1).toNat=ql.length-1 by omega,Int.mul_assoc (val (b6 rs k)),Int.add_zero]
 rw[F0,e]
theorem zS {pl ql rs:List (List Int)} {A B:Nat} (hq1:1<=ql.length) (hqr:ql.length<=rs.length) (hrl:rs.length<=pl.length) (hag:B8 (ql.map val) rs.length (rs.map val)=B8 (ql.map val) pl.length (pl.map val)) (hro:E6 (A+(pl.length-rs.length)*(2*B+1)) rs) (hql:E6 B ql) :
  ((F8 (ql.map val) (rs.map val)).map g7).length<=pl.length/\B8 (ql.map val) ((F8 (ql.map val) (rs.map val)).map g7).length (((F8 (ql.map val) (rs.map val)).map g7).map val)=B8 (ql.map val) pl.length (pl.map val)/\E6 (A+(pl.length-((F8 (ql.map val) (rs.map val)).map g7).length)*(2*B+1)) ((F8 (ql.map val) (rs.map val)).map g7)/\((F8 (ql.map val) (rs.map val)).map g7=pl\/(F8 (ql.map val) (rs.map val)).map g7=(((F8 (ql.map val) (rs.map val)).map g7).map val).map g7):=by
 have hmq:(ql.map val).length=ql.length:=List.length_map ..
 have hmr:(rs.map val).length=rs.length:=List.length_map ..
 have h1:=EY (q:=ql.map val) (r:=rs.map val) zo zo
 rw[WA,List.length_map]
 refine ⟨by omega,?_,?_,.inr rfl⟩
 ·rw[<- hag]
  have:=ZJ (q:=ql.map val) (r:=rs.map val) zo zo
  rw[hmr] at this
  exact this.symm
 ·refine QG fun i=>?_
  unfold F8
  rw[S7]
  have q1:=NW hro.dl hql.dl i
  have q2:=Nat.mul_le_mul_right (2*B+1) (show pl.length-rs.length+1<=pl.length-(j7 (F9 (ql.map val) (rs.map val))).length by unfold F8 at h1; omega)
  rw[Nat.succ_mul] at q2
  omega
theorem rS (xs:List (List Int)) (B:Nat) (hx:E6 B xs) (hB:B<=1000000) (hl:xs.length<=1000):Ct Tryz.prog 197 [b7 (eL (eL eI)) xs] (b7 (eL (eL eI)) (xs.take (j7 (xs.map val)).length)):=by
 refine Ct.mk Tryz.func197 rfl Tryz.ntmps197 rfl (fun w J=>?_); refine u9 ?_
 refine Tr.for (σ:=Nat) [⟨0,true,_,_⟩] [] (fun n=>[⟨3,true,[],kI (n:Int)⟩]) (fun n=>[]) (fun n=>n<=xs.length/\∀i,n<=i->i<xs.length->val (b6 xs i)=0) (fun n=>(j7 (xs.map val)).length=n/\n<=xs.length) (fun n=>n) (xs.length) ⟨Nat.le_refl _,fun i h1 h2=>absurd h1 zo⟩ (d6.mk (.i rfl zi<|zk) (.nil) rfl) ?_ ?_
 ·rintro n ⟨hn,hz⟩
  refine jn ?_; refine j3 ?_; refine b8.gd rfl rfl rfl (AP rfl id rfl uu (fun hp=>by simp at hp; omega)) rfl rfl ?_
  first | refine b8.gd rfl rfl rfl (F2 rfl id rfl id rfl (fun hp=>by simp at hp; omega)) rfl rfl ?_ | refine b8.gd rfl rfl rfl (BV rfl id rfl id rfl (fun hp=>by simp at hp; omega)) rfl rfl ?_
  refine i4 ?_; refine b8.gd rfl rfl rfl (i6 (fun hp=>BI _ (hx _).1 (by have:=(hx ((n:Int)-1).toNat).2.1; omega)) (.a rfl id<|.nil)) rfl rfl ?_; refine g8 ?_; refine Tr.cnd rfl ?_ ?_
  ·intro h2
   try simp only[decide_eq_true_eq,Bool.and_eq_true] at h2
   have hzz:0<n/\val (b6 xs (n-1))=0:=⟨by omega,by have:=Q8.1 h2.2; rwa [show ((n:Int)-1).toNat=n-1 by omega] at this⟩
   refine m8 ?_
   exact g6.lp (n-1) ⟨by omega,fun i h2 h3=>by by_cases e:i=n-1; (rw[e]; exact hzz.2); exact hz i zo h3⟩ zo (d6.mk (.i rfl zi<|zk) (.nil) rfl)
  ·intro h2
   try simp only[decide_eq_true_eq,decide_eq_false_iff_not,Bool.and_eq_false_imp] at h2
   have hnz:¬(0<n/\val (b6 xs (n-1))=0):=fun ⟨q1,q2⟩=>h2 zo (Q8.2 (by rw[show ((n:Int)-1).toNat=n-1 by omega]; exact q2))
   refine g8 ?_
   exact g6.cut (n) ⟨ad4 hn hz hnz,hn⟩ (d6.mk (.i rfl zi<|zk) (.nil) rfl)
 ·rintro n ⟨ht,hn⟩
  refine jn ?_
  have htn:((n:Int)).toNat=n:=Int.toNat_natCast n
  refine g8 ?_; refine tO (FS rfl uu rfl uu (fun _=>zo)) rfl rfl ?_; refine g8 ?_; exact d9.res1 (fn:=Tryz.f197) rfl (.r rfl (by rw[ht,htn])<|.nil)

theorem UE (pl:List (List Int)) (a b:List Int) (B C:Nat) (hpl:E6 C pl) (hl:pl.length<=6) (ha:w7 a/\a.length<=B) (hb:w7 b/\b.length<=B) (hda:dl (val a)<=B) (hdb:dl (val b)<=B) (hB:B<=75000) (hC:C<=20000):Ct Tryz.prog 131 [b7 (eL (eL eI)) pl,b7 (eL eI) a,b7 (eL eI) b] (b7 (eL eI) (g7 (v8 (val a) (val b) (pl.map val)).1)):=by
 have hml:(pl.map val).length=pl.length:=List.length_map ..
 refine Ct.mk Tryz.func131 rfl Tryz.ntmps131 rfl (fun w J=>?_); refine u9 ?_; refine b8.new (w4 eI 10 (fun hp=>.cons rfl<|.nil) rfl rfl rfl rfl) rfl rfl rfl rfl ?_; refine b8.frz 10 [10] ⟨rfl,trivial⟩ (by decide) rfl ?_; refine jl ?_; refine u9 ?_
 refine Tr.for1 (σ:=Nat) [⟨0,true,_,_⟩,⟨1,true,_,_⟩,⟨2,true,_,_⟩] [] (fun k=>[⟨7,true,[],b7 (eL eI) (g7 (B0 (val a) (val b) (pl.map val) k).1)⟩,⟨8,true,[],b7 (eL eI) (g7 (B0 (val a) (val b) (pl.map val) k).2)⟩,⟨9,true,[],kI ((pl.length:Int)-1-k)⟩]) (fun k=>[]) (fun k=>k<=pl.length) (fun k=>k=pl.length) (fun k=>pl.length-k) (0) zi (d6.mk (.n rfl (by rw[LV]; rfl)<|.r rfl (by rw[LV]; exact VY.symm)<|.i rfl zi<|zk) (.nil) rfl) ?_ ?_
 ·intro k hR0
  refine jn ?_
  have hbd:=fun (h:k<=(pl.map val).length)=>IY (p:=pl.map val) (B:=B) (C:=C) hpl.dl hda hdb (k:=k) h
  have hix:=fun (h:k<pl.length)=>(show ((pl.length:Int)-1-(k:Int)).toNat=(pl.map val).length-1-k by omega)
  have hk5:=fun (h:k<pl.length)=>Nat.mul_le_mul (show k<=5 by omega) (show B+1<=75001 by omega)
  have hk6:=fun (h:k<pl.length)=>Nat.mul_le_mul (show k<=5 by omega) (show B<=75000 by omega)
  refine j6 ?_; refine jq ?_ ?_
  ·intro h4
   refine l8 ?_; refine Tr.draw 8 n8 (by kernel_rfl) ?_
   have hbk:=hbd zo
   replace hk5:=hk5 zo
   replace hk6:=hk6 zo
   have hixk:=hix zo
   have hq1:=s9 (B0 (val a) (val b) (pl.map val) k).1 (val a)
   have hq2:=s9 (val (b6 pl ((pl.length:Int)-1-k).toNat)) (B0 (val a) (val b) (pl.map val) k).2
   have hq3:=(hpl ((pl.length:Int)-1-k).toNat).2.2
   refine g9 ?_; refine rO (i6 (fun hp=>I8 (g7 (B0 (val a) (val b) (pl.map val) k).1) a (v5 _) ha.1 (by rw[r9]; omega) zo) (.a rfl uu<|.a rfl uu<|.nil)) rfl rfl ?_; refine l6 ?_; refine tO (i6 (fun hp=>I8 (b6 pl ((pl.length:Int)-1-k).toNat) (g7 (B0 (val a) (val b) (pl.map val) k).2) (hpl _).1 (v5 _) (by have:=(hpl ((pl.length:Int)-1-k).toNat).2.1; omega) (by rw[r9]; omega)) (.a rfl uu<|.a rfl uu<|.nil)) rfl rfl ?_; refine tO (i6 (fun hp=>DR (g7 (val (g7 (B0 (val a) (val b) (pl.map val) k).1)*val a)) (g7 (val (b6 pl ((pl.length:Int)-1-k).toNat)*val (g7 (B0 (val a) (val b) (pl.map val) k).2))) (v5 _) (v5 _) (by rw[r9,q8]; omega) (by rw[r9,q8]; omega)) (.a rfl uu<|.a rfl uu<|.nil)) rfl rfl ?_
   refine l6 ?_; refine tO (i6 (fun hp=>I8 (g7 (B0 (val a) (val b) (pl.map val) k).2) b (v5 _) hb.1 (by rw[r9]; omega) zo) (.a rfl uu<|.a rfl uu<|.nil)) rfl rfl ?_; refine m8 ?_
   exact g6.lp (k+1) zi zo (d6.mk (.r rfl (by rw[LU zo,hixk,q8,q8,q8,q8,R2])<|.r rfl (by rw[LU zo,q8])<|.i rfl zi<|zk) (.nil) rfl)
  ·intro h4
   replace h4:=Int.not_le.1 h4
   refine g8 ?_
   exact g6.cut (k) zo (d6.mk (.r rfl zi<|.r rfl zi<|.i rfl zi<|zk) (.nil) rfl)
 ·rintro k hkn
  refine je ?_; refine j3 ?_; exact d9.res1 (fn:=Tryz.f131) rfl (.r rfl (by rw[hkn,<- hml,LT])<|.nil)

theorem cD (cl:List (List (List Int))) (a b:List Int) (hl:cl.length<=5) (hc:∀j,j<cl.length->(b6 cl j).length<=5/\E6 1690 (b6 cl j)) (ha:w7 a/\a.length<=4) (hb:w7 b/\b.length<=4) (hda:dl (val a)<=4) (hdb:dl (val b)<=4):Ct Tryz.prog 173 [b7 (eL (eL (eL eI))) cl,b7 (eL eI) a,b7 (eL eI) b] (kI ((D7 (cl.map fun q=>s8 (v8 (val a) (val b) (q.map val)).1)).1:Int)):=by
 obtain ⟨sl,hsl⟩:∃sl,sl=(cl.map fun q=>s8 (v8 (val a) (val b) (q.map val)).1):=⟨_,rfl⟩
 have hll:sl.length=cl.length:=by rw[hsl,List.length_map]
 have hsn:∀j,j<cl.length->b6 sl j=s8 (v8 (val a) (val b) ((b6 cl j).map val)).1:=fun j hj=>by rw[hsl]; simp[b6,hj]
 have hsb:∀s∈sl,-1<=s/\s<=1:=fun s hs=>by rw[hsl] at hs; obtain ⟨q,_,rfl⟩:=List.mem_map.1 hs; exact KE _
 have hcle:=fun k=>OH (l:=sl.take k)
 have htk:∀k,(sl.take k).length<=5:=fun k=>by rw[List.length_take]; omega
 rw[<- hsl]
 refine Ct.mk Tryz.func173 rfl Tryz.ntmps173 rfl (fun w J=>?_); refine P5 ?_
 refine Tr.for1 (σ:=Nat) [⟨0,true,_,_⟩,⟨1,true,_,_⟩,⟨2,true,_,_⟩] [] (fun k=>[⟨7,true,[],kI ((D7 (sl.take k)).1:Int)⟩,⟨8,true,[],kI (D7 (sl.take k)).2⟩,⟨9,true,[],kI (k:Int)⟩]) (fun k=>[]) (fun k=>k<=cl.length) (fun k=>k=cl.length) (fun k=>cl.length-k) (0) zi (d6.mk (.i rfl (by rfl)<|.i rfl (by rfl)<|.i rfl zi<|zk) (.nil) rfl) ?_ ?_
 ·intro k hR0
  refine jn ?_
  have hcq:=fun (h:k<cl.length)=>hc k h
  have hcs:=fun (h:k<cl.length)=>aD (l:=sl) (k:=k) zo
  have hsk:=fun (h:k<cl.length)=>hsn k h
  have hb2:=aC (sl.take k) (fun s hs=>hsb s (List.mem_of_mem_take hs))
  have hb1:-1<=r7 (v8 (val a) (val b) ((b6 cl k).map val)).1 0/\r7 (v8 (val a) (val b) ((b6 cl k).map val)).1 0<=1:=KE _
  have hb4:=hcle k
  have hb5:=htk k
  refine m8 ?_; refine jq ?_ ?_
  ·intro h3
   refine l6 ?_
   have hck:=hcq zo
   have hvb:=IY (p:=(b6 cl k).map val) (B:=4) (C:=1690) hck.2.dl hda hdb (k:=(b6 cl k).length) (by rw[List.length_map]; exact Nat.le_refl _)
   have hve:B0 (val a) (val b) ((b6 cl k).map val) (b6 cl k).length=v8 (val a) (val b) ((b6 cl k).map val):=by have:=LT (a:=val a) (d:=val b) (p:=(b6 cl k).map val); rw[List.length_map] at this; exact this
   rw[hve] at hvb
   refine l6 ?_; refine jc (UE (b6 cl k) a b 4 1690 hck.2 zo ha hb hda hdb zo zo) ?_; refine tO (i6 (fun hp=>BI (g7 (v8 (val a) (val b) ((b6 cl k).map val)).1) (v5 _) (by rw[r9]; omega)) (.a rfl uu<|.nil)) rfl rfl ?_
   rw[q8]
   refine m8 ?_; refine jq ?_ ?_
   ·intro h6
    refine u9 ?_; refine Tr.cnd rfl ?_ ?_
    ·intro h7
     have hyy:(D7 (sl.take k)).2≠0/\r7 (v8 (val a) (val b) ((b6 cl k).map val)).1 0≠(D7 (sl.take k)).2:=by simpa using h7
     have hy1:=hyy.1
     have hy2:=hyy.2
     refine P5 ?_
     exact g6.lp (k+1) zi zo (d6.mk (.i rfl (nY (hcs zo) (hsk zo) hb1 hb2 zo zo zo)<|.i rfl (aA (hcs zo) (hsk zo) h6)<|.i rfl zi<|zk) (.nil) rfl)
    ·intro h7
     have hno:¬(r7 (v8 (val a) (val b) ((b6 cl k).map val)).1 0≠0/\(D7 (sl.take k)).2≠0/\r7 (v8 (val a) (val b) ((b6 cl k).map val)).1 0≠(D7 (sl.take k)).2):=fun e=>by simp[e.2.1,e.2.2] at h7
     refine D2 ?_
     exact g6.lp (k+1) zi zo (d6.mk (.i rfl (ZZ (hcs zo) (hsk zo) hb1 hb2 hno)<|.i rfl (aA (hcs zo) (hsk zo) h6)<|.i rfl zi<|zk) (.nil) rfl)
   ·intro h6
    replace h6:=Classical.not_not.1 h6
    refine j3 ?_
    exact g6.lp (k+1) zi zo (d6.mk (.i rfl (ZZ (hcs zo) (hsk zo) hb1 hb2 (fun e=>absurd h6 e.1))<|.i rfl (nZ (hcs zo) (hsk zo) h6)<|.i rfl zi<|zk) (.nil) rfl)
  ·intro h3
   replace h3:=Int.not_lt.1 h3
   refine g8 ?_
   exact g6.cut (k) zo (d6.mk (.i rfl zi<|.i rfl zi<|.i rfl zi<|zk) (.nil) rfl)
 ·rintro k hkn
  refine je ?_
  have htl:sl.take k=sl:=List.take_of_length_le zo
  refine j3 ?_; exact d9.res1 (fn:=Tryz.f173) rfl (.i rfl (by rw[htl])<|.nil)

set_option maxHeartbeats 2000000 in
theorem rR (pl ql:List (List Int)) (A B:Nat) (hpl:E6 A pl) (hql:E6 B ql) (hq1:1<=ql.length) (hqp:ql.length<=pl.length) (h5:pl.length<=5) (hA2:A<=10000) (hB2:B<=10000):Ct Tryz.prog 172 [b7 (eL (eL eI)) pl,b7 (eL (eL eI)) ql] (b7 (eL (eL eI)) ((B8 (ql.map val) pl.length (pl.map val)).map g7)):=by
 have hmp:(pl.map val).length=pl.length:=List.length_map ..
 have hmq:(ql.map val).length=ql.length:=List.length_map ..
 have hqx:((ql.length:Int)-1).toNat=ql.length-1:=by omega
 refine Ct.mk Tryz.func172 rfl Tryz.ntmps172 rfl (fun w J=>?_); refine FL ?_; refine b8.new (Y5 (eL eI) 18) rfl rfl rfl rfl ?_; refine g9 ?_; refine jl ?_; refine i7 ?_; refine Tr.frz 18 [20,6] ⟨rfl,rfl,trivial⟩ (by simp only[p6]; omega) rfl ?_; refine jn ?_; refine Tr.for (σ:=List (List Int)) [⟨1,true,_,_⟩,⟨5,true,_,_⟩] [] (fun rs=>[⟨6,true,[],b7 (eL (eL eI)) rs⟩]) (fun rs=>[]) (fun rs=>rs.length<=pl.length/\B8 (ql.map val) rs.length (rs.map val)=B8 (ql.map val) pl.length (pl.map val)/\E6 (A+(pl.length-rs.length)*(2*B+1)) rs/\(rs=pl\/rs=(rs.map val).map g7)) (fun rs=>rs=(B8 (ql.map val) pl.length (pl.map val)).map g7) (fun rs=>rs.length) (pl) ⟨Nat.le_refl _,rfl,hpl.mono zo,.inl rfl⟩ (d6.mk (.r rfl (by rfl)<|zk) (.nil) rfl) ?_ ?_
 ·rintro rs ⟨hrl,hag,hro,hrp⟩
  refine jn ?_
  have hmr:(rs.map val).length=rs.length:=List.length_map ..
  have hmB:(pl.length-rs.length)*(2*B+1)<=5*20001:=Nat.mul_le_mul zo zo
  refine u5 ?_; refine jq ?_ ?_
  ·intro h3
   refine PZ ?_; refine Tr.grow (s:=8) rfl rfl 88 rfl 22 (eL eI) rfl ?_
   refine Tr.for1 (σ:=Nat) [⟨1,true,_,_⟩,⟨5,true,_,_⟩,⟨6,true,_,_⟩,⟨7,true,_,_⟩] [] (fun k=>[⟨8,true,[88],o5 88 k⟩,⟨9,true,[],kI (k:Int)⟩]) (fun k=>[⟨88,[],l3 true 22 (eL eI) (j4 k fun j=>g7 (b6 (F9 (ql.map val) (rs.map val)) j)) k⟩]) (fun k=>k<=rs.length) (fun k=>k=rs.length) (fun k=>rs.length-k) (0) zi (d6.mk (.o rfl zi rfl<|.i rfl zi<|zk) (.a (by rfl) zi<|.nil) rfl) ?_ ?_
   ·intro k hR1
    refine jn ?_
    have hrx:((rs.length:Int)-1).toNat=rs.length-1:=by omega
    have hro1:=hro k
    have hro2:=hro ((rs.length:Int)-1).toNat
    have hqo:=hql ((ql.length:Int)-1).toNat
    have hqk:=hql ((k:Int)-(rs.length:Int)+(ql.length:Int)).toNat
    have hm1:=s9 (val (b6 rs k)) (val (b6 ql ((ql.length:Int)-1).toNat))
    have hm2:=s9 (val (b6 rs k)*val (b6 ql ((ql.length:Int)-1).toNat)) (val (b6 ql ((ql.length:Int)-1).toNat))
    have hm3:=s9 (val (b6 rs ((rs.length:Int)-1).toNat)) (val (b6 ql ((ql.length:Int)-1).toNat))
    have hm4:=s9 (val (b6 rs ((rs.length:Int)-1).toNat)*val (b6 ql ((ql.length:Int)-1).toNat)) (val (b6 ql ((k:Int)-(rs.length:Int)+(ql.length:Int)).toNat))
    refine m8 ?_; refine jq ?_ ?_
    ·intro h7
     refine y7 ?_; refine jc (I8 (b6 rs k) (b6 ql ((ql.length:Int)-1).toNat) hro1.1 hqo.1 zo zo) ?_; refine i4 ?_; refine tO (i6 (fun hp=>I8 (g7 (val (b6 rs k)*val (b6 ql ((ql.length:Int)-1).toNat))) (b6 ql ((ql.length:Int)-1).toNat) (v5 _) hqo.1 (by rw[r9]; omega) zo) (.a rfl uu<|.a rfl uu<|.nil)) rfl rfl ?_
     rw[q8]
     refine fE ?_; refine jq ?_ ?_
     ·intro h11
      refine Tr.draw 9 n8 (by kernel_rfl) ?_; refine i7 ?_; refine jd (I8 (b6 rs ((rs.length:Int)-1).toNat) (b6 ql ((ql.length:Int)-1).toNat) hro2.1 hqo.1 zo zo) ?_; refine g8 ?_; refine rO (i6 (fun hp=>I8 (g7 (val (b6 rs ((rs.length:Int)-1).toNat)*val (b6 ql ((ql.length:Int)-1).toNat))) (b6 ql ((k:Int)-(rs.length:Int)+(ql.length:Int)).toNat) (v5 _) hqk.1 (by rw[r9]; omega) zo) (.a rfl uu<|.a rfl uu<|.nil)) rfl rfl ?_
      rw[q8]
      refine i4 ?_; refine tO (i6 (fun hp=>LG (g7 (val (b6 rs k)*val (b6 ql ((ql.length:Int)-1).toNat)*val (b6 ql ((ql.length:Int)-1).toNat))) (g7 (val (b6 rs ((rs.length:Int)-1).toNat)*val (b6 ql ((ql.length:Int)-1).toNat)*val (b6 ql ((k:Int)-(rs.length:Int)+(ql.length:Int)).toNat))) (v5 _) (v5 _) (by rw[r9]; omega) (by rw[r9]; omega)) (.a rfl uu<|.a rfl uu<|.nil)) rfl rfl ?_
      rw[q8,q8]
      refine l6 ?_; refine b8.new (w4 (eL eI) 67 (fun hp=>.cons rfl<|.nil) rfl rfl rfl rfl) rfl rfl rfl rfl ?_; refine i4 ?_; refine jl ?_; refine m8 ?_
      exact g6.lp (k+1) zi zo (d6.mk (.o rfl zi rfl<|.i rfl zi<|zk) (.a (zQ zo zo zo) zi<|.nil) rfl)
     ·intro h11
      replace h11:=Int.not_le.1 h11
      refine l8 ?_; refine b8.new (w4 (eL eI) 67 (fun hp=>.cons rfl<|.nil) rfl rfl rfl rfl) rfl rfl rfl rfl ?_; refine i4 ?_; refine jl ?_; refine m8 ?_
      exact g6.lp (k+1) zi zo (d6.mk (.o rfl zi rfl<|.i rfl zi<|zk) (.a (zR zo zo zo) zi<|.nil) rfl)
    ·intro h7
     replace h7:=Int.not_lt.1 h7
     refine g8 ?_
     exact g6.cut (k) zo (d6.mk (.o rfl zi rfl<|.i rfl zi<|zk) (zk) rfl)
   ·rintro k hkr
    refine je ?_
    rw[hkr]
    refine i7 ?_; refine b8.frz 88 [8,69] ⟨rfl,rfl,trivial⟩ (by simp only[p6]; omega) rfl ?_; refine jl ?_; refine jc (rS (j4 rs.length fun j=>g7 (b6 (F9 (ql.map val) (rs.map val)) j)) 200000 (by rw[lB (xs:=F9 (ql.map val) (rs.map val)) (by rw[GI]; omega)]; exact QG (fun i=>Nat.le_trans (NW hro.dl hql.dl i) zo)) zo (by rw[p8]; omega)) ?_; refine i7 ?_; exact g6.lp ((F8 (ql.map val) (rs.map val)).map g7) (zS zo zo zo hag hro hql) (by have:=EY (q:=(ql.map val)) (r:=(rs.map val)) zo zo; show ((F8 (ql.map val) (rs.map val)).map g7).length<rs.length; rw[List.length_map]; omega) (d6.mk (.r rfl (by rw[lB (xs:=F9 (ql.map val) (rs.map val)) (by rw[GI]; omega)]; exact af6)<|zk) (.nil) rfl)
  ·intro h3
   replace h3:=Int.not_le.1 h3
   refine g8 ?_
   exact g6.cut (rs) (by rw[<- hag]; have h1:=ZI (q:=(ql.map val)) (r:=(rs.map val)) zo; rw[hmr] at h1; rw[h1]; exact hrp.resolve_left (fun e=>by rw[e] at h3; omega)) (d6.mk (.r rfl zi<|zk) (.nil) rfl)
 ·rintro rs hre
  refine jn ?_; refine j6 ?_; exact d9.res1 (fn:=Tryz.f172) rfl (.r rfl (by rw[hre])<|.nil)

end Go.Fl

/- Contracts: fields of the reference. -/
namespace Go.Fl
open Go Go.Proofs
open b8 renaming op->tO
open j1 renaming op->rO
set_option maxRecDepth 100000

abbrev CQ:=u8×Unit
def H5:i8 CQ:=eC (fun v:CQ=>(v.1,())) (eP z7 eU)
instance {v:CQ}:E5 (b7 H5 v) [b7 (eL eI) (v.1.1),kI (v.1.2.1),kI (v.1.2.2.1),kI (v.1.2.2.2)]:=inferInstanceAs (E5 (b7 (eC (fun v:CQ=>(v.1,())) (eP z7 eU)) v) _)
instance {v:CQ}:P0 H5 v (b7 H5 v):=⟨fun h=>h⟩
instance {v:CQ}:v7 H5 v 0 z7 (v.1) 0:=inferInstanceAs (v7 (eC (fun v:CQ=>(v.1,())) (eP z7 eU)) v 0 _ _ _)
instance {ks r:List d5} {f:u8} [h:t9 ks (eP z7 eU) (f,()) r]:t9 ks H5 ((f,())) r:=⟨fun h'=>h.imp h'⟩
def G9 (p:List Int):List (List (List Int)):=(p.map fun c=>[c])::((C6 p).map fun c=>[c])::((F4 5 p (C6 p)).map fun (q:List Int)=>q.map g7)
theorem RQ {p:List Int}:(G9 p).length=(v9 p).length:=by unfold G9 v9; simp
theorem RJ {xs:List Int}:((xs.map fun c=>[c]).map val)=xs:=by
 rw[List.map_map]
 conv=>rhs; rw[<- List.map_id xs]
 exact List.map_congr_left fun c _=>I4
theorem HK {p:List Int} {j:Nat} (hj:j<(v9 p).length):(b6 (G9 p) j).map val=b6 (v9 p) j:=by
 match j,hj with
 | 0,_=>exact RJ
 | 1,_=>exact RJ
 | j+2,hj =>
  have hl:j<(F4 5 p (C6 p)).length:=by unfold v9 at hj; simpa using hj
  show (b6 ((F4 5 p (C6 p)).map fun (q:List Int)=>q.map g7) j).map val=b6 (F4 5 p (C6 p)) j
  have e:b6 ((F4 5 p (C6 p)).map fun (q:List Int)=>q.map g7) j=(b6 (F4 5 p (C6 p)) j).map g7:=by simp[b6,hl]
  rw[e,WA]
theorem iY {p:List Int} {j:Nat} (h2:2<=j) (hj:j<(v9 p).length):b6 (G9 p) j=(b6 (v9 p) j).map g7:=by
 match j,h2,hj with
 | j+2,_,hj =>
  have hl:j<(F4 5 p (C6 p)).length:=by unfold v9 at hj; simpa using hj
  show b6 ((F4 5 p (C6 p)).map fun (q:List Int)=>q.map g7) j=(b6 (F4 5 p (C6 p)) j).map g7
  simp[b6,hl]
theorem WZ {xs:List Int} {B:Nat} (hx:∀i,(b6 xs i).natAbs<=5000) (hB:1<=B):E6 B (xs.map fun c=>[c]):=fun i=>by
 by_cases hi:i<xs.length
 ·have e:b6 (xs.map fun c=>[c]) i=[b6 xs i]:=by simp[b6,hi]
  rw[e,I4]
  have:=hx i
  exact ⟨U8 zo,hB,Nat.le_trans (O3 (k:=1) (by simp[BP]; omega)) hB⟩
 ·rw[v6 (by rw[List.length_map]; omega)]
  exact ⟨BQ,Nat.zero_le _,by show dl (val [])<=_; rw[KH,C5.2 rfl]; omega⟩
section
variable {p:List Int} (h3:3<=p.length) (h5:p.length<=5) (h1:b6 p (p.length-1)=1) (hs:∀i,(b6 p i).natAbs<=1000)
include h3 h5 h1 hs
theorem tE (i:Nat):(b6 (C6 p) i).natAbs<=5000:=by
 by_cases hi:i<p.length-1
 ·rw[PD hi]; have:=h3; have:=h1; exact L9 (m:=1000) (n:=5) (hs _) zo
 ·rw[v6 (by rw[Q9]; omega)]; show (0:Int).natAbs<=_; omega
theorem zB {j:Nat} (hj:j<(v9 p).length):(b6 (G9 p) j).length+j<=p.length/\E6 1681 (b6 (G9 p) j):=by
 have hl:=congrArg List.length (HK hj)
 rw[List.length_map] at hl
 obtain ⟨q1,q2,q3⟩:=CS h3 h5 h1 hs hj
 refine ⟨by omega,?_⟩
 match j,hj with
 | 0,_=>exact WZ (fun i=>Nat.le_trans (hs i) zo) zo
 | 1,_=>exact WZ (tE h3 h5 h1 hs) zo
 | j+2,hj=>rw[iY zo hj]; exact QG q3
theorem zA {m:Nat} (h2:2<=m) (hm:m<=(v9 p).length):1<=(b6 (G9 p) (m-1)).length/\(b6 (G9 p) (m-1)).length<=(b6 (G9 p) (m-2)).length:=by
 have e1:=congrArg List.length (HK (p:=p) (j:=m-1) zo)
 have e2:=congrArg List.length (HK (p:=p) (j:=m-2) zo)
 rw[List.length_map] at e1 e2
 have n1:=List.length_pos_iff.2 (OG h3 h5 h1 (m:=m-1) zo)
 refine ⟨by omega,?_⟩
 rw[e1,e2]
 by_cases h:m=2
 ·subst h
  show (C6 p).length<=p.length
  rw[Q9]; omega
 ·obtain ⟨hq,_⟩:=II h3 h5 h1 (m:=m-1) zo zo
  rw[if_pos zo] at hq
  rw[<- hq,show m-1-1=m-2 by omega]
  obtain ⟨a1,a2,a3⟩:=CS h3 h5 h1 hs (j:=m-1-2) zo
  obtain ⟨b1,b2,b3⟩:=CS h3 h5 h1 hs (j:=m-2) zo
  have n2:=List.length_pos_iff.2 (OG h3 h5 h1 (m:=m-2) zo)
  have:=(KW n2 a1 a3 b3 zo).2.1
  omega
end
theorem iZ {p:List Int} {a b:List Int}:((G9 p).map fun (q:List (List Int))=>s8 (v8 (val a) (val b) (q.map val)).1)=K8 p (val a) (val b):=by
 unfold K8
 refine D1 (by rw[List.length_map,List.length_map,RQ]) fun i hi=>?_
 rw[List.length_map,RQ] at hi
 have e1:b6 ((G9 p).map fun (q:List (List Int))=>s8 (v8 (val a) (val b) (q.map val)).1) i=s8 (v8 (val a) (val b) ((b6 (G9 p) i).map val)).1:=by simp[b6,RQ,hi]
 have e2:b6 ((v9 p).map fun q=>s8 (v8 (val a) (val b) q).1) i=s8 (v8 (val a) (val b) (b6 (v9 p) i)).1:=by simp[b6,hi]
 rw[e1,e2,HK hi]
theorem wN {a b:List Int} {RL:List (List Int)} (h:RL=(B8 b a.length a).map g7):(j4 RL.length fun j=>g7 (-val (b6 RL j)))=(against a b).map g7:=by
 subst h
 unfold against
 rw[List.length_map]
 refine D1 (by rw[p8,List.length_map,List.length_map]) fun i hi=>?_
 rw[p8] at hi
 rw[q9 hi]
 have e1:b6 ((B8 b a.length a).map g7) i=g7 (b6 (B8 b a.length a) i):=by simp[b6,hi]
 have e2:b6 (((B8 b a.length a).map fun z=>-z).map g7) i=g7 (-b6 (B8 b a.length a) i):=by simp[b6,hi]
 rw[e1,e2,q8]
def FV (f:u8):Int:=if f.1.length=2 then (if f.2.1<=-b6 f.1 0*f.2.2.2/\-b6 f.1 0*f.2.2.2<=f.2.2.1 then 1 else 0) else ((D7 (K8 f.1 f.2.1 f.2.2.2)).1:Int)-(D7 (K8 f.1 f.2.2.1 f.2.2.2)).1
theorem jS {f:u8}:FV f=1↔Y7 f=true:=by
 unfold FV Y7
 split
 ·rw[decide_eq_true_eq]; split<;>simp_all
 ·rw[decide_eq_true_eq]
theorem YH {xs:List Int} {k:Nat} (hk:k<xs.length):(xs.map fun c=>[c]).take k++[[b6 xs k]]=(xs.map fun c=>[c]).take (k+1):=by
 rw[<- List.map_take,<- List.map_take,V5 hk,List.map_append]; rfl
theorem tF {p:List Int} {k:Nat} (h1:1<=k) (hk:k<p.length):((C6 p).map fun c=>[c]).take (k-1)++[[(k:Int)*b6 p k]]=((C6 p).map fun c=>[c]).take k:=by
 rw[<- List.map_take,<- List.map_take,<- dG h1 hk,List.map_append,Int.mul_comm]; rfl
set_option maxHeartbeats 2000000 in
theorem rI (f:u8) (h2':2<=f.1.length) (h5':f.1.length<=5) (h1':b6 f.1 (f.1.length-1)=1) (hs:∀i,(b6 f.1 i).natAbs<=1000) (hd:1<=f.2.2.2/\f.2.2.2<=1000000) (hlo:-1000000<=f.2.1/\f.2.1<=1000000) (hhi:-1000000<=f.2.2.1/\f.2.2.1<=1000000):Ct Tryz.prog 127 [b7 z7 f] (kI (FV f)):=by
 have hm0:(-b6 f.1 0*f.2.2.2).natAbs<=1000*1000000:=L9 (by rw[Int.natAbs_neg]; exact hs 0) zo
 have hs0:=hs 0
 refine Ct.mk Tryz.func127 rfl Tryz.ntmps127 rfl (fun w J=>?_); refine g9 ?_; refine jb 1 rfl ?_; refine l8 ?_; refine Tr.frzB 1 [1] z7 (x:=f) ⟨rfl,trivial⟩ rfl ?_; refine jn ?_; refine j6 ?_; refine jq ?_ ?_
 ·intro h1
  have hl2:f.1.length=2:=by omega
  refine g9 ?_; refine Tr.draw 22 n8 (by kernel_rfl) ?_; refine g9 ?_; refine rO (F2 (i:=0) rfl uu rfl uu rfl (fun _=>zo)) rfl rfl ?_; refine i4 ?_; refine rO (EF rfl uu (fun _=>zo)) rfl rfl ?_; refine m8 ?_; refine j1.gd rfl rfl rfl (F2 (i:=0) rfl id rfl uu rfl (fun _=>zo)) rfl rfl ?_; refine i4 ?_; refine j1.gd rfl rfl rfl (EF rfl id (fun hp=>by simp at hp; omega)) rfl rfl ?_; refine g9 ?_; refine j1.gd rfl rfl rfl (EE rfl id rfl id (fun hp=>by simp at hp; omega)) rfl rfl ?_; refine j6 ?_; refine Tr.cnd rfl ?_ ?_
  ·intro h2
   have hr:FV f=1:=by unfold FV; rw[if_pos hl2,if_pos (by simpa using h2)]
   refine j3 ?_; exact d9.res1 (fn:=Tryz.f127) rfl (.i rfl (by rw[hr])<|.nil)
  ·intro h2
   have hr:FV f=0:=by unfold FV; rw[if_pos hl2,if_neg (fun e=>by simp[e.1,e.2] at h2)]
   refine m8 ?_; exact d9.res1 (fn:=Tryz.f127) rfl (.i rfl (by rw[hr])<|.nil)
 ·intro h1
  have h3':3<=f.1.length:=by omega
  have hL5:=ZX h3' h5' h1' hs
  have hL2:2<=(v9 f.1).length:=by unfold v9; simp
  have hel:=fun (j:Nat) (hj:j<(v9 f.1).length)=>zB h3' h5' h1' hs hj
  have hrl:=RQ (p:=f.1)
  have hdl:=Q9 (p:=f.1)
  have hcl:∀a:Int,(D7 (K8 f.1 a f.2.2.2)).1<=5:=fun a=>by have:=OH (l:=K8 f.1 a f.2.2.2); unfold K8 at this ⊢; rw[List.length_map] at this; omega
  have hc1:=hcl f.2.1
  have hc2:=hcl f.2.2.1
  have hov:dl f.2.1<=1:=O3 (by simp[BP]; omega)
  have hov2:dl f.2.2.1<=1:=O3 (by simp[BP]; omega)
  have hov3:dl f.2.2.2<=1:=O3 (by simp[BP]; omega)
  refine C7 ?_; refine Tr.grow (s:=3) rfl rfl 33 rfl 22 (eL eI) rfl ?_; refine Tr.grow (s:=4) rfl rfl 44 rfl 22 (eL eI) rfl ?_
  refine Tr.for1 (σ:=Nat) [⟨1,true,_,_⟩] [] (fun k=>[⟨3,true,[33],o5 33 k⟩,⟨4,true,[44],o5 44 (k-1)⟩,⟨5,true,[],kI (k:Int)⟩]) (fun k=>[⟨33,[],l3 true 22 (eL eI) ((f.1.map fun c=>[c]).take k) k⟩,⟨44,[],l3 true 22 (eL eI) (((C6 f.1).map fun c=>[c]).take (k-1)) (k-1)⟩]) (fun k=>k<=f.1.length) (fun k=>k=f.1.length) (fun k=>f.1.length-k) (0) zi (d6.mk (.o rfl zi rfl<|.o rfl zi rfl<|.i rfl zi<|zk) (.a (by rfl) zi<|.a (by rfl) zi<|.nil) rfl) ?_ ?_
  ·intro k hR0
   refine jn ?_
   have hsk:=hs k
   have hkm:((k:Int)*b6 f.1 k).natAbs<=6*1000:=L9 zo hsk
   refine u5 ?_; refine jq ?_ ?_
   ·intro h7
    refine u9 ?_; refine tO (M3 eI (fun hp=>.cons rfl<|.nil) rfl rfl rfl rfl) rfl rfl ?_; refine b8.new (w4 (eL eI) 52 (fun hp=>.cons rfl<|.nil) rfl rfl rfl rfl) rfl rfl rfl rfl ?_; refine i4 ?_; refine jl ?_; refine m8 ?_; refine jq ?_ ?_
    ·intro h10
     refine m8 ?_; refine tO (M3 eI (fun hp=>.cons rfl<|.nil) rfl rfl rfl rfl) rfl rfl ?_; refine b8.new (w4 (eL eI) 65 (fun hp=>.cons rfl<|.nil) rfl rfl rfl rfl) rfl rfl rfl rfl ?_; refine i4 ?_; refine jl ?_; refine m8 ?_
     exact g6.lp (k+1) zi zo (d6.mk (.o rfl zi rfl<|.o rfl (by simp only[List.length_cons,List.length_nil]; omega) rfl<|.i rfl zi<|zk) (.a (YH zo) zi<|.a (by rw[tF zo zo,Nat.add_sub_cancel]) (by simp only[List.length_cons,List.length_nil]; omega)<|.nil) rfl)
    ·intro h10
     replace h10:=Int.not_lt.1 h10
     refine j3 ?_
     exact g6.lp (k+1) zi zo (d6.mk (.o rfl zi rfl<|.o rfl zo rfl<|.i rfl zi<|zk) (.a (YH zo) zi<|.a (by rw[show k=0 by omega]) zo<|.nil) rfl)
   ·intro h7
    replace h7:=Int.not_lt.1 h7
    refine g8 ?_
    exact g6.cut (k) zo (d6.mk (.o rfl zi rfl<|.o rfl zi rfl<|.i rfl zi<|zk) (zk) rfl)
  ·rintro k hkn
   refine je ?_
   have htk1:(f.1.map fun c=>[c]).take k=f.1.map fun c=>[c]:=List.take_of_length_le (by rw[List.length_map]; omega)
   have htk2:((C6 f.1).map fun c=>[c]).take (k-1)=(C6 f.1).map fun c=>[c]:=List.take_of_length_le (by rw[List.length_map,Q9]; omega)
   rw[htk1,htk2]
   refine g9 ?_; refine Tr.frz 33 [3] ⟨rfl,trivial⟩ (by simp only[p6]; omega) rfl ?_; refine Tr.frz 44 [4] ⟨rfl,trivial⟩ (by simp only[p6]; omega) rfl ?_; refine jn ?_; refine i7 ?_; refine b8.new (w4 (eL (eL eI)) 69 (fun hp=>.cons rfl<|.cons rfl<|.nil) rfl rfl rfl rfl) rfl rfl rfl rfl ?_; refine i7 ?_
   refine Tr.for (σ:=Nat) [⟨1,true,_,_⟩] [] (fun m=>[⟨6,true,[69],o5 69 m⟩]) (fun m=>[⟨69,[],l3 false 173 (eL (eL eI)) ((G9 f.1).take m) m⟩]) (fun m=>2<=m/\m<=(v9 f.1).length) (fun m=>m=(v9 f.1).length) (fun m=>(v9 f.1).length-m) (2) ⟨Nat.le_refl _,hL2⟩ (d6.mk (.o rfl zi rfl<|zk) (.a (by rfl) zi<|.nil) rfl) ?_ ?_
   ·intro m hR1
    refine jn ?_
    have hX:b6 ((G9 f.1).take m) ((m:Int)-2).toNat=b6 (G9 f.1) (m-2):=by rw[show ((m:Int)-2).toNat=m-2 by omega]; exact HD zo
    have hY:b6 ((G9 f.1).take m) ((m:Int)-1).toNat=b6 (G9 f.1) (m-1):=by rw[show ((m:Int)-1).toNat=m-1 by omega]; exact HD zo
    have hdec:=zA h3' h5' h1' hs hR1.1 hR1.2
    have hvl:(b6 (G9 f.1) (m-2)).length=(b6 (v9 f.1) (m-2)).length:=by have:=congrArg List.length (HK (p:=f.1) (j:=m-2) zo); rwa [List.length_map] at this
    have hrv1:=HK (p:=f.1) (j:=m-1) zo
    have hrv2:=HK (p:=f.1) (j:=m-2) zo
    have e1:=hel (m-2) zo
    have e2:=hel (m-1) zo
    refine g9 ?_; refine Tr.draw 12 n8 (by kernel_rfl) ?_; refine g9 ?_; refine rO (S8 rfl uu) rfl rfl ?_; refine i7 ?_
    rw[hX]
    refine g9 ?_; refine rO (S8 rfl uu) rfl rfl ?_; refine i7 ?_
    rw[hY]
    refine i4 ?_; refine jc (rR (b6 (G9 f.1) (m-2)) (b6 (G9 f.1) (m-1)) 1681 1681 e1.2 e2.2 hdec.1 hdec.2 zo zo zo) ?_; refine y7 ?_; refine jq ?_ ?_
    ·intro h14
     rw[hrv1,hrv2,hvl] at h14
     have A3:m=(v9 f.1).length:=Classical.byContradiction fun e=>by have hq:=II h3' h5' h1' hR1.1 hR1.2; rw[if_pos zo] at hq; have:=List.length_pos_iff.2 (hq.2 zo); rw[<- hq.1] at this; unfold against at this; rw[List.length_map] at this; rw[List.length_map] at h14; omega
     refine l8 ?_
     exact g6.cut (m) A3 (d6.mk (.o rfl zi rfl<|zk) (zk) rfl)
    ·intro h14
     have hq:=II h3' h5' h1' hR1.1 hR1.2
     rw[hrv1,hrv2,hvl] at h14
     have A3:m<(v9 f.1).length:=Classical.byContradiction fun e=>by rw[if_neg e] at hq; have hq2:=congrArg List.length hq.1; unfold against at hq2; rw[List.length_map,List.length_nil] at hq2; rw[List.length_map] at h14; omega
     rw[if_pos A3] at hq
     obtain ⟨RL,hRL⟩:∃RL,RL=(B8 ((b6 (G9 f.1) (m-1)).map val) (b6 (G9 f.1) (m-2)).length ((b6 (G9 f.1) (m-2)).map val)).map g7:=⟨_,rfl⟩
     rw[<- hRL]
     have hag2:=KW (A:=1681) (B:=1681) (by have:=hdec.1; have:=congrArg List.length hrv1; rw[List.length_map] at this; omega) (CS h3' h5' h1' hs (j:=m-2) zo).1 (CS h3' h5' h1' hs (j:=m-2) zo).2.2 (CS h3' h5' h1' hs (j:=m-1) zo).2.2 (by have:=(CS h3' h5' h1' hs (j:=m-2) zo).2.1; omega)
     rw[hrv1,hrv2,hvl] at hRL
     have hRo:E6 18500 RL:=by rw[hRL]; refine QG fun i=>?_; have:=hag2.2.2 i; unfold against at this; rw[JL,K4] at this; omega
     have hRn:(j4 RL.length fun j=>g7 (-val (b6 RL j)))=b6 (G9 f.1) m:=by rw[iY zo A3,<- hq.1]; exact wN hRL
     have hRl5:RL.length<=5:=by rw[hRL,List.length_map]; have:=hag2.2.1; unfold against at this; rw[List.length_map] at this; have:=(CS h3' h5' h1' hs (j:=m-1) zo).2.1; omega
     refine D2 ?_; refine Tr.grow (s:=8) rfl rfl 88 rfl 22 (eL eI) rfl ?_
     refine Tr.for1 (σ:=Nat) [⟨1,true,_,_⟩,⟨6,true,_,_⟩,⟨7,true,_,_⟩] [⟨69,_,_⟩] (fun k=>[⟨8,true,[88],o5 88 k⟩,⟨9,true,[],kI (k:Int)⟩]) (fun k=>[⟨88,[],l3 true 22 (eL eI) (j4 k fun j=>g7 (-val (b6 RL j))) k⟩]) (fun k=>k<=RL.length) (fun k=>k=RL.length) (fun k=>RL.length-k) (0) zi (d6.mk (.o rfl zi rfl<|.i rfl zi<|zk) (.a (by rfl) zi<|zk) rfl) ?_ ?_
     ·intro k hR2
      refine jn ?_
      have hRk:=hRo k
      refine m8 ?_; refine jq ?_ ?_
      ·intro h17
       refine u5 ?_; refine jc (FE (b6 RL k) hRk.1 (by have:=hRk.2.1; omega)) ?_; refine b8.new (w4 (eL eI) 98 (fun hp=>.cons rfl<|.nil) rfl rfl rfl rfl) rfl rfl rfl rfl ?_; refine i4 ?_; refine jl ?_; refine m8 ?_
       exact g6.lp (k+1) zi zo (d6.mk (.o rfl zi rfl<|.i rfl zi<|zk) (.a F0.symm zi<|zk) rfl)
      ·intro h17
       replace h17:=Int.not_lt.1 h17
       refine g8 ?_
       exact g6.cut (k) zo (d6.mk (.o rfl zi rfl<|.i rfl zi<|zk) (zk) rfl)
     ·rintro k hkR
      refine je ?_
      rw[hkR]
      refine i4 ?_; refine Tr.frz 88 [8] ⟨rfl,trivial⟩ (by simp only[p6]; omega) rfl ?_; refine jn ?_; refine i7 ?_; refine b8.new (w4 (eL (eL eI)) 102 (fun hp=>.cons rfl<|.nil) rfl rfl rfl rfl) rfl rfl rfl rfl ?_; refine i4 ?_; refine jl ?_; refine i7 ?_
      exact g6.lp (m+1) zi zo (d6.mk (.o rfl zi rfl<|zk) (.a (by rw[hRn,V5 zo]) zi<|.nil) rfl)
   ·rintro m A3
    refine jn ?_
    have htk:(G9 f.1).take m=G9 f.1:=List.take_of_length_le zo
    rw[htk]
    refine i4 ?_; refine Tr.frz 69 [6] ⟨rfl,trivial⟩ (by simp only[p6]; omega) rfl ?_; refine jn ?_; refine Tr.draw 15 n8 (by kernel_rfl) ?_; refine i7 ?_; refine rO (M3 eI (fun hp=>.cons rfl<|.nil) rfl rfl rfl rfl) rfl rfl ?_; refine g9 ?_; refine rO (M3 eI (fun hp=>.cons rfl<|.nil) rfl rfl rfl rfl) rfl rfl ?_; refine jd (cD (G9 f.1) [f.2.1] [f.2.2.2] zo (fun j hj=>⟨by have:=(hel j zo).1; omega,(hel j zo).2.mono zo⟩) ⟨U8 zo,by show 1<=4; omega⟩ ⟨U8 zo,by show 1<=4; omega⟩ (by rw[I4]; omega) (by rw[I4]; omega)) ?_
    rw[iZ,I4,I4]
    refine i7 ?_; refine rO (M3 eI (fun hp=>.cons rfl<|.nil) rfl rfl rfl rfl) rfl rfl ?_; refine g9 ?_; refine rO (M3 eI (fun hp=>.cons rfl<|.nil) rfl rfl rfl rfl) rfl rfl ?_; refine i4 ?_; refine jc (cD (G9 f.1) [f.2.2.1] [f.2.2.2] zo (fun j hj=>⟨by have:=(hel j zo).1; omega,(hel j zo).2.mono zo⟩) ⟨U8 zo,by show 1<=4; omega⟩ ⟨U8 zo,by show 1<=4; omega⟩ (by rw[I4]; omega) (by rw[I4]; omega)) ?_
    rw[iZ,I4,I4]
    refine l8 ?_; exact d9.res1 (fn:=Tryz.f127) rfl (.i rfl (by unfold FV; rw[if_neg zo])<|.nil)

end Go.Fl

/- Contracts: fields of the reference: errors, opening. -/
namespace Go.Fl
open Go Go.Proofs
open b8 renaming op->tO
open j1 renaming op->rO
set_option maxRecDepth 100000

theorem nL {p:List Int} {k:Nat} (hk:k<p.length) (h:¬(-1000<=b6 p k/\b6 p k<=1000)):p.any BZ=true:=by
 refine List.any_eq_true.2 ⟨b6 p k,G1 hk,?_⟩
 unfold BZ
 rw[decide_eq_false h]; rfl
theorem xA {p:List Int} (h:∀i,i<p.length->-1000<=b6 p i/\b6 p i<=1000):p.any BZ≠true:=fun e=>by
 obtain ⟨x,hx,h2⟩:=List.any_eq_true.1 e
 obtain ⟨i,hi,rfl⟩:=List.mem_iff_getElem.1 hx
 have:=h i hi
 have e1:b6 p i=p[i]:=by simp[b6,hi]
 rw[e1] at this
 unfold BZ at h2
 rw[decide_eq_true this] at h2
 cases h2
theorem OX (n a b:Int):Ct Tryz.prog 125 [kI n,kI a,kI b] (kB (decide (a<=n/\n<=b))):=by
 refine Ct.mk Tryz.func125 rfl Tryz.ntmps125 rfl (fun w J=>?_); refine IZ ?_; exact d9.res1 (fn:=Tryz.f125) rfl (.b rfl (by symm; exact Bool.decide_and _ _)<|.nil)

theorem bR (f:u8):Ct Tryz.prog 74 [b7 z7 f] (kI (z6 f)):=by
 refine Ct.mk Tryz.func74 rfl Tryz.ntmps74 rfl (fun w J=>?_); refine g9 ?_; refine jb 1 rfl ?_; refine g8 ?_; refine Tr.frzB 1 [1] z7 (x:=f) ⟨rfl,trivial⟩ rfl ?_; refine jn ?_; refine FL ?_; refine Tr.cnd rfl ?_ ?_
 ·intro h2
  have hc1:¬(2<=f.1.length/\f.1.length<=5):=by simp at h2; omega
  have he:z6 f=10:=if_pos hc1
  refine j6 ?_; exact d9.res1 (fn:=Tryz.f74) rfl (.i rfl (by rw[he])<|.nil)
 ·intro h2
  have hc1:2<=f.1.length/\f.1.length<=5:=by simp at h2; omega
  have he1:=(if_neg (fun e=>e hc1):z6 f=_)
  refine j3 ?_
  refine Tr.for1 (σ:=Nat) [⟨1,true,_,_⟩,⟨3,true,_,_⟩] [] (fun k=>[⟨4,true,[],kI (k:Int)⟩]) (fun k=>[]) (fun k=>k<=f.1.length/\∀i,i<k->-1000<=b6 f.1 i/\b6 f.1 i<=1000) (fun k=>∀i,i<f.1.length->-1000<=b6 f.1 i/\b6 f.1 i<=1000) (fun k=>f.1.length-k) (0) ⟨by omega,fun i h=>absurd h (Nat.not_lt_zero _)⟩ (d6.mk (.i rfl zi<|zk) (.nil) rfl) ?_ ?_
  ·rintro k ⟨hk,hR⟩
   refine jn ?_; refine j3 ?_; refine jq ?_ ?_
   ·intro h5
    refine y7 ?_; refine tO (i6 (fun hp=>OX _ _ _) (.a rfl uu<|.a rfl uu<|.a rfl uu<|.nil)) rfl rfl ?_; refine i7 ?_; refine Tr.cnd rfl ?_ ?_
    ·intro h7
     have he:z6 f=2:=he1.trans (if_pos (nL (k:=k) zo (by simp at h7; omega)))
     refine u9 ?_; exact d9.res1 (fn:=Tryz.f74) rfl (.i rfl (by rw[he])<|.nil)
    ·intro h7
     have hok:-1000<=b6 f.1 k/\b6 f.1 k<=1000:=by simp at h7; omega
     refine j3 ?_
     exact g6.lp (k+1) ⟨by omega,fun i hi=>by by_cases e:i=k; (rw[e]; exact hok); exact hR i zo⟩ zo (d6.mk (.i rfl zi<|zk) (.nil) rfl)
   ·intro h5
    replace h5:=Int.not_lt.1 h5
    refine g8 ?_
    exact g6.cut (k) (fun i hi=>hR i zo) (d6.mk (.i rfl zi<|zk) (.nil) rfl)
  ·intro k hE
   refine je ?_
   have hc2:=xA hE
   have hs:=XB hc2
   have he2:=he1.trans (if_neg hc2)
   refine l6 ?_; refine tO (i6 (fun hp=>OX _ _ _) (.a rfl uu<|.a rfl uu<|.a rfl uu<|.nil)) rfl rfl ?_; refine g8 ?_; refine b8.gd rfl rfl rfl (i6 (fun hp=>OX _ _ _) (.a rfl id<|.a rfl uu<|.a rfl uu<|.nil)) rfl rfl ?_; refine l8 ?_; refine b8.gd rfl rfl rfl (i6 (fun hp=>OX _ _ _) (.a rfl id<|.a rfl uu<|.a rfl uu<|.nil)) rfl rfl ?_; refine g8 ?_; refine Tr.cnd rfl ?_ ?_
   ·intro h9
    have hc3:¬((1<=f.2.2.2/\f.2.2.2<=1000000)/\(-1000000<=f.2.1/\f.2.1<=1000000)/\(-1000000<=f.2.2.1/\f.2.2.1<=1000000)):=fun ⟨q1,q2,q3⟩=>by simp[q1,q2,q3] at h9
    have he:z6 f=2:=he2.trans (if_pos hc3)
    refine j6 ?_; exact d9.res1 (fn:=Tryz.f74) rfl (.i rfl (by rw[he])<|.nil)
   ·intro h9
    have hc3:(1<=f.2.2.2/\f.2.2.2<=1000000)/\(-1000000<=f.2.1/\f.2.1<=1000000)/\(-1000000<=f.2.2.1/\f.2.2.1<=1000000):=by simp at h9; omega
    have he3:=he2.trans (if_neg (fun e=>e hc3))
    refine l8 ?_
    have hix:((f.1.length:Int)-1).toNat=f.1.length-1:=by omega
    refine u5 ?_; refine b8.gd rfl rfl rfl (i6 (fun hp=>rH f.1 hc1.1 hc1.2 hs) (.a rfl id<|.nil)) rfl rfl ?_; refine i7 ?_; refine Tr.cnd rfl ?_ ?_
    ·intro h11
     have hc4:b6 f.1 (f.1.length-1)≠1\/X2 f.1=true:=by simp[hix] at h11; simpa using h11
     have he:z6 f=3:=he3.trans (if_pos hc4)
     refine j6 ?_; exact d9.res1 (fn:=Tryz.f74) rfl (.i rfl (by rw[he])<|.nil)
    ·intro h11
     have hc4:b6 f.1 (f.1.length-1)=1/\X2 f.1=false:=by simp[hix] at h11; simpa using h11
     have he4:=he3.trans (if_neg (fun e=>e.elim (fun e=>e hc4.1) (fun e=>by rw[hc4.2] at e; cases e)))
     refine u9 ?_; refine jq ?_ ?_
     ·intro h13
      have he:z6 f=9:=he4.trans (if_pos h13)
      refine j6 ?_; exact d9.res1 (fn:=Tryz.f74) rfl (.i rfl (by rw[he])<|.nil)
     ·intro h13
      replace h13:=Int.not_lt.1 h13
      have he5:=he4.trans (if_neg (show ¬f.2.1>f.2.2.1 by omega))
      refine l6 ?_; refine jc (rI f hc1.1 hc1.2 hc4.1 hs hc3.1 hc3.2.1 hc3.2.2) ?_; refine i7 ?_; refine jq ?_ ?_
      ·intro h15
       have hc6:Y7 f=false:=Bool.eq_false_iff.2 (fun e=>h15 (jS.2 e))
       have he:z6 f=11:=he5.trans (if_pos hc6)
       refine j6 ?_; exact d9.res1 (fn:=Tryz.f74) rfl (.i rfl (by rw[he])<|.nil)
      ·intro h15
       replace h15:=Classical.not_not.1 h15
       have hc6:Y7 f=true:=jS.1 h15
       have he:z6 f=0:=he5.trans (if_neg (by rw[hc6]; decide))
       refine j3 ?_; exact d9.res1 (fn:=Tryz.f74) rfl (.i rfl (by rw[he])<|.nil)

theorem bW (f:u8) (h0:z6 f=0):Ct Tryz.prog 24 [b7 z7 f] (z9 [b7 H5 (f,()),kI 0]):=by
 obtain ⟨⟨c1,_⟩,_⟩:=X5 h0
 refine Ct.mk Tryz.func24 rfl Tryz.ntmps24 rfl (fun w J=>?_); refine g9 ?_; refine jb 1 rfl ?_; refine ja 2 ?_; refine j6 ?_; refine jc (bR f) ?_; refine m8 ?_; refine Tr.cnd rfl ?_ ?_
 ·intro h2
  exact absurd h0 (of_decide_eq_true h2)
 ·intro h2
  refine g8 ?_; refine b8.new (Y5 eI 11) rfl rfl rfl rfl ?_; refine i7 ?_; refine jl ?_; refine j6 ?_; refine tO (A1 (fun hp=>.cons rfl rfl rfl<|.nil)) rfl rfl ?_; refine g8 ?_; refine Tr.ent (S':=[⟨2,true,_,_⟩,⟨3,true,_,_⟩]) (M':=[⟨2,_,_⟩,⟨11,_,_⟩]) (d6.mk (zk) (zk) rfl) ?_; refine Tr.frzC 11 2 (by simp only[p6]; omega) rfl rfl ?_; refine i4 ?_; exact d9.resC (fn:=Tryz.f24) (ts:=[3]) rfl rfl rfl (t7 rfl (by rfl)) (.i rfl (by rfl)<|.nil)

theorem rE (f:u8) (h0:z6 f≠0):Ct Tryz.prog 24 [b7 z7 f] (z9 [b7 H5 (([],0,0,0),()),kI (z6 f)]):=by
 refine Ct.mk Tryz.func24 rfl Tryz.ntmps24 rfl (fun w J=>?_); refine g9 ?_; refine jb 1 rfl ?_; refine ja 2 ?_; refine j6 ?_; refine jc (bR f) ?_; refine m8 ?_; refine Tr.cnd rfl ?_ ?_
 ·intro h2
  refine g9 ?_; refine tO (A1 (fun hp=>.nil)) rfl rfl ?_; refine j6 ?_; exact d9.resC (fn:=Tryz.f24) (ts:=[3]) rfl rfl rfl (t7 rfl (by rfl)) (.i rfl (by rfl)<|.nil)
 ·intro h2
  exact absurd (of_decide_eq_false h2) (fun e=>e h0)

theorem rA (f:u8) (hn:2<=f.1.length/\f.1.length<=5):Ct Tryz.prog 144 [b7 H5 (f,())] (kI ((f.1.length:Int)-1)):=by
 have hff:((f,()):CQ).1.1.length=f.1.length:=rfl
 refine Ct.mk Tryz.func144 rfl Tryz.ntmps144 rfl (fun w J=>?_); refine g9 ?_; refine jb 1 rfl ?_; refine C7 ?_
 exact d9.res1 (fn:=Tryz.f144) rfl (.i rfl zi<|.nil)

end Go.Fl

/- Contracts: numbers of the reference: normal forms, sums, products. -/
namespace Go.Fl
open Go Go.Proofs
open b8 renaming op->tO
open j1 renaming op->rO
set_option maxRecDepth 100000

def V4 (p:List Int) (ys:List (List Int)) (n i k:Nat):List (List Int):=j4 ys.length fun j=>if i-n<=j/\j<i-n+k then g7 (val (b6 ys j)-val (b6 ys i)*b6 p (j-(i-n))) else b6 ys j
theorem XY {p:List Int} {ys:List (List Int)} {n i k:Nat}:(V4 p ys n i k).length=ys.length:=p8
theorem ae0 {p:List Int} {ys:List (List Int)} {n i:Nat}:ys=V4 p ys n i 0:=by
 conv=>lhs; rw[T2 (rfl:ys.length=ys.length)]
 exact C9 fun j _=>(if_neg zo).symm
theorem ad7 {p:List Int} {ys:List (List Int)} {n i k j:Nat} (hj:j<ys.length) (h:j<i-n\/i-n+k<=j):b6 (V4 p ys n i k) j=b6 ys j:=by
 unfold V4
 rw[q9 hj,if_neg zo]
theorem ad8 {p:List Int} {ys:List (List Int)} {n i k:Nat} (_:k<n) (hn:n<=i) (_:i<ys.length):(V4 p ys n i k).set (i-n+k) (g7 (val (b6 ys (i-n+k))-val (b6 ys i)*b6 p k))=V4 p ys n i (k+1):=by
 unfold V4
 rw[FW]
 refine C9 fun j hj=>?_
 by_cases e:j=i-n+k
 ·subst e
  rw[if_pos rfl,if_pos ⟨zo,zo⟩,Nat.add_sub_cancel_left]
 ·rw[if_neg e]
  by_cases h:i-n<=j/\j<i-n+k
  ·rw[if_pos h,if_pos ⟨h.1,by omega⟩]
  ·rw[if_neg h,if_neg zo]
theorem ad9 {p:List Int} {ys:List (List Int)} {n i:Nat} (hn:n<=i) (hi:i<ys.length):(V4 p ys n i n).take i=EJ p n (ys.take (i+1)):=by
 have hl:(ys.take (i+1)).length=i+1:=by rw[List.length_take]; omega
 have e1:((V4 p ys n i n).take i).length=i:=by rw[List.length_take,XY]; omega
 refine D1 (by rw[e1,RR,hl]; omega) fun j hj=>?_
 rw[e1] at hj
 unfold EJ
 rw[hl,Nat.add_sub_cancel,q9 hj,HD hj,HD (show j<i+1 by omega),HD (show i<i+1 by omega)]
 unfold V4
 rw[q9 zo]
 by_cases h:i-n<=j
 ·rw[if_pos ⟨zo,zo⟩,if_pos h]
 ·rw[if_neg zo,if_neg h]
theorem zF {p:List Int} {n m:Nat} {xs:List (List Int)} (hl:xs.length=m) (hm:n<m):R6 p n (m-n) xs=R6 p n (m-1-n) (EJ p n xs):=by
 obtain ⟨f,hf⟩:∃f,m-n=f+1:=⟨m-n-1,by omega⟩
 rw[hf,R6,if_neg zo,show m-1-n=f by omega]
theorem zE {p:List Int} {n:Nat} {xs:List (List Int)} (hl:xs.length=n):R6 p n (n-n) xs=xs:=by
 rw[Nat.sub_self,R6,hl,Nat.sub_self,List.replicate_zero,List.append_nil]
theorem zG {p:List Int} {c:List (List Int)} {n k L:Nat} (hn:p.length-1=n) (hk:k=n-c.length) (hL:L=c.length+k):R6 p n (L-n) ((c++List.replicate k []).take L)=Z1 p c:=by
 unfold Z1
 rw[hn,List.take_of_length_le (by simp; omega)]
 by_cases h:c.length<=n
 ·have e1:n-(c++List.replicate k ([]:List Int)).length=0:=by rw[List.length_append,List.length_replicate]; omega
  rw[show L-n=0 by omega,show c.length-n=0 by omega,R6,R6,e1,List.replicate_zero,List.append_nil,hk]
 ·rw[show k=0 by omega,List.replicate_zero,List.append_nil,hL,show k=0 by omega,Nat.add_zero]
theorem kO {p:List Int} {ys:List (List Int)} {n i k B:Nat} (hy:E6 B ys) (hp:∀j,dl (b6 p j)<=1):E6 (B+2) (V4 p ys n i k):=fun j=>by
 by_cases hj:j<ys.length
 ·unfold V4
  rw[q9 hj]
  split
  ·refine QJ ?_
   rw[Int.sub_eq_add_neg]
   have:=PC (hy j).2.2 (hy i).2.2 (hp (j-(i-n)))
   omega
  ·exact hy.mono zo j
 ·rw[v6 (by rw[XY]; omega)]
  exact ⟨BQ,Nat.zero_le _,by show Go.Fl.dl (val [])<=_; rw[KH,C5.2 rfl]; omega⟩
theorem LH (x:y3) (hx:w7 x.2) (hl:x.2.length<=500000):Ct Tryz.prog 87 [b7 j8 x] (b7 (eL eI) (g7 (w3 x.2))):=by
 refine Ct.mk Tryz.func87 rfl Tryz.ntmps87 rfl (fun w J=>?_); refine g9 ?_; refine jb 1 rfl ?_; refine l8 ?_; refine Tr.frzB 1 [1] j8 (x:=x) ⟨rfl,trivial⟩ rfl ?_; refine jn ?_; refine i7 ?_; refine jc (BI x.2 hx zo) ?_; refine i7 ?_; refine jq ?_ ?_
 ·intro h1
  have hv0:=Q8.1 h1
  have hd:w3 x.2=1:=if_pos hv0
  refine g9 ?_; refine b8.new (w4 eI 7 (fun hp=>.cons rfl<|.nil) rfl rfl rfl rfl) rfl rfl rfl rfl ?_; refine i7 ?_; refine Tr.frz 7 [2] ⟨rfl,trivial⟩ (by simp only[p6]; omega) rfl ?_; refine g9 ?_; exact d9.res1 (fn:=Tryz.f87) rfl (.r rfl (by rw[hd,VY])<|.nil)
 ·intro h1
  have hd:w3 x.2=val x.2:=if_neg (fun e=>h1 (Q8.2 e))
  refine l6 ?_; refine jc (X6 x.2 hx zo) ?_; refine g8 ?_; exact d9.res1 (fn:=Tryz.f87) rfl (.r rfl (by rw[hd])<|.nil)

set_option maxHeartbeats 1000000 in
theorem UF (f:u8) (c:List (List Int)) (B:Nat) (hpo:G3 f.1) (hs:∀i,(b6 f.1 i).natAbs<=1000) (hc:E6 B c) (hl:c.length<=16) (hB:B<=200000):Ct Tryz.prog 86 [b7 H5 (f,()),b7 (eL (eL eI)) c] (b7 (eL (eL eI)) (Z1 f.1 c)):=by
 obtain ⟨n,hn1⟩:∃n,f.1.length=n+1:=⟨f.1.length-1,by have:=hpo.1.1; omega⟩
 have hn2:f.1.length-1=n:=by omega
 have hn5:=hpo.1
 have hdp:=hpo.2
 have hff:((f,()):CQ).1.1.length=f.1.length:=rfl
 refine Ct.mk Tryz.func86 rfl Tryz.ntmps86 rfl (fun w J=>?_); refine g9 ?_; refine jb 2 rfl ?_; refine g8 ?_; refine Tr.frzB 2 [2] H5 (x:=(f,())) ⟨rfl,trivial⟩ rfl ?_; refine jn ?_; refine g9 ?_; refine jc (rA f hn5) ?_; refine l8 ?_; refine b8.new (Y5 (eL eI) 12) rfl rfl rfl rfl ?_; refine g9 ?_; refine jl ?_; refine i7 ?_
 refine Tr.for (σ:=Nat) [⟨2,true,_,_⟩,⟨5,true,_,_⟩] [] (fun k=>[⟨6,true,[12],o5 12 (c.length+k)⟩]) (fun k=>[⟨12,[],l3 false 22 (eL eI) (c++List.replicate k []) (c.length+k)⟩]) (fun k=>k<=n-c.length) (fun k=>k=n-c.length) (fun k=>n-c.length-k) (0) zi (d6.mk (.o rfl (by simp) rfl<|zk) (.a (by simp) (by simp)<|.nil) rfl) ?_ ?_
 ·intro k hR0
  refine jn ?_; refine g8 ?_; refine tO (S8 rfl uu) rfl rfl ?_; refine g8 ?_; refine jq ?_ ?_
  ·intro h3
   refine l8 ?_; refine b8.new (w4 (eL eI) 20 (fun hp=>.cons rfl<|.nil) rfl rfl rfl rfl) rfl rfl rfl rfl ?_; refine i4 ?_; refine jl ?_; refine i7 ?_
   exact g6.lp (k+1) zi zo (d6.mk (.o rfl zi rfl<|zk) (.a (by rw[List.replicate_succ',List.append_assoc]) zi<|.nil) rfl)
  ·intro h3
   replace h3:=Int.not_lt.1 h3
   refine g8 ?_
   exact g6.cut (k) zo (d6.mk (.o rfl zi rfl<|zk) (zk) rfl)
 ·rintro k hk0
  refine jn ?_; refine Tr.osq 6 1 rfl zo ?_
  refine Tr.for (σ:=List (List Int)×Nat) [⟨2,true,_,_⟩,⟨5,true,_,_⟩] [] (fun (ys,m)=>[⟨6,true,[12],C8 12 1 0 m⟩]) (fun (ys,m)=>[⟨12,[],l3 false 22 (eL eI) ys (c.length+k)⟩]) (fun (ys,m)=>(ys.length=c.length+k/\n<=m/\m<=c.length+k)/\R6 f.1 n (m-n) (ys.take m)=Z1 f.1 c/\E6 (B+2*(c.length+k-m)) ys) (fun (ys,m)=>(ys.length=c.length+k/\m=n)/\ys.take m=Z1 f.1 c) (fun (ys,m)=>m) ((c++List.replicate k [],c.length+k)) ⟨⟨by simp,by omega,Nat.le_refl _⟩,zG hn2 hk0 rfl,hc.app.mono zo⟩ (d6.mk (.q rfl zi zi rfl<|zk) (zk) rfl) ?_ ?_
  ·rintro ⟨ys,m⟩ ⟨hym,hrd,hyo⟩
   refine jn ?_
   have hmx:((m:Int)-1).toNat=m-1:=by omega
   have hm0:b6 ys (0+((m:Int)-1).toNat)=b6 ys (m-1):=by rw[Nat.zero_add,hmx]
   refine g8 ?_; refine tO (Y6 rfl uu) rfl rfl ?_; refine g8 ?_; refine jq ?_ ?_
   ·intro h5
    refine j6 ?_; refine tO (Y6 rfl uu) rfl rfl ?_; refine i4 ?_; refine tO (BW (c.length+k) rfl uu rfl uu (fun _=>zo)) rfl rfl ?_; refine i4 ?_
    rw[hm0]
    refine j6 ?_; refine tO (Y6 rfl uu) rfl rfl ?_; refine i4 ?_; refine tO (iD rfl uu rfl uu (fun _=>zo)) rfl rfl ?_
    rw[hmx]
    refine j3 ?_
    refine Tr.for1 (σ:=Nat) [⟨2,true,_,_⟩,⟨5,true,_,_⟩,⟨6,true,_,_⟩,⟨7,true,_,_⟩] [] (fun i=>[⟨8,true,[],kI (i:Int)⟩]) (fun i=>[⟨12,[],l3 false 22 (eL eI) (V4 f.1 ys n (m-1) i) (c.length+k)⟩]) (fun i=>i<=n) (fun i=>i=n) (fun i=>n-i) (0) zi (d6.mk (.i rfl zi<|zk) (.a ae0 zi<|.nil) rfl) ?_ ?_
    ·intro i hR2
     refine jn ?_
     have hix:(0+(((m-1:Nat):Int)-((f.1.length:Int)-1)+(i:Int)).toNat)=m-1-n+i:=by omega
     have hso:=kO (n:=n) (i:=m-1) (k:=i) hyo hdp
     have hs1:=hso (m-1-n+i)
     have hyt:=hyo (m-1)
     have hpi:=hdp i
     have hbi:=s9 (val (b6 ys (m-1))) (b6 f.1 i)
     refine j3 ?_; refine jq ?_ ?_
     ·intro h9
      refine j6 ?_; refine tO (Y6 rfl uu) rfl rfl ?_; refine j6 ?_; refine Tr.draw 16 n8 (by kernel_rfl) ?_; refine g8 ?_; refine rO (BW (c.length+k) rfl uu rfl uu (fun _=>zo)) rfl rfl ?_; refine i4 ?_
      rw[hix]
      refine j6 ?_; refine rO (M3 eI (fun hp=>.cons rfl<|.nil) rfl rfl rfl rfl) rfl rfl ?_; refine rO (i6 (fun hp=>I8 (b6 ys (m-1)) [b6 f.1 i] hyt.1 (U8 (by have:=hs i; omega)) zo (by show 1<=_; omega)) (.a rfl uu<|.a rfl uu<|.nil)) rfl rfl ?_
      rw[I4]
      refine rO (i6 (fun hp=>LG (b6 (V4 f.1 ys n (m-1) i) (m-1-n+i)) (g7 (val (b6 ys (m-1))*b6 f.1 i)) hs1.1 (v5 _) zo (by rw[r9]; omega)) (.a rfl uu<|.a rfl uu<|.nil)) rfl rfl ?_
      rw[q8]
      refine i4 ?_; refine tO (BW (c.length+k) rfl uu rfl uu (fun _=>zo)) rfl rfl ?_; refine m8 ?_
      exact g6.lp (i+1) zi zo (d6.mk (.i rfl zi<|zk) (.a (by rw[hix,ad7 zo zo]; exact ad8 zo zo zo) zi<|.nil) rfl)
     ·intro h9
      replace h9:=Int.not_lt.1 h9
      refine g8 ?_
      exact g6.cut (i) zo (d6.mk (.i rfl zi<|zk) (zk) rfl)
    ·rintro i hkn
     refine je ?_; refine i4 ?_
     exact g6.lp ((V4 f.1 ys n (m-1) n,m-1)) ⟨⟨by rw[XY]; exact hym.1,by omega,by omega⟩,by rw[ad9 zo zo,show m-1+1=m by omega,<- zF (by rw[List.length_take]; omega) zo]; exact hrd,(kO hyo hdp).mono zo⟩ (by show m-1<m; omega) (d6.mk (.q rfl zi zi rfl<|zk) (.a (by rw[hkn]) zi<|.nil) rfl)
   ·intro h5
    replace h5:=Int.not_lt.1 h5
    refine g8 ?_
    exact g6.cut ((ys,m)) ⟨⟨hym.1,by omega⟩,by rw[<- hrd,show m=n by omega,zE (by rw[List.length_take]; omega)]⟩ (d6.mk (.q rfl zi zi rfl<|zk) (zk) rfl)
  ·rintro ⟨ys,m⟩ ⟨hym,hrd⟩
   refine jn ?_; refine i7 ?_; refine b8.frzQ 12 [65] ⟨rfl,trivial⟩ ⟨by omega,by simp only[p6]; omega⟩ rfl ?_; refine jl ?_; refine g8 ?_; exact d9.res1 (fn:=Tryz.f86) rfl (.r rfl (by rw[hrd])<|.nil)

end Go.Fl

/- Contracts: numbers of the reference: normal forms, sums, products. -/
namespace Go.Fl
open Go Go.Proofs
open b8 renaming op->tO
open j1 renaming op->rO
set_option maxRecDepth 100000

theorem YE {F:Nat->Int} {m B:Nat} (h:∀j,j<m->dl (F j)<=B):E6 B (j4 m fun j=>g7 (F j)):=fun i=>by
 by_cases hi:i<m
 ·rw[q9 hi]; exact QJ (h i hi)
 ·rw[v6 (by rw[p8]; omega)]
  exact ⟨BQ,Nat.zero_le _,by show Go.Fl.dl (val [])<=_; rw[KH,C5.2 rfl]; omega⟩
theorem lA {F:Nat->Int} {m:Nat}:((j4 m fun j=>g7 (F j)).map val)=j4 m F:=by
 unfold j4
 rw[List.map_map]
 exact List.map_congr_left fun j _=>q8 _
def WC (p:List Int) (x y:CP):n7:=loN (I2 p (LC (Z9 x) (Z9 y))) (w3 x.2*w3 y.2)
theorem af7 {p:List Int} {x:CP}:WC p x (l5 (loN [-1] 1))=BU (j9 p x):=by
 have e:l5 (loN [-1] 1)=([g7 (-1)],g7 1):=by rw[LZ]; rfl
 rw[e]
 unfold WC
 have e2:Z9 ([g7 (-1)],g7 1)=[-1]:=by show [val (g7 (-1))]=[-1]; rw[q8]
 have e3:w3 ([g7 (-1)],g7 1).2=1:=by unfold w3; rw[q8,if_neg (by decide)]
 rw[e2,e3,oQ,Int.mul_one]
 exact yZ
theorem QT {x:CP} {i:Nat}:b6 (Z9 x) i=val (b6 x.1 i):=R2
theorem IU {x:CP} {k:Nat} (h:y0 k x) (i:Nat):dl (val (b6 x.1 i))<=k+3:=by have:=M7 (h.c i).1; have:=(h.c i).2; omega
theorem kZ {F:Nat->Int} {B:Nat} (h:∀i,dl (F i)<=B):∀{k:Nat},dl (r6 F k)<=B+k
 | 0=>by rw[show r6 F 0=0 from rfl,C5.2 rfl]; omega
 | k+1=>by
  rw[K2]
  have:=kZ h (k:=k)
  have:=h k
  have:=P3 (r6 F k) (F k)
  omega
theorem aN {x y:CP} {k:Nat} (hx:y0 k x) (hy:y0 k y) (i j:Nat):dl (val (b6 x.1 i)*val (b6 y.1 j))<=2*k+6:=by
 have:=IU hx i
 have:=IU hy j
 have:=s9 (val (b6 x.1 i)) (val (b6 y.1 j))
 omega
theorem OT (c:List (List Int)) (i:Nat):Ct Tryz.prog 124 [b7 (eL (eL eI)) c,kI (i:Int)] (b7 (eL eI) (b6 c i)):=by
 refine Ct.mk Tryz.func124 rfl Tryz.ntmps124 rfl (fun w J=>?_); refine C7 ?_; refine jq ?_ ?_
 ·intro h1
  refine y7 ?_; exact d9.res1 (fn:=Tryz.f124) rfl (.r rfl (by rfl)<|.nil)
 ·intro h1
  replace h1:=Int.not_lt.1 h1
  refine j3 ?_; exact d9.res1 (fn:=Tryz.f124) rfl (.n rfl (by rw[v6 zo]; rfl)<|.nil)

theorem LE (f:u8) (x:y3) (k:Nat) (hpo:G3 f.1) (hs:∀i,(b6 f.1 i).natAbs<=1000) (hx:y0 k x) (hk:k<=50000):Ct Tryz.prog 32 [b7 H5 (f,()),b7 j8 x] (b7 j8 (l5 (j9 f.1 x))):=by
 have hro:=XQ hpo.2 (gX hx)
 have hxl:=hx.len
 have hdd:=GP hx.d.1 hx.d.2
 have hdl:=hx.d.2
 have hne:=BN (d:=x.2)
 refine Ct.mk Tryz.func32 rfl Tryz.ntmps32 rfl (fun w J=>?_); refine g9 ?_; refine jb 2 rfl ?_; refine jb 3 rfl ?_; refine ja 4 ?_; refine i7 ?_; refine Tr.frzB 2 [2] H5 (x:=(f,())) ⟨rfl,trivial⟩ rfl ?_; refine Tr.frzB 3 [3] j8 (x:=x) ⟨rfl,trivial⟩ rfl ?_; refine jn ?_; refine Tr.draw 5 n8 (by kernel_rfl) ?_; refine i7 ?_; refine jd (UF f x.1 (k+3) hpo hs (gX hx) zo zo) ?_; refine g9 ?_; refine jc (LH x hx.d.1 zo) ?_; refine tO (i6 (fun hp=>OU (Z1 f.1 x.1) (g7 (w3 x.2)) (fun i=>⟨(hro i).1,Nat.le_trans (hro i).2.1 zo⟩) ⟨v5 _,by rw[r9]; omega⟩ (by rw[q8]; exact hne) (by rw[XP]; have:=hpo.1; omega)) (.a rfl uu<|.a rfl uu<|.nil)) rfl rfl ?_
 refine g8 ?_; exact d9.resC1 (fn:=Tryz.f32) rfl rfl (t7 rfl (by rw[q8,YF hpo.1.2]; rfl))

set_option maxHeartbeats 1000000 in
theorem qX (f:u8) (x y:y3) (k:Nat) (hpo:G3 f.1) (hs:∀i,(b6 f.1 i).natAbs<=1000) (hx:y0 k x) (hy:y0 k y) (hk:k<=30000):Ct Tryz.prog 72 [b7 H5 (f,()),b7 j8 x,b7 j8 y] (b7 j8 (l5 (H8 (j9 f.1 x) (j9 f.1 y)))):=by
 have hxl:=hx.len
 have hyl:=hy.len
 have hdx:=GP hx.d.1 hx.d.2
 have hdy:=GP hy.d.1 hy.d.2
 have hdl:=hx.d.2
 have hdl2:=hy.d.2
 have hne:=Int.mul_ne_zero (BN (d:=x.2)) (BN (d:=y.2))
 have hsj:∀j,dl (val (b6 x.1 j)*w3 y.2+val (b6 y.1 j)*w3 x.2)<=2*k+7:=fun j=>by have a1:=IU hx j; have a2:=IU hy j; have a3:=s9 (val (b6 x.1 j)) (w3 y.2); have a4:=s9 (val (b6 y.1 j)) (w3 x.2); have a5:=P3 (val (b6 x.1 j)*w3 y.2) (val (b6 y.1 j)*w3 x.2); omega
 have hab:=s9 (w3 x.2) (w3 y.2)
 refine Ct.mk Tryz.func72 rfl Tryz.ntmps72 rfl (fun w J=>?_); refine g9 ?_; refine jb 3 rfl ?_; refine jb 4 rfl ?_; refine jb 5 rfl ?_; refine ja 6 ?_; refine i7 ?_; refine Tr.frzB 3 [3] H5 (x:=(f,())) ⟨rfl,trivial⟩ rfl ?_; refine Tr.frzB 4 [4] j8 (x:=x) ⟨rfl,trivial⟩ rfl ?_; refine Tr.frzB 5 [5] j8 (x:=y) ⟨rfl,trivial⟩ rfl ?_; refine jn ?_; refine Tr.draw 3 n8 (by kernel_rfl) ?_; refine i4 ?_; refine jd (LH x hx.d.1 zo) ?_; refine g9 ?_; refine jc (LH y hy.d.1 zo) ?_; refine L4 ?_; refine Tr.grow (s:=9) rfl rfl 99 rfl 22 (eL eI) rfl ?_
 refine Tr.for1 (σ:=Nat) [⟨3,true,_,_⟩,⟨4,true,_,_⟩,⟨5,true,_,_⟩,⟨6,true,_,_⟩,⟨7,true,_,_⟩,⟨8,true,_,_⟩] [⟨6,_,_⟩] (fun i=>[⟨9,true,[99],o5 99 i⟩,⟨10,true,[],kI (i:Int)⟩]) (fun i=>[⟨99,[],l3 true 22 (eL eI) (j4 i fun j=>g7 (val (b6 x.1 j)*w3 y.2+val (b6 y.1 j)*w3 x.2)) i⟩]) (fun i=>i<=max x.1.length y.1.length) (fun i=>i=max x.1.length y.1.length) (fun i=>max x.1.length y.1.length-i) (0) zi (d6.mk (.o rfl zi rfl<|.i rfl zi<|zk) (.a (by rfl) zi<|zk) rfl) ?_ ?_
 ·intro i hR0
  refine jn ?_
  have hsm1:=Nat.le_trans (s9 (val (b6 x.1 i)) (w3 y.2)) (Nat.add_le_add (IU hx i) hdy)
  have hsm2:=Nat.le_trans (s9 (val (b6 y.1 i)) (w3 x.2)) (Nat.add_le_add (IU hy i) hdx)
  refine P5 ?_; refine Tr.cnd rfl ?_ ?_
  ·intro h4
   have him:i<max x.1.length y.1.length:=by simp at h4; omega
   refine g8 ?_; refine Tr.draw 15 n8 (by kernel_rfl) ?_; refine g8 ?_; refine jd (OT x.1 i) ?_; refine i4 ?_; refine rO (i6 (fun hp=>I8 (b6 x.1 i) (g7 (w3 y.2)) (hx.c i).1 (v5 _) (by have:=(hx.c i).2; omega) (by rw[r9]; omega)) (.a rfl uu<|.a rfl uu<|.nil)) rfl rfl ?_
   rw[q8]
   refine i7 ?_; refine jd (OT y.1 i) ?_; refine i4 ?_; refine rO (i6 (fun hp=>I8 (b6 y.1 i) (g7 (w3 x.2)) (hy.c i).1 (v5 _) (by have:=(hy.c i).2; omega) (by rw[r9]; omega)) (.a rfl uu<|.a rfl uu<|.nil)) rfl rfl ?_
   rw[q8]
   refine rO (i6 (fun hp=>DR (g7 (val (b6 x.1 i)*w3 y.2)) (g7 (val (b6 y.1 i)*w3 x.2)) (v5 _) (v5 _) (by rw[r9]; have:=hsm1; omega) (by rw[r9]; have:=hsm2; omega)) (.a rfl uu<|.a rfl uu<|.nil)) rfl rfl ?_
   rw[q8,q8]
   refine j1.new (w4 (eL eI) 43 (fun hp=>.cons rfl<|.nil) rfl rfl rfl rfl) rfl rfl rfl rfl ?_; refine g9 ?_; refine jl ?_; refine m8 ?_
   exact g6.lp (i+1) zi zo (d6.mk (.o rfl zi rfl<|.i rfl zi<|zk) (.a F0.symm zi<|zk) rfl)
  ·intro h4
   have him:max x.1.length y.1.length<=i:=by simp at h4; omega
   refine g8 ?_
   exact g6.cut (i) zo (d6.mk (.o rfl zi rfl<|.i rfl zi<|zk) (zk) rfl)
 ·rintro i him
  refine je ?_
  rw[him]
  have hro:=XQ (p:=f.1) hpo.2 (YE (m:=max x.1.length y.1.length) (F:=fun j=>val (b6 x.1 j)*w3 y.2+val (b6 y.1 j)*w3 x.2) (B:=2*k+7) fun j _=>hsj j)
  refine l8 ?_; refine b8.frz 99 [9,46] ⟨rfl,rfl,trivial⟩ (by simp only[p6]; omega) rfl ?_; refine jl ?_; refine tO (i6 (fun hp=>UF f (j4 (max x.1.length y.1.length) fun j=>g7 (val (b6 x.1 j)*w3 y.2+val (b6 y.1 j)*w3 x.2)) (2*k+7) hpo hs (YE fun j _=>hsj j) (by rw[p8]; omega) zo) (.a rfl uu<|.a rfl uu<|.nil)) rfl rfl ?_; refine g9 ?_; refine tO (i6 (fun hp=>I8 (g7 (w3 x.2)) (g7 (w3 y.2)) (v5 _) (v5 _) (by rw[r9]; omega) (by rw[r9]; omega)) (.a rfl uu<|.a rfl uu<|.nil)) rfl rfl ?_
  rw[q8,q8]
  refine tO (i6 (fun hp=>OU (Z1 f.1 (j4 (max x.1.length y.1.length) fun j=>g7 (val (b6 x.1 j)*w3 y.2+val (b6 y.1 j)*w3 x.2))) (g7 (w3 x.2*w3 y.2)) (fun i=>⟨(hro i).1,Nat.le_trans (hro i).2.1 (by rw[p8]; omega)⟩) ⟨v5 _,by rw[r9]; omega⟩ (by rw[q8]; exact hne) (by rw[XP]; have:=hpo.1; omega)) (.a rfl uu<|.a rfl uu<|.nil)) rfl rfl ?_; refine g8 ?_; exact d9.resC1 (fn:=Tryz.f72) rfl rfl (t7 rfl (by rw[q8,YF hpo.1.2,lA,<- yY (p:=f.1) (x:=x) (y:=y) (m:=max x.1.length y.1.length) zo zo]; refine congrArg (fun l=>l5 (loN (I2 f.1 l) _)) (C9 fun j _=>?_); rw[QT,QT]))

end Go.Fl

/- Contracts: numbers of the reference: products, differences. -/
namespace Go.Fl
open Go Go.Proofs
open b8 renaming op->tO
open j1 renaming op->rO
set_option maxRecDepth 100000

theorem oW {x y:CP}:j4 (x.1.length+y.1.length-1) (fun i=>r6 (fun j=>val (b6 x.1 j)*val (b6 y.1 (i-j))) (i+1))=LC (Z9 x) (Z9 y):=by
 unfold LC
 rw[show (Z9 x).length=x.1.length from List.length_map ..,show (Z9 y).length=y.1.length from List.length_map ..]
 refine C9 fun i _=>Q3 fun j _=>?_
 rw[QT,QT]
theorem sY (i:Nat):dl (b6 ([-1,0,0,0]:List Int) i)<=1:=by
 match i with
 | 0=>exact O3 (by decide)
 | 1=>show dl 0<=1; rw[C5.2 rfl]; omega
 | 2=>show dl 0<=1; rw[C5.2 rfl]; omega
 | 3=>show dl 0<=1; rw[C5.2 rfl]; omega
 | i+4=>rw[v6 (by simp)]; show dl 0<=1; rw[C5.2 rfl]; omega
set_option maxHeartbeats 1000000 in
theorem rC (f:u8) (x y:y3) (k:Nat) (hpo:G3 f.1) (hs:∀i,(b6 f.1 i).natAbs<=1000) (hx:y0 k x) (hy:y0 k y) (hk:k<=30000):Ct Tryz.prog 79 [b7 H5 (f,()),b7 j8 x,b7 j8 y] (b7 j8 (l5 (WC f.1 x y))):=by
 have hxl:=hx.len
 have hyl:=hy.len
 have hdx:=GP hx.d.1 hx.d.2
 have hdy:=GP hy.d.1 hy.d.2
 have hdl:=hx.d.2
 have hdl2:=hy.d.2
 have hne:=Int.mul_ne_zero (BN (d:=x.2)) (BN (d:=y.2))
 have hsj:∀i m,dl (r6 (fun j=>val (b6 x.1 j)*val (b6 y.1 (i-j))) (m))<=2*k+6+m:=fun i m=>kZ (fun j=>aN hx hy j (i-j))
 have hab:=s9 (w3 x.2) (w3 y.2)
 refine Ct.mk Tryz.func79 rfl Tryz.ntmps79 rfl (fun w J=>?_); refine g9 ?_; refine jb 3 rfl ?_; refine jb 4 rfl ?_; refine jb 5 rfl ?_; refine ja 6 ?_; refine i7 ?_; refine Tr.frzB 3 [3] H5 (x:=(f,())) ⟨rfl,trivial⟩ rfl ?_; refine Tr.frzB 4 [4] j8 (x:=x) ⟨rfl,trivial⟩ rfl ?_; refine Tr.frzB 5 [5] j8 (x:=y) ⟨rfl,trivial⟩ rfl ?_; refine jn ?_; refine u5 ?_; refine Tr.grow (s:=7) rfl rfl 99 rfl 22 (eL eI) rfl ?_
 refine Tr.for1 (σ:=Nat) [⟨3,true,_,_⟩,⟨4,true,_,_⟩,⟨5,true,_,_⟩,⟨6,true,_,_⟩] [⟨6,_,_⟩] (fun i=>[⟨7,true,[99],o5 99 i⟩,⟨8,true,[],kI (i:Int)⟩]) (fun i=>[⟨99,[],l3 true 22 (eL eI) (j4 i fun i=>g7 (r6 (fun j=>val (b6 x.1 j)*val (b6 y.1 (i-j))) (i+1))) i⟩]) (fun i=>i<=(x.1.length+y.1.length-1)) (fun i=>i=(x.1.length+y.1.length-1)) (fun i=>(x.1.length+y.1.length-1)-i) (0) zi (d6.mk (.o rfl zi rfl<|.i rfl zi<|zk) (.a (by rfl) zi<|zk) rfl) ?_ ?_
 ·intro i hR0
  refine jn ?_; refine L4 ?_; refine jq ?_ ?_
  ·intro h3
   refine L4 ?_
   refine Tr.for1 (σ:=Nat) [⟨3,true,_,_⟩,⟨4,true,_,_⟩,⟨5,true,_,_⟩,⟨6,true,_,_⟩,⟨7,true,_,_⟩,⟨8,true,_,_⟩] [⟨6,_,_⟩,⟨99,_,_⟩] (fun j=>[⟨9,true,[],b7 (eL eI) (g7 (r6 (fun j=>val (b6 x.1 j)*val (b6 y.1 (i-j))) (j)))⟩,⟨10,true,[],kI (j:Int)⟩]) (fun j=>[]) (fun j=>j<=i+1) (fun j=>j=i+1) (fun j=>i+1-j) (0) zi (d6.mk (.n rfl (by rfl)<|.i rfl zi<|zk) (zk) rfl) ?_ ?_
   ·intro j hR1
    refine jn ?_
    have hsb:=hsj i j
    have hcb:=aN hx hy j (i-j)
    have hij:=fun (h:j<=i)=>(show (i:Int)-(j:Int)=((i-j:Nat):Int) by omega)
    refine j3 ?_; refine jq ?_ ?_
    ·intro h7
     refine g8 ?_; refine Tr.draw 12 n8 (by kernel_rfl) ?_; refine g8 ?_; refine jd (OT x.1 j) ?_; refine l8 ?_
     rw[hij zo]
     refine jd (OT y.1 (i-j)) ?_; refine rO (i6 (fun hp=>I8 (b6 x.1 j) (b6 y.1 (i-j)) (hx.c j).1 (hy.c _).1 (by have:=(hx.c j).2; omega) (by have:=(hy.c (i-j)).2; omega)) (.a rfl uu<|.a rfl uu<|.nil)) rfl rfl ?_; refine i4 ?_; refine tO (i6 (fun hp=>DR (g7 (r6 (fun j=>val (b6 x.1 j)*val (b6 y.1 (i-j))) (j))) (g7 (val (b6 x.1 j)*val (b6 y.1 (i-j)))) (v5 _) (v5 _) (by rw[r9]; omega) (by rw[r9]; omega)) (.a rfl uu<|.a rfl uu<|.nil)) rfl rfl ?_
     rw[q8,q8]
     refine m8 ?_
     exact g6.lp (j+1) zi zo (d6.mk (.r rfl (by rw[K2])<|.i rfl zi<|zk) (zk) rfl)
    ·intro h7
     replace h7:=Int.not_le.1 h7
     refine g8 ?_
     exact g6.cut (j) zo (d6.mk (.r rfl zi<|.i rfl zi<|zk) (zk) rfl)
   ·rintro j hji
    refine je ?_; refine g8 ?_; refine b8.new (w4 (eL eI) 43 (fun hp=>.cons rfl<|.nil) rfl rfl rfl rfl) rfl rfl rfl rfl ?_; refine i4 ?_; refine jl ?_; refine m8 ?_
    exact g6.lp (i+1) zi zo (d6.mk (.o rfl zi rfl<|.i rfl zi<|zk) (.a (by rw[hji]; exact F0.symm) zi<|zk) rfl)
  ·intro h3
   replace h3:=Int.not_lt.1 h3
   refine g8 ?_
   exact g6.cut (i) zo (d6.mk (.o rfl zi rfl<|.i rfl zi<|zk) (zk) rfl)
 ·rintro i him
  refine je ?_
  rw[him]
  have hto:E6 (2*k+30) (j4 (x.1.length+y.1.length-1) fun i=>g7 (r6 (fun j=>val (b6 x.1 j)*val (b6 y.1 (i-j))) (i+1))):=YE (m:=(x.1.length+y.1.length-1)) (F:=fun i=>r6 (fun j=>val (b6 x.1 j)*val (b6 y.1 (i-j))) (i+1)) (B:=2*k+30) fun i hi=>Nat.le_trans (hsj i (i+1)) zo
  have hro:=XQ (p:=f.1) hpo.2 hto
  refine g9 ?_; refine Tr.frz 99 [7] ⟨rfl,trivial⟩ (by simp only[p6]; omega) rfl ?_; refine jn ?_; refine Tr.draw 6 n8 (by kernel_rfl) ?_; refine g9 ?_; refine jd (UF f (j4 (x.1.length+y.1.length-1) fun i=>g7 (r6 (fun j=>val (b6 x.1 j)*val (b6 y.1 (i-j))) (i+1))) (2*k+30) hpo hs hto (by rw[p8]; omega) zo) ?_; refine i4 ?_; refine jd (LH x hx.d.1 zo) ?_; refine g9 ?_; refine jc (LH y hy.d.1 zo) ?_; refine tO (i6 (fun hp=>I8 (g7 (w3 x.2)) (g7 (w3 y.2)) (v5 _) (v5 _) (by rw[r9]; omega) (by rw[r9]; omega)) (.a rfl uu<|.a rfl uu<|.nil)) rfl rfl ?_
  rw[q8,q8]
  refine tO (i6 (fun hp=>OU (Z1 f.1 (j4 (x.1.length+y.1.length-1) fun i=>g7 (r6 (fun j=>val (b6 x.1 j)*val (b6 y.1 (i-j))) (i+1)))) (g7 (w3 x.2*w3 y.2)) (fun i=>⟨(hro i).1,Nat.le_trans (hro i).2.1 (by rw[p8]; omega)⟩) ⟨v5 _,by rw[r9]; omega⟩ (by rw[q8]; exact hne) (by rw[XP]; have:=hpo.1; omega)) (.a rfl uu<|.a rfl uu<|.nil)) rfl rfl ?_; refine g8 ?_; exact d9.resC1 (fn:=Tryz.f79) rfl rfl (t7 rfl (by rw[q8,YF hpo.1.2,lA,oW]; rfl))

theorem rD (f:u8) (x:y3) (k:Nat) (hpo:G3 f.1) (hs:∀i,(b6 f.1 i).natAbs<=1000) (hx:y0 k x) (hk:k<=20000):Ct Tryz.prog 132 [b7 H5 (f,()),b7 j8 x] (b7 j8 (l5 (BU (j9 f.1 x)))):=by
 have hx1:y0 (k+1) x:=hx.mono zo
 have hw:y0 (k+1) (l5 (loN [-1] 1)):=by rw[PS]; exact (X8 (⟨fun i=>sY i,by show dl 1<=1; exact J6 zo zo,by show (0:Int)<1; omega,rfl⟩:E7 1 (z8 (-1)))).mono zo
 refine Ct.mk Tryz.func132 rfl Tryz.ntmps132 rfl (fun w J=>?_); refine g9 ?_; refine jb 2 rfl ?_; refine jb 3 rfl ?_; refine ja 4 ?_; refine i7 ?_; refine Tr.frzB 2 [2] H5 (x:=(f,())) ⟨rfl,trivial⟩ rfl ?_; refine Tr.frzB 3 [3] j8 (x:=x) ⟨rfl,trivial⟩ rfl ?_; refine jn ?_; refine Tr.draw 3 n8 (by kernel_rfl) ?_; refine g9 ?_; refine jd (IP (-1) zo) ?_; refine i4 ?_; refine jc (rC f x (l5 (loN [-1] 1)) (k+1) hpo hs hx1 hw zo) ?_; refine g8 ?_; exact d9.resC1 (fn:=Tryz.f132) rfl rfl (t7 rfl (by rw[af7]))

theorem cA (f:u8) (x y:y3) (k:Nat) (hpo:G3 f.1) (hs:∀i,(b6 f.1 i).natAbs<=1000) (hx:y0 k x) (hy:y0 k y) (hk:k<=10000):Ct Tryz.prog 78 [b7 H5 (f,()),b7 j8 x,b7 j8 y] (b7 j8 (l5 (H0 (j9 f.1 x) (j9 f.1 y)))):=by
 have ny:E7 (k+15) (j9 f.1 y):=T3 hpo hy
 have ry:B4 f.1 (j9 f.1 y):=EL hpo
 have hn:=X8 (MD ny)
 have htg:=AX (gH ry)
 refine Ct.mk Tryz.func78 rfl Tryz.ntmps78 rfl (fun w J=>?_); refine g9 ?_; refine jb 3 rfl ?_; refine jb 4 rfl ?_; refine jb 5 rfl ?_; refine ja 6 ?_; refine i7 ?_; refine Tr.frzB 3 [3] H5 (x:=(f,())) ⟨rfl,trivial⟩ rfl ?_; refine Tr.frzB 4 [4] j8 (x:=x) ⟨rfl,trivial⟩ rfl ?_; refine Tr.frzB 5 [5] j8 (x:=y) ⟨rfl,trivial⟩ rfl ?_; refine jn ?_; refine Tr.draw 5 n8 (by kernel_rfl) ?_; refine g8 ?_; refine jd (rD f y k hpo hs hy zo) ?_; refine i4 ?_; refine jc (qX f x (l5 (BU (j9 f.1 y))) (k+15) hpo hs (hx.mono zo) hn zo) ?_; refine g8 ?_
 exact d9.resC1 (fn:=Tryz.f78) rfl rfl (t7 rfl (by rw[htg]; rfl))

end Go.Fl

/- Contracts: enclosures and halving of the reference. -/
namespace Go.Fl
open Go Go.Proofs
open b8 renaming op->tO
open j1 renaming op->rO
set_option maxRecDepth 100000

abbrev AG:=List Int×List Int×List Int
def CY:i8 AG:=eC (fun v:AG=>(v.1,v.2.1,v.2.2,())) (eP (eL eI) (eP (eL eI) (eP (eL eI) eU)))
instance {v:AG}:E5 (b7 CY v) [b7 (eL eI) (v.1),b7 (eL eI) (v.2.1),b7 (eL eI) (v.2.2)]:=inferInstanceAs (E5 (b7 (eC (fun v:AG=>(v.1,v.2.1,v.2.2,())) (eP (eL eI) (eP (eL eI) (eP (eL eI) eU)))) v) _)
instance {v:AG}:v7 CY v 0 (eL eI) (v.1) 0:=inferInstanceAs (v7 (eC (fun v:AG=>(v.1,v.2.1,v.2.2,())) (eP (eL eI) (eP (eL eI) (eP (eL eI) eU)))) v 0 _ _ _)
instance {v:AG}:v7 CY v 1 (eL eI) (v.2.1) 1:=inferInstanceAs (v7 (eC (fun v:AG=>(v.1,v.2.1,v.2.2,())) (eP (eL eI) (eP (eL eI) (eP (eL eI) eU)))) v 1 _ _ _)
instance {v:AG}:v7 CY v 2 (eL eI) (v.2.2) 2:=inferInstanceAs (v7 (eC (fun v:AG=>(v.1,v.2.1,v.2.2,())) (eP (eL eI) (eP (eL eI) (eP (eL eI) eU)))) v 2 _ _ _)
instance {ks r:List d5} {a b c:List Int} [h:t9 ks (eP (eL eI) (eP (eL eI) (eP (eL eI) eU))) (a,b,c,()) r]:t9 ks CY ((a,b,c)) r:=⟨fun h'=>h.imp h'⟩
instance {a b c d:List Int} {r:List d5}:t9 (b7 (eL eI) a::b7 (eL eI) b::b7 (eL eI) c::b7 (eL eI) d::r) (P4 4 (eL eI)) [a,b,c,d] r:=⟨fun {g cs} h=>by
 obtain ⟨c1,t1,rfl,q1,h⟩:=(inferInstance:t9 (b7 (eL eI) a::b7 (eL eI) b::b7 (eL eI) c::b7 (eL eI) d::r) (eL eI) a _).imp h
 obtain ⟨c2,t2,rfl,q2,h⟩:=(inferInstance:t9 (b7 (eL eI) b::b7 (eL eI) c::b7 (eL eI) d::r) (eL eI) b _).imp h
 obtain ⟨c3,t3,rfl,q3,h⟩:=(inferInstance:t9 (b7 (eL eI) c::b7 (eL eI) d::r) (eL eI) c _).imp h
 obtain ⟨c4,t4,rfl,q4,h⟩:=(inferInstance:t9 (b7 (eL eI) d::r) (eL eI) d _).imp h
 exact ⟨c1++c2++c3++c4,t4,by simp,⟨rfl,c1,c2++c3++c4,by simp,q1,c2,c3++c4,by simp,q2,c3,c4,by simp,q3,c4,[],by simp,q4,rfl⟩,h⟩⟩
instance {a b c d:List Int} {tl:List d5}:H1 (P4 4 (eL eI)) [a,b,c,d] tl (b7 (eL eI) a::b7 (eL eI) b::b7 (eL eI) c::b7 (eL eI) d::tl):=⟨fun {g cs ds} h h'=>by
 obtain ⟨_,c1,t1,rfl,q1,c2,t2,rfl,q2,c3,t3,rfl,q3,c4,t4,rfl,q4,h⟩:=h
 have h:t4=[]:=h
 subst h
 have r4:=(inferInstance:H1 (eL eI) d tl (b7 (eL eI) d::tl)).imp q4 h'
 have r3:=(inferInstance:H1 (eL eI) c (b7 (eL eI) d::tl) _).imp q3 r4
 have r2:=(inferInstance:H1 (eL eI) b (b7 (eL eI) c::b7 (eL eI) d::tl) _).imp q2 r3
 have r1:=(inferInstance:H1 (eL eI) a (b7 (eL eI) b::b7 (eL eI) c::b7 (eL eI) d::tl) _).imp q1 r2
 simpa using r1⟩
instance {a b c d:List Int}:E5 (b7 (P4 4 (eL eI)) [a,b,c,d]) [b7 (eL eI) a,b7 (eL eI) b,b7 (eL eI) c,b7 (eL eI) d]:=⟨fun {g v} hk=>by
 have h1:=hk.cells
 have h2:=(inferInstance:H1 (P4 4 (eL eI)) [a,b,c,d] [] _).imp (g:=g) (ds:=[]) h1 trivial
 exact ⟨by simpa using h2,List.all_eq_true.2 fun x hx=>i8.all1 _ h1 x hx⟩⟩
theorem WR {zs:List Int} {i:Nat} (h:i<zs.length):b6 (zs.map g7) i=g7 (b6 zs i):=by simp[b6,h]
theorem oP {y z:Int}:r7 (y-z) 0=r7 y z:=by unfold r7; split<;>split<;>(try split)<;>(try split)<;>omega
theorem UD (y z:Int) (hy:dl y<=800000) (hz:dl z<=800000):Ct Tryz.prog 177 [b7 (eL eI) (g7 y),b7 (eL eI) (g7 z)] (kI (r7 y z)):=by
 have hyz:=P3 y (-z)
 rw[K4,<- Int.sub_eq_add_neg] at hyz
 refine Ct.mk Tryz.func177 rfl Tryz.ntmps177 rfl (fun w J=>?_); refine m8 ?_; refine tO (i6 (fun hp=>LG (g7 y) (g7 z) (v5 _) (v5 _) (by rw[r9]; omega) (by rw[r9]; omega)) (.a rfl uu<|.a rfl uu<|.nil)) rfl rfl ?_; refine tO (i6 (fun hp=>BI (g7 (val (g7 y)-val (g7 z))) (v5 _) (by rw[r9,q8,q8]; omega)) (.a rfl uu<|.nil)) rfl rfl ?_; refine g8 ?_; exact d9.res1 (fn:=Tryz.f177) rfl (.i rfl (by rw[q8,q8,q8]; exact oP)<|.nil)

theorem rM (z0 z1 z2 z3:Int) (hz:∀z∈[z0,z1,z2,z3],dl z<=800000):Ct Tryz.prog 130 [b7 (P4 4 (eL eI)) [g7 z0,g7 z1,g7 z2,g7 z3]] (z9 [b7 (eL eI) (g7 (N0 z0 z1 z2 z3)),b7 (eL eI) (g7 (M9 z0 z1 z2 z3))]):=by
 obtain ⟨zs,hzs⟩:∃zs,zs=[z0,z1,z2,z3]:=⟨_,rfl⟩
 have hll:zs.length=4:=by rw[hzs]; rfl
 have hzl:∀i,i<4->b6 [g7 z0,g7 z1,g7 z2,g7 z3] i=g7 (b6 zs i):=fun i hi=>by have:=WR (zs:=zs) (i:=i) zo; rw[<- this,hzs]; rfl
 have hzb:∀i,i<4->dl (b6 zs i)<=800000:=fun i hi=>hz _ (by rw[<- hzs]; exact G1 zo)
 have hmb:∀i,i<4->dl (L8 zs i)<=800000/\dl (J4 zs i)<=800000:=fun i hi=>⟨hz _ (by rw[<- hzs]; exact (GZ zo).1),hz _ (by rw[<- hzs]; exact (GZ zo).2)⟩
 refine Ct.mk Tryz.func130 rfl Tryz.ntmps130 rfl (fun w J=>?_); refine g9 ?_; refine jb 1 rfl ?_; refine l8 ?_; refine Tr.frzB 1 [1] (P4 4 (eL eI)) ⟨rfl,trivial⟩ rfl ?_; refine jn ?_; refine Tr.draw 5 n8 (by kernel_rfl) ?_; refine rO (FR rfl uu rfl uu rfl (fun _=>zo)) rfl rfl ?_; refine i4 ?_; refine rO (FR rfl uu rfl uu rfl (fun _=>zo)) rfl rfl ?_; refine u9 ?_
 refine Tr.for1 (σ:=Nat) [⟨1,true,_,_⟩] [] (fun j=>[⟨4,true,[],b7 (eL eI) (g7 (L8 zs j))⟩,⟨5,true,[],b7 (eL eI) (g7 (J4 zs j))⟩,⟨6,true,[],kI ((j:Int)+1)⟩]) (fun j=>[]) (fun j=>j+1<=4) (fun j=>j=3) (fun j=>4-j) (0) zi (d6.mk (.r rfl (by rw[hzs]; rfl)<|.r rfl (by rw[hzs]; rfl)<|.i rfl zi<|zk) (.nil) rfl) ?_ ?_
 ·intro j hR0
  refine jn ?_
  have hjn:((j:Int)+1).toNat=j+1:=by omega
  have hb2:=hmb j zo
  have hz1:=fun (h:j+1<4)=>hzl (j+1) h
  have hz2:=fun (h:j+1<4)=>hzb (j+1) h
  refine j6 ?_; refine jq ?_ ?_
  ·intro h3
   refine j3 ?_; refine tO (FR rfl uu rfl uu rfl (fun _=>zo)) rfl rfl ?_; refine i4 ?_
   rw[hjn,hz1 zo]
   refine i4 ?_; refine jc (UD (b6 zs (j+1)) (L8 zs j) (hz2 zo) hb2.1) ?_; refine i7 ?_; refine jq ?_ ?_
   ·intro h5
    have hm:L8 zs (j+1)=b6 zs (j+1):=if_pos (FB.1 h5)
    refine g9 ?_; refine tO (FR rfl uu rfl uu rfl (fun _=>zo)) rfl rfl ?_; refine i4 ?_
    rw[hjn,hz1 zo]
    refine l6 ?_; refine tO (FR rfl uu rfl uu rfl (fun _=>zo)) rfl rfl ?_; refine i4 ?_
    rw[hjn,hz1 zo]
    refine i4 ?_; refine jc (UD (b6 zs (j+1)) (J4 zs j) (hz2 zo) hb2.2) ?_; refine i7 ?_; refine jq ?_ ?_
    ·intro h7
     have hx:J4 zs (j+1)=b6 zs (j+1):=if_pos (CT.1 h7)
     refine g9 ?_; refine tO (FR rfl uu rfl uu rfl (fun _=>zo)) rfl rfl ?_; refine i4 ?_
     rw[hjn,hz1 zo]
     refine m8 ?_
     exact g6.lp (j+1) zi zo (d6.mk (.r rfl (by rw[hm])<|.r rfl (by rw[hx])<|.i rfl zi<|zk) (.nil) rfl)
    ·intro h7
     replace h7:=Int.not_lt.1 h7
     have hx:J4 zs (j+1)=J4 zs j:=if_neg (fun e=>absurd (CT.2 e) zo)
     refine j3 ?_
     exact g6.lp (j+1) zi zo (d6.mk (.r rfl (by rw[hm])<|.r rfl (by rw[hx])<|.i rfl zi<|zk) (.nil) rfl)
   ·intro h5
    replace h5:=Int.not_lt.1 h5
    have hm:L8 zs (j+1)=L8 zs j:=if_neg (fun e=>absurd (FB.2 e) zo)
    refine l8 ?_; refine tO (FR rfl uu rfl uu rfl (fun _=>zo)) rfl rfl ?_; refine i4 ?_
    rw[hjn,hz1 zo]
    refine i4 ?_; refine jc (UD (b6 zs (j+1)) (J4 zs j) (hz2 zo) hb2.2) ?_; refine i7 ?_; refine jq ?_ ?_
    ·intro h7
     have hx:J4 zs (j+1)=b6 zs (j+1):=if_pos (CT.1 h7)
     refine g9 ?_; refine tO (FR rfl uu rfl uu rfl (fun _=>zo)) rfl rfl ?_; refine i4 ?_
     rw[hjn,hz1 zo]
     refine m8 ?_
     exact g6.lp (j+1) zi zo (d6.mk (.r rfl (by rw[hm])<|.r rfl (by rw[hx])<|.i rfl zi<|zk) (.nil) rfl)
    ·intro h7
     replace h7:=Int.not_lt.1 h7
     have hx:J4 zs (j+1)=J4 zs j:=if_neg (fun e=>absurd (CT.2 e) zo)
     refine j3 ?_
     exact g6.lp (j+1) zi zo (d6.mk (.r rfl (by rw[hm])<|.r rfl (by rw[hx])<|.i rfl zi<|zk) (.nil) rfl)
  ·intro h3
   replace h3:=Int.not_lt.1 h3
   refine g8 ?_
   exact g6.cut (j) zo (d6.mk (.r rfl zi<|.r rfl zi<|.i rfl zi<|zk) (.nil) rfl)
 ·rintro j rfl
  refine je ?_
  have hfin:=WD (a:=z0) (b:=z1) (c:=z2) (d:=z3)
  rw[hzs]
  refine u5 ?_; exact d9.res (fn:=Tryz.f130) (ts:=[2,3]) rfl rfl (.r rfl (by rw[hfin.1])<|.r rfl (by rw[hfin.2])<|.nil)

end Go.Fl

/- Contracts: enclosures, halving and signs of the reference. -/
namespace Go.Fl
open Go Go.Proofs
open b8 renaming op->tO
open j1 renaming op->rO
set_option maxRecDepth 100000

theorem VG:w7 [2]:=U8 zo
theorem yJ {f:u8} {k:Nat}:(i2 f.1 (u7 f) k).lo=val (T0 (f.2.1,f.2.2.1,f.2.2.2) (i2 f.1 (u7 f) k) k).1/\(i2 f.1 (u7 f) k).hi=val (T0 (f.2.1,f.2.2.1,f.2.2.2) (i2 f.1 (u7 f) k) k).2.1/\(i2 f.1 (u7 f) k).den=val (T0 (f.2.1,f.2.2.1,f.2.2.2) (i2 f.1 (u7 f) k) k).2.2:=by
 unfold T0
 by_cases h:k=0
 ·subst h
  rw[if_pos rfl]
  exact ⟨I4.symm,I4.symm,I4.symm⟩
 ·rw[if_neg h]
  exact ⟨(q8 _).symm,(q8 _).symm,(q8 _).symm⟩
theorem yI {f:u8} {k B:Nat} (hf:(1<=f.2.2.2/\f.2.2.2<=1000000)/\(-1000000<=f.2.1/\f.2.1<=1000000)/\(-1000000<=f.2.2.1/\f.2.2.1<=1000000)) (hB:1<=B) (hz:dl (i2 f.1 (u7 f) k).lo<=B/\dl (i2 f.1 (u7 f) k).hi<=B/\dl (i2 f.1 (u7 f) k).den<=B) :
  (w7 (T0 (f.2.1,f.2.2.1,f.2.2.2) (i2 f.1 (u7 f) k) k).1/\(T0 (f.2.1,f.2.2.1,f.2.2.2) (i2 f.1 (u7 f) k) k).1.length<=B)/\(w7 (T0 (f.2.1,f.2.2.1,f.2.2.2) (i2 f.1 (u7 f) k) k).2.1/\(T0 (f.2.1,f.2.2.1,f.2.2.2) (i2 f.1 (u7 f) k) k).2.1.length<=B)/\(w7 (T0 (f.2.1,f.2.2.1,f.2.2.2) (i2 f.1 (u7 f) k) k).2.2/\(T0 (f.2.1,f.2.2.1,f.2.2.2) (i2 f.1 (u7 f) k) k).2.2.length<=B):=by
 unfold T0
 by_cases h:k=0
 ·subst h
  rw[if_pos rfl]
  exact ⟨⟨U8 (x:=f.2.1) zo,hB⟩,⟨U8 (x:=f.2.2.1) zo,hB⟩,⟨U8 (x:=f.2.2.2) zo,hB⟩⟩
 ·rw[if_neg h]
  exact ⟨⟨v5 _,by rw[r9]; exact hz.1⟩,⟨v5 _,by rw[r9]; exact hz.2.1⟩,⟨v5 _,by rw[r9]; exact hz.2.2⟩⟩
theorem kK {p:List Int} {a b:Int} (h:A3 p a b≠0):s8 (v8 a b p).1≠0:=by
 have e:(v8 a b p).1=A3 p a b:=(LW (a:=a) (b:=b) (cs:=p)).2
 rw[e]
 rcases Z5 (A3 p a b) with ⟨_,q⟩ | ⟨q,_⟩ | ⟨_,q⟩
 ·rw[q]; decide
 ·exact absurd q h
 ·rw[q]; decide
theorem lQ {v:List Int} (_:v.length=4) (h:(j7 v).length<=1):O5 v=true:=JW fun i h1 h2=>by
 rw[<- S7,v6 zo]; rfl
theorem ag4 {p:List Int} {v:n7} (hv:B4 p v) (h:2<=(j7 v.1).length):O5 v.1≠true/\3<=p.length:=by
 have h4:=hv.len
 have hne:j7 v.1≠[]:=fun e=>by rw[e] at h; simp at h
 have h1:=(lS (xs:=v.1)).top hne
 rw[S7] at h1
 have hle:=R8 (xs:=v.1)
 refine ⟨fun e=>h1.2 (RO.1 e _ zo zo),Classical.byContradiction fun hp=>h1.2 (hv.hi _ zo)⟩
theorem ac3 {p:List Int} {I:Iv} {v:n7} (hv:B4 p v) (h5:p.length<=5) (hI:I.Ok) {k:Nat}:(0<(enc (i2 p I k) (j7 v.1)).1↔0<(enc (i2 p I k) (v.1.take (p.length-1))).1)/\((enc (i2 p I k) (j7 v.1)).2.1<0↔(enc (i2 p I k) (v.1.take (p.length-1))).2.1<0):=by
 rw[af8 hv.len (show p.length-1<=4 by omega) hv.hi]
 have:=dO (Y0 hI (p:=p) (k:=k)).pos (xs:=j7 v.1) (k:=p.length-1-(j7 v.1).length)
 exact ⟨this.1.symm,this.2.symm⟩
set_option maxHeartbeats 1000000 in
theorem rP (cs:List Int) (pl:AG) (I:Iv) (hI1:I.lo=val pl.1) (hI2:I.hi=val pl.2.1) (hI3:I.den=val pl.2.2) (hn1:w7 pl.1/\pl.1.length<=73000) (hn2:w7 pl.2.1/\pl.2.1.length<=73000) (hn3:w7 pl.2.2/\pl.2.2.length<=73000) (hz:dl I.lo<=73000/\dl I.hi<=73000/\dl I.den<=73000) (hcl:cs.length<=4) (hcd:∀i,dl (b6 cs i)<=540):Ct Tryz.prog 76 [b7 (eL (eL eI)) (cs.map g7),b7 CY pl] (z9 [b7 (eL eI) (g7 (enc I cs).1),b7 (eL eI) (g7 (enc I cs).2.1),b7 (eL eI) (g7 (enc I cs).2.2)]):=by
 have hml:(cs.map g7).length=cs.length:=List.length_map ..
 refine Ct.mk Tryz.func76 rfl Tryz.ntmps76 rfl (fun w J=>?_); refine g9 ?_; refine jb 3 rfl ?_; refine l6 ?_; refine Tr.frzB 3 [3] CY (x:=pl) ⟨rfl,trivial⟩ rfl ?_; refine jn ?_; refine j6 ?_; refine b8.new (w4 eI 11 (fun hp=>.cons rfl<|.nil) rfl rfl rfl rfl) rfl rfl rfl rfl ?_; refine b8.frz 11 [11] ⟨rfl,trivial⟩ (by decide) rfl ?_; refine jl ?_; refine u9 ?_
 refine Tr.for1 (σ:=Nat) [⟨0,true,_,_⟩,⟨3,true,_,_⟩] [] (fun j=>[⟨7,true,[],b7 (eL eI) (g7 (n6 I cs j).1)⟩,⟨8,true,[],b7 (eL eI) (g7 (n6 I cs j).2.1)⟩,⟨9,true,[],b7 (eL eI) (g7 (n6 I cs j).2.2)⟩,⟨10,true,[],kI ((cs.length:Int)-1-j)⟩]) (fun j=>[]) (fun j=>j<=cs.length) (fun j=>j=cs.length) (fun j=>cs.length-j) (0) zi (d6.mk (.n rfl (by rw[GR]; rfl)<|.n rfl (by rw[GR]; rfl)<|.r rfl (by rw[GR]; exact VY.symm)<|.i rfl zi<|zk) (.nil) rfl) ?_ ?_
 ·intro j hR0
  refine jn ?_
  have hb:=LM (A:=73000) (C:=540) hz.1 hz.2.1 hz.2.2 hcd (k:=j) zo
  have hj5:j*(73000+1)<=4*73001:=Nat.mul_le_mul zo zo
  have hj6:j*73000<=4*73000:=Nat.mul_le_mul zo zo
  have hcj:=hcd (cs.length-1-j)
  have hm1:=s9 (n6 I cs j).1 I.lo
  have hm2:=s9 (n6 I cs j).1 I.hi
  have hm3:=s9 (n6 I cs j).2.1 I.lo
  have hm4:=s9 (n6 I cs j).2.1 I.hi
  have hm5:=s9 (n6 I cs j).2.2 I.den
  have hm6:=s9 (b6 cs (cs.length-1-j)) ((n6 I cs j).2.2*I.den)
  have hco:∀x∈([(n6 I cs j).1*I.lo,(n6 I cs j).1*I.hi,(n6 I cs j).2.1*I.lo,(n6 I cs j).2.1*I.hi]:List Int),dl x<=800000:=fun x hx=>by simp only[List.mem_cons,List.not_mem_nil,or_false] at hx; rcases hx with rfl | rfl | rfl | rfl<;>omega
  have hmm:=dB (n:=370000) (a:=(n6 I cs j).1*I.lo) (b:=(n6 I cs j).1*I.hi) (c:=(n6 I cs j).2.1*I.lo) (d:=(n6 I cs j).2.1*I.hi) zo zo zo zo
  have hcx:=fun (h:j<cs.length)=>(show b6 (cs.map g7) ((cs.length:Int)-1-(j:Int)).toNat=g7 (b6 cs (cs.length-1-j)) by rw[show ((cs.length:Int)-1-(j:Int)).toNat=cs.length-1-j by omega]; exact WR zo)
  refine j6 ?_; refine jq ?_ ?_
  ·intro h4
   refine l8 ?_; refine Tr.draw 22 n8 (by kernel_rfl) ?_; refine i7 ?_; refine rO (i6 (fun hp=>I8 (g7 (n6 I cs j).1) pl.1 (v5 _) hn1.1 (by rw[r9]; omega) zo) (.a rfl uu<|.a rfl uu<|.nil)) rfl rfl ?_
   rw[q8,<- hI1]
   refine i7 ?_; refine rO (i6 (fun hp=>I8 (g7 (n6 I cs j).1) pl.2.1 (v5 _) hn2.1 (by rw[r9]; omega) zo) (.a rfl uu<|.a rfl uu<|.nil)) rfl rfl ?_
   rw[q8,<- hI2]
   refine i7 ?_; refine rO (i6 (fun hp=>I8 (g7 (n6 I cs j).2.1) pl.1 (v5 _) hn1.1 (by rw[r9]; omega) zo) (.a rfl uu<|.a rfl uu<|.nil)) rfl rfl ?_
   rw[q8,<- hI1]
   refine i7 ?_; refine rO (i6 (fun hp=>I8 (g7 (n6 I cs j).2.1) pl.2.1 (v5 _) hn2.1 (by rw[r9]; omega) zo) (.a rfl uu<|.a rfl uu<|.nil)) rfl rfl ?_
   rw[q8,<- hI2]
   refine rO (hO [(0,1),(1,1),(2,1),(3,1)] rfl (fun hp=>.cons rfl rfl rfl<|.cons rfl rfl rfl<|.cons rfl rfl rfl<|.cons rfl rfl rfl<|.nil)) rfl rfl ?_; refine jd (rM ((n6 I cs j).1*I.lo) ((n6 I cs j).1*I.hi) ((n6 I cs j).2.1*I.lo) ((n6 I cs j).2.1*I.hi) hco) ?_; refine D2 ?_; refine tO (i6 (fun hp=>I8 (g7 (n6 I cs j).2.2) pl.2.2 (v5 _) hn3.1 (by rw[r9]; omega) zo) (.a rfl uu<|.a rfl uu<|.nil)) rfl rfl ?_
   rw[q8,<- hI3]
   refine i7 ?_; refine Tr.draw 15 n8 (by kernel_rfl) ?_; refine l8 ?_
   rw[hcx zo]
   refine i4 ?_; refine rO (i6 (fun hp=>I8 (g7 (b6 cs (cs.length-1-j))) (g7 ((n6 I cs j).2.2*I.den)) (v5 _) (v5 _) (by rw[r9]; omega) (by rw[r9]; omega)) (.a rfl uu<|.a rfl uu<|.nil)) rfl rfl ?_
   rw[q8,q8]
   refine rO (i6 (fun hp=>DR (g7 (N0 ((n6 I cs j).1*I.lo) ((n6 I cs j).1*I.hi) ((n6 I cs j).2.1*I.lo) ((n6 I cs j).2.1*I.hi))) (g7 ((b6 cs (cs.length-1-j))*((n6 I cs j).2.2*I.den))) (v5 _) (v5 _) (by rw[r9]; omega) (by rw[r9]; omega)) (.a rfl uu<|.a rfl uu<|.nil)) rfl rfl ?_
   rw[q8,q8]
   refine l8 ?_
   rw[hcx zo]
   refine i4 ?_; refine rO (i6 (fun hp=>I8 (g7 (b6 cs (cs.length-1-j))) (g7 ((n6 I cs j).2.2*I.den)) (v5 _) (v5 _) (by rw[r9]; omega) (by rw[r9]; omega)) (.a rfl uu<|.a rfl uu<|.nil)) rfl rfl ?_
   rw[q8,q8]
   refine i4 ?_; refine tO (i6 (fun hp=>DR (g7 (M9 ((n6 I cs j).1*I.lo) ((n6 I cs j).1*I.hi) ((n6 I cs j).2.1*I.lo) ((n6 I cs j).2.1*I.hi))) (g7 ((b6 cs (cs.length-1-j))*((n6 I cs j).2.2*I.den))) (v5 _) (v5 _) (by rw[r9]; omega) (by rw[r9]; omega)) (.a rfl uu<|.a rfl uu<|.nil)) rfl rfl ?_
   rw[q8,q8]
   refine u5 ?_
   exact g6.lp (j+1) zi zo (d6.mk (.r rfl (by rw[GQ zo])<|.r rfl (by rw[GQ zo])<|.r rfl (by rw[GQ zo])<|.i rfl zi<|zk) (.nil) rfl)
  ·intro h4
   replace h4:=Int.not_le.1 h4
   refine g8 ?_
   exact g6.cut (j) zo (d6.mk (.r rfl zi<|.r rfl zi<|.r rfl zi<|.i rfl zi<|zk) (.nil) rfl)
 ·rintro j hjn
  refine je ?_
  rw[hjn,PI]
  refine u9 ?_; exact d9.res (fn:=Tryz.f76) (ts:=[4,5,6]) rfl rfl (.r rfl (by rfl)<|.r rfl (by rfl)<|.r rfl (by rfl)<|.nil)

set_option maxHeartbeats 1000000 in
theorem rQ (f:u8) (pl:AG) (I:Iv) (hI1:I.lo=val pl.1) (hI2:I.hi=val pl.2.1) (hI3:I.den=val pl.2.2) (hn1:w7 pl.1/\pl.1.length<=73000) (hn2:w7 pl.2.1/\pl.2.1.length<=73000) (hn3:w7 pl.2.2/\pl.2.2.length<=73000) (hz:dl I.lo<=73000/\dl I.hi<=73000/\dl I.den<=73000) (hpo:G3 f.1) (hs:∀i,(b6 f.1 i).natAbs<=1000) (hs1:s8 (v8 I.lo I.den f.1).1≠0) (hs2:s8 (v8 (I.lo+I.hi) (I.den*2) f.1).1≠0):Ct Tryz.prog 77 [b7 H5 (f,()),b7 CY pl] (b7 CY (g7 (K6 f.1 I).lo,g7 (K6 f.1 I).hi,g7 (K6 f.1 I).den)):=by
 have hff:((f,()):CQ).1.1.length=f.1.length:=rfl
 have hn5:=hpo.1
 have hlo:E6 1 (f.1.map fun c=>[c]):=WZ (fun i=>Nat.le_trans (hs i) zo) zo
 have ha1:=P3 I.lo I.hi
 have ha2:=s9 I.den 2
 have ha3:=s9 I.lo 2
 have ha4:=s9 I.hi 2
 have ha5:=J6 (F:=2) zo zo
 have hv2:val [2]=2:=I4
 have hhr:=uL hs1 hs2
 refine Ct.mk Tryz.func77 rfl Tryz.ntmps77 rfl (fun w J=>?_); refine g9 ?_; refine jb 2 rfl ?_; refine jb 3 rfl ?_; refine ja 4 ?_; refine i7 ?_; refine Tr.frzB 2 [2] H5 (x:=(f,())) ⟨rfl,trivial⟩ rfl ?_; refine Tr.frzB 3 [3] CY (x:=pl) ⟨rfl,trivial⟩ rfl ?_; refine jn ?_; refine u5 ?_; refine Tr.grow (s:=5) rfl rfl 55 rfl 22 (eL eI) rfl ?_
 refine Tr.for1 (σ:=Nat) [⟨2,true,_,_⟩,⟨3,true,_,_⟩,⟨4,true,_,_⟩] [⟨4,_,_⟩] (fun k=>[⟨5,true,[55],o5 55 k⟩,⟨6,true,[],kI (k:Int)⟩]) (fun k=>[⟨55,[],l3 true 22 (eL eI) ((f.1.map fun c=>[c]).take k) k⟩]) (fun k=>k<=f.1.length) (fun k=>k=f.1.length) (fun k=>f.1.length-k) (0) zi (d6.mk (.o rfl zi rfl<|.i rfl zi<|zk) (.a (by rfl) zi<|zk) rfl) ?_ ?_
 ·intro k hR0
  refine jn ?_; refine y7 ?_; refine jq ?_ ?_
  ·intro h3
   refine u9 ?_; refine tO (M3 eI (fun hp=>.cons rfl<|.nil) rfl rfl rfl rfl) rfl rfl ?_; refine b8.new (w4 (eL eI) 26 (fun hp=>.cons rfl<|.nil) rfl rfl rfl rfl) rfl rfl rfl rfl ?_; refine i4 ?_; refine jl ?_; refine m8 ?_
   exact g6.lp (k+1) zi zo (d6.mk (.o rfl zi rfl<|.i rfl zi<|zk) (.a (YH zo) zi<|zk) rfl)
  ·intro h3
   replace h3:=Int.not_lt.1 h3
   refine g8 ?_
   exact g6.cut (k) zo (d6.mk (.o rfl zi rfl<|.i rfl zi<|zk) (zk) rfl)
 ·rintro k hkn
  refine je ?_
  have htk1:(f.1.map fun c=>[c]).take k=f.1.map fun c=>[c]:=List.take_of_length_le (by rw[List.length_map]; omega)
  rw[htk1]
  refine i7 ?_; refine b8.new (w4 eI 28 (fun hp=>.cons rfl<|.nil) rfl rfl rfl rfl) rfl rfl rfl rfl ?_; refine b8.frz 28 [28] ⟨rfl,trivial⟩ (by decide) rfl ?_; refine jl ?_; refine g8 ?_; refine Tr.draw 8 n8 (by kernel_rfl) ?_; refine g8 ?_; refine jd (DR pl.1 pl.2.1 hn1.1 hn2.1 zo zo) ?_
  rw[<- hI1,<- hI2]
  refine g8 ?_; refine tO (i6 (fun hp=>I8 pl.2.2 [2] hn3.1 VG zo (by show 1<=_; omega)) (.a rfl uu<|.a rfl uu<|.nil)) rfl rfl ?_
  rw[<- hI3,hv2]
  refine l6 ?_; refine Tr.frz 55 [5] ⟨rfl,trivial⟩ (by simp only[p6]; omega) rfl ?_; refine jn ?_; refine i4 ?_
  have hvb1:dl (v8 I.lo I.den f.1).1<=5*73003:=by have:=(IY (p:=f.1) (B:=73000) (C:=1) hpo.2 hz.1 hz.2.2 (k:=f.1.length) (Nat.le_refl _)).1; rw[LT] at this; have h5:f.1.length*(73000+1)<=5*73001:=Nat.mul_le_mul zo zo; omega
  have hvb2:dl (v8 (I.lo+I.hi) (I.den*2) f.1).1<=5*73005:=by have:=(IY (p:=f.1) (B:=73001) (C:=1) (a:=I.lo+I.hi) (d:=I.den*2) hpo.2 zo zo (k:=f.1.length) (Nat.le_refl _)).1; rw[LT] at this; have h5:f.1.length*(73001+1)<=5*73002:=Nat.mul_le_mul zo zo; omega
  refine l8 ?_; refine jc (UE (f.1.map fun c=>[c]) pl.1 pl.2.2 73001 1 hlo (by rw[List.length_map]; omega) ⟨hn1.1,by omega⟩ ⟨hn3.1,by omega⟩ (by rw[<- hI1]; omega) (by rw[<- hI3]; omega) zo zo) ?_
  rw[RJ,<- hI1,<- hI3]
  refine tO (i6 (fun hp=>BI (g7 (v8 I.lo I.den f.1).1) (v5 _) (by rw[r9]; exact Nat.le_trans hvb1 zo)) (.a rfl uu<|.nil)) rfl rfl ?_
  rw[q8]
  refine i7 ?_; refine tO (i6 (fun hp=>UE (f.1.map fun c=>[c]) (g7 (I.lo+I.hi)) (g7 (I.den*2)) 73002 1 hlo (by rw[List.length_map]; omega) ⟨v5 _,by rw[r9]; omega⟩ ⟨v5 _,by rw[r9]; omega⟩ (by rw[q8]; omega) (by rw[q8]; omega) zo zo) (.a rfl uu<|.a rfl uu<|.a rfl uu<|.nil)) rfl rfl ?_
  rw[RJ,q8,q8]
  refine tO (i6 (fun hp=>BI (g7 (v8 (I.lo+I.hi) (I.den*2) f.1).1) (v5 _) (by rw[r9]; exact Nat.le_trans hvb2 zo)) (.a rfl uu<|.nil)) rfl rfl ?_
  rw[q8]
  refine i7 ?_; refine jq ?_ ?_
  ·intro h8
   replace hhr:=hhr.trans (if_pos h8)
   refine l8 ?_; refine tO (i6 (fun hp=>I8 pl.1 [2] hn1.1 VG zo (by show 1<=_; omega)) (.a rfl uu<|.a rfl uu<|.nil)) rfl rfl ?_
   rw[<- hI1,hv2]
   refine g9 ?_; refine tO (A1 (fun hp=>.cons rfl rfl rfl<|.cons rfl rfl rfl<|.cons rfl rfl rfl<|.nil)) rfl rfl ?_; refine l8 ?_; exact d9.resC1 (fn:=Tryz.f77) rfl rfl (t7 rfl (by rw[hhr]))
  ·intro h8
   replace h8:=Classical.not_not.1 h8
   replace hhr:=hhr.trans (if_neg (fun e=>e h8))
   refine j3 ?_; refine tO (i6 (fun hp=>I8 pl.2.1 [2] hn2.1 VG zo (by show 1<=_; omega)) (.a rfl uu<|.a rfl uu<|.nil)) rfl rfl ?_
   rw[<- hI2,hv2]
   refine i4 ?_; refine tO (A1 (fun hp=>.cons rfl rfl rfl<|.cons rfl rfl rfl<|.cons rfl rfl rfl<|.nil)) rfl rfl ?_; refine g8 ?_; exact d9.resC1 (fn:=Tryz.f77) rfl rfl (t7 rfl (by rw[hhr]))

set_option maxHeartbeats 1000000 in
theorem bY (f:u8) (x:y3) (h0:z6 f=0) (hx:y0 560 x) (hvb:E7 540 (j9 f.1 x)):Ct Tryz.prog 25 [b7 H5 (f,()),b7 j8 x] (kI (E0 f.1 (u7 f) (j9 f.1 x))):=by
 obtain ⟨⟨c1,c2,c3⟩,c6⟩:=X5 h0
 have hpo:=Q0 h0
 have hv:B4 f.1 (j9 f.1 x):=EL hpo
 have hvl:=hv.len
 have htl:=R8 (xs:=(j9 f.1 x).1)
 have hml:(l5 (j9 f.1 x)).1.length=(j7 (j9 f.1 x).1).length:=List.length_map ..
 refine Ct.mk Tryz.func25 rfl Tryz.ntmps25 rfl (fun w J=>?_); refine g9 ?_; refine jb 2 rfl ?_; refine jb 3 rfl ?_; refine g8 ?_; refine Tr.frzB 2 [2] H5 (x:=(f,())) ⟨rfl,trivial⟩ rfl ?_; refine jn ?_; refine i7 ?_; refine jc (LE f x 560 hpo c2 hx zo) ?_; refine l8 ?_; refine Tr.frzB 3 [3] j8 (x:=l5 (j9 f.1 x)) ⟨rfl,trivial⟩ rfl ?_; refine jn ?_; refine j6 ?_; refine jq ?_ ?_
 ·intro h2
  have hr:=lQ hvl zo
  have hz0:b6 (j9 f.1 x).1 0=0:=by rw[<- S7,v6 zo]; rfl
  have hsv:E0 f.1 (u7 f) (j9 f.1 x)=0:=by rw[RZ hr,hz0]; rfl
  refine j6 ?_; exact d9.res1 (fn:=Tryz.f25) rfl (.i rfl (by rw[hsv])<|.nil)
 ·intro h2
  refine y7 ?_; refine jq ?_ ?_
  ·intro h4
   have hr:=lQ hvl zo
   have hsv:E0 f.1 (u7 f) (j9 f.1 x)=r7 (b6 (j9 f.1 x).1 0) 0:=RZ hr
   have hn0:b6 (l5 (j9 f.1 x)).1 0=g7 (b6 (j7 (j9 f.1 x).1) 0):=WR zo
   refine g8 ?_; refine tO (F2 (i:=0) rfl uu rfl uu rfl (fun _=>zo)) rfl rfl ?_; refine i4 ?_
   rw[hn0]
   refine tO (i6 (fun hp=>BI (g7 (b6 (j7 (j9 f.1 x).1) 0)) (v5 _) (by rw[r9,S7]; exact Nat.le_trans (hvb.c 0) zo)) (.a rfl uu<|.nil)) rfl rfl ?_
   rw[q8,S7]
   refine l8 ?_; exact d9.res1 (fn:=Tryz.f25) rfl (.i rfl (by rw[hsv])<|.nil)
  ·intro h4
   have hbig:=ag4 hv zo
   have hf:=VA h0 hbig.2
   obtain ⟨K,q1,q2,q3⟩:=hf.bound (M:=540) (cs:=(j9 f.1 x).1.take (f.1.length-1)) (by rw[List.length_take]; omega) (iW hbig.2 hv hbig.1).2 (fun c hc=>by obtain ⟨i,hi,rfl⟩:=List.mem_iff_getElem.1 hc; have e:((j9 f.1 x).1.take (f.1.length-1))[i]=b6 (j9 f.1 x).1 i:=(by rw[List.length_take] at hi; rw[List.getElem_take]; have:i<(j9 f.1 x).1.length:=zo; simp[b6,this]); rw[e]; exact hvb.c i) zo zo
   have hsF:E0 f.1 (u7 f) (j9 f.1 x)=Z4 f.1 (u7 f) ((j9 f.1 x).1.take (f.1.length-1)):=if_neg hbig.1
   refine j6 ?_; refine tO (M3 eI (fun hp=>.cons rfl<|.nil) rfl rfl rfl rfl) rfl rfl ?_; refine i7 ?_; refine tO (M3 eI (fun hp=>.cons rfl<|.nil) rfl rfl rfl rfl) rfl rfl ?_; refine i7 ?_; refine tO (M3 eI (fun hp=>.cons rfl<|.nil) rfl rfl rfl rfl) rfl rfl ?_; refine tO (A1 (fun hp=>.cons rfl rfl rfl<|.cons rfl rfl rfl<|.cons rfl rfl rfl<|.nil)) rfl rfl ?_; refine ja 5 ?_; refine i7 ?_
   refine Tr.for1 (σ:=Nat) [⟨2,true,_,_⟩,⟨3,true,_,_⟩,⟨5,true,_,_⟩] [] (fun k=>[]) (fun k=>[⟨5,[],j5 [b7 (eL eI) (T0 (f.2.1,f.2.2.1,f.2.2.2) (i2 f.1 (u7 f) (k)) (k)).1,b7 (eL eI) (T0 (f.2.1,f.2.2.1,f.2.2.2) (i2 f.1 (u7 f) (k)) (k)).2.1,b7 (eL eI) (T0 (f.2.1,f.2.2.1,f.2.2.2) (i2 f.1 (u7 f) (k)) (k)).2.2]⟩]) (fun k=>k<=K) (fun k=>False) (fun k=>K-k) (0) zi (d6.mk (zk) (.e (by rfl) rfl<|.nil) rfl) ?_ ?_
   ·intro k hR0
    refine jn ?_
    have hz:=q3 k hR0
    have pv:=yJ (f:=f) (k:=k)
    have pin:=yI c3 zo hz
    have hst:=ac3 hv c1.2 hf.iv (k:=k)
    have hip:=(Y0 hf.iv (p:=f.1) (k:=k)).pos
    have heb:=LM (I:=(i2 f.1 (u7 f) k)) (A:=73000) (C:=540) hz.1 hz.2.1 hz.2.2 (fun i=>by rw[S7]; exact hvb.c i) (cs:=(j7 (j9 f.1 x).1)) (k:=(j7 (j9 f.1 x).1).length) (Nat.le_refl _)
    rw[PI] at heb
    have hj5:(j7 (j9 f.1 x).1).length*(73000+1)<=4*73001:=Nat.mul_le_mul zo zo
    refine l6 ?_; refine jc (rP (j7 (j9 f.1 x).1) (T0 (f.2.1,f.2.2.1,f.2.2.2) (i2 f.1 (u7 f) (k)) (k)) (i2 f.1 (u7 f) k) pv.1 pv.2.1 pv.2.2 pin.1 pin.2.1 pin.2.2 hz zo (fun i=>by rw[S7]; exact hvb.c i)) ?_; refine D2 ?_; refine tO (i6 (fun hp=>BI (g7 (enc (i2 f.1 (u7 f) k) (j7 (j9 f.1 x).1)).1) (v5 _) (by rw[r9]; omega)) (.a rfl uu<|.nil)) rfl rfl ?_
    rw[q8]
    refine i7 ?_; refine jq ?_ ?_
    ·intro h8
     have hsv:E0 f.1 (u7 f) (j9 f.1 x)=1:=by rw[hsF]; exact kJ (hst.1.1 (CT.1 h8))
     refine y7 ?_; exact d9.res1 (fn:=Tryz.f25) rfl (.i rfl (by rw[hsv])<|.nil)
    ·intro h8
     replace h8:=Int.not_lt.1 h8
     have hn8:¬0<(enc (i2 f.1 (u7 f) k) (j7 (j9 f.1 x).1)).1:=fun e=>absurd (CT.2 e) zo
     refine l6 ?_; refine tO (i6 (fun hp=>BI (g7 (enc (i2 f.1 (u7 f) k) (j7 (j9 f.1 x).1)).2.1) (v5 _) (by rw[r9]; omega)) (.a rfl uu<|.nil)) rfl rfl ?_
     rw[q8]
     refine i7 ?_; refine jq ?_ ?_
     ·intro h10
      have hsv:E0 f.1 (u7 f) (j9 f.1 x)=-1:=by rw[hsF]; exact kH hf.iv (hst.2.1 (FB.1 h10))
      refine y7 ?_; exact d9.res1 (fn:=Tryz.f25) rfl (.i rfl (by rw[hsv])<|.nil)
     ·intro h10
      replace h10:=Int.not_lt.1 h10
      have hn10:¬(enc (i2 f.1 (u7 f) k) (j7 (j9 f.1 x).1)).2.1<0:=fun e=>absurd (FB.2 e) zo
      have hkK:k<K:=Classical.byContradiction fun e=>(q2 k zo).elim (fun e=>hn8 (hst.1.2 e)) (fun e=>hn10 (hst.2.2 e))
      refine l8 ?_; refine tO (i6 (fun hp=>rQ f (T0 (f.2.1,f.2.2.1,f.2.2.2) (i2 f.1 (u7 f) (k)) (k)) (i2 f.1 (u7 f) k) pv.1 pv.2.1 pv.2.2 pin.1 pin.2.1 pin.2.2 hz hpo c2 (kK (hf.noroot _ _ hip)) (kK (hf.noroot _ _ zo))) (.a rfl uu<|.se rfl uu rfl rfl<|.nil)) rfl rfl ?_; refine i7 ?_; exact g6.lp (k+1) zo zo (d6.mk (zk) (.e (by rfl) rfl<|.nil) rfl)
   ·intro k hE0
    exact hE0.elim

theorem qZ (f:u8) (x y:y3) (h0:z6 f=0) (hx:y0 250 x) (hy:y0 250 y):Ct Tryz.prog 26 [b7 H5 (f,()),b7 j8 x,b7 j8 y] (kI (E0 f.1 (u7 f) (H0 (j9 f.1 x) (j9 f.1 y)))):=by
 obtain ⟨⟨c1,c2,c3⟩,c6⟩:=X5 h0
 have hpo:=Q0 h0
 have nb:=ae8 (T3 hpo hx) (T3 hpo hy)
 have rz:B4 f.1 (H0 (j9 f.1 x) (j9 f.1 y)):=YA (EL hpo) (EL hpo)
 have htg:=AX rz
 refine Ct.mk Tryz.func26 rfl Tryz.ntmps26 rfl (fun w J=>?_); refine g9 ?_; refine jb 3 rfl ?_; refine jb 4 rfl ?_; refine jb 5 rfl ?_; refine g8 ?_; refine Tr.frzB 3 [3] H5 (x:=(f,())) ⟨rfl,trivial⟩ rfl ?_; refine Tr.frzB 4 [4] j8 (x:=x) ⟨rfl,trivial⟩ rfl ?_; refine Tr.frzB 5 [5] j8 (x:=y) ⟨rfl,trivial⟩ rfl ?_; refine jn ?_; refine Tr.draw 5 n8 (by kernel_rfl) ?_; refine g8 ?_; refine jd (cA f x y 250 hpo c2 hx hy zo) ?_; refine i4 ?_; refine jc (bY f (l5 (H0 (j9 f.1 x) (j9 f.1 y))) h0 ((X8 nb).mono zo) (by rw[htg]; exact nb.mono zo)) ?_
 refine g8 ?_; exact d9.res1 (fn:=Tryz.f26) rfl (.i rfl (by rw[htg])<|.nil)

end Go.Fl

/- Sums of lengths in any order; orbits. No program in sight. -/
namespace Go.Fl
open Go
end Go.Fl

/- Contracts: exchanges of the reference: errors, places, shifts. -/
namespace Go.Fl
open Go Go.Proofs
open b8 renaming op->tO
open j1 renaming op->rO
set_option maxRecDepth 100000

def BC (x:y3):Prop:=(∀i,w7 (b6 x.1 i))/\w7 x.2
def Z6 (x:y3) (k:Nat):Bool:=decide (x.1.length<=6)&&decide (x.2.length<=k)&&x.1.all fun c=>decide (c.length<=k)
theorem ac9 {x:y3} {k:Nat} (h:Z6 x k=true) (hi:BC x):y0 k x:=by
 unfold Z6 at h
 simp only[Bool.and_eq_true,decide_eq_true_eq,List.all_eq_true] at h
 obtain ⟨⟨h1,h2⟩,h3⟩:=h
 refine ⟨h1,fun i=>⟨hi.1 i,?_⟩,hi.2,h2⟩
 by_cases hl:i<x.1.length
 ·exact h3 _ (G1 hl)
 ·rw[v6 zo]; exact Nat.zero_le _
def DI (x:o0):Bool:=decide (x.2.1.length<=12)&&decide (x.2.2.1.length<=12)&&decide (x.2.2.2.length<=12)&&decide (x.1.1.length<=8)&&x.2.2.2.all fun l=>Z6 l 2
structure U3 (x:o0):Prop where
 top:x.2.1.length<=12
 bot:x.2.2.1.length<=12
 len:x.2.2.2.length<=12
 num:∀a,y0 2 (b6 x.2.2.2 a)
theorem WU {k:Nat}:y0 k ([],[]):=⟨by simp,fun i=>⟨by rw[QP]; exact BQ,by rw[QP]; exact Nat.zero_le _⟩,BQ,Nat.zero_le _⟩
theorem ad6 {x:o0} (h:DI x=true) (hi:∀a,BC (b6 x.2.2.2 a)):U3 x:=by
 unfold DI at h
 simp only[Bool.and_eq_true,decide_eq_true_eq,List.all_eq_true] at h
 obtain ⟨⟨⟨⟨h1,h2⟩,h3⟩,h4⟩,h5⟩:=h
 refine ⟨h1,h2,h3,fun a=>?_⟩
 by_cases ha:a<x.2.2.2.length
 ·exact ac9 (h5 _ (G1 ha)) (hi a)
 ·rw[v6 zo]; exact WU
noncomputable abbrev r8 (x:o0):n7->Int:=E0 x.1.1 (u7 x.1)
abbrev p7 (x:o0):List n7:=x.2.2.2.map (j9 x.1.1)
structure Q7 (x:o0):Prop where
 fld:z6 x.1=0
 rows:E2 (x.2.1,x.2.2.1)
 len:x.2.2.2.length=x.2.1.length
 num:∀a,a<x.2.1.length->y0 250 (b6 x.2.2.2 a)
 pos:∀a,a<x.2.1.length->0<r8 x (j9 x.1.1 (b6 x.2.2.2 a))
open Classical in
noncomputable def E9 (x:o0):Int:=if z6 x.1≠0 then z6 x.1 else if H3 (x.2.1,x.2.2.1)≠0 then H3 (x.2.1,x.2.2.1) else if x.2.2.2.length≠x.2.1.length then 10 else if ∀a,a<x.2.2.2.length->0<r8 x (j9 x.1.1 (b6 x.2.2.2 a)) then 0 else 12
theorem aE {x:o0} (h:E9 x=0) (hs:U3 x):Q7 x:=by
 unfold E9 at h
 by_cases c1:z6 x.1=0
 ·rw[if_neg (fun e=>e c1)] at h
  by_cases c2:H3 (x.2.1,x.2.2.1)=0
  ·rw[if_neg (fun e=>e c2)] at h
   by_cases c3:x.2.2.2.length=x.2.1.length
   ·rw[if_neg (fun e=>e c3)] at h
    by_cases c4:∀a,a<x.2.2.2.length->0<r8 x (j9 x.1.1 (b6 x.2.2.2 a))
    ·exact ⟨c1,MV c2,c3,fun a _=>(hs.num a).mono zo,fun a ha=>c4 a zo⟩
    ·rw[if_neg c4] at h; exact absurd h (by decide)
   ·rw[if_pos c3] at h; exact absurd h (by decide)
  ·rw[if_pos c2] at h; exact absurd h c2
 ·rw[if_pos c1] at h; exact absurd h c1
theorem pI (x:y3) (k:Nat):Ct Tryz.prog 14 [b7 j8 x,kI (k:Int)] (kB (Z6 x k)):=by
 refine Ct.mk Tryz.func14 rfl Tryz.ntmps14 rfl (fun w J=>?_); refine g9 ?_; refine jb 2 rfl ?_; refine l8 ?_; refine Tr.frzB 2 [2] j8 (x:=x) ⟨rfl,trivial⟩ rfl ?_; refine jn ?_; refine C7 ?_; refine Tr.cnd rfl ?_ ?_
 ·intro h1
  have hr:Z6 x k=false:=by simp at h1; unfold Z6; simp; omega
  refine j6 ?_; exact d9.res1 (fn:=Tryz.f14) rfl (.b rfl (by rw[hr])<|.nil)
 ·intro h1
  have h12:x.1.length<=6/\x.2.length<=k:=by simp at h1; omega
  refine j3 ?_
  refine Tr.for1 (σ:=Nat) [⟨1,true,_,_⟩,⟨2,true,_,_⟩] [] (fun i=>[⟨5,true,[],kI (i:Int)⟩]) (fun i=>[]) (fun i=>i<=x.1.length/\∀j,j<i->(b6 x.1 j).length<=k) (fun i=>∀j,j<x.1.length->(b6 x.1 j).length<=k) (fun i=>x.1.length-i) (0) ⟨by omega,fun j h=>absurd h (Nat.not_lt_zero _)⟩ (d6.mk (.i rfl zi<|zk) (.nil) rfl) ?_ ?_
  ·rintro i ⟨hi,hR⟩
   refine jn ?_; refine u5 ?_; refine jq ?_ ?_
   ·intro h4
    refine S6 ?_; refine jq ?_ ?_
    ·intro h6
     have hr:Z6 x k=false:=by unfold Z6; simp only[Bool.and_eq_false_iff,List.all_eq_false,decide_eq_true_eq]; exact .inr ⟨b6 x.1 i,G1 zo,by omega⟩
     refine u9 ?_; exact d9.res1 (fn:=Tryz.f14) rfl (.b rfl (by rw[hr])<|.nil)
    ·intro h6
     replace h6:=Int.not_lt.1 h6
     have hok:(b6 x.1 i).length<=k:=by omega
     refine j3 ?_
     exact g6.lp (i+1) ⟨by omega,fun j hj=>by by_cases e:j=i; (rw[e]; exact hok); exact hR j zo⟩ zo (d6.mk (.i rfl zi<|zk) (.nil) rfl)
   ·intro h4
    replace h4:=Int.not_lt.1 h4
    refine g8 ?_
    exact g6.cut (i) (fun j hj=>hR j zo) (d6.mk (.i rfl zi<|zk) (.nil) rfl)
  ·intro i hE
   refine je ?_
   have hr:Z6 x k=true:=by unfold Z6; simp only[Bool.and_eq_true,decide_eq_true_eq,List.all_eq_true]; exact ⟨h12,fun c hc=>by obtain ⟨j,hj,rfl⟩:=List.mem_iff_getElem.1 hc; have:=hE j hj; have e:b6 x.1 j=x.1[j]:=(by simp[b6,hj]); rw[e] at this; exact this⟩
   refine j6 ?_; exact d9.res1 (fn:=Tryz.f14) rfl (.b rfl (by rw[hr])<|.nil)

theorem aT (a b:List y3):Ct Tryz.prog 22 [b7 (eL j8) a,b7 (eL j8) b] (kB (decide (a=b))):=by
 refine Ct.mk Tryz.func22 rfl Tryz.ntmps22 rfl (fun w J=>?_); refine Tr.fact (s:=0) rfl (fun _ _ h=>U9 h) (fun hb=>?_); refine L4 ?_; refine jq ?_ ?_
 ·intro h1
  have hne:a≠b:=fun e=>h1 (by rw[e])
  refine j6 ?_; exact d9.res1 (fn:=Tryz.f22) rfl (.b rfl (by symm; rw[decide_eq_false_iff_not]; exact hne)<|.nil)
 ·intro h1
  replace h1:=Classical.not_not.1 h1
  have hll:a.length=b.length:=by omega
  refine j3 ?_
  refine Tr.for1 (σ:=Nat) [⟨0,true,_,_⟩,⟨1,true,_,_⟩] [] (fun k=>[⟨5,true,[],kI (k:Int)⟩]) (fun k=>[]) (fun k=>k<=a.length/\∀i,i<k->b6 a i=b6 b i) (fun k=>∀i,i<a.length->b6 a i=b6 b i) (fun k=>a.length-k) (0) ⟨Nat.zero_le _,fun i h=>absurd h (Nat.not_lt_zero _)⟩ (d6.mk (.i rfl zi<|zk) (.nil) rfl) ?_ ?_
  ·rintro k ⟨hk,hR⟩
   refine jn ?_; refine m8 ?_; refine jq ?_ ?_
   ·intro h4
    refine l8 ?_; refine Tr.draw 8 n8 (by kernel_rfl) ?_; refine m8 ?_; refine jc (pH (b6 a k) (b6 b k)) ?_; refine i7 ?_; refine Tr.cnd rfl ?_ ?_
    ·intro h6
     have hne:a≠b:=fun e=>by subst e; simp at h6
     refine u9 ?_; exact d9.res1 (fn:=Tryz.f22) rfl (.b rfl (by symm; rw[decide_eq_false_iff_not]; exact hne)<|.nil)
    ·intro h6
     have hkk:b6 a k=b6 b k:=by simpa using h6
     refine j3 ?_
     exact g6.lp (k+1) ⟨by omega,fun i hi=>by by_cases e:i=k; (rw[e]; exact hkk); exact hR i zo⟩ zo (d6.mk (.i rfl zi<|zk) (.nil) rfl)
   ·intro h4
    replace h4:=Int.not_lt.1 h4
    refine g8 ?_
    exact g6.cut (k) (fun i hi=>hR i zo) (d6.mk (.i rfl zi<|zk) (.nil) rfl)
  ·rintro k hE
   refine je ?_; refine j6 ?_; exact d9.res1 (fn:=Tryz.f22) rfl (.b rfl (by symm; rw[decide_eq_true_eq]; exact D1 hll hE)<|.nil)

theorem LF (x:o0):Ct Tryz.prog 65 [b7 eX x] (b7 eO (x.2.1,x.2.2.1)):=by
 refine Ct.mk Tryz.func65 rfl Tryz.ntmps65 rfl (fun w J=>?_); refine g9 ?_; refine jb 1 rfl ?_; refine ja 2 ?_; refine j3 ?_; refine tO (A1 (fun hp=>.cons rfl rfl rfl<|.cons rfl rfl rfl<|.nil)) rfl rfl ?_; refine g8 ?_; exact d9.resC1 (fn:=Tryz.f65) rfl rfl (t7 rfl (by rfl))

theorem sM (r:q7):Ct Tryz.prog 52 [b7 eO r] (kB (decide (r.1.length<=12)&&decide (r.2.length<=12))):=by
 refine Ct.mk Tryz.func52 rfl Tryz.ntmps52 rfl (fun w J=>?_); refine g9 ?_; refine jb 1 rfl ?_; refine g8 ?_; refine Tr.frzB 1 [1] eO (x:=r) ⟨rfl,trivial⟩ rfl ?_; refine jn ?_; refine L4 ?_; exact d9.res1 (fn:=Tryz.f52) rfl (.b rfl (by congr 1<;>exact decide_eq_decide.2 zo)<|.nil)

theorem sK (x:o0):Ct Tryz.prog 13 [b7 eX x] (kB (DI x)):=by
 refine Ct.mk Tryz.func13 rfl Tryz.ntmps13 rfl (fun w J=>?_); refine g9 ?_; refine jb 1 rfl ?_; refine l8 ?_; refine Tr.frzB 1 [1] eX (x:=x) ⟨rfl,trivial⟩ rfl ?_; refine jn ?_; refine g9 ?_; refine tO (i6 (fun hp=>LF _) (.a rfl uu<|.nil)) rfl rfl ?_; refine tO (i6 (fun hp=>sM _) (.a rfl uu<|.nil)) rfl rfl ?_; refine S6 ?_; refine Tr.cnd rfl ?_ ?_
 ·intro h1
  have hr:DI x=false:=by simp at h1; unfold DI; simp only[Bool.and_eq_false_iff,decide_eq_false_iff_not]; omega
  refine j6 ?_; exact d9.res1 (fn:=Tryz.f13) rfl (.b rfl (by rw[hr])<|.nil)
 ·intro h1
  have h12:((x.2.1.length<=12/\x.2.2.1.length<=12)/\x.2.2.2.length<=12)/\x.1.1.length<=8:=by simp at h1; omega
  refine j3 ?_
  refine Tr.for1 (σ:=Nat) [⟨1,true,_,_⟩] [] (fun i=>[⟨3,true,[],kI (i:Int)⟩]) (fun i=>[]) (fun i=>i<=x.2.2.2.length/\∀j,j<i->Z6 (b6 x.2.2.2 j) 2=true) (fun i=>∀j,j<x.2.2.2.length->Z6 (b6 x.2.2.2 j) 2=true) (fun i=>x.2.2.2.length-i) (0) ⟨by omega,fun j h=>absurd h (Nat.not_lt_zero _)⟩ (d6.mk (.i rfl zi<|zk) (.nil) rfl) ?_ ?_
  ·rintro i ⟨hi,hR⟩
   refine jn ?_; refine u5 ?_; refine jq ?_ ?_
   ·intro h4
    refine y7 ?_; refine jc (pI (b6 x.2.2.2 i) 2) ?_; refine i7 ?_; refine Tr.cnd rfl ?_ ?_
    ·intro h6
     have hr:DI x=false:=by unfold DI; simp only[Bool.and_eq_false_iff,List.all_eq_false]; exact .inr ⟨b6 x.2.2.2 i,G1 zo,by simpa using h6⟩
     refine u9 ?_; exact d9.res1 (fn:=Tryz.f13) rfl (.b rfl (by rw[hr])<|.nil)
    ·intro h6
     have hok:Z6 (b6 x.2.2.2 i) 2=true:=by simpa using h6
     refine j3 ?_
     exact g6.lp (i+1) ⟨by omega,fun j hj=>by by_cases e:j=i; (rw[e]; exact hok); exact hR j zo⟩ zo (d6.mk (.i rfl zi<|zk) (.nil) rfl)
   ·intro h4
    replace h4:=Int.not_lt.1 h4
    refine g8 ?_
    exact g6.cut (i) (fun j hj=>hR j zo) (d6.mk (.i rfl zi<|zk) (.nil) rfl)
  ·intro i hE
   refine je ?_
   have hr:DI x=true:=by unfold DI; simp only[Bool.and_eq_true,decide_eq_true_eq,List.all_eq_true]; exact ⟨h12,fun c hc=>by obtain ⟨j,hj,rfl⟩:=List.mem_iff_getElem.1 hc; have:=hE j hj; have e:b6 x.2.2.2 j=x.2.2.2[j]:=(by simp[b6,hj]); rw[e] at this; exact this⟩
   refine j6 ?_; exact d9.res1 (fn:=Tryz.f13) rfl (.b rfl (by rw[hr])<|.nil)

end Go.Fl

/- Contracts: exchanges of the reference: errors, places, shifts, orbits. -/
namespace Go.Fl
open Go Go.Proofs
open b8 renaming op->tO
open j1 renaming op->rO
set_option maxRecDepth 100000

theorem rW (x:o0) (h0:z6 x.1≠0):Ct Tryz.prog 17 [b7 eX x] (kI (E9 x)):=by
 refine Ct.mk Tryz.func17 rfl Tryz.ntmps17 rfl (fun w J=>?_); refine g9 ?_; refine jb 1 rfl ?_; refine g8 ?_; refine Tr.frzB 1 [1] eX (x:=x) ⟨rfl,trivial⟩ rfl ?_; refine jn ?_; refine i7 ?_; refine jc (rE x.1 h0) ?_; refine i7 ?_; refine ja 3 ?_; refine y7 ?_; refine Tr.cnd rfl ?_ ?_
 ·intro h2
  refine j3 ?_; exact d9.res1 (fn:=Tryz.f17) rfl (.i rfl (by unfold E9; rw[if_pos h0])<|.nil)
 ·intro h2
  exact absurd (of_decide_eq_false h2) (fun e=>e h0)

theorem rX (x:o0) (h0:z6 x.1=0) (hsm:U3 x):Ct Tryz.prog 17 [b7 eX x] (kI (E9 x)):=by
 have he1:=(if_neg (fun e=>e h0):E9 x=_)
 have hpo:=Q0 h0
 have hsl:=hsm.len
 have hpo:=Q0 h0
 refine Ct.mk Tryz.func17 rfl Tryz.ntmps17 rfl (fun w J=>?_); refine g9 ?_; refine jb 1 rfl ?_; refine g8 ?_; refine Tr.frzB 1 [1] eX (x:=x) ⟨rfl,trivial⟩ rfl ?_; refine jn ?_; refine i7 ?_; refine jc (bW x.1 h0) ?_; refine i7 ?_; refine ja 3 ?_; refine y7 ?_; refine Tr.cnd rfl ?_ ?_
 ·intro h2
  exact absurd h2 (by decide)
 ·intro h2
  refine l6 ?_; refine tO (i6 (fun hp=>LF _) (.a rfl uu<|.nil)) rfl rfl ?_; refine jc (bS (x.2.1,x.2.2.1)) ?_; refine m8 ?_; refine jq ?_ ?_
  ·intro h5
   have hr:E9 x=H3 (x.2.1,x.2.2.1):=he1.trans (if_pos h5)
   refine j3 ?_; exact d9.res1 (fn:=Tryz.f17) rfl (.i rfl (by rw[hr])<|.nil)
  ·intro h5
   replace h5:=Classical.not_not.1 h5
   have he2:=he1.trans (if_neg (fun e=>e h5))
   refine C7 ?_; refine jq ?_ ?_
   ·intro h7
    have hr:E9 x=10:=he2.trans (if_pos zo)
    refine j6 ?_; exact d9.res1 (fn:=Tryz.f17) rfl (.i rfl (by rw[hr])<|.nil)
   ·intro h7
    replace h7:=Classical.not_not.1 h7
    have he3:=he2.trans (if_neg zo)
    refine j3 ?_
    refine Tr.for1 (σ:=Nat) [⟨1,true,_,_⟩,⟨3,true,_,_⟩] [⟨3,_,_⟩] (fun i=>[⟨6,true,[],kI (i:Int)⟩]) (fun i=>[]) (fun i=>i<=x.2.2.2.length/\∀j,j<i->0<E0 x.1.1 (u7 x.1) (j9 x.1.1 (b6 x.2.2.2 j))) (fun i=>∀j,j<x.2.2.2.length->0<E0 x.1.1 (u7 x.1) (j9 x.1.1 (b6 x.2.2.2 j))) (fun i=>x.2.2.2.length-i) (0) ⟨by omega,fun j h=>absurd h (Nat.not_lt_zero _)⟩ (d6.mk (.i rfl zi<|zk) (zk) rfl) ?_ ?_
    ·rintro i ⟨hi,hR⟩
     refine jn ?_; refine u5 ?_; refine jq ?_ ?_
     ·intro h10
      refine l8 ?_; refine Tr.draw 6 n8 (by kernel_rfl) ?_; refine j6 ?_; refine jc (bY x.1 (b6 x.2.2.2 i) h0 ((hsm.num i).mono zo) ((T3 hpo (hsm.num i)).mono zo)) ?_; refine i7 ?_; refine jq ?_ ?_
      ·intro h12
       have hr:E9 x=12:=he3.trans (if_neg (fun e=>by have e2:0<E0 x.1.1 (u7 x.1) (j9 x.1.1 (b6 x.2.2.2 i)):=e i zo; omega))
       refine u9 ?_; exact d9.res1 (fn:=Tryz.f17) rfl (.i rfl (by rw[hr])<|.nil)
      ·intro h12
       replace h12:=Int.not_le.1 h12
       have hok:0<E0 x.1.1 (u7 x.1) (j9 x.1.1 (b6 x.2.2.2 i)):=by omega
       refine j3 ?_
       exact g6.lp (i+1) ⟨by omega,fun j hj=>by by_cases e:j=i; (rw[e]; exact hok); exact hR j zo⟩ zo (d6.mk (.i rfl zi<|zk) (zk) rfl)
     ·intro h10
      replace h10:=Int.not_lt.1 h10
      refine g8 ?_
      exact g6.cut (i) (fun j hj=>hR j zo) (d6.mk (.i rfl zi<|zk) (zk) rfl)
    ·intro i hE
     refine je ?_
     have hr:E9 x=0:=he3.trans (if_pos hE)
     refine j6 ?_; exact d9.res1 (fn:=Tryz.f17) rfl (.i rfl (by rw[hr])<|.nil)

theorem cI (x:o0) (h0:z6 x.1=0):Ct Tryz.prog 71 [b7 eX x] (b7 H5 (x.1,())):=by
 refine Ct.mk Tryz.func71 rfl Tryz.ntmps71 rfl (fun w J=>?_); refine g9 ?_; refine jb 1 rfl ?_; refine ja 2 ?_; refine i7 ?_; refine Tr.frzB 1 [1] eX (x:=x) ⟨rfl,trivial⟩ rfl ?_; refine jn ?_; refine i7 ?_; refine jc (bW x.1 h0) ?_; refine i7 ?_; refine ja 3 ?_; refine y7 ?_; exact d9.resC1 (fn:=Tryz.f71) rfl rfl (t7 rfl (by rfl))

end Go.Fl

/- Contracts: shifts, letters and orbits of the reference. -/
namespace Go.Fl
open Go Go.Proofs
open b8 renaming op->tO
open j1 renaming op->rO
set_option maxRecDepth 100000

abbrev oX (x:o0):q7:=(x.2.1,x.2.2.1)
end Go.Fl

/- Contracts: open with its errors; orbits. -/
namespace Go.Fl
open Go Go.Proofs
open b8 renaming op->tO
open j1 renaming op->rO
set_option maxRecDepth 100000

theorem rV (x:o0) (hsm:U3 x):Ct Tryz.prog 17 [b7 eX x] (kI (E9 x)):=by
 by_cases h0:z6 x.1=0
 ·exact rX x h0 hsm
 ·exact rW x h0
noncomputable abbrev QK (x:o0):CO:=Y1 (N5 x.1) (oX x) (p7 x)
theorem sN (x:o0) (D:Int) (M:Nat) (hx:Q7 x) (hlo:H2 x.1.1 D M x.2.1.length (p7 x)):Ct Tryz.prog 66 [b7 eX x] (z9 [s6 R0 (QK x),kI 0]) :=
 sO x (N5 x.1) (r8 x) D M (aZ _ hx.fld) (Q0 hx.fld) (XW hx.fld) hx.rows hx.len (fun a h=>(hx.num a h).mono zo) hlo hx.pos
theorem sA (f:u8) (p:y3) (h0:z6 f=0) (hp:y0 250 p):Ct Tryz.prog 82 [s6 A7 (N5 f),b7 j8 p] (kI (E0 f.1 (u7 f) (j9 f.1 p))):=(XW h0).sign p hp
theorem pP (f:u8) (p q:y3) (h0:z6 f=0) (hp:y0 250 p) (hq:y0 250 q):Ct Tryz.prog 83 [s6 A7 (N5 f),b7 j8 p,b7 j8 q] (kI (E0 f.1 (u7 f) (H0 (j9 f.1 p) (j9 f.1 q)))):=(XW h0).cmp p q hp hq
theorem qR (f:u8) (p:y3) (h0:z6 f=0) (hp:y0 250 p):Ct Tryz.prog 69 [s6 A7 (N5 f),b7 j8 p] (b7 j8 (l5 (j9 f.1 p))):=aY (N5 f) p 250 (Q0 h0) hp zo
theorem sQ (x:o0) (h0:z6 x.1≠0):Ct Tryz.prog 66 [b7 eX x] (z9 [i9 (.pointer none),kI (E9 x)]):=by
 refine Ct.mk Tryz.func66 rfl Tryz.ntmps66 rfl (fun w J=>?_); refine g9 ?_; refine jb 1 rfl ?_; refine j3 ?_; refine jc (pZ x.1 h0) ?_; refine C7 ?_; refine Tr.cnd rfl ?_ ?_
 ·intro h2
  refine m8 ?_; exact d9.res (fn:=Tryz.f66) (ts:=[2,3]) rfl rfl (.k rfl<|.i rfl (by unfold E9; rw[if_pos h0])<|.nil)
 ·intro h2
  exact absurd (of_decide_eq_false h2) (fun e=>e h0)

set_option maxHeartbeats 1000000 in
theorem sR (x:o0) (h0:z6 x.1=0) (hsm:U3 x) (hne:E9 x≠0):Ct Tryz.prog 66 [b7 eX x] (z9 [i9 (.pointer none),kI (E9 x)]):=by
 have he1:=(if_neg (fun e=>e h0):E9 x=_)
 have hpo:=Q0 h0
 have ht1:=hsm.top
 have ht2:=hsm.bot
 have ht3:=hsm.len
 obtain ⟨ls,hls⟩:∃ls,ls=p7 x:=⟨_,rfl⟩
 have hll:ls.length=x.2.2.2.length:=by rw[hls,List.length_map]
 have hnk:∀k,k<x.2.2.2.length->b6 ls k=j9 x.1.1 (b6 x.2.2.2 k):=fun k hk=>by rw[hls]; exact MF hk
 refine Ct.mk Tryz.func66 rfl Tryz.ntmps66 rfl (fun w J=>?_); refine g9 ?_; refine jb 1 rfl ?_; refine j3 ?_; refine jc (aZ x.1 h0) ?_; refine C7 ?_; refine Tr.cnd rfl ?_ ?_
 ·intro h2
  exact absurd h2 (by decide)
 ·intro h2
  refine l6 ?_; refine tO (i6 (fun hp=>OV _) (.s rfl uu rfl<|.nil)) rfl rfl ?_; refine tO (i6 (fun hp=>TZ _) (.a rfl uu<|.nil)) rfl rfl ?_; refine m8 ?_; refine jq ?_ ?_
  ·intro h5
   have hr:E9 x=H3 (x.2.1,x.2.2.1):=he1.trans (if_pos h5)
   refine m8 ?_
   exact d9.res (fn:=Tryz.f66) (ts:=[2,3]) rfl rfl (.k rfl<|.i rfl zi<|.nil)
  ·intro h5
   replace h5:=Classical.not_not.1 h5
   have he2:=he1.trans (if_neg (fun e=>e h5))
   refine C7 ?_; refine jq ?_ ?_
   ·intro h7
    have hr:E9 x=10:=he2.trans (if_pos zo)
    refine j3 ?_; exact d9.res (fn:=Tryz.f66) (ts:=[2,3]) rfl rfl (.k rfl<|.i rfl (by rw[hr])<|.nil)
   ·intro h7
    replace h7:=Classical.not_not.1 h7
    have he3:=he2.trans (if_neg zo)
    refine l6 ?_; refine tO (i6 (fun hp=>OV _) (.s rfl uu rfl<|.nil)) rfl rfl ?_; refine tO (i6 (fun hp=>TX _ (by show x.2.1.length<=1000; omega) (by show x.2.2.1.length<=1000; omega)) (.a rfl uu<|.nil)) rfl rfl ?_; refine tO (A1 (fun hp=>.cons rfl rfl rfl<|.cons rfl rfl rfl<|.nil)) rfl rfl ?_; refine jb 38 rfl ?_; refine u9 ?_; refine Tr.growC 38 3 139 rfl (ks':=[_,_,_,o5 139 0,_,_,_,_,_]) rfl rfl 30 j8 rfl (.cons inferInstance rfl<|.cons inferInstance rfl<|.cons inferInstance rfl<|.cons inferInstance rfl<|.cons inferInstance rfl<|.cons inferInstance rfl<|.cons inferInstance rfl<|.cons inferInstance rfl<|.cons inferInstance rfl<|inferInstance) ?_
    refine Tr.for1 (σ:=Nat) [⟨1,true,_,_⟩,⟨4,true,_,_⟩,⟨7,true,_,_⟩,⟨40,true,_,_⟩,⟨41,true,_,_⟩] [⟨1,_,_⟩] (fun k=>[⟨42,true,[],kI (k:Int)⟩]) (fun k=>[⟨38,[139],j5 [s6 A7 (N5 x.1),b7 (eL eI) x.2.1,b7 (eL eI) x.2.2.1,o5 139 k,i9 (.slice none 0 0),i9 (.slice none 0 0),i9 (.slice none 0 0),i9 (.slice none 0 0),i9 (.slice none 0 0)]⟩,⟨139,[],l3 true 30 j8 ((ls.take k).map l5) k⟩]) (fun k=>k<=x.2.2.2.length/\∀j,j<k->0<E0 x.1.1 (u7 x.1) (j9 x.1.1 (b6 x.2.2.2 j))) (fun k=>False) (fun k=>x.2.2.2.length-k) (0) ⟨by omega,fun j h=>absurd h (Nat.not_lt_zero _)⟩ (d6.mk (.i rfl zi<|zk) (.e (by rfl) rfl<|.a (by rfl) zi<|zk) rfl) ?_ ?_
    ·rintro k ⟨hk,hR⟩
     refine jn ?_; refine l6 ?_; refine jq ?_ ?_
     ·intro h11
      refine j3 ?_; refine ja 9 ?_; refine j3 ?_; refine jc (sA x.1 (b6 x.2.2.2 k) h0 ((hsm.num k).mono zo)) ?_; refine i7 ?_; refine jq ?_ ?_
      ·intro h13
       have hr:E9 x=12:=he3.trans (if_neg (fun e=>by have e2:0<E0 x.1.1 (u7 x.1) (j9 x.1.1 (b6 x.2.2.2 k)):=e k zo; omega))
       refine C7 ?_; exact d9.res (fn:=Tryz.f66) (ts:=[2,3]) rfl rfl (.k rfl<|.i rfl (by rw[hr])<|.nil)
      ·intro h13
       replace h13:=Int.not_le.1 h13
       have hok:0<E0 x.1.1 (u7 x.1) (j9 x.1.1 (b6 x.2.2.2 k)):=by omega
       refine g9 ?_; refine Tr.drawM (m:=9) n8 (by kernel_rfl) rfl (by kernel_rfl) (by kernel_rfl) (by kernel_rfl) ?_; refine g9 ?_; refine rO (P9 rfl uu) rfl rfl ?_; refine g8 ?_; refine jd (qR x.1 (b6 x.2.2.2 k) h0 ((hsm.num k).mono zo)) ?_; refine j1.new (w4 j8 58 (fun hp=>.cons rfl<|.nil) rfl rfl rfl rfl) rfl rfl rfl rfl ?_; refine i4 ?_; refine b8.wkC 38 (.k<|.k<|.k<|.any<|.k<|.k<|.k<|.k<|.k<|.nil) rfl ?_; refine i4 ?_; refine jl ?_; refine tO (P9 rfl uu) rfl rfl ?_; refine g9 ?_; refine b8.finN ?_; refine l6 ?_
       exact g6.lp (k+1) ⟨by omega,fun j hj=>by by_cases e:j=k; (rw[e]; exact hok); exact hR j zo⟩ zo (d6.mk (.i rfl zi<|zk) (.e (by rfl) rfl<|.a (by rw[V5 zo,List.map_append,hnk k zo]; rfl) zi<|zk) rfl)
     ·intro h11
      replace h11:=Int.not_lt.1 h11
      refine g8 ?_
      exact g6.cut (k) (hne (he3.trans (if_pos fun j hj=>hR j zo))) (d6.mk (.i rfl zi<|zk) (zk) rfl)
    ·intro k hE0
     exact hE0.elim

end Go.Fl

/- Contracts: errors of Apply and Orbit. -/
namespace Go.Fl
open Go Go.Proofs
open b8 renaming op->tO
open j1 renaming op->rO
set_option maxRecDepth 100000

theorem sP (x:o0) (hsm:U3 x) (hne:E9 x≠0):Ct Tryz.prog 66 [b7 eX x] (z9 [i9 (.pointer none),kI (E9 x)]):=by
 by_cases h0:z6 x.1=0
 ·exact sR x h0 hsm hne
 ·exact sQ x h0
end Go.Fl

/- The law of orbits. -/
namespace Go.Fl
open Go Go.Proofs
open b8 renaming op->tO
open j1 renaming op->rO
set_option maxRecDepth 100000

theorem Q7.dm {x:o0} (hx:Q7 x) (hsm:U3 x) {ps:List y3} (hp:∀p∈ps,y0 2 p) (hl:ps.length<=2):∃(D:Int) (M:Nat),H2 x.1.1 D M x.2.1.length (p7 x)/\∀p∈ps,HB D M (j9 x.1.1 p):=by
 have hpo:=Q0 hx.fld
 obtain ⟨D,M,h1,h2⟩:=af5 (more:=ps.map (j9 x.1.1)) hpo hx.len hx.rows.le (fun a _=>hsm.num a) (by rw[List.length_map]; exact hl) fun v hv=>by
  obtain ⟨p,hpm,rfl⟩:=List.mem_map.1 hv
  exact ⟨EL hpo,T3 hpo (hp p hpm)⟩
 exact ⟨D,M,h1,fun p hpm=>h2 _ (List.mem_map.2 ⟨p,hpm,rfl⟩)⟩
theorem eR {l:List Int} (h:Q6 (R3 .i64) l):w7 l:=fun i hi=>hH (h.2 i hi)
theorem uR {c:List (List Int)} {d:List Int} (h:Q6 (Q6 (R3 .i64)) c) (h2:Q6 (R3 .i64) d):BC (c,d):=⟨fun i=>by
 by_cases hi:i<c.length
 ·exact eR (h.2 i hi)
 ·show w7 (b6 c i); rw[v6 zo]; exact BQ,eR h2⟩
theorem uS {l:List y3} (h:Q6 BC l) (a:Nat):BC (b6 l a):=by
 by_cases hi:a<l.length
 ·exact h.2 a hi
 ·rw[v6 zo]; exact ⟨fun i=>by show w7 (b6 [] i); rw[QP]; exact BQ,BQ⟩
end Go.Fl

/- Places of letters; lists that are filled letter by letter; renumbered rows. No program in sight. -/
namespace Go.Fl
open Go
end Go.Fl

/- Contracts: the reference: renumbered rows, normal and inverse exchanges; comparisons of exchanges. -/
namespace Go.Fl
open Go Go.Proofs
open b8 renaming op->tO
open j1 renaming op->rO
set_option maxRecDepth 100000

abbrev dS:o0:=(([],0,0,0),[],[],[])
def FI (a b:u8):Bool:=decide (a.1=b.1)&&decide (a.2.1=b.2.1)&&decide (a.2.2.1=b.2.2.1)&&decide (a.2.2.2=b.2.2.2)
def exB (a b:o0):Bool:=FI a.1 b.1&&decide (a.2.1=b.2.1)&&decide (a.2.2.1=b.2.2.1)&&decide (a.2.2.2=b.2.2.2)
theorem pG (a b:u8):Ct Tryz.prog 91 [b7 z7 a,b7 z7 b] (kB (FI a b)):=by
 refine Ct.mk Tryz.func91 rfl Tryz.ntmps91 rfl (fun w J=>?_); refine g9 ?_; refine jb 2 rfl ?_; refine jb 3 rfl ?_; refine g8 ?_; refine Tr.frzB 2 [2] z7 (x:=a) ⟨rfl,trivial⟩ rfl ?_; refine Tr.frzB 3 [3] z7 (x:=b) ⟨rfl,trivial⟩ rfl ?_; refine jn ?_; refine l8 ?_; refine jc (FD a.1 b.1) ?_; refine PZ ?_; exact d9.res1 (fn:=Tryz.f91) rfl (.b rfl (by rfl)<|.nil)

theorem TW (a b:o0):Ct Tryz.prog 41 [b7 eX a,b7 eX b] (kB (exB a b)):=by
 refine Ct.mk Tryz.func41 rfl Tryz.ntmps41 rfl (fun w J=>?_); refine g9 ?_; refine jb 2 rfl ?_; refine jb 3 rfl ?_; refine g8 ?_; refine Tr.frzB 2 [2] eX (x:=a) ⟨rfl,trivial⟩ rfl ?_; refine Tr.frzB 3 [3] eX (x:=b) ⟨rfl,trivial⟩ rfl ?_; refine jn ?_; refine l8 ?_; refine jc (pG a.1 b.1) ?_; refine l8 ?_; refine b8.gd rfl rfl rfl (i6 (fun hp=>FD a.2.1 b.2.1) (.a rfl id<|.a rfl id<|.nil)) rfl rfl ?_; refine l6 ?_; refine b8.gd rfl rfl rfl (i6 (fun hp=>FD a.2.2.1 b.2.2.1) (.a rfl id<|.a rfl id<|.nil)) rfl rfl ?_; refine l6 ?_; refine b8.gd rfl rfl rfl (i6 (fun hp=>aT a.2.2.2 b.2.2.2) (.a rfl id<|.a rfl id<|.nil)) rfl rfl ?_
 refine l8 ?_; exact d9.res1 (fn:=Tryz.f41) rfl (.b rfl (by rfl)<|.nil)

theorem LJ (x:o0):Ct Tryz.prog 40 [b7 eX x] (kB (exB x dS)):=by
 refine Ct.mk Tryz.func40 rfl Tryz.ntmps40 rfl (fun w J=>?_); refine g9 ?_; refine jb 1 rfl ?_; refine g8 ?_; refine Tr.frzB 1 [1] eX (x:=x) ⟨rfl,trivial⟩ rfl ?_; refine jn ?_; refine g9 ?_; refine tO (A1 (fun hp=>.nil)) rfl rfl ?_; refine jc (TW x dS) ?_; refine g8 ?_
 exact d9.res1 (fn:=Tryz.f40) rfl (.b rfl zi<|.nil)

end Go.Fl

/- Contracts: Check, Normal, Total, Shifts and Inverse of the program. -/
namespace Go.Fl
open Go Go.Proofs
open b8 renaming op->tO
open j1 renaming op->rO
set_option maxRecDepth 100000

theorem cQ (r:q7):Ct Tryz.prog 85 [b7 eO r] (b7 eO (r.2,r.1)):=by
 refine Ct.mk Tryz.func85 rfl Tryz.ntmps85 rfl (fun w J=>?_); refine g9 ?_; refine jb 1 rfl ?_; refine ja 2 ?_; refine i7 ?_; refine Tr.frzB 1 [1] eO (x:=r) ⟨rfl,trivial⟩ rfl ?_; refine jn ?_; refine l8 ?_; refine tO (A1 (fun hp=>.cons rfl rfl rfl<|.cons rfl rfl rfl<|.nil)) rfl rfl ?_; refine g8 ?_; exact d9.resC1 (fn:=Tryz.f85) rfl rfl (t7 rfl (by rfl))

theorem pY (r:D0) (hl:r.1.1.length<=1000):Ct Tryz.prog 142 [s6 A7 r] (b7 z7 r.1):=by
 refine Ct.mk Tryz.func142 rfl Tryz.ntmps142 rfl (fun w J=>?_); refine g9 ?_; refine ja 2 ?_; refine l6 ?_; refine tO (FQ rfl uu) rfl rfl ?_; refine g9 ?_; refine Tr.cnd rfl ?_ ?_
 ·intro h1
  exact absurd h1 (by decide)
 ·intro h1
  refine l8 ?_; refine tO (EG rfl uu) rfl rfl ?_; refine g9 ?_; refine ja 3 ?_; refine j6 ?_; refine tO (i6 (fun hp=>CU _ zo) (.a rfl uu<|.nil)) rfl rfl ?_; refine y7 ?_
  exact d9.resC1 (fn:=Tryz.f142) rfl rfl (t7 rfl zi)

theorem sL (r:D0) (o q:q7) (ls:List n7) (l:List y3) (hf:r.1.1.length<=1000) (h1:q.1.length<=1000) (h2:q.2.length<=1000):Ct Tryz.prog 84 [s6 R0 (Y1 r o ls),b7 eO q,b7 (eL j8) l] (b7 eX (r.1,q.1,q.2,l)):=by
 refine Ct.mk Tryz.func84 rfl Tryz.ntmps84 rfl (fun w J=>?_); refine g9 ?_; refine jb 4 rfl ?_; refine ja 6 ?_; refine i7 ?_; refine Tr.frzB 4 [4] eO (x:=q) ⟨rfl,trivial⟩ rfl ?_; refine jn ?_; refine Tr.draw 12 n8 (by kernel_rfl) ?_; refine i4 ?_; refine rO (EG rfl uu) rfl rfl ?_; refine g9 ?_; refine jd (pY r hf) ?_; refine g9 ?_; refine jd (CU q.1 zo) ?_; refine g9 ?_; refine jd (CU q.2 zo) ?_; refine g9 ?_; refine tO (A1 (fun hp=>.cons rfl rfl rfl<|.cons rfl rfl rfl<|.cons rfl rfl rfl<|.cons rfl rfl rfl<|.nil)) rfl rfl ?_
 refine g8 ?_; exact d9.resC1 (fn:=Tryz.f84) rfl rfl (t7 rfl (by rfl))

end Go.Fl

/- Contracts: errors of Check, Normal, Total, Shifts and Inverse. -/
namespace Go.Fl
open Go Go.Proofs
open b8 renaming op->tO
open j1 renaming op->rO
set_option maxRecDepth 100000

end Go.Fl

/- The law of exchanges. -/
namespace Go.Fl
open Go Go.Proofs
open b8 renaming op->tO
open j1 renaming op->rO
set_option maxRecDepth 100000

end Go.Fl

/- Sums of numbers: laws; numbers in order. No program in sight. -/
namespace Go.Fl
open Go
structure NQ (p:List Int) (sg:n7->Int):Prop where
 pol:G3 p
 neg:∀v,B4 p v->sg (BU v)=-sg v
 add:∀u v,B4 p u->B4 p v->0<=sg u->0<sg v->0<sg (H8 u v)
 zero:∀v,B4 p v->sg v=0->v=z8 0
 int0:sg (z8 0)=0
section
variable {p:List Int} {sg:n7->Int} (h:NQ p sg) {u v w:n7} (hu:B4 p u) (hv:B4 p v) (hw:B4 p w)
include h hu hv
include hw
end
end Go.Fl

/- The sign of a field's numbers goes with sums. No program in sight. -/
namespace Go.Fl
open Go
theorem ac6 {p:List Int} {I:Iv} {cs:List Int}:Z4 p I cs=1\/Z4 p I cs=-1\/Z4 p I cs=0:=by
 unfold Z4
 split
 ·exact .inl rfl
 ·split
  ·exact .inr (.inl rfl)
  ·exact .inr (.inr rfl)
theorem oJ {a:Int}:(0<a/\r7 a 0=1)\/(a<0/\r7 a 0=-1)\/(a=0/\r7 a 0=0):=by
 unfold r7
 by_cases h:a<0
 ·exact .inr (.inl ⟨h,if_pos h⟩)
 ·by_cases h2:0<a
  ·exact .inl ⟨h2,by rw[if_neg h,if_pos h2]⟩
  ·exact .inr (.inr ⟨by omega,by rw[if_neg h,if_neg h2]⟩)
end Go.Fl

/- The sign of a field's numbers goes with sums: fields of every degree. No program in sight. -/
namespace Go.Fl
open Go
end Go.Fl

/- Points, letters and images: the interval of a point is the only one that holds it. No program in sight. -/
namespace Go.Fl
open Go
section
variable {p:List Int} {sg:n7->Int} {D:Int} {M n:Nat} {ls:List n7} {row:List Int} (h:NQ p sg) (hlo:H2 p D M n ls) (hr:B1 row n) (hpos:∀a,a<n->0<sg (b6 ls a))
include h hlo hr
include hpos
end
end Go.Fl

/- The image of a point lies in the image of its interval; the inverse exchange takes it back. No program in sight. -/
namespace Go.Fl
open Go
structure mS (p:List Int) (sg:n7->Int) (D:Int) (M:Nat) (o:List Int×List Int) (ls:List n7):Prop where
 sgl:NQ p sg
 len:H2 p D M o.1.length ls
 top:B1 o.1 o.1.length
 bot:B1 o.2 o.1.length
 two:1<=o.1.length
 pos:∀a,a<o.1.length->0<sg (b6 ls a)
section
variable {p:List Int} {sg:n7->Int} {D:Int} {M:Nat} {o:List Int×List Int} {ls:List n7} (h:mS p sg D M o ls) {pv:n7} (hv:B4 p pv)
include h hv
end
end Go.Fl

/- The law: an exchange is a bijection. -/
namespace Go.Fl
open Go Go.Proofs
open b8 renaming op->tO
open j1 renaming op->rO
set_option maxRecDepth 100000

end Go.Fl

/- Connections: which interval begins at a point. No program in sight. -/
namespace Go.Fl
open Go
def hJ (sg:n7->Int) (row:List Int) (ls:List n7) (pv:n7):Option Int:=if QB sg (K7 ls row) row pv (row.length-1)≠b6 row 0/\sg (H0 (b6 (K7 ls row) (QB sg (K7 ls row) row pv (row.length-1)).toNat) pv)=0 then some (QB sg (K7 ls row) row pv (row.length-1)) else none
section
variable {p:List Int} {sg:n7->Int} {D:Int} {M n:Nat} {ls:List n7} {row:List Int} (h:NQ p sg) (hlo:H2 p D M n ls) (hr:B1 row n) (hpos:∀a,a<n->0<sg (b6 ls a)) {pv:n7} (hv:B4 p pv)
include h hlo hr hpos hv
end
end Go.Fl

/- Contracts: connections of exchanges. -/
namespace Go.Fl
open Go Go.Proofs
open b8 renaming op->tO
open j1 renaming op->rO
set_option maxRecDepth 100000

end Go.Fl

/- Contracts: connections of the program. -/
namespace Go.Fl
open Go Go.Proofs
open b8 renaming op->tO
open j1 renaming op->rO
set_option maxRecDepth 100000

end Go.Fl

/- Contracts: connections of the reference; the law of connections. -/
namespace Go.Fl
open Go Go.Proofs
open b8 renaming op->tO
open j1 renaming op->rO
set_option maxRecDepth 100000

end Go.Fl

/- The law of connections. -/
namespace Go.Fl
open Go Go.Proofs
open b8 renaming op->tO
open j1 renaming op->rO
set_option maxRecDepth 100000

theorem pF (n a b:Int):Ct Tryz.prog 34 [kI n,kI a,kI b] (kB (decide (a<=n/\n<=b))):=by
 refine Ct.mk Tryz.func34 rfl Tryz.ntmps34 rfl (fun w J=>?_); refine IZ ?_; exact d9.res1 (fn:=Tryz.f34) rfl (.b rfl (by symm; exact Bool.decide_and _ _)<|.nil)

end Go.Fl

/- Matrices of integers, minors, determinants: how large they are. The first of so many times. No program in sight. -/
namespace Go.Fl
open Go
section
variable {α:Type} [Inhabited α] {l:List α} {r k:Nat}
end
end Go.Fl

/- Contracts: lowest terms over any denominator, matrices and minors. -/
namespace Go.Fl
open Go Go.Proofs
open b8 renaming op->tO
open j1 renaming op->rO
set_option maxRecDepth 100000

end Go.Fl

/- Contracts: matrices of multiplications, determinants. -/
namespace Go.Fl
open Go Go.Proofs
open b8 renaming op->tO
open j1 renaming op->rO
set_option maxRecDepth 100000

end Go.Fl

/- Contracts: inverses and quotients of the reference. -/
namespace Go.Fl
open Go Go.Proofs
open b8 renaming op->tO
open j1 renaming op->rO
set_option maxRecDepth 100000

end Go.Fl

/- Contracts: first returns. -/
namespace Go.Fl
open Go Go.Proofs
open b8 renaming op->tO
open j1 renaming op->rO
set_option maxRecDepth 100000

end Go.Fl

/- The law of first returns. -/
namespace Go.Fl
open Go Go.Proofs
open b8 renaming op->tO
open j1 renaming op->rO
set_option maxRecDepth 100000

end Go.Fl

/- Rows as they are printed, step by step. Plain Lean, no program in sight. -/
namespace Go.Fl
end Go.Fl

/- Irreducible rows, step by step. Plain Lean, no program in sight. -/
namespace Go.Fl
theorem aa5 {r:q7} {k:Nat}:DH r k 0=true:=rfl
theorem aa4 {r:q7} {k i:Nat} (h:i<r.2.length):DH r k (i+1)=(DH r k i&&decide (b6 r.2 i∈r.1.take k)):=by
 unfold DH
 rw[V5 h,List.all_append]
 simp
theorem uV {r:q7} (h:E2 r) {k:Nat} (h1:1<=k) (hk:k<r.1.length) (hs:DH r k k=true):B3 r=false:=by
 unfold B3
 rw[decide_eq_false_iff_not]
 intro hh
 have:=hh k hk h1
 rw[PX h zo,hs] at this
 cases this
theorem uW {r:q7} {k:Nat} (h1:1<=k) (hk:k<r.1.length) (hs:S5 r k=false):B3 r=false:=by
 unfold B3
 rw[decide_eq_false_iff_not]
 intro hh
 have:=hh k hk h1
 rw[hs] at this
 cases this
theorem eY {r:q7} (h:∀k,k<r.1.length->1<=k->S5 r k=true):B3 r=true:=decide_eq_true h
end Go.Fl

/- Steps of rows, and their matrices. No program in sight. -/
namespace Go.Fl
open Go
def O4 (f:Int->Bool):List Int->Int
 | []=>-1
 | x::l=>if f x=true then 0 else if O4 f l<0 then -1 else O4 f l+1
theorem VN {f:Int->Bool}:∀{l:List Int},(∀i,i<l.length->f (b6 l i)=false)->O4 f l=-1
 | [],_=>rfl
 | x::l,h=>by
  have h0:=h 0 (by simp)
  have e:b6 (x::l) 0=x:=rfl
  rw[e] at h0
  rw[O4,if_neg (by rw[h0]; simp),VN fun i hi=>h (i+1) (by simpa using hi)]
  rfl
theorem PY {f:Int->Bool}:∀{l:List Int} {k:Nat},k<l.length->(∀i,i<k->f (b6 l i)=false)->f (b6 l k)=true->O4 f l=k
 | [],k,hk,_,_=>by simp at hk
 | x::l,0,_,_,h=>by
  have e:b6 (x::l) 0=x:=rfl
  rw[e] at h
  rw[O4,if_pos h]; rfl
 | x::l,k+1,hk,hn,h=>by
  have h0:=hn 0 zo
  have e:b6 (x::l) 0=x:=rfl
  rw[e] at h0
  have ih:=PY (l:=l) (k:=k) (by simpa using hk) (fun i hi=>hn (i+1) zo) h
  rw[O4,if_neg (by rw[h0]; simp),ih,if_neg zo]
  rfl
theorem VM {f:Int->Bool}:∀{l:List Int},decide (0<=O4 f l)=l.any f
 | []=>rfl
 | x::l=>by
  have ih:=VM (f:=f) (l:=l)
  rw[List.any_cons,O4]
  by_cases h:f x=true
  ·rw[if_pos h,h]; rfl
  ·rw[if_neg h,Bool.eq_false_iff.2 h,Bool.false_or,<- ih]
   split
   ·rw[decide_eq_decide]; omega
   ·rw[decide_eq_decide]; omega
def n9 (l:List Int):Int:=b6 l (l.length-1)
def N7 (row:List Int) (b:Int):List Int:=DA (row.take (row.length-1)) (O4 (fun y=>decide (b=y)) (row.take (row.length-1))+1).toNat (n9 row)
def G8 (r:q7) (kind:Int):q7:=if kind=0 then (r.1,N7 r.2 (n9 r.1)) else (N7 r.1 (n9 r.2),r.2)
def y6 (r:q7) (kind:Int):Int:=if kind=0 then n9 r.1 else n9 r.2
def y9 (r:q7) (kind:Int):Int:=if kind=0 then n9 r.2 else n9 r.1
def I0 (row:List Int) (l b:Int):Nat->List Int
 | 0=>[]
 | i+1=>I0 row l b i++(if b6 row i≠l then [b6 row i] else [])++(if b6 row i=b then [l] else [])
theorem NA {row:List Int} {i:Nat} (h:i<row.length):row.take (i+1)=row.take i++[b6 row i]:=by
 rw[List.take_succ_eq_append_getElem h]
 congr 2
 simp[b6,h]
theorem RU {row:List Int} {n:Nat} (hl:row.length=n) (h:1<=n):row.take (n-1)++[n9 row]=row:=by
 unfold n9
 rw[hl,<- NA zo,show n-1+1=n by omega,<- hl,List.take_length]
theorem uX {row:List Int} {n j:Nat} {b:Int} (hp:B1 row n) (hj:j<n-1) (hb:b6 row j=b):O4 (fun y=>decide (b=y)) (row.take (row.length-1))=(j:Int):=by
 have hl:=hp.2.2
 have ht:(row.take (row.length-1)).length=n-1:=by rw[List.length_take]; omega
 have hg:∀i,i<n-1->b6 (row.take (row.length-1)) i=b6 row i:=fun i hi=>by
  unfold b6
  simp only[List.getD_eq_getElem?_getD]
  rw[List.getElem?_take,if_pos zo]
 refine PY zo (fun i hi=>?_) ?_
 ·rw[hg i zo]
  refine decide_eq_false fun e=>?_
  have:=JJ hp.2.1 (i:=i) (j:=j) zo zo (by rw[hb,<- e])
  omega
 ·rw[hg j hj,hb]; exact decide_eq_true rfl
theorem kL {row:List Int} {n j:Nat} {b:Int} (hp:B1 row n) (hj:j<n-1) (hb:b6 row j=b):N7 row b=row.take (j+1)++[n9 row]++(row.take (n-1)).drop (j+1):=by
 have hl:=hp.2.2
 unfold N7 DA
 rw[uX hp hj hb,show ((j:Int)+1).toNat=j+1 by omega,hl,List.take_take,Nat.min_eq_left zo]
theorem XX {row:List Int} {n:Nat} {b:Int} (hl:row.length=n) (h:1<=n):(N7 row b).Perm row:=by
 unfold N7 DA
 generalize (O4 (fun y=>decide (b=y)) (row.take (row.length-1))+1).toNat=i
 have h1:((row.take (row.length-1)).take i++[n9 row]++(row.take (row.length-1)).drop i).Perm ((row.take (row.length-1)).take i++(row.take (row.length-1)).drop i++[n9 row]):=by
  rw[List.append_assoc,List.append_assoc]
  exact List.Perm.append_left _ List.perm_append_comm
 rw[List.take_append_drop,hl,RU hl h] at h1
 rw[hl]; exact h1
theorem yN {p q:List Int} {n:Nat} (h:q.Perm p) (hp:B1 p n):B1 q n:=by
 have hl:=h.length_eq
 refine ⟨fun i hi=>?_,h.nodup_iff.2 hp.2.1,by rw[hl]; exact hp.2.2⟩
 have:b6 q i∈p:=h.mem_iff.1 (G1 hi)
 obtain ⟨k,hk,e⟩:=List.mem_iff_getElem.1 this
 have:=hp.1 k hk
 rw[show b6 p k=p[k] by simp[b6,hk],e] at this
 exact this
theorem fA {r:q7} (h:E2 r) (hi:B3 r=true):E2 (r.2,r.1)/\B3 (r.2,r.1)=true:=by
 have hl:=h.len
 refine ⟨⟨hl.symm,by show 2<=r.2.length; rw[hl]; exact h.two,by show r.2.length<=8; rw[hl]; exact h.le,by show B1 r.2 r.2.length; rw[hl]; exact h.p2,by show B1 r.1 r.2.length; rw[hl]; exact h.p1⟩,decide_eq_true fun k hk h1=>?_⟩
 have hk:k<r.2.length:=hk
 have hi:=of_decide_eq_true hi k zo h1
 rw[PX h zo,Bool.not_eq_true'] at hi
 unfold DH at hi
 unfold S5
 rw[<- Bool.not_eq_true,List.all_eq_true] at hi
 refine Classical.byContradiction fun hn=>hi fun a ha=>?_
 refine Classical.byContradiction fun hq=>hn ?_
 exact List.any_eq_true.2 ⟨a,ha,by simpa using hq⟩
theorem VS {r:q7} (h:E2 r) (hi:B3 r=true):n9 r.1≠n9 r.2:=by
 have hl:=h.len
 have h2:=h.two
 have hi:=of_decide_eq_true hi (r.1.length-1) zo zo
 obtain ⟨a,ha,hb⟩:=List.any_eq_true.1 hi
 simp only[Bool.not_eq_true',decide_eq_false_iff_not] at hb
 intro e
 have h1:=RU (row:=r.1) rfl zo
 have d:=h.p1.2.1
 rw[<- h1] at d
 have:a≠n9 r.1:=fun e=>(List.nodup_append.1 d).2.2 a ha (n9 r.1) (by simp) e
 have ha2:a∈r.2:=by
  have hm:a∈r.1:=List.mem_of_mem_take ha
  obtain ⟨i,hi',e'⟩:=List.mem_iff_getElem.1 hm
  have hr:=h.p1.1 i hi'
  rw[show b6 r.1 i=r.1[i] by simp[b6,hi'],e'] at hr
  obtain ⟨j,hj,ej⟩:=MP h.p2.2.1 h.p2.1 h.p2.2.2 hr.1 hr.2
  rw[<- ej]; exact G1 zo
 have h3:=RU (row:=r.2) hl zo
 rw[<- h3] at ha2
 rcases List.mem_append.1 ha2 with ha2 | ha2
 ·exact hb ha2
 ·rw[List.mem_singleton,<- e] at ha2; exact this ha2
theorem ZR {row:List Int} {n:Nat} {b:Int} (hp:B1 row n) (h0:0<=b/\b<n) (hb:b≠n9 row):∃j,j<n-1/\b6 row j=b:=by
 obtain ⟨j,hj,e⟩:=MP hp.2.1 hp.1 hp.2.2 h0.1 h0.2
 refine ⟨j,Nat.lt_of_le_of_ne zo fun e'=>hb ?_,e⟩
 unfold n9
 rw[hp.2.2,<- e',e]
theorem BS {row:List Int} {n:Nat} (hp:B1 row n) (h:1<=n):0<=n9 row/\n9 row<n:=by
 have:=hp.1 (row.length-1) (by have:=hp.2.2; omega)
 exact this
theorem gB {r:q7} (h:E2 r) (hi:B3 r=true):E2 (r.1,N7 r.2 (n9 r.1))/\B3 (r.1,N7 r.2 (n9 r.1))=true:=by
 have hl:=h.len
 have h2:=h.two
 have hp:=XX (b:=n9 r.1) hl zo
 have hv:E2 (r.1,N7 r.2 (n9 r.1)):=⟨by show (N7 r.2 (n9 r.1)).length=_; rw[hp.length_eq,hl],h.two,h.le,h.p1,yN hp h.p2⟩
 refine ⟨hv,decide_eq_true fun k hk h1=>?_⟩
 have hk:k<r.1.length:=hk
 obtain ⟨j,hj,ej⟩:=ZR h.p2 (BS h.p1 zo) (VS h hi)
 have es:=kL h.p2 hj ej
 by_cases c:k<=j
 ·have e:(N7 r.2 (n9 r.1)).take k=r.2.take k:=by
   rw[es,List.append_assoc,List.take_append_of_le_length (by rw[List.length_take]; omega),List.take_take,Nat.min_eq_left zo]
  have:=of_decide_eq_true hi k hk h1
  unfold S5 at this ⊢
  show (r.1.take k).any (fun a=>!decide (a∈(N7 r.2 (n9 r.1)).take k))=true
  rw[e]; exact this
 ·rw[PX hv (Nat.le_of_lt hk)]
  have hm:n9 r.1∈(N7 r.2 (n9 r.1)).take k:=by
   rw[es,List.append_assoc,List.take_append,List.mem_append]
   left
   rw[List.take_take,Nat.min_eq_right zo,NA zo,ej]
   simp
  have hn:n9 r.1∉r.1.take k:=fun hm=>by
   have d:=h.p1.2.1
   rw[<- RU (row:=r.1) rfl zo] at d
   refine (List.nodup_append.1 d).2.2 (n9 r.1) ?_ (n9 r.1) (by simp) rfl
   exact List.Sublist.subset (List.take_sublist_take_left zo) hm
  rw[Bool.not_eq_true']
  unfold DH
  refine Bool.eq_false_iff.2 fun ha=>hn ?_
  have:=List.all_eq_true.1 ha (n9 r.1) hm
  simpa using this
theorem WK {r:q7} (h:E2 r) (hi:B3 r=true) (kind:Int):E2 (G8 r kind)/\B3 (G8 r kind)=true:=by
 unfold G8
 split
 ·exact gB h hi
 ·obtain ⟨h1,h2⟩:=fA h hi
  obtain ⟨h3,h4⟩:=gB h1 h2
  exact fA h3 h4
theorem gF {row:List Int} {n j:Nat} {b:Int} (hp:B1 row n) (hj:j<n-1) (hb:b6 row j=b):∀{i:Nat},i<=j->I0 row (n9 row) b i=row.take i
 | 0,_=>rfl
 | i+1,hi=>by
  have hl:=hp.2.2
  rw[I0,gF hp hj hb zo,if_pos,if_neg,List.append_nil,NA zo]
  ·intro e
   have:=JJ hp.2.1 (i:=i) (j:=j) zo zo (by rw[e,hb])
   omega
  ·intro e
   have:=JJ hp.2.1 (i:=i) (j:=row.length-1) zo zo e
   omega
theorem gE {row:List Int} {n j:Nat} {b:Int} (hp:B1 row n) (hj:j<n-1) (hb:b6 row j=b):∀{i:Nat},j<i->i<=n-1->I0 row (n9 row) b i=row.take (j+1)++[n9 row]++(row.take i).drop (j+1)
 | 0,q,_=>by omega
 | i+1,q,hi=>by
  have hl:=hp.2.2
  have hne:b6 row i≠n9 row:=fun e=>by
   have:=JJ hp.2.1 (i:=i) (j:=row.length-1) zo zo e
   omega
  by_cases e:i=j
  ·subst e
   rw[I0,gF hp hj hb (Nat.le_refl _),if_pos hne,if_pos hb,<- NA zo,List.drop_of_length_le (by rw[List.length_take]; omega),List.append_nil]
  ·rw[I0,gE hp hj hb zo zo,if_pos hne,if_neg,List.append_nil,NA (row:=row) (i:=i) zo,List.drop_append_of_le_length (by rw[List.length_take]; omega),List.append_assoc]
   intro e'
   have:=JJ hp.2.1 (i:=i) (j:=j) zo zo (by rw[e',hb])
   omega
theorem gD {row:List Int} {n:Nat} {b:Int} (hp:B1 row n) (h2:2<=n) (h0:0<=b/\b<n) (hb:b≠n9 row):I0 row (n9 row) b row.length=N7 row b:=by
 obtain ⟨j,hj,ej⟩:=ZR hp h0 hb
 have hl:=hp.2.2
 rw[hl,show n=(n-1)+1 by omega,I0,gE hp hj ej zo (Nat.le_refl _),kL hp hj ej]
 have e:b6 row (n-1)=n9 row:=by unfold n9; rw[hl]
 rw[if_neg (fun a=>a e),if_neg (fun a=>hb (by rw[<- a,e])),List.append_nil,List.append_nil]
theorem WJ {row:List Int} {l b:Int}:∀{i:Nat},(I0 row l b i).length<=2*i
 | 0=>Nat.le_refl _
 | i+1=>by
  rw[I0,List.length_append,List.length_append]
  have:=WJ (row:=row) (l:=l) (b:=b) (i:=i)
  have h1:(if b6 row i≠l then [b6 row i] else []).length<=1:=by split<;>simp
  have h2:(if b6 row i=b then [l] else []).length<=1:=by split<;>simp
  omega
abbrev ZM:=List (List Int)
structure AI (n B:Nat) (m:ZM):Prop where
 len:m.length=n
 row:∀i,i<n->(b6 m i).length=n
 rg:∀i j,0<=b6 (b6 m i) j/\b6 (b6 m i) j<=B
def KT (to col:Nat) (row:List Int):List Int:=row.set to (b6 row to+b6 row col)
def L7 (m:ZM) (to col:Nat):ZM:=m.map (KT to col)
theorem QO {m:ZM} {f:List Int->List Int} {i:Nat} (h:i<m.length):b6 (m.map f) i=f (b6 m i):=by simp[b6,h]
theorem JM {l:List Int} {k j:Nat} {x:Int} (h:k<l.length):b6 (l.set k x) j=if j=k then x else b6 l j:=by
 by_cases e:j=k
 ·subst e; rw[if_pos rfl]; simp[b6,h]
 ·rw[if_neg e]; simp[b6,List.getElem?_set_ne (Ne.symm e)]
theorem mU {n B:Nat} {m:ZM} {to col:Nat} (h:AI n B m) (ht:to<n):AI n (2*B) (L7 m to col):=by
 have hl:(L7 m to col).length=n:=by unfold L7; rw[List.length_map,h.len]
 refine ⟨hl,fun i hi=>?_,fun i j=>?_⟩
 ·unfold L7; rw[QO (by rw[h.len]; exact hi)]; unfold KT; rw[List.length_set]; exact h.row i hi
 ·by_cases hi:i<n
  ·unfold L7; rw[QO (by rw[h.len]; exact hi)]; unfold KT
   rw[JM (by rw[h.row i hi]; exact ht)]
   have a:=h.rg i to; have b:=h.rg i col; have d:=h.rg i j
   split<;>omega
  ·rw[show b6 (L7 m to col) i=[] from by simp[b6,List.getElem?_eq_none (show (L7 m to col).length<=i by omega)]; rfl]
   show 0<=(0:Int)/\(0:Int)<=_
   omega
end Go.Fl

/- The matrix of a step, and products with it. No program in sight. -/
namespace Go.Fl
open Go
def B5 (n:Nat):List (List Int):=j4 n fun i=>(List.replicate n 0).set i 1
def Z8 (m s:ZM) (i j k:Nat):Int:=r6 (fun q=>b6 (b6 m i) q*b6 (b6 s q) j) k
def NC (m s:ZM):ZM:=j4 m.length fun i=>j4 (b6 s 0).length fun j=>Z8 m s i j s.length
def V2 (m s:ZM) (n i j k:Nat):List Int:=j4 n fun q=>if q<j then Z8 m s i q n else if q=j then Z8 m s i j k else 0
theorem aa3 {m s:ZM} {n i:Nat}:List.replicate n 0=V2 m s n i 0 0:=by
 refine D1 (by rw[List.length_replicate]; exact p8.symm) fun q hq=>?_
 rw[List.length_replicate] at hq
 unfold V2
 rw[q9 hq,if_neg zo]
 have:b6 (List.replicate n (0:Int)) q=0:=by simp[b6,hq]
 rw[this]
 split<;>rfl
theorem RW {m s:ZM} {n i j k:Nat}:(V2 m s n i j k).length=n:=p8
theorem aa0 {m s:ZM} {n i j k:Nat} (h:j<n):b6 (V2 m s n i j k) j=Z8 m s i j k:=by unfold V2; rw[q9 h,if_neg zo,if_pos rfl]
theorem aa2 {m s:ZM} {n i j k:Nat} (h:j<n):(V2 m s n i j k).set j (Z8 m s i j k+b6 (b6 m i) k*b6 (b6 s k) j)=V2 m s n i j (k+1):=by
 refine D1 (by rw[List.length_set,RW,RW]) fun q hq=>?_
 rw[List.length_set,RW] at hq
 rw[JM (by rw[RW]; exact h)]
 unfold V2
 rw[q9 hq,q9 hq]
 by_cases e:q=j
 ·subst e; rw[if_pos rfl,if_neg zo,if_pos rfl]; rfl
 ·rw[if_neg e,if_neg e,if_neg e]
theorem aa1 {m s:ZM} {n i j:Nat}:V2 m s n i j n=V2 m s n i (j+1) 0:=by
 unfold V2
 refine C9 fun q hq=>?_
 by_cases h1:q<j
 ·rw[if_pos h1,if_pos zo]
 ·by_cases h2:q=j
  ·subst h2; rw[if_neg h1,if_pos rfl,if_pos zo]
  ·rw[if_neg h1,if_neg h2,if_neg zo]
   split<;>rfl
theorem zZ {m s:ZM} {n i k:Nat}:V2 m s n i n k=j4 n fun j=>Z8 m s i j n:=by
 unfold V2
 exact C9 fun q hq=>if_pos hq
def I9 (n p q:Nat):ZM:=(B5 n).set p ((b6 (B5 n) p).set q 1)
theorem gW {n i j:Nat} (hi:i<n) (hj:j<n):b6 (b6 (B5 n) i) j=if i=j then 1 else 0:=by
 unfold B5
 rw[q9 hi,JM (by rw[List.length_replicate]; exact hi)]
 by_cases e:j=i
 ·rw[if_pos e,if_pos e.symm]
 ·rw[if_neg e,if_neg (Ne.symm e)]; simp[b6,hj]
theorem NE {n:Nat}:(B5 n).length=n:=p8
theorem NF {n i:Nat} (h:i<n):(b6 (B5 n) i).length=n:=by unfold B5; rw[q9 h,List.length_set,List.length_replicate]
theorem UT {n p q i:Nat} (hp:p<n) (h:i<n):(b6 (I9 n p q) i).length=n:=by
 unfold I9
 by_cases e:i=p
 ·subst e
  rw[show b6 ((B5 n).set i ((b6 (B5 n) i).set q 1)) i=(b6 (B5 n) i).set q 1 by simp[b6,NE,h],List.length_set,NF h]
 ·rw[show b6 ((B5 n).set p ((b6 (B5 n) p).set q 1)) i=b6 (B5 n) i by simp[b6,List.getElem?_set_ne (Ne.symm e)],NF h]
theorem gS {n p q i j:Nat} (hp:p<n) (hq:q<n) (hpq:p≠q) (hi:i<n) (hj:j<n):b6 (b6 (I9 n p q) i) j=(if i=j then 1 else 0)+(if i=p/\j=q then 1 else 0):=by
 unfold I9
 by_cases e:i=p
 ·subst e
  rw[show b6 ((B5 n).set i ((b6 (B5 n) i).set q 1)) i=(b6 (B5 n) i).set q 1 by simp[b6,NE,hi],JM (by rw[NF hi]; exact hq),gW hi hj]
  by_cases c:j=q
  ·subst c; rw[if_pos rfl,if_neg hpq,if_pos ⟨rfl,rfl⟩]; rfl
  ·rw[if_neg c,if_neg (show ¬(i=i/\j=q) from fun a=>c a.2)]; omega
 ·rw[show b6 ((B5 n).set p ((b6 (B5 n) p).set q 1)) i=b6 (B5 n) i by simp[b6,List.getElem?_set_ne (Ne.symm e)],gW hi hj,if_neg (show ¬(i=p/\j=q) from fun a=>e a.1)]; omega
theorem lH {m:ZM} {n p q i j:Nat} (hp:p<n) (hq:q<n) (hpq:p≠q) (hj:j<n):∀{k:Nat},k<=n->Z8 m (I9 n p q) i j k=(if j<k then b6 (b6 m i) j else 0)+(if j=q/\p<k then b6 (b6 m i) p else 0)
 | 0,_=>by rw[if_neg zo,if_neg zo]; rfl
 | k+1,hk=>by
  have ih:=lH (m:=m) (i:=i) hp hq hpq hj (k:=k) zo
  unfold Z8 at ih ⊢
  rw[K2,ih,gS hp hq hpq zo hj]
  have e1:(if j<k+1 then b6 (b6 m i) j else 0)=(if j<k then b6 (b6 m i) j else 0)+(if k=j then b6 (b6 m i) j else 0):=by
   split<;>split<;>split<;>omega
  have e2:(if j=q/\p<k+1 then b6 (b6 m i) p else 0)=(if j=q/\p<k then b6 (b6 m i) p else 0)+(if k=p/\j=q then b6 (b6 m i) p else 0):=by
   split<;>split<;>split<;>omega
  have f1:b6 (b6 m i) k*(if k=j then 1 else 0)=if k=j then b6 (b6 m i) j else 0:=by
   split
   ·rename_i h; rw[h,Int.mul_one]
   ·rw[Int.mul_zero]
  have f2:b6 (b6 m i) k*(if k=p/\j=q then 1 else 0)=if k=p/\j=q then b6 (b6 m i) p else 0:=by
   split
   ·rename_i h; rw[h.1,Int.mul_one]
   ·rw[Int.mul_zero]
  rw[e1,e2,Int.mul_add,f1,f2]
  omega
theorem ag2 {m:ZM} {n B p q:Nat} (h:AI n B m) (hp:p<n) (hq:q<n) (hpq:p≠q):NC m (I9 n p q)=L7 m q p:=by
 have hel:(I9 n p q).length=n:=by unfold I9; rw[List.length_set,NE]
 have h0:0<n:=by omega
 unfold NC L7
 refine D1 (by rw[p8,List.length_map]) fun i hi=>?_
 rw[p8,h.len] at hi
 rw[q9 (by rw[h.len]; exact hi),QO (by rw[h.len]; exact hi),UT hp h0,hel]
 unfold KT
 refine D1 (by rw[p8,List.length_set,h.row i hi]) fun j hj=>?_
 rw[p8] at hj
 rw[q9 hj,lH hp hq hpq hj (Nat.le_refl _),JM (by rw[h.row i hi]; exact hq),if_pos hj]
 by_cases c:j=q
 ·rw[if_pos ⟨c,hp⟩,if_pos c,c]
 ·rw[if_neg (fun a=>c a.1),if_neg c,Int.add_zero]
theorem lG {m s:ZM} {n B:Nat} (h:AI n B m) (hs:∀k j,0<=b6 (b6 s k) j/\b6 (b6 s k) j<=1) {i j:Nat}:∀{k:Nat},0<=Z8 m s i j k/\Z8 m s i j k<=k*B
 | 0=>by show 0<=(0:Int)/\(0:Int)<=_; omega
 | k+1=>by
  have ih:=lG h hs (i:=i) (j:=j) (k:=k)
  unfold Z8 at ih ⊢
  rw[K2]
  have a:=h.rg i k
  have b:=hs k j
  have e:b6 (b6 s k) j=0\/b6 (b6 s k) j=1:=by omega
  have:((k+1:Nat):Int)*B=k*B+B:=by rw[Int.natCast_add,Int.add_mul]; simp
  rw[this]
  rcases e with e | e
  ·rw[e,Int.mul_zero]; omega
  ·rw[e,Int.mul_one]; omega
theorem tS {n p q:Nat} (hp:p<n) (hq:q<n) (hpq:p≠q):∀k j,0<=b6 (b6 (I9 n p q) k) j/\b6 (b6 (I9 n p q) k) j<=1:=fun k j=>by
 have hel:(I9 n p q).length=n:=by unfold I9; rw[List.length_set,NE]
 by_cases hk:k<n
 ·by_cases hj:j<n
  ·rw[gS hp hq hpq hk hj]
   split<;>split<;>omega
  ·rw[v6 (show (b6 (I9 n p q) k).length<=j by rw[UT hp hk]; omega)]
   show 0<=(0:Int)/\(0:Int)<=1
   omega
 ·rw[show b6 (I9 n p q) k=[] from by simp[b6,List.getElem?_eq_none (show (I9 n p q).length<=k by omega)]<;>rfl]
  show 0<=(0:Int)/\(0:Int)<=1
  omega
end Go.Fl

/- Contracts: unit matrices. -/
namespace Go.Fl
open Go Go.Proofs
open b8 renaming op->tO
open j1 renaming op->rO
set_option maxRecDepth 100000

def D6 (n k:Nat):List (List Int):=j4 n fun i=>if i<k then (List.replicate n 0).set i 1 else []
theorem T5 {n:Nat}:List.replicate n []=D6 n 0:=by
 refine D1 (by rw[List.length_replicate]; exact p8.symm) fun i hi=>?_
 rw[List.length_replicate] at hi
 unfold D6
 rw[q9 hi,if_neg zo]
 simp[b6,hi]
theorem EM {n:Nat}:D6 n n=B5 n:=C9 fun _ hi=>if_pos hi
theorem lZ {n k j:Nat} (h:k<=j):b6 (D6 n k) j=[]:=by
 by_cases hj:j<n
 ·unfold D6; rw[q9 hj,if_neg zo]
 ·exact v6 (by show (j4 _ _).length<=j; rw[p8]; omega)
theorem HC {α:Type} [Inhabited α] {l:List α} {k:Nat} {x:α} (h:k<l.length):b6 (l.set k x) k=x:=by simp[b6,h]
theorem MG {α:Type} [Inhabited α] {l:List α} {k j:Nat} {x:α} (h:j≠k):b6 (l.set k x) j=b6 l j:=by simp[b6,List.getElem?_set_ne (Ne.symm h)]
theorem T4 {n k:Nat} (hk:k<n):((D6 n k).set k (List.replicate n 0)).set k ((b6 ((D6 n k).set k (List.replicate n 0)) k).set k 1)=D6 n (k+1):=by
 have hl:(D6 n k).length=n:=p8
 rw[HC zo]
 refine D1 (by rw[List.length_set,List.length_set,hl]; exact p8.symm) fun i hi=>?_
 rw[List.length_set,List.length_set,hl] at hi
 by_cases e:i=k
 ·subst e
  rw[HC (by rw[List.length_set]; omega)]
  unfold D6; rw[q9 hi,if_pos zo]
 ·rw[MG e,MG e]
  unfold D6; rw[q9 hi,q9 hi]
  by_cases q:i<k
  ·rw[if_pos q,if_pos zo]
  ·rw[if_neg q,if_neg zo]
theorem jO {hs:List Value} {rows:List (List Int)} {k:Nat} {v:Value} {xs:List Int} (hk:k<hs.length) (hr:k<rows.length):k<(hs.set k v).length/\b6 (hs.set k v) k=v/\b6 (rows.set k xs) k=xs/\∀j,j≠k->(j<(hs.set k v).length->j<hs.length/\b6 (hs.set k v) j=b6 hs j/\b6 (rows.set k xs) j=b6 rows j)/\((hs.set k v).length<=j->hs.length<=j) :=
 ⟨by rw[List.length_set]; exact hk,HC hk,HC hr,fun j hj=>⟨fun h=>⟨by rw[List.length_set] at h; exact h,MG hj,MG hj⟩,fun h=>by rw[List.length_set] at h; exact h⟩⟩
theorem jP {n:Nat}:∀j,j<(List.replicate n (Value.slice none 0 0)).length->b6 (List.replicate n (Value.slice none 0 0)) j=.slice none 0 0/\b6 (List.replicate n ([]:List Int)) j=[]:=fun j hj=>by
 rw[List.length_replicate] at hj
 constructor<;>simp[b6,hj]
theorem ah2 {n k i:Nat}:(b6 (D6 n k) i).length<=n:=by
 by_cases hi:i<n
 ·unfold D6; rw[q9 hi]; split
  ·rw[List.length_set,List.length_replicate]; omega
  ·exact Nat.zero_le _
 ·rw[v6 (by show (j4 _ _).length<=i; rw[p8]; omega)]; exact Nat.zero_le _
set_option maxHeartbeats 1000000 in
theorem rJ (n:Nat) (h8:n<=8):Ct Tryz.prog 96 [kI (n:Int)] (b7 (eL (eL eI)) (B5 n)):=by
 refine Ct.mk Tryz.func96 rfl Tryz.ntmps96 rfl (fun w J=>?_); refine j3 ?_; refine b8.new (BX M8 6 rfl uu rfl uu rfl rfl rfl (fun _=>zo)) rfl rfl rfl rfl ?_; refine m8 ?_; refine Tr.fam 1000 3 (hs:=(List.replicate n (Value.slice none 0 0))) (rows:=(List.replicate n [])) jP rfl ?_; refine jn ?_
 refine Tr.for1 (σ:=Nat×List Value) [⟨0,true,_,_⟩,⟨3,true,_,_⟩] [] (fun (k,hs)=>[⟨4,true,[],kI (k:Int)⟩]) (fun (k,hs)=>[⟨6,[],l3 false 22 M8 hs n⟩,⟨1000,[],s5 3 hs (D6 n k) 0⟩,⟨1001,[],s5 3 hs (D6 n k) 1⟩,⟨1002,[],s5 3 hs (D6 n k) 2⟩,⟨1003,[],s5 3 hs (D6 n k) 3⟩,⟨1004,[],s5 3 hs (D6 n k) 4⟩,⟨1005,[],s5 3 hs (D6 n k) 5⟩,⟨1006,[],s5 3 hs (D6 n k) 6⟩,⟨1007,[],s5 3 hs (D6 n k) 7⟩]) (fun (k,hs)=>k<=n/\hs.length=n) (fun (k,hs)=>k=n/\hs.length=n) (fun (k,hs)=>n-k) ((0,List.replicate n (Value.slice none 0 0))) ⟨by omega,by rw[List.length_replicate]⟩ (d6.mk (.i rfl zi<|zk) (.k rfl<|.e (by rw[T5]) rfl<|.e (by rw[T5]) rfl<|.e (by rw[T5]) rfl<|.e (by rw[T5]) rfl<|.e (by rw[T5]) rfl<|.e (by rw[T5]) rfl<|.e (by rw[T5]) rfl<|.e (by rw[T5]) rfl<|.nil) rfl) ?_ ?_
 ·rintro ⟨k,hs⟩ ⟨hk,hhl⟩
  refine jn ?_; refine j3 ?_; refine jq ?_ ?_
  ·intro h3
   refine l6 ?_
   have hul:(D6 n k).length=n:=p8
   have hrl:(b6 ((D6 n k).set k (List.replicate n 0)) k).length=n:=by rw[HC zo,List.length_replicate]
   refine i7 ?_; refine b8.new (BX eI 15 rfl uu rfl uu rfl rfl rfl (fun _=>zo)) rfl rfl rfl rfl ?_; refine b8.raw 15 15 rfl (fun v=>?_); refine b8.norm (S':=⟨_,_,_,_⟩::⟨_,_,_,_⟩::⟨_,_,_,_⟩::⟨_,_,_,_⟩::⟨_,_,_,_⟩::⟨_,_,_,_⟩::⟨_,_,_,_⟩::⟨_,_,_,_⟩::⟨_,_,_,_⟩::⟨_,_,_,_⟩::⟨_,_,_,_⟩::[]) (M':=[⟨_,_,_⟩,⟨_,_,_⟩,⟨_,_,_⟩,⟨_,_,_⟩,⟨_,_,_⟩,⟨_,_,_⟩,⟨_,_,_⟩,⟨_,_,_⟩,⟨_,_,_⟩,⟨_,_,_⟩]) rfl rfl ?_; refine g9 ?_
   obtain ⟨q1,q2,q3,q4⟩:=jO (hs:=hs) (rows:=D6 n k) (k:=k) (v:=v) (xs:=List.replicate n 0) zo zo
   refine b8.ren 15 1000 k (hs.set k v) ((D6 n k).set k (List.replicate n 0)) inferInstance zo zo (.inr (lZ (Nat.le_refl _))) q1 q2 q3 q4 rfl rfl ?_; refine b8.norm (S':=⟨_,_,_,_⟩::⟨_,_,_,_⟩::⟨_,_,_,_⟩::⟨_,_,_,_⟩::⟨_,_,_,_⟩::⟨_,_,_,_⟩::⟨_,_,_,_⟩::⟨_,_,_,_⟩::⟨_,_,_,_⟩::⟨_,_,_,_⟩::⟨_,_,_,_⟩::⟨_,_,_,_⟩::[]) (M':=[⟨_,_,_⟩,⟨_,_,_⟩,⟨_,_,_⟩,⟨_,_,_⟩,⟨_,_,_⟩,⟨_,_,_⟩,⟨_,_,_⟩,⟨_,_,_⟩,⟨_,_,_⟩]) rfl rfl ?_; refine j6 ?_; refine b8.asRow 20 1000 rfl inferInstance (by rw[List.length_set]; omega) zo ?_
   refine b8.norm (S':=⟨_,_,_,_⟩::⟨_,_,_,_⟩::⟨_,_,_,_⟩::⟨_,_,_,_⟩::⟨_,_,_,_⟩::⟨_,_,_,_⟩::⟨_,_,_,_⟩::⟨_,_,_,_⟩::⟨_,_,_,_⟩::⟨_,_,_,_⟩::⟨_,_,_,_⟩::⟨_,_,_,_⟩::⟨_,_,_,_⟩::⟨_,_,_,_⟩::⟨_,_,_,_⟩::⟨_,_,_,_⟩::⟨_,_,_,_⟩::[]) (M':=[⟨_,_,_⟩,⟨_,_,_⟩,⟨_,_,_⟩,⟨_,_,_⟩,⟨_,_,_⟩,⟨_,_,_⟩,⟨_,_,_⟩,⟨_,_,_⟩,⟨_,_,_⟩]) rfl rfl ?_; refine i4 ?_
   first | refine tO (QZ rfl uu rfl uu (fun _=>zo)) rfl rfl ?_ | refine tO (MM rfl uu rfl uu (fun _=>zo)) rfl rfl ?_
   refine b8.stR (t0:=1000) inferInstance rfl rfl zo ?_; refine b8.norm (S':=⟨_,_,_,_⟩::⟨_,_,_,_⟩::⟨_,_,_,_⟩::⟨_,_,_,_⟩::⟨_,_,_,_⟩::⟨_,_,_,_⟩::⟨_,_,_,_⟩::⟨_,_,_,_⟩::⟨_,_,_,_⟩::⟨_,_,_,_⟩::⟨_,_,_,_⟩::⟨_,_,_,_⟩::⟨_,_,_,_⟩::⟨_,_,_,_⟩::⟨_,_,_,_⟩::⟨_,_,_,_⟩::⟨_,_,_,_⟩::⟨_,_,_,_⟩::⟨_,_,_,_⟩::[]) (M':=[⟨_,_,_⟩,⟨_,_,_⟩,⟨_,_,_⟩,⟨_,_,_⟩,⟨_,_,_⟩,⟨_,_,_⟩,⟨_,_,_⟩,⟨_,_,_⟩,⟨_,_,_⟩]) rfl rfl ?_; refine j3 ?_
   exact g6.lp ((k+1,hs.set k v)) ⟨by omega,by rw[List.length_set]; exact hhl⟩ (by show n-(k+1)<n-k; omega) (d6.mk (.i rfl zi<|zk) (.k rfl<|.e (by rw[<- T4 zo]) rfl<|.e (by rw[<- T4 zo]) rfl<|.e (by rw[<- T4 zo]) rfl<|.e (by rw[<- T4 zo]) rfl<|.e (by rw[<- T4 zo]) rfl<|.e (by rw[<- T4 zo]) rfl<|.e (by rw[<- T4 zo]) rfl<|.e (by rw[<- T4 zo]) rfl<|.nil) rfl)
  ·intro h3
   replace h3:=Int.not_lt.1 h3
   refine g8 ?_
   exact g6.cut ((k,hs)) ⟨by omega,hhl⟩ (d6.mk (.i rfl zi<|zk) (zk) rfl)
 ·rintro ⟨k,hs⟩ ⟨hkn,hhl⟩
  refine je ?_; refine g9 ?_; refine Tr.frzM 3 6 1000 rfl inferInstance zo (by rw[hkn,hhl]; exact p8) (fun i=>Nat.le_trans ah2 (by simp only[p6]; omega)) rfl ?_; refine jn ?_; refine l6 ?_; exact d9.res1 (fn:=Tryz.f96) rfl (.r rfl (by rw[hkn,EM])<|.nil)

end Go.Fl

/-
 DERIVED: THE SHELF's CONTRACTS AT THIS DUMP, IN PLAIN WORDS (tools/lay-plain.mjs out of 'YthfaleobmefibaaGreatInsRaw.lean', which tools/lay-shelf.mjs wrote): THE SAME DECLARATIONS UNDER THE SAME NAMES: 'import', 'namespace', 'open', 'def', 'theorem' AND NOTHING ELSE: no command of the shelf's: FOR A HAND-IN. Each laying: the table of numbers ('.._ren') and one theorem, a field a fact of the dump's own or the kernel's comparison; each contract: ONE APPLICATION.
-/
namespace Go.Proofs
open Go.Shelf
def Tryz.laysIns_ren:Go.Shelf.Ren:=⟨fun | 21=>184 | 27=>207 | 28=>208 | 35=>220 | 39=>226 | n=>n,fun | 22=>22 | 3=>3 | 4=>4 | 0=>0 | n=>n,fun | n=>n⟩
theorem Tryz.laysIns:Go.Proofs.Lays2.n21 Tryz.prog Tryz.laysIns_ren:={
 mixed:=by kernel_rfl
 f21:=Tryz.func184.trans (congrArg some (by kernel_rfl))
 f27:=Tryz.func207.trans (congrArg some (by kernel_rfl))
 f28:=Tryz.func208.trans (congrArg some (by kernel_rfl))
 f35:=Tryz.func220.trans (congrArg some (by kernel_rfl))
 f39:=Tryz.func226.trans (congrArg some (by kernel_rfl))
 t0:=Tryz.underlying0
 a0:=Tryz.isAgg0
 z0:=Tryz.sizeOf0
 v0:=Tryz.zeroValue0
 t3:=Tryz.underlying3
 a3:=Tryz.isAgg3
 z3:=Tryz.sizeOf3
 v3:=Tryz.zeroValue3
 t4:=Tryz.underlying4
 a4:=Tryz.isAgg4
 z4:=Tryz.sizeOf4
 v4:=Tryz.zeroValue4
 t22:=Tryz.underlying22
 a22:=Tryz.isAgg22
 z22:=Tryz.sizeOf22
 v22:=Tryz.zeroValue22
 i3:=by kernel_rfl }
end Go.Proofs

/- Contracts: irreducible rows, steps of rows. -/
namespace Go.Fl
open Go Go.Proofs
open b8 renaming op->tO
open j1 renaming op->rO
set_option maxRecDepth 100000

def G7 (r:q7):Int:=if H3 r≠0 then H3 r else if B3 r=true then 0 else 3
theorem uT {r:q7} (h:G7 r=0):E2 r/\B3 r=true:=by
 unfold G7 at h
 by_cases c:H3 r=0
 ·rw[if_neg (fun a=>a c)] at h
  by_cases c2:B3 r=true
  ·exact ⟨MV c,c2⟩
  ·rw[if_neg c2] at h; omega
 ·rw[if_pos c] at h; exact absurd h c
theorem fD {f:Int->Bool}:∀{l:List Int},-1<=O4 f l/\O4 f l<l.length
 | []=>by show -1<=(-1:Int)/\(-1:Int)<_; simp
 | x::l=>by
  have ih:=fD (f:=f) (l:=l)
  rw[O4,List.length_cons]
  split
  ·omega
  ·split<;>omega
theorem rB (r:q7) (v:E2 r):Ct Tryz.prog 105 [b7 eO r] (kB (B3 r)):=by
 have hv1:=v.len
 have hv2:=v.two
 have hv3:=v.le
 have hrb:∀i,i<r.1.length->0<=b6 r.1 i/\b6 r.1 i<100:=fun i hi=>v.b1 _ (G1 hi)
 have hub:∀i,i<r.2.length->0<=b6 r.2 i/\b6 r.2 i<100:=fun i hi=>v.b2 _ (G1 hi)
 have hpl:=iP v
 refine Ct.mk Tryz.func105 rfl Tryz.ntmps105 rfl (fun w J=>?_); refine g9 ?_; refine jb 1 rfl ?_; refine m8 ?_; refine Tr.for1 (σ:=Nat) [⟨1,true,_,_⟩] [⟨1,_,_⟩] (fun k=>[⟨3,true,[],kI (k:Int)⟩]) (fun k=>[]) (fun k=>1<=k/\k<=r.1.length/\∀j,j<k->1<=j->S5 r j=true) (fun k=>∀j,j<r.1.length->1<=j->S5 r j=true) (fun k=>r.1.length-k) (1) ⟨Nat.le_refl _,by omega,fun j hj hj1=>absurd hj1 zo⟩ (d6.mk (.i rfl (by rfl)<|zk) (zk) rfl) ?_ ?_
 ·rintro k ⟨hk1,hk2,hR0⟩
  refine jn ?_; refine u5 ?_; refine jq ?_ ?_
  ·intro h2
   refine L4 ?_
   refine Tr.for1 (σ:=Nat) [⟨1,true,_,_⟩,⟨3,true,_,_⟩] [⟨1,_,_⟩] (fun i=>[⟨5,true,[],kI (i:Int)⟩,⟨4,true,[],kB (DH r k i)⟩]) (fun i=>[]) (fun i=>i<=k) (fun i=>i=k) (fun i=>k-i) (0) (Nat.zero_le _) (d6.mk (.i rfl zi<|.b rfl aa5.symm<|zk) (zk) rfl) ?_ ?_
   ·intro i hR1
    refine jn ?_; refine j3 ?_; refine jq ?_ ?_
    ·intro h6
     refine g8 ?_; refine Tr.draw 11 n8 (by kernel_rfl) ?_; refine l8 ?_; refine j1.gd rfl rfl rfl (FS rfl id rfl id (fun hp=>by simp at hp; omega)) rfl rfl ?_; refine i7 ?_
     first | refine j1.gd rfl rfl rfl (F2 rfl id rfl id rfl (fun hp=>by simp at hp; omega)) rfl rfl ?_ | refine j1.gd rfl rfl rfl (BV rfl id rfl id rfl (fun hp=>by simp at hp; omega)) rfl rfl ?_
     refine g9 ?_; refine b8.gd rfl rfl rfl (i6 (fun hp=>aR _ _) (.a rfl id<|.a rfl id<|.nil)) rfl rfl ?_; refine u5 ?_
     exact g6.lp (i+1) zi zo (d6.mk (.i rfl zi<|.b rfl (aa4 zo).symm<|zk) (zk) rfl)
    ·intro h6
     replace h6:=Int.not_lt.1 h6
     refine g8 ?_
     exact g6.cut (i) zo (d6.mk (.i rfl zi<|.b rfl zi<|zk) (zk) rfl)
   ·intro i hEi
    refine je ?_; refine l6 ?_; refine Tr.cnd rfl ?_ ?_
    ·intro h9
     rw[hEi] at h9
     have hno:=uV v (k:=k) zo zo h9
     refine u9 ?_; exact d9.res1 (fn:=Tryz.f105) rfl (.b rfl hno.symm<|.nil)
    ·intro h9
     rw[hEi] at h9
     have hyes:S5 r k=true:=by rw[PX v zo,h9]; rfl
     refine j3 ?_
     exact g6.lp (k+1) ⟨by omega,by omega,fun j hj hj1=>by (rcases Nat.lt_succ_iff_lt_or_eq.1 hj with h | h; exact hR0 j h hj1; rw[h]; exact hyes)⟩ zo (d6.mk (.i rfl zi<|zk) (zk) rfl)
  ·intro h2
   replace h2:=Int.not_lt.1 h2
   refine g8 ?_
   exact g6.cut (k) (fun j hj hj1=>hR0 j zo hj1) (d6.mk (.i rfl zi<|zk) (zk) rfl)
 ·intro k hE0
  refine je ?_; refine j6 ?_; exact d9.res1 (fn:=Tryz.f105) rfl (.b rfl (eY hE0).symm<|.nil)

theorem qN (l:List Int) (φ:Int->Prop) (f:Int->Bool) (hl:∀x∈l,φ x):Ct Tryz.prog 149 [b7 (eL eI) l,JC Tryz.prog φ (fun x:Int=>[kI x]) (fun x:Int=>kB (f x))] (kI (O4 f l)):=by
 refine Ct.mk Tryz.func149 rfl Tryz.ntmps149 rfl (fun w J=>?_); refine Tr.fact (s:=0) rfl (fun _ _ h=>U9 h) (fun hb=>?_); refine D2 ?_
 refine Tr.for1 (σ:=Nat) [⟨0,true,_,_⟩,⟨1,true,_,_⟩,⟨7,true,_,_⟩] [] (fun k=>[⟨8,true,[],kI (k:Int)⟩]) (fun k=>[]) (fun k=>k<=l.length/\∀i,i<k->f (b6 l i)=false) (fun k=>∀i,i<l.length->f (b6 l i)=false) (fun k=>l.length-k) (0) ⟨by omega,fun i h=>absurd h zo⟩ (d6.mk (.i rfl zi<|zk) (.nil) rfl) ?_ ?_
 ·rintro k ⟨hk,hR⟩
  refine jn ?_; refine l6 ?_; refine jq ?_ ?_
  ·intro h2
   refine P5 ?_; refine tO (WV (b6 l k) rfl uu (fun _=>hl _ (G1 zo)) (.a rfl uu<|.nil)) rfl rfl ?_; refine g9 ?_; refine Tr.cnd rfl ?_ ?_
   ·intro h4
    refine D2 ?_; exact d9.res1 (fn:=Tryz.f149) rfl (.i rfl (PY zo hR h4).symm<|.nil)
   ·intro h4
    refine j6 ?_
    exact g6.lp (k+1) ⟨by omega,fun i hi=>by (rcases Nat.lt_succ_iff_lt_or_eq.1 hi with h | h; exact hR i h; subst h; exact h4)⟩ zo (d6.mk (.i rfl zi<|zk) (.nil) rfl)
  ·intro h2
   replace h2:=Int.not_lt.1 h2
   refine g8 ?_
   exact g6.cut (k) (fun i hi=>hR i zo) (d6.mk (.i rfl zi<|zk) (.nil) rfl)
 ·intro k hE
  refine je ?_; refine j6 ?_; exact d9.res1 (fn:=Tryz.f149) rfl (.i rfl (VN hE).symm<|.nil)

theorem aV (l:List Int) (φ:Int->Prop) (f:Int->Bool) (hl:∀x∈l,φ x):Ct Tryz.prog 99 [b7 (eL eI) l,JC Tryz.prog φ (fun x:Int=>[kI x]) (fun x:Int=>kB (f x))] (kB (l.any f)):=by
 refine Ct.mk Tryz.func99 rfl Tryz.ntmps99 rfl (fun w J=>?_); refine m8 ?_; refine tO (i6 (fun hp=>qN _ _ _ (by assumption)) (.a rfl uu<|.a rfl uu<|.nil)) rfl rfl ?_; refine l8 ?_; exact d9.res1 (fn:=Tryz.f99) rfl (.b rfl VM<|.nil)

theorem cN (l:List Int) (x:Int):Ct Tryz.prog 185 [b7 (eL eI) l,kI x] (kI (O4 (fun y=>decide (x=y)) l)):=by
 refine Ct.mk Tryz.func185 rfl Tryz.ntmps185 rfl (fun w J=>?_); refine Tr.fact (s:=0) rfl (fun _ _ h=>U9 h) (fun hb=>?_); refine D2 ?_
 refine Tr.for1 (σ:=Nat) [⟨0,true,_,_⟩,⟨1,true,_,_⟩,⟨7,true,_,_⟩] [] (fun k=>[⟨8,true,[],kI (k:Int)⟩]) (fun k=>[]) (fun k=>k<=l.length/\∀i,i<k->decide (x=b6 l i)=false) (fun k=>∀i,i<l.length->decide (x=b6 l i)=false) (fun k=>l.length-k) (0) ⟨by omega,fun i h=>absurd h zo⟩ (d6.mk (.i rfl zi<|zk) (.nil) rfl) ?_ ?_
 ·rintro k ⟨hk,hR⟩
  refine jn ?_; refine l6 ?_; refine jq ?_ ?_
  ·intro h2
   refine JA ?_; refine jq ?_ ?_
   ·intro h4
    refine D2 ?_; exact d9.res1 (fn:=Tryz.f185) rfl (.i rfl (PY zo hR (decide_eq_true h4)).symm<|.nil)
   ·intro h4
    refine j6 ?_
    exact g6.lp (k+1) ⟨by omega,fun i hi=>by (rcases Nat.lt_succ_iff_lt_or_eq.1 hi with h | h; exact hR i h; subst h; exact decide_eq_false h4)⟩ zo (d6.mk (.i rfl zi<|zk) (.nil) rfl)
  ·intro h2
   replace h2:=Int.not_lt.1 h2
   refine g8 ?_
   exact g6.cut (k) (fun i hi=>hR i zo) (d6.mk (.i rfl zi<|zk) (.nil) rfl)
 ·intro k hE
  refine je ?_; refine j6 ?_; exact d9.res1 (fn:=Tryz.f185) rfl (.i rfl (VN hE).symm<|.nil)

theorem sC (l:List Int) (x:Int):Ct Tryz.prog 155 [b7 (eL eI) l,kI x] (kB (l.any fun y=>decide (x=y))):=by
 refine Ct.mk Tryz.func155 rfl Tryz.ntmps155 rfl (fun w J=>?_); refine m8 ?_; refine tO (i6 (fun hp=>cN _ _) (.a rfl uu<|.a rfl uu<|.nil)) rfl rfl ?_; refine l8 ?_; exact d9.res1 (fn:=Tryz.f155) rfl (.b rfl VM<|.nil)

theorem qQ (x:Int) (r:q7) (k:Nat) (hk:k<=r.2.length):Ct Tryz.prog 154 [kI x,s6 eO r,s6 eI (k:Int)] (kB (!decide (x∈r.2.take k))):=by
 refine Ct.mk Tryz.func154 rfl Tryz.ntmps154 rfl (fun w J=>?_); refine u5 ?_; refine tO (FS rfl uu rfl uu (fun _=>zo)) rfl rfl ?_; refine i4 ?_; refine tO (i6 (fun hp=>sC _ _) (.a rfl uu<|.a rfl uu<|.nil)) rfl rfl ?_; refine l8 ?_; exact d9.res1 (fn:=Tryz.f154) rfl (.b rfl (by congr 1; rw[Bool.eq_iff_iff]; simp[List.any_eq_true])<|.nil)

theorem qP (r:q7) (v:E2 r):Ct Tryz.prog 109 [b7 eO r] (kB (B3 r)):=by
 have hv1:=v.len
 have hv2:=v.two
 have hv3:=v.le
 have hrb:∀i,i<r.1.length->0<=b6 r.1 i/\b6 r.1 i<100:=fun i hi=>v.b1 _ (G1 hi)
 have hub:∀i,i<r.2.length->0<=b6 r.2 i/\b6 r.2 i<100:=fun i hi=>v.b2 _ (G1 hi)
 have hpl:=iP v
 refine Ct.mk Tryz.func109 rfl Tryz.ntmps109 rfl (fun w J=>?_); refine g9 ?_; refine jb 1 rfl ?_; refine l8 ?_; refine Tr.frzB 1 [1] eO ⟨rfl,trivial⟩ rfl ?_; refine jn ?_; refine i4 ?_; refine ja 3 ?_; refine i7 ?_; refine Tr.for1 (σ:=Nat) [⟨1,true,_,_⟩] [] (fun k=>[⟨3,true,[3],y5 3 0⟩]) (fun k=>[⟨3,[],j5 [kI (k:Int)]⟩]) (fun k=>1<=k/\k<=r.1.length/\∀j,j<k->1<=j->S5 r j=true) (fun k=>∀j,j<r.1.length->1<=j->S5 r j=true) (fun k=>r.1.length-k) (1) ⟨Nat.le_refl _,by omega,fun j hj hj1=>absurd hj1 zo⟩ (d6.mk (zk) (.e (by rfl) rfl<|.nil) rfl) ?_ ?_
 ·rintro k ⟨hk1,hk2,hR0⟩
  refine jn ?_; refine u5 ?_; refine jq ?_ ?_
  ·intro h2
   refine l8 ?_; refine Tr.frzB 3 [3] eI ⟨rfl,trivial⟩ rfl ?_; refine jn ?_; refine g8 ?_; refine tO (FS rfl uu rfl uu (fun _=>zo)) rfl rfl ?_; refine tO (FP (.cons rfl uu<|.cons rfl uu .nil)) rfl rfl ?_; refine tO (i6 (fun hp=>aV (r.1.take k) (fun _=>True) (fun x=>!decide (x∈r.2.take k)) (fun _ _=>trivial)) (.a rfl uu<|.cons rfl uu (fun g u h=>QA (fun a _=>qQ a r k zo) g u h)<|.nil)) rfl rfl ?_; refine i7 ?_; refine Tr.cnd rfl ?_ ?_
   ·intro h4
    have hno:S5 r k=false:=by simpa [S5] using h4
    refine u9 ?_; exact d9.res1 (fn:=Tryz.f109) rfl (.b rfl (uW hk1 zo hno).symm<|.nil)
   ·intro h4
    have hyes:S5 r k=true:=by simpa [S5] using h4
    refine u5 ?_; refine ja 3 ?_; refine j3 ?_; exact g6.lp (k+1) ⟨by omega,by omega,fun j hj hj1=>by (rcases Nat.lt_succ_iff_lt_or_eq.1 hj with h | h; exact hR0 j h hj1; rw[h]; exact hyes)⟩ zo (d6.mk (zk) (.e (by rfl) rfl<|.nil) rfl)
  ·intro h2
   replace h2:=Int.not_lt.1 h2
   refine g8 ?_; exact g6.cut (k) (fun j hj hj1=>hR0 j zo hj1) (d6.mk (zk) (zk) rfl)
 ·intro k hE0
  refine je ?_; refine j6 ?_; exact d9.res1 (fn:=Tryz.f109) rfl (.b rfl (eY hE0).symm<|.nil)

theorem bL (r:q7):Ct Tryz.prog 98 [b7 eO r] (kI (G7 r)):=by
 refine Ct.mk Tryz.func98 rfl Tryz.ntmps98 rfl (fun w J=>?_); refine g9 ?_; refine jb 1 rfl ?_; refine j6 ?_; refine tO (i6 (fun hp=>TZ _) (.s rfl uu rfl<|.nil)) rfl rfl ?_; refine m8 ?_; refine jq ?_ ?_
 ·intro h2
  have hr:G7 r=H3 r:=if_pos h2
  refine j3 ?_; exact d9.res1 (fn:=Tryz.f98) rfl (.i rfl hr.symm<|.nil)
 ·intro h2
  replace h2:=Classical.not_not.1 h2
  have v:=MV (by omega:H3 r=0)
  refine l6 ?_; refine tO (i6 (fun hp=>qP _ v) (.s rfl uu rfl<|.nil)) rfl rfl ?_; refine i7 ?_; refine Tr.cnd rfl ?_ ?_
  ·intro h4
   have hir:B3 r=false:=by simpa using h4
   have hr:G7 r=3:=by unfold G7; rw[if_neg (fun a=>a h2),hir]; rfl
   refine j6 ?_; exact d9.res1 (fn:=Tryz.f98) rfl (.i rfl hr.symm<|.nil)
  ·intro h4
   have hir:B3 r=true:=by simpa using h4
   have hr:G7 r=0:=by unfold G7; rw[if_neg (fun a=>a h2),if_pos hir]
   refine j3 ?_; exact d9.res1 (fn:=Tryz.f98) rfl (.i rfl hr.symm<|.nil)

theorem qY (r:q7):Ct Tryz.prog 55 [b7 eO r] (kI (G7 r)):=by
 refine Ct.mk Tryz.func55 rfl Tryz.ntmps55 rfl (fun w J=>?_); refine g9 ?_; refine jb 1 rfl ?_; refine j6 ?_; refine tO (i6 (fun hp=>bS _) (.s rfl uu rfl<|.nil)) rfl rfl ?_; refine m8 ?_; refine jq ?_ ?_
 ·intro h2
  have hr:G7 r=H3 r:=if_pos h2
  refine j3 ?_; exact d9.res1 (fn:=Tryz.f55) rfl (.i rfl hr.symm<|.nil)
 ·intro h2
  replace h2:=Classical.not_not.1 h2
  have v:=MV (by omega:H3 r=0)
  refine l6 ?_; refine tO (i6 (fun hp=>rB _ v) (.s rfl uu rfl<|.nil)) rfl rfl ?_; refine i7 ?_; refine Tr.cnd rfl ?_ ?_
  ·intro h4
   have hir:B3 r=false:=by simpa using h4
   have hr:G7 r=3:=by unfold G7; rw[if_neg (fun a=>a h2),hir]; rfl
   refine j6 ?_; exact d9.res1 (fn:=Tryz.f55) rfl (.i rfl hr.symm<|.nil)
  ·intro h4
   have hir:B3 r=true:=by simpa using h4
   have hr:G7 r=0:=by unfold G7; rw[if_neg (fun a=>a h2),if_pos hir]
   refine j3 ?_; exact d9.res1 (fn:=Tryz.f55) rfl (.i rfl hr.symm<|.nil)

theorem OP (row:List Int) (h:1<=row.length):Ct Tryz.prog 147 [b7 (eL eI) row] (kI (n9 row)):=by
 refine Ct.mk Tryz.func147 rfl Tryz.ntmps147 rfl (fun w J=>?_); refine Tr.fact (s:=0) rfl (fun _ _ h=>U9 h) (fun hb=>?_); refine P5 ?_; exact d9.res1 (fn:=Tryz.f147) rfl (.i rfl (by unfold n9; rw[show ((row.length:Int)-1).toNat=row.length-1 by omega])<|.nil)

theorem UI (row:List Int) (b:Int) (h2:2<=row.length) (hn:row.length<=900):Ct Tryz.prog 151 [b7 (eL eI) row,kI b] (b7 (eL eI) (N7 row b)):=by
 have hix:=fD (f:=fun y=>decide (b=y)) (l:=(row.take (row.length-1)))
 have htl:(row.take (row.length-1)).length=row.length-1:=by rw[List.length_take]; omega
 have htk:row.take ((row.length:Int)-1).toNat=(row.take (row.length-1)):=by rw[show ((row.length:Int)-1).toNat=row.length-1 by omega]
 refine Ct.mk Tryz.func151 rfl Tryz.ntmps151 rfl (fun w J=>?_); refine P5 ?_; refine tO (FS rfl uu rfl uu (fun _=>zo)) rfl rfl ?_
 rw[htk]
 refine b8.new (ED 13 (fun hp=>ON (row.take (row.length-1)) zo zo) (.a rfl uu<|.nil)) rfl rfl rfl rfl ?_; refine g8 ?_; refine Tr.draw 10 n8 (by kernel_rfl) ?_; refine i7 ?_; refine rO (xQ (fun hp=>cN (row.take (row.length-1)) b) rfl uu (fun _=>by simp only[p6]; omega) (.a rfl uu<|.nil)) rfl rfl ?_; refine i4 ?_
 rw[show (O4 (fun y=>decide (b=y)) (row.take (row.length-1)))+1=((((O4 (fun y=>decide (b=y)) (row.take (row.length-1)))+1).toNat:Nat):Int) by omega]
 refine g8 ?_; refine j1.new (w4 eI 23 (fun hp=>.cons rfl<|.nil) rfl rfl rfl rfl) rfl rfl rfl rfl ?_; refine i4 ?_; refine b8.insI (f:=184) Go.Proofs.Tryz.laysIns rfl rfl rfl rfl zo rfl rfl zo rfl rfl ?_; refine jl ?_; refine i7 ?_; refine Tr.frz 13 [4] ⟨rfl,trivial⟩ (by simp only[p6]; omega) rfl ?_; refine i4 ?_; exact d9.res1 (fn:=Tryz.f151) rfl (.r rfl (by unfold N7 n9; rw[show ((row.length:Int)-1).toNat=row.length-1 by omega])<|.nil)

theorem bJ (r:q7) (h1:2<=r.1.length/\r.1.length<=900) (h2:2<=r.2.length/\r.2.length<=900):Ct Tryz.prog 150 [b7 eO r] (z9 [b7 eO (r.1,N7 r.2 (n9 r.1)),kI (n9 r.1),kI (n9 r.2)]):=by
 refine Ct.mk Tryz.func150 rfl Tryz.ntmps150 rfl (fun w J=>?_); refine g9 ?_; refine jb 1 rfl ?_; refine ja 2 ?_; refine l8 ?_; refine Tr.draw 5 n8 (by kernel_rfl) ?_; refine g9 ?_; refine jd (OP r.1 zo) ?_; refine i7 ?_; refine jc (OP r.2 zo) ?_; refine l8 ?_; refine Tr.drawA n8 #[false,false,false,false,false,false,false,false,false,false,false,false,false] rfl ?_; refine f0.take 0 #[true,false,false,false,false,false,false,false,false,false,false,false,false] (by kernel_rfl) (by kernel_rfl) (by kernel_rfl) rfl rfl (CL rfl) rfl rfl ?_
 refine f0.take 3 #[true,false,false,true,false,false,false,false,false,false,false,false,false] (by kernel_rfl) (by kernel_rfl) (by kernel_rfl) rfl rfl (CL rfl) rfl rfl ?_; refine f0.take 5 #[true,false,false,true,false,true,false,false,false,false,false,false,false] (by kernel_rfl) (by kernel_rfl) (by kernel_rfl) rfl rfl (Q5 rfl) rfl rfl ?_; refine f0.take 8 #[true,false,false,true,false,true,false,false,true,false,false,false,false] (by kernel_rfl) (by kernel_rfl) (by kernel_rfl) rfl rfl (Q5 rfl) rfl rfl ?_; refine f0.take 9 #[true,false,false,true,false,true,false,false,true,true,false,false,false] (by kernel_rfl) (by kernel_rfl) (by kernel_rfl) rfl rfl (Q5 rfl) rfl rfl ?_
 refine f0.all [1,4] (by kernel_rfl) (by simp) (fun i hi=>?_)
 simp only[List.mem_cons,List.not_mem_nil,or_false] at hi
 rcases hi with rfl | rfl
 ·refine ⟨_,rfl,?_⟩
  refine tO (V0 rfl uu rfl) rfl rfl ?_; refine f0.k #[true,true,false,true,false,true,false,false,true,true,false,false,false] rfl (fun _ _ _ _=>trivial) ?_; refine f0.all [2,4] (by kernel_rfl) (by simp) (fun i hi=>?_)
  simp only[List.mem_cons,List.not_mem_nil,or_false] at hi
  rcases hi with rfl | rfl
  ·refine ⟨_,rfl,?_⟩
   refine jc (CU r.1 zo) ?_; refine f0.k #[true,true,true,true,false,true,false,false,true,true,false,false,false] rfl (fun _ _ _ _=>trivial) ?_; refine f0.one 4 (by kernel_rfl) rfl ?_; refine tO (V0 rfl uu rfl) rfl rfl ?_; refine f0.k #[true,true,true,true,true,true,false,false,true,true,false,false,false] rfl (fun _ _ _ _=>trivial) ?_; refine f0.one 6 (by kernel_rfl) rfl ?_; refine jc (UI r.2 (n9 r.1) h2.1 h2.2) ?_; refine f0.k #[true,true,true,true,true,true,true,false,true,true,false,false,false] rfl (fun _ _ _ _=>trivial) ?_
   refine f0.one 7 (by kernel_rfl) rfl ?_; refine tO (A1 (fun hp=>.cons rfl rfl rfl<|.cons rfl rfl rfl<|.nil)) rfl rfl ?_; refine f0.k #[true,true,true,true,true,true,true,true,true,true,false,false,false] rfl (fun _ _ _ _=>trivial) ?_; refine f0.one 10 (by kernel_rfl) rfl ?_; refine b8.stB rfl rfl rfl rfl ?_; refine f0.k #[true,true,true,true,true,true,true,true,true,true,true,false,false] rfl (fun _ _ _ _=>trivial) ?_; refine f0.one 11 (by kernel_rfl) rfl ?_; refine mw rfl rfl rfl ?_; refine f0.k #[true,true,true,true,true,true,true,true,true,true,true,true,false] rfl (fun _ _ _ _=>trivial) ?_
   refine f0.one 12 (by kernel_rfl) rfl ?_; refine mw rfl rfl rfl ?_; refine f0.k #[true,true,true,true,true,true,true,true,true,true,true,true,true] rfl (fun _ _ _ _=>trivial) ?_; refine f0.done (by kernel_rfl) ?_; refine g9 ?_
   exact d9.resC (fn:=Tryz.f150) (ts:=[3,4]) rfl rfl rfl (t7 rfl (by rfl)) (.i rfl zi<|.i rfl zi<|.nil)
  ·refine ⟨_,rfl,?_⟩
   refine tO (V0 rfl uu rfl) rfl rfl ?_; refine f0.k #[true,true,false,true,true,true,false,false,true,true,false,false,false] rfl (fun _ _ _ _=>trivial) ?_; refine f0.one 2 (by kernel_rfl) rfl ?_; refine jc (CU r.1 zo) ?_; refine f0.k #[true,true,true,true,true,true,false,false,true,true,false,false,false] rfl (fun _ _ _ _=>trivial) ?_; refine f0.one 6 (by kernel_rfl) rfl ?_; refine jc (UI r.2 (n9 r.1) h2.1 h2.2) ?_; refine f0.k #[true,true,true,true,true,true,true,false,true,true,false,false,false] rfl (fun _ _ _ _=>trivial) ?_
   refine f0.one 7 (by kernel_rfl) rfl ?_; refine tO (A1 (fun hp=>.cons rfl rfl rfl<|.cons rfl rfl rfl<|.nil)) rfl rfl ?_; refine f0.k #[true,true,true,true,true,true,true,true,true,true,false,false,false] rfl (fun _ _ _ _=>trivial) ?_; refine f0.one 10 (by kernel_rfl) rfl ?_; refine b8.stB rfl rfl rfl rfl ?_; refine f0.k #[true,true,true,true,true,true,true,true,true,true,true,false,false] rfl (fun _ _ _ _=>trivial) ?_; refine f0.one 11 (by kernel_rfl) rfl ?_; refine mw rfl rfl rfl ?_; refine f0.k #[true,true,true,true,true,true,true,true,true,true,true,true,false] rfl (fun _ _ _ _=>trivial) ?_
   refine f0.one 12 (by kernel_rfl) rfl ?_; refine mw rfl rfl rfl ?_; refine f0.k #[true,true,true,true,true,true,true,true,true,true,true,true,true] rfl (fun _ _ _ _=>trivial) ?_; refine f0.done (by kernel_rfl) ?_; refine g9 ?_
   exact d9.resC (fn:=Tryz.f150) (ts:=[3,4]) rfl rfl rfl (t7 rfl (by rfl)) (.i rfl zi<|.i rfl zi<|.nil)
 ·refine ⟨_,rfl,?_⟩
  refine tO (V0 rfl uu rfl) rfl rfl ?_; refine f0.k #[true,false,false,true,true,true,false,false,true,true,false,false,false] rfl (fun _ _ _ _=>trivial) ?_; refine f0.one 1 (by kernel_rfl) rfl ?_; refine tO (V0 rfl uu rfl) rfl rfl ?_; refine f0.k #[true,true,false,true,true,true,false,false,true,true,false,false,false] rfl (fun _ _ _ _=>trivial) ?_; refine f0.one 2 (by kernel_rfl) rfl ?_; refine jc (CU r.1 zo) ?_; refine f0.k #[true,true,true,true,true,true,false,false,true,true,false,false,false] rfl (fun _ _ _ _=>trivial) ?_
  refine f0.one 6 (by kernel_rfl) rfl ?_; refine jc (UI r.2 (n9 r.1) h2.1 h2.2) ?_; refine f0.k #[true,true,true,true,true,true,true,false,true,true,false,false,false] rfl (fun _ _ _ _=>trivial) ?_; refine f0.one 7 (by kernel_rfl) rfl ?_; refine tO (A1 (fun hp=>.cons rfl rfl rfl<|.cons rfl rfl rfl<|.nil)) rfl rfl ?_; refine f0.k #[true,true,true,true,true,true,true,true,true,true,false,false,false] rfl (fun _ _ _ _=>trivial) ?_; refine f0.one 10 (by kernel_rfl) rfl ?_; refine b8.stB rfl rfl rfl rfl ?_; refine f0.k #[true,true,true,true,true,true,true,true,true,true,true,false,false] rfl (fun _ _ _ _=>trivial) ?_
  refine f0.one 11 (by kernel_rfl) rfl ?_; refine mw rfl rfl rfl ?_; refine f0.k #[true,true,true,true,true,true,true,true,true,true,true,true,false] rfl (fun _ _ _ _=>trivial) ?_; refine f0.one 12 (by kernel_rfl) rfl ?_; refine mw rfl rfl rfl ?_; refine f0.k #[true,true,true,true,true,true,true,true,true,true,true,true,true] rfl (fun _ _ _ _=>trivial) ?_; refine f0.done (by kernel_rfl) ?_; refine g9 ?_
  exact d9.resC (fn:=Tryz.f150) (ts:=[3,4]) rfl rfl rfl (t7 rfl (by rfl)) (.i rfl zi<|.i rfl zi<|.nil)

theorem bI (r:q7) (kind:Int) (g1:2<=r.1.length/\r.1.length<=900) (g2:2<=r.2.length/\r.2.length<=900):Ct Tryz.prog 103 [b7 eO r,kI kind] (z9 [b7 eO (G8 r kind),kI (y6 r kind),kI (y9 r kind)]):=by
 refine Ct.mk Tryz.func103 rfl Tryz.ntmps103 rfl (fun w J=>?_); refine g9 ?_; refine jb 2 rfl ?_; refine ja 4 ?_; refine S6 ?_; refine jq ?_ ?_
 ·intro h2
  have h2_:kind=0:=by assumption
  refine g8 ?_; refine tO (JN rfl uu (fun hp=>bJ r g1 g2) (.s rfl uu rfl<|.nil)) rfl rfl ?_; refine u5 ?_; exact d9.resC (fn:=Tryz.f103) (ts:=[5,6]) rfl rfl rfl (t7 rfl (by unfold G8; rw[if_pos h2_])) (.i rfl (by unfold y6; rw[if_pos h2_])<|.i rfl (by unfold y9; rw[if_pos h2_])<|.nil)
 ·intro h2
  have h2_:¬kind=0:=by assumption
  refine l6 ?_; refine jc (cQ r) ?_; refine tO (JN rfl uu (fun hp=>bJ (r.2,r.1) g2 g1) (.a rfl uu<|.nil)) rfl rfl ?_; refine g8 ?_; refine ja 8 ?_; refine j3 ?_; refine jc (cQ (r.2,N7 r.1 (n9 r.2))) ?_; refine j3 ?_; exact d9.resC (fn:=Tryz.f103) (ts:=[5,6]) rfl rfl rfl (t7 rfl (by unfold G8; rw[if_neg h2_])) (.i rfl (by unfold y6; rw[if_neg h2_])<|.i rfl (by unfold y9; rw[if_neg h2_])<|.nil)

set_option maxHeartbeats 1000000 in
theorem cG (row:List Int) (l b:Int) (hn:row.length<=900):Ct Tryz.prog 107 [b7 (eL eI) row,kI l,kI b] (b7 (eL eI) (I0 row l b row.length)):=by
 refine Ct.mk Tryz.func107 rfl Tryz.ntmps107 rfl (fun w J=>?_); refine S6 ?_; refine Tr.grow (s:=7) rfl rfl 107 rfl 3 eI rfl ?_
 refine Tr.for1 (σ:=Nat) [⟨0,true,_,_⟩,⟨1,true,_,_⟩,⟨2,true,_,_⟩] [] (fun i=>[⟨7,true,[107],o5 107 (I0 row l b i).length⟩,⟨8,true,[],kI (i:Int)⟩]) (fun i=>[⟨107,[],l3 true 3 eI (I0 row l b i) (I0 row l b i).length⟩]) (fun i=>i<=row.length) (fun i=>i=row.length) (fun i=>row.length-i) (0) zi (d6.mk (.o rfl zi rfl<|.i rfl zi<|zk) (.a (by rfl) zi<|.nil) rfl) ?_ ?_
 ·intro i hR0
  refine jn ?_
  have hml:=WJ (row:=row) (l:=l) (b:=b) (i:=i)
  refine m8 ?_; refine jq ?_ ?_
  ·intro h3
   refine L4 ?_; refine jq ?_ ?_
   ·intro h5
    have e5:(if b6 row i≠l then [b6 row i] else [])=[b6 row i]:=if_pos h5
    refine l6 ?_; refine b8.new (w4 eI 26 (fun hp=>.cons rfl<|.nil) rfl rfl rfl rfl) rfl rfl rfl rfl ?_; refine i4 ?_; refine jl ?_; refine D2 ?_; refine jq ?_ ?_
    ·intro h7
     have e7:(if b6 row i=b then [l] else [])=[l]:=if_pos h7
     refine i7 ?_; refine b8.new (w4 eI 36 (fun hp=>.cons rfl<|.nil) rfl rfl rfl rfl) rfl rfl rfl rfl ?_; refine i4 ?_; refine jl ?_; refine m8 ?_
     exact g6.lp (i+1) zi zo (d6.mk (.o rfl (by rw[I0,e5,e7]; simp) rfl<|.i rfl zi<|zk) (.a (by rw[I0,e5,e7]) (by rw[I0,e5,e7]; simp)<|.nil) rfl)
    ·intro h7
     have e7:(if b6 row i=b then [l] else [])=[]:=if_neg h7
     refine j3 ?_
     exact g6.lp (i+1) zi zo (d6.mk (.o rfl (by rw[I0,e5,e7]; simp) rfl<|.i rfl zi<|zk) (.a (by rw[I0,e5,e7]; simp) (by rw[I0,e5,e7]; simp)<|.nil) rfl)
   ·intro h5
    replace h5:=Classical.not_not.1 h5
    have e5:(if b6 row i≠l then [b6 row i] else [])=[]:=if_neg (fun a=>a h5)
    refine u9 ?_; refine jq ?_ ?_
    ·intro h7
     have e7:(if b6 row i=b then [l] else [])=[l]:=if_pos h7
     refine i7 ?_; refine b8.new (w4 eI 36 (fun hp=>.cons rfl<|.nil) rfl rfl rfl rfl) rfl rfl rfl rfl ?_; refine i4 ?_; refine jl ?_; refine m8 ?_
     exact g6.lp (i+1) zi zo (d6.mk (.o rfl (by rw[I0,e5,e7]; simp) rfl<|.i rfl zi<|zk) (.a (by rw[I0,e5,e7]; simp) (by rw[I0,e5,e7]; simp)<|.nil) rfl)
    ·intro h7
     have e7:(if b6 row i=b then [l] else [])=[]:=if_neg h7
     refine j3 ?_
     exact g6.lp (i+1) zi zo (d6.mk (.o rfl (by rw[I0,e5,e7]; simp) rfl<|.i rfl zi<|zk) (.a (by rw[I0,e5,e7]; simp) (by rw[I0,e5,e7]; simp)<|.nil) rfl)
  ·intro h3
   replace h3:=Int.not_lt.1 h3
   refine g8 ?_
   exact g6.cut (i) zo (d6.mk (.o rfl zi rfl<|.i rfl zi<|zk) (zk) rfl)
 ·rintro i hin
  refine je ?_
  rw[hin]
  have hml:=WJ (row:=row) (l:=l) (b:=b) (i:=row.length)
  refine j6 ?_; refine Tr.frz 107 [6] ⟨rfl,trivial⟩ (by simp only[p6]; omega) rfl ?_; refine i4 ?_
  exact d9.res1 (fn:=Tryz.f107) rfl (.r rfl zi<|.nil)

end Go.Fl

/- Contracts: paths of rows and their matrices. -/
namespace Go.Fl
open Go Go.Proofs
open b8 renaming op->tO
open j1 renaming op->rO
set_option maxRecDepth 100000

def w6 (r:q7) (ks:List Int):Nat->q7
 | 0=>r
 | i+1=>G8 (w6 r ks i) (b6 ks i)
def B9 (r:q7) (ks:List Int):Nat->ZM
 | 0=>B5 r.1.length
 | i+1=>L7 (B9 r ks i) (y9 (w6 r ks i) (b6 ks i)).toNat (y6 (w6 r ks i) (b6 ks i)).toNat
theorem gC {r:q7} {k:Int} (h2:r.2.length=r.1.length) (h1:2<=r.1.length):(G8 r k).1.length=r.1.length/\(G8 r k).2.length=r.1.length:=by
 unfold G8
 split
 ·exact ⟨rfl,by show (N7 r.2 (n9 r.1)).length=_; rw[(XX (b:=n9 r.1) h2 zo).length_eq,h2]⟩
 ·exact ⟨by show (N7 r.1 (n9 r.2)).length=_; rw[(XX (row:=r.1) (b:=n9 r.2) rfl zo).length_eq],h2⟩
theorem PO {r:q7} {ks:List Int} (v:E2 r) (hi:B3 r=true):∀i,(E2 (w6 r ks i)/\B3 (w6 r ks i)=true)/\(w6 r ks i).1.length=r.1.length
 | 0=>⟨⟨v,hi⟩,rfl⟩
 | i+1=>by
  obtain ⟨⟨h1,h2⟩,h3⟩:=PO v hi (ks:=ks) i
  exact ⟨WK h1 h2 _,(gC h1.len h1.two).1.trans h3⟩
theorem GW {r:q7} (v:E2 r) (k:Int):(0<=y9 r k/\y9 r k<r.1.length)/\(0<=y6 r k/\y6 r k<r.1.length):=by
 have h1:=BS v.p1 (by have:=v.two; omega)
 have h2:=BS v.p2 (by have:=v.two; omega)
 unfold y9 y6
 split<;>exact ⟨by assumption,by assumption⟩
theorem ah1 {n:Nat}:AI n 1 (B5 n):=by
 refine ⟨p8,fun i hi=>?_,fun i j=>?_⟩
 ·unfold B5; rw[q9 hi,List.length_set,List.length_replicate]
 ·by_cases hi:i<n
  ·unfold B5; rw[q9 hi,JM (by rw[List.length_replicate]; exact hi)]
   split
   ·omega
   ·by_cases hj:j<n
    ·have:b6 (List.replicate n (0:Int)) j=0:=by simp[b6,hj]
     rw[this]; omega
    ·rw[v6 (by rw[List.length_replicate]; omega)]; show 0<=(0:Int)/\(0:Int)<=_; omega
  ·rw[show b6 (B5 n) i=[] from v6 (by show (j4 _ _).length<=i; rw[p8]; omega)]
   show 0<=(0:Int)/\(0:Int)<=_; omega
theorem PN {r:q7} {ks:List Int} (v:E2 r) (hi:B3 r=true):∀i,AI r.1.length (2 ^ i) (B9 r ks i)
 | 0=>ah1
 | i+1=>by
  obtain ⟨⟨h1,_⟩,h3⟩:=PO v hi (ks:=ks) i
  have:=mU (to:=(y9 (w6 r ks i) (b6 ks i)).toNat) (col:=(y6 (w6 r ks i) (b6 ks i)).toNat) (PN v hi (ks:=ks) i) (by have:=(GW h1 (b6 ks i)).1; omega)
  rw[<- Nat.pow_succ'] at this
  exact this
theorem AI.mono {n B C:Nat} {m:ZM} (h:AI n B m) (hBC:B<=C):AI n C m:=⟨h.len,h.row,fun i j=>⟨(h.rg i j).1,Int.le_trans (h.rg i j).2 zo⟩⟩
theorem dX {r:q7} {ks:List Int} (v:E2 r) (hi:B3 r=true) {i:Nat} (h:i<=61):AI r.1.length 2305843009213693952 (B9 r ks i):=(PN v hi i).mono (Nat.le_trans (Nat.pow_le_pow_right zo h) (by decide))
def Q4 (n k:Nat):ZM:=j4 k fun i=>(List.replicate n 0).set i 1
def I6 (m:ZM) (to col i:Nat):ZM:=j4 m.length fun q=>if q<i then KT to col (b6 m q) else b6 m q
theorem EX {m:ZM} {to col:Nat}:m=I6 m to col 0:=by
 refine D1 (by show m.length=(j4 _ _).length; rw[p8]) fun i hi=>?_
 unfold I6; rw[q9 hi,if_neg zo]
theorem EW {m:ZM} {to col:Nat}:I6 m to col m.length=L7 m to col:=by
 refine D1 (by show (j4 _ _).length=_; unfold L7; rw[p8,List.length_map]) fun i hi=>?_
 have hi:i<m.length:=by rw[show (I6 m to col m.length).length=m.length from p8] at hi; exact hi
 unfold I6 L7; rw[q9 hi,if_pos hi,QO hi]
theorem ZG {m:ZM} {to col i:Nat} (h:i<m.length):b6 (I6 m to col i) i=b6 m i:=by unfold I6; rw[q9 h,if_neg zo]
theorem S3 {m:ZM} {to col i:Nat} (h:i<m.length):(I6 m to col i).set i ((b6 (I6 m to col i) i).set to (b6 (b6 (I6 m to col i) i) to+b6 (b6 (I6 m to col i) i) col))=I6 m to col (i+1):=by
 rw[ZG h]
 refine D1 (by rw[List.length_set]; show (j4 _ _).length=(j4 _ _).length; rw[p8,p8]) fun q hq=>?_
 have hq:q<m.length:=by rw[List.length_set,show (I6 m to col i).length=m.length from p8] at hq; exact hq
 by_cases e:q=i
 ·subst e
  rw[HC (by rw[show (I6 m to col q).length=m.length from p8]; exact h)]
  unfold I6; rw[q9 h,if_pos zo]; rfl
 ·rw[MG e]
  unfold I6; rw[q9 hq,q9 hq]
  by_cases c:q<i
  ·rw[if_pos c,if_pos zo]
  ·rw[if_neg c,if_neg zo]
theorem zP {hs:List Value} {rows:List (List Int)} {k:Nat} {v:Value} {xs:List Int} (hk:hs.length=k) (hr:rows.length=k):k<(hs++[v]).length/\b6 (hs++[v]) k=v/\b6 (rows++[xs]) k=xs/\∀j,j≠k->(j<(hs++[v]).length->j<hs.length/\b6 (hs++[v]) j=b6 hs j/\b6 (rows++[xs]) j=b6 rows j)/\((hs++[v]).length<=j->hs.length<=j):=by
 subst hk
 refine ⟨by simp,by simp[b6],by rw[<- hr]; simp[b6],fun j hj=>⟨fun h=>?_,fun h=>by simp at h; omega⟩⟩
 have h:j<hs.length:=by simp at h; omega
 refine ⟨h,?_,?_⟩
 ·simp[b6,List.getElem?_append_left h]
 ·simp[b6,List.getElem?_append_left (show j<rows.length by omega)]
theorem TR {r:q7} (v:E2 r):H3 r=0:=by
 have h1:=v.len; have h2:=v.two; have h3:=v.le
 unfold H3
 rw[if_neg zo,if_neg (fun a=>a ⟨v.p1,v.p2⟩)]
theorem qI (k:Int):Ct Tryz.prog 100 [kI k] (kB (decide (k≠0)&&decide (k≠1))):=by
 refine Ct.mk Tryz.func100 rfl Tryz.ntmps100 rfl (fun w J=>?_); refine P5 ?_
 exact d9.res1 (fn:=Tryz.f100) rfl (.b rfl zi<|.nil)

set_option maxHeartbeats 2000000 in
theorem qJ (r:q7) (ks:List Int) (v:E2 r) (hi:B3 r=true) (hl:ks.length<=60) (hk:∀k∈ks,k=0\/k=1):Ct Tryz.prog 54 [b7 eO r,b7 (eL eI) ks] (z9 [b7 eO (w6 r ks ks.length),b7 (eL (eL eI)) (B9 r ks ks.length),kI 0]):=by
 have hle:=v.le
 have htw:=v.two
 have hbl:=v.len
 have hic:G7 r=0:=by unfold G7; rw[if_neg,if_pos hi]; exact fun a=>a (TR v)
 have han:ks.any (fun x=>decide (x≠0)&&decide (x≠1))=false:=by rw[<- Bool.not_eq_true,List.any_eq_true]; rintro ⟨x,hx,e⟩; rcases hk x hx with h | h<;>simp[h] at e
 refine Ct.mk Tryz.func54 rfl Tryz.ntmps54 rfl (fun w J=>?_); refine g9 ?_; refine jb 2 rfl ?_; refine ja 4 ?_; refine j3 ?_; refine jc (bL r) ?_; refine m8 ?_; refine jq ?_ ?_
 ·intro h2
  exact absurd hic h2
 ·intro h2
  replace h2:=Classical.not_not.1 h2
  refine u5 ?_; refine jq ?_ ?_
  ·intro h4
   omega
  ·intro h4
   replace h4:=Int.not_lt.1 h4
   refine l6 ?_; refine tO (i6 (fun hp=>aV ks (fun _=>True) (fun x=>decide (x≠0)&&decide (x≠1)) (fun _ _=>trivial)) (.a rfl uu<|.cons rfl uu (fun g u h=>QA (cks:=[]) (fun a _=>qI a) g u ⟨[],h,trivial⟩)<|.nil)) rfl rfl ?_; refine g9 ?_; refine Tr.cnd rfl ?_ ?_
   ·intro h6
    rw[han] at h6; cases h6
   ·intro h6
    refine l8 ?_; refine jc (TX r zo zo) ?_; refine j3 ?_; refine b8.inlX (σ:=List Value) [2,4] Tryz.func102 rfl Tryz.ntmps102 rfl (.cons rfl (fun _=>rfl)<|.nil) rfl rfl (fun hs=>[⟨103,[],l3 true 22 M8 hs r.1.length⟩,⟨1000,[],s5 3 hs (B5 r.1.length) 0⟩,⟨1001,[],s5 3 hs (B5 r.1.length) 1⟩,⟨1002,[],s5 3 hs (B5 r.1.length) 2⟩,⟨1003,[],s5 3 hs (B5 r.1.length) 3⟩,⟨1004,[],s5 3 hs (B5 r.1.length) 4⟩,⟨1005,[],s5 3 hs (B5 r.1.length) 5⟩,⟨1006,[],s5 3 hs (B5 r.1.length) 6⟩,⟨1007,[],s5 3 hs (B5 r.1.length) 7⟩,⟨2,[],j5 [b7 (eL eI) r.1,b7 (eL eI) r.2]⟩,⟨4,[],j5 [i9 (.slice none 0 0),i9 (.slice none 0 0)]⟩]) (fun hs=>o5 103 r.1.length) (fun hs=>hs.length=r.1.length) (fun _=>rfl) (fun _=>inferInstance) (fun _=>rfl) rfl (fun J9 bks9 om9=>?_) ?_
    ·skip
     refine jn ?_; refine P5 ?_; refine Tr.grow (s:=3) rfl rfl 103 rfl 22 M8 rfl ?_; refine Tr.fam 1000 3 (hs:=[]) (rows:=[]) (fun j h=>absurd h (Nat.not_lt_zero _)) rfl ?_; refine jn ?_
     refine Tr.for1 (σ:=Nat×List Value) [⟨0,true,_,_⟩,⟨6,true,_,_⟩,⟨23,true,_,_⟩,⟨25,true,_,_⟩] [⟨2,_,_⟩,⟨4,_,_⟩] (fun (k,hs)=>[⟨3,true,[103],o5 103 k⟩,⟨7,true,[],kI (k:Int)⟩]) (fun (k,hs)=>[⟨103,[],l3 true 22 M8 hs k⟩,⟨1000,[],s5 3 hs (Q4 r.1.length k) 0⟩,⟨1001,[],s5 3 hs (Q4 r.1.length k) 1⟩,⟨1002,[],s5 3 hs (Q4 r.1.length k) 2⟩,⟨1003,[],s5 3 hs (Q4 r.1.length k) 3⟩,⟨1004,[],s5 3 hs (Q4 r.1.length k) 4⟩,⟨1005,[],s5 3 hs (Q4 r.1.length k) 5⟩,⟨1006,[],s5 3 hs (Q4 r.1.length k) 6⟩,⟨1007,[],s5 3 hs (Q4 r.1.length k) 7⟩]) (fun (k,hs)=>k<=r.1.length/\hs.length=k) (fun (k,hs)=>k=r.1.length/\hs.length=r.1.length) (fun (k,hs)=>r.1.length-k) ((0,[])) ⟨by omega,rfl⟩ (d6.mk (.o rfl zi rfl<|.i rfl zi<|zk) (.k rfl<|.e (by rfl) rfl<|.e (by rfl) rfl<|.e (by rfl) rfl<|.e (by rfl) rfl<|.e (by rfl) rfl<|.e (by rfl) rfl<|.e (by rfl) rfl<|.e (by rfl) rfl<|zk) rfl) ?_ ?_
     ·rintro ⟨k,hs⟩ ⟨hk,hhl⟩
      refine jn ?_; refine l6 ?_; refine jq ?_ ?_
      ·intro h3
       refine D2 ?_; refine b8.new (BX eI 11 rfl uu rfl uu rfl rfl rfl (fun _=>zo)) rfl rfl rfl rfl ?_; refine C7 ?_; refine b8.raw 16 11 rfl (fun v=>?_); refine b8.norm (S':=⟨_,_,_,_⟩::⟨_,_,_,_⟩::⟨_,_,_,_⟩::⟨_,_,_,_⟩::⟨_,_,_,_⟩::⟨_,_,_,_⟩::⟨_,_,_,_⟩::⟨_,_,_,_⟩::⟨_,_,_,_⟩::⟨_,_,_,_⟩::⟨_,_,_,_⟩::⟨_,_,_,_⟩::⟨_,_,_,_⟩::⟨_,_,_,_⟩::⟨_,_,_,_⟩::⟨_,_,_,_⟩::⟨_,_,_,_⟩::⟨_,_,_,_⟩::[]) (M':=[⟨_,_,_⟩,⟨_,_,_⟩,⟨_,_,_⟩,⟨_,_,_⟩,⟨_,_,_⟩,⟨_,_,_⟩,⟨_,_,_⟩,⟨_,_,_⟩,⟨_,_,_⟩,⟨_,_,_⟩,⟨_,_,_⟩,⟨_,_,_⟩]) rfl rfl ?_
       refine b8.new (w4 M8 17 (fun hp=>.cons rfl<|.nil) rfl rfl rfl rfl) rfl rfl rfl rfl ?_; refine i4 ?_; refine jl ?_; refine i4 ?_
       obtain ⟨q1,q2,q3,q4⟩:=zP (hs:=hs) (rows:=Q4 r.1.length k) (k:=k) (v:=v) (xs:=(List.replicate r.1.length 0).set k 1) hhl p8
       refine b8.ren 11 1000 k (hs++[v]) (Q4 r.1.length k++[(List.replicate r.1.length 0).set k 1]) inferInstance zo zo (.inl zo) q1 q2 q3 q4 rfl rfl ?_; refine b8.norm (S':=⟨_,_,_,_⟩::⟨_,_,_,_⟩::⟨_,_,_,_⟩::⟨_,_,_,_⟩::⟨_,_,_,_⟩::⟨_,_,_,_⟩::⟨_,_,_,_⟩::⟨_,_,_,_⟩::⟨_,_,_,_⟩::⟨_,_,_,_⟩::⟨_,_,_,_⟩::⟨_,_,_,_⟩::⟨_,_,_,_⟩::⟨_,_,_,_⟩::⟨_,_,_,_⟩::⟨_,_,_,_⟩::⟨_,_,_,_⟩::⟨_,_,_,_⟩::⟨_,_,_,_⟩::⟨_,_,_,_⟩::⟨_,_,_,_⟩::[]) (M':=[⟨_,_,_⟩,⟨_,_,_⟩,⟨_,_,_⟩,⟨_,_,_⟩,⟨_,_,_⟩,⟨_,_,_⟩,⟨_,_,_⟩,⟨_,_,_⟩,⟨_,_,_⟩,⟨_,_,_⟩,⟨_,_,_⟩,⟨_,_,_⟩]) rfl rfl ?_
       refine j6 ?_
       exact g6.lp ((k+1,hs++[v])) ⟨by omega,by rw[List.length_append,hhl]; rfl⟩ (by show r.1.length-(k+1)<r.1.length-k; omega) (d6.mk (.o rfl zi rfl<|.i rfl zi<|zk) (.k rfl<|.e (by rw[show Q4 r.1.length (k+1)=_ from F0]; rfl) rfl<|.e (by rw[show Q4 r.1.length (k+1)=_ from F0]; rfl) rfl<|.e (by rw[show Q4 r.1.length (k+1)=_ from F0]; rfl) rfl<|.e (by rw[show Q4 r.1.length (k+1)=_ from F0]; rfl) rfl<|.e (by rw[show Q4 r.1.length (k+1)=_ from F0]; rfl) rfl<|.e (by rw[show Q4 r.1.length (k+1)=_ from F0]; rfl) rfl<|.e (by rw[show Q4 r.1.length (k+1)=_ from F0]; rfl) rfl<|.e (by rw[show Q4 r.1.length (k+1)=_ from F0]; rfl) rfl<|zk) rfl)
      ·intro h3
       replace h3:=Int.not_lt.1 h3
       refine g8 ?_
       exact g6.cut ((k,hs)) ⟨zo,zo⟩ (d6.mk (.o rfl zi rfl<|.i rfl zi<|zk) (zk) rfl)
     ·rintro ⟨_,hs⟩ ⟨rfl,hhl⟩
      refine je ?_; refine j3 ?_; exact d9.inlX (n:=21) (bks:=bks9) (hs) hhl (t:=2) rfl (d6.mk (zk) (.k rfl<|.e (by rfl) rfl<|.e (by rfl) rfl<|.e (by rfl) rfl<|.e (by rfl) rfl<|.e (by rfl) rfl<|.e (by rfl) rfl<|.e (by rfl) rfl<|.e (by rfl) rfl<|zk) rfl) (.cons rfl<|.cons rfl<|.nil) (fun _ _ h=>h)
    intro hs hhl
    refine b8.norm (S':=⟨_,_,_,_⟩::⟨_,_,_,_⟩::⟨_,_,_,_⟩::⟨_,_,_,_⟩::⟨_,_,_,_⟩::⟨_,_,_,_⟩::⟨_,_,_,_⟩::⟨_,_,_,_⟩::⟨_,_,_,_⟩::⟨_,_,_,_⟩::⟨_,_,_,_⟩::⟨_,_,_,_⟩::⟨_,_,_,_⟩::⟨_,_,_,_⟩::⟨_,_,_,_⟩::⟨_,_,_,_⟩::⟨_,_,_,_⟩::⟨_,_,_,_⟩::⟨_,_,_,_⟩::⟨_,_,_,_⟩::⟨_,_,_,_⟩::⟨_,_,_,_⟩::[]) (M':=[⟨_,_,_⟩,⟨_,_,_⟩,⟨_,_,_⟩,⟨_,_,_⟩,⟨_,_,_⟩,⟨_,_,_⟩,⟨_,_,_⟩,⟨_,_,_⟩,⟨_,_,_⟩,⟨_,_,_⟩,⟨_,_,_⟩]) rfl rfl ?_; refine y7 ?_
    refine Tr.for1 (σ:=Nat) [⟨2,true,_,_⟩,⟨4,true,_,_⟩,⟨8,true,_,_⟩,⟨32,true,_,_⟩,⟨33,true,_,_⟩] [⟨103,_,_⟩,⟨4,_,_⟩] (fun k=>[⟨34,true,[],kI (k:Int)⟩]) (fun k=>[⟨2,[],j5 [b7 (eL eI) (w6 r ks k).1,b7 (eL eI) (w6 r ks k).2]⟩,⟨1000,[],s5 3 hs (B9 r ks k) 0⟩,⟨1001,[],s5 3 hs (B9 r ks k) 1⟩,⟨1002,[],s5 3 hs (B9 r ks k) 2⟩,⟨1003,[],s5 3 hs (B9 r ks k) 3⟩,⟨1004,[],s5 3 hs (B9 r ks k) 4⟩,⟨1005,[],s5 3 hs (B9 r ks k) 5⟩,⟨1006,[],s5 3 hs (B9 r ks k) 6⟩,⟨1007,[],s5 3 hs (B9 r ks k) 7⟩]) (fun k=>k<=ks.length) (fun k=>k=ks.length) (fun k=>ks.length-k) (0) zi (d6.mk (.i rfl zi<|zk) (.e (by rfl) rfl<|.e (by rfl) rfl<|.e (by rfl) rfl<|.e (by rfl) rfl<|.e (by rfl) rfl<|.e (by rfl) rfl<|.e (by rfl) rfl<|.e (by rfl) rfl<|.e (by rfl) rfl<|zk) rfl) ?_ ?_
    ·intro k hR0
     refine jn ?_; refine l6 ?_; refine jq ?_ ?_
     ·intro h11
      refine IZ ?_
      obtain ⟨⟨v2,_⟩,hfl⟩:=PO v hi (ks:=ks) k
      have hfl2:=v2.len
      have hmz:=dX (ks:=ks) v hi (i:=k) zo
      have hlw:=GW v2 (b6 ks k)
      refine g9 ?_; refine jc (bI (w6 r ks k) (b6 ks k) ⟨zo,zo⟩ ⟨zo,zo⟩) ?_; refine D2 ?_; refine b8.inlX (σ:=Unit) [2,4,103,1000,1001,1002,1003,1004,1005,1006,1007] Tryz.func104 rfl Tryz.ntmps104 rfl (.cons rfl (fun _=>rfl)<|.cons rfl (fun _=>rfl)<|.cons rfl (fun _=>rfl)<|.nil) rfl rfl (fun _=>[⟨103,[],l3 true 22 M8 hs r.1.length⟩,⟨1000,[],s5 3 hs (L7 (B9 r ks k) (y9 (w6 r ks k) (b6 ks k)).toNat (y6 (w6 r ks k) (b6 ks k)).toNat) 0⟩,⟨1001,[],s5 3 hs (L7 (B9 r ks k) (y9 (w6 r ks k) (b6 ks k)).toNat (y6 (w6 r ks k) (b6 ks k)).toNat) 1⟩,⟨1002,[],s5 3 hs (L7 (B9 r ks k) (y9 (w6 r ks k) (b6 ks k)).toNat (y6 (w6 r ks k) (b6 ks k)).toNat) 2⟩,⟨1003,[],s5 3 hs (L7 (B9 r ks k) (y9 (w6 r ks k) (b6 ks k)).toNat (y6 (w6 r ks k) (b6 ks k)).toNat) 3⟩,⟨1004,[],s5 3 hs (L7 (B9 r ks k) (y9 (w6 r ks k) (b6 ks k)).toNat (y6 (w6 r ks k) (b6 ks k)).toNat) 4⟩,⟨1005,[],s5 3 hs (L7 (B9 r ks k) (y9 (w6 r ks k) (b6 ks k)).toNat (y6 (w6 r ks k) (b6 ks k)).toNat) 5⟩,⟨1006,[],s5 3 hs (L7 (B9 r ks k) (y9 (w6 r ks k) (b6 ks k)).toNat (y6 (w6 r ks k) (b6 ks k)).toNat) 6⟩,⟨1007,[],s5 3 hs (L7 (B9 r ks k) (y9 (w6 r ks k) (b6 ks k)).toNat (y6 (w6 r ks k) (b6 ks k)).toNat) 7⟩,⟨2,[],j5 [b7 (eL eI) (G8 (w6 r ks k) (b6 ks k)).1,b7 (eL eI) (G8 (w6 r ks k) (b6 ks k)).2]⟩,⟨4,[],j5 [i9 (.slice none 0 0),i9 (.slice none 0 0)]⟩]) (fun _=>i9 (.tuple #[])) (fun _=>True) (fun _=>rfl) (fun _=>inferInstance) (fun _=>rfl) rfl (fun J15 bks15 om15=>?_) ?_
      ·skip
       refine jn ?_; refine i7 ?_; refine tO (S8 rfl uu) rfl rfl ?_; refine i7 ?_
       refine Tr.for1 (σ:=Nat) [⟨1,true,_,_⟩,⟨2,true,_,_⟩,⟨8,true,_,_⟩,⟨9,true,_,_⟩,⟨27,true,_,_⟩,⟨29,true,_,_⟩,⟨128,true,_,_⟩,⟨1025,true,_,_⟩,⟨1026,true,_,_⟩,⟨1027,true,_,_⟩,⟨1028,true,_,_⟩,⟨1029,true,_,_⟩,⟨1030,true,_,_⟩,⟨1031,true,_,_⟩,⟨1032,true,_,_⟩] [⟨103,_,_⟩,⟨4,_,_⟩,⟨2,_,_⟩] (fun i=>[⟨10,true,[],kI (i:Int)⟩]) (fun i=>[⟨1000,[],s5 3 hs (I6 (B9 r ks k) (y9 (w6 r ks k) (b6 ks k)).toNat (y6 (w6 r ks k) (b6 ks k)).toNat i) 0⟩,⟨1001,[],s5 3 hs (I6 (B9 r ks k) (y9 (w6 r ks k) (b6 ks k)).toNat (y6 (w6 r ks k) (b6 ks k)).toNat i) 1⟩,⟨1002,[],s5 3 hs (I6 (B9 r ks k) (y9 (w6 r ks k) (b6 ks k)).toNat (y6 (w6 r ks k) (b6 ks k)).toNat i) 2⟩,⟨1003,[],s5 3 hs (I6 (B9 r ks k) (y9 (w6 r ks k) (b6 ks k)).toNat (y6 (w6 r ks k) (b6 ks k)).toNat i) 3⟩,⟨1004,[],s5 3 hs (I6 (B9 r ks k) (y9 (w6 r ks k) (b6 ks k)).toNat (y6 (w6 r ks k) (b6 ks k)).toNat i) 4⟩,⟨1005,[],s5 3 hs (I6 (B9 r ks k) (y9 (w6 r ks k) (b6 ks k)).toNat (y6 (w6 r ks k) (b6 ks k)).toNat i) 5⟩,⟨1006,[],s5 3 hs (I6 (B9 r ks k) (y9 (w6 r ks k) (b6 ks k)).toNat (y6 (w6 r ks k) (b6 ks k)).toNat i) 6⟩,⟨1007,[],s5 3 hs (I6 (B9 r ks k) (y9 (w6 r ks k) (b6 ks k)).toNat (y6 (w6 r ks k) (b6 ks k)).toNat i) 7⟩]) (fun i=>i<=r.1.length) (fun i=>i=r.1.length) (fun i=>r.1.length-i) (0) zi (d6.mk (.i rfl zi<|zk) (.e (by rw[<- EX]) rfl<|.e (by rw[<- EX]) rfl<|.e (by rw[<- EX]) rfl<|.e (by rw[<- EX]) rfl<|.e (by rw[<- EX]) rfl<|.e (by rw[<- EX]) rfl<|.e (by rw[<- EX]) rfl<|.e (by rw[<- EX]) rfl<|zk) rfl) ?_ ?_
       ·intro i hR0
        refine jn ?_; refine l6 ?_; refine jq ?_ ?_
        ·intro h1
         refine j3 ?_; refine b8.asRow 13 1000 rfl inferInstance zo zo ?_; refine b8.norm (S':=⟨_,_,_,_⟩::⟨_,_,_,_⟩::⟨_,_,_,_⟩::⟨_,_,_,_⟩::⟨_,_,_,_⟩::⟨_,_,_,_⟩::⟨_,_,_,_⟩::⟨_,_,_,_⟩::⟨_,_,_,_⟩::⟨_,_,_,_⟩::⟨_,_,_,_⟩::⟨_,_,_,_⟩::⟨_,_,_,_⟩::⟨_,_,_,_⟩::⟨_,_,_,_⟩::⟨_,_,_,_⟩::⟨_,_,_,_⟩::⟨_,_,_,_⟩::⟨_,_,_,_⟩::⟨_,_,_,_⟩::[]) (M':=[⟨_,_,_⟩,⟨_,_,_⟩,⟨_,_,_⟩,⟨_,_,_⟩,⟨_,_,_⟩,⟨_,_,_⟩,⟨_,_,_⟩,⟨_,_,_⟩,⟨_,_,_⟩,⟨_,_,_⟩,⟨_,_,_⟩]) rfl rfl ?_; refine i7 ?_
         refine Tr.drawA n8 #[false,false,false,false,false,false,false,false,false,false,false] rfl ?_
         have hat:=ZG (m:=(B9 r ks k)) (to:=(y9 (w6 r ks k) (b6 ks k)).toNat) (col:=(y6 (w6 r ks k) (b6 ks k)).toNat) (i:=i) (by rw[hmz.len]; omega)
         have hrl:(b6 (I6 (B9 r ks k) (y9 (w6 r ks k) (b6 ks k)).toNat (y6 (w6 r ks k) (b6 ks k)).toNat i) i).length=r.1.length:=by rw[hat]; exact hmz.row i zo
         have hr1:=hmz.rg i (y9 (w6 r ks k) (b6 ks k)).toNat
         have hr2:=hmz.rg i (y6 (w6 r ks k) (b6 ks k)).toNat
         rw[<- hat] at hr1 hr2
         refine f0.take 0 #[true,false,false,false,false,false,false,false,false,false,false] (by kernel_rfl) (by kernel_rfl) (by kernel_rfl) rfl rfl (Q5 rfl) rfl rfl ?_; refine f0.take 1 #[true,true,false,false,false,false,false,false,false,false,false] (by kernel_rfl) (by kernel_rfl) (by kernel_rfl) rfl rfl (Q5 rfl) rfl rfl ?_; refine f0.take 2 #[true,true,true,false,false,false,false,false,false,false,false] (by kernel_rfl) (by kernel_rfl) (by kernel_rfl) rfl rfl (SS rfl rfl zo) rfl rfl ?_; refine f0.take 4 #[true,true,true,false,true,false,false,false,false,false,false] (by kernel_rfl) (by kernel_rfl) (by kernel_rfl) rfl rfl (Q5 rfl) rfl rfl ?_
         refine f0.take 5 #[true,true,true,false,true,true,false,false,false,false,false] (by kernel_rfl) (by kernel_rfl) (by kernel_rfl) rfl rfl (Q5 rfl) rfl rfl ?_; refine f0.take 6 #[true,true,true,false,true,true,true,false,false,false,false] (by kernel_rfl) (by kernel_rfl) (by kernel_rfl) rfl rfl (SS rfl rfl zo) rfl rfl ?_; refine f0.all [3,7] (by kernel_rfl) (by simp) (fun i hi=>?_)
         simp only[List.mem_cons,List.not_mem_nil,or_false] at hi
         rcases hi with rfl | rfl
         ·refine ⟨_,rfl,?_⟩
          refine tO (RB (t0:=1000) inferInstance rfl uu (fun _=>zo)) rfl rfl ?_; refine f0.k #[true,true,true,true,true,true,true,false,false,false,false] rfl (fun _ _ _ _=>trivial) ?_; refine f0.one 7 (by kernel_rfl) rfl ?_; refine tO (RB (t0:=1000) inferInstance rfl uu (fun _=>zo)) rfl rfl ?_; refine f0.k #[true,true,true,true,true,true,true,true,false,false,false] rfl (fun _ _ _ _=>trivial) ?_; refine f0.take 8 #[true,true,true,true,true,true,true,true,true,false,false] (by kernel_rfl) (by kernel_rfl) (by kernel_rfl) rfl rfl (YW rfl rfl zo) rfl rfl ?_
          refine f0.take 9 #[true,true,true,true,true,true,true,true,true,true,false] (by kernel_rfl) (by kernel_rfl) (by kernel_rfl) rfl rfl (SS rfl rfl zo) rfl rfl ?_; refine f0.one 10 (by kernel_rfl) rfl ?_; refine b8.stR (t0:=1000) inferInstance rfl rfl zo ?_; refine b8.norm (S':=⟨_,_,_,_⟩::⟨_,_,_,_⟩::⟨_,_,_,_⟩::⟨_,_,_,_⟩::⟨_,_,_,_⟩::⟨_,_,_,_⟩::⟨_,_,_,_⟩::⟨_,_,_,_⟩::⟨_,_,_,_⟩::⟨_,_,_,_⟩::⟨_,_,_,_⟩::⟨_,_,_,_⟩::⟨_,_,_,_⟩::⟨_,_,_,_⟩::⟨_,_,_,_⟩::⟨_,_,_,_⟩::⟨_,_,_,_⟩::⟨_,_,_,_⟩::⟨_,_,_,_⟩::⟨_,_,_,_⟩::⟨_,_,_,_⟩::⟨_,_,_,_⟩::⟨_,_,_,_⟩::⟨_,_,_,_⟩::⟨_,_,_,_⟩::⟨_,_,_,_⟩::⟨_,_,_,_⟩::⟨_,_,_,_⟩::⟨_,_,_,_⟩::⟨_,_,_,_⟩::⟨_,_,_,_⟩::[]) (M':=[⟨_,_,_⟩,⟨_,_,_⟩,⟨_,_,_⟩,⟨_,_,_⟩,⟨_,_,_⟩,⟨_,_,_⟩,⟨_,_,_⟩,⟨_,_,_⟩,⟨_,_,_⟩,⟨_,_,_⟩,⟨_,_,_⟩]) rfl rfl ?_
          refine f0.k #[true,true,true,true,true,true,true,true,true,true,true] rfl (fun _ _ _ _=>trivial) ?_; refine f0.done (by kernel_rfl) ?_; refine l6 ?_
          exact g6.lp (i+1) zi zo (d6.mk (.i rfl zi<|zk) (.e (by rw[<- S3 (by rw[hmz.len]; omega)]) rfl<|.e (by rw[<- S3 (by rw[hmz.len]; omega)]) rfl<|.e (by rw[<- S3 (by rw[hmz.len]; omega)]) rfl<|.e (by rw[<- S3 (by rw[hmz.len]; omega)]) rfl<|.e (by rw[<- S3 (by rw[hmz.len]; omega)]) rfl<|.e (by rw[<- S3 (by rw[hmz.len]; omega)]) rfl<|.e (by rw[<- S3 (by rw[hmz.len]; omega)]) rfl<|.e (by rw[<- S3 (by rw[hmz.len]; omega)]) rfl<|zk) rfl)
         ·refine ⟨_,rfl,?_⟩
          refine tO (RB (t0:=1000) inferInstance rfl uu (fun _=>zo)) rfl rfl ?_; refine f0.k #[true,true,true,false,true,true,true,true,false,false,false] rfl (fun _ _ _ _=>trivial) ?_; refine f0.one 3 (by kernel_rfl) rfl ?_; refine tO (RB (t0:=1000) inferInstance rfl uu (fun _=>zo)) rfl rfl ?_; refine f0.k #[true,true,true,true,true,true,true,true,false,false,false] rfl (fun _ _ _ _=>trivial) ?_; refine f0.take 8 #[true,true,true,true,true,true,true,true,true,false,false] (by kernel_rfl) (by kernel_rfl) (by kernel_rfl) rfl rfl (YW rfl rfl zo) rfl rfl ?_
          refine f0.take 9 #[true,true,true,true,true,true,true,true,true,true,false] (by kernel_rfl) (by kernel_rfl) (by kernel_rfl) rfl rfl (SS rfl rfl zo) rfl rfl ?_; refine f0.one 10 (by kernel_rfl) rfl ?_; refine b8.stR (t0:=1000) inferInstance rfl rfl zo ?_; refine b8.norm (S':=⟨_,_,_,_⟩::⟨_,_,_,_⟩::⟨_,_,_,_⟩::⟨_,_,_,_⟩::⟨_,_,_,_⟩::⟨_,_,_,_⟩::⟨_,_,_,_⟩::⟨_,_,_,_⟩::⟨_,_,_,_⟩::⟨_,_,_,_⟩::⟨_,_,_,_⟩::⟨_,_,_,_⟩::⟨_,_,_,_⟩::⟨_,_,_,_⟩::⟨_,_,_,_⟩::⟨_,_,_,_⟩::⟨_,_,_,_⟩::⟨_,_,_,_⟩::⟨_,_,_,_⟩::⟨_,_,_,_⟩::⟨_,_,_,_⟩::⟨_,_,_,_⟩::⟨_,_,_,_⟩::⟨_,_,_,_⟩::⟨_,_,_,_⟩::⟨_,_,_,_⟩::⟨_,_,_,_⟩::⟨_,_,_,_⟩::⟨_,_,_,_⟩::⟨_,_,_,_⟩::⟨_,_,_,_⟩::[]) (M':=[⟨_,_,_⟩,⟨_,_,_⟩,⟨_,_,_⟩,⟨_,_,_⟩,⟨_,_,_⟩,⟨_,_,_⟩,⟨_,_,_⟩,⟨_,_,_⟩,⟨_,_,_⟩,⟨_,_,_⟩,⟨_,_,_⟩]) rfl rfl ?_
          refine f0.k #[true,true,true,true,true,true,true,true,true,true,true] rfl (fun _ _ _ _=>trivial) ?_; refine f0.done (by kernel_rfl) ?_; refine l6 ?_
          exact g6.lp (i+1) zi zo (d6.mk (.i rfl zi<|zk) (.e (by rw[<- S3 (by rw[hmz.len]; omega)]) rfl<|.e (by rw[<- S3 (by rw[hmz.len]; omega)]) rfl<|.e (by rw[<- S3 (by rw[hmz.len]; omega)]) rfl<|.e (by rw[<- S3 (by rw[hmz.len]; omega)]) rfl<|.e (by rw[<- S3 (by rw[hmz.len]; omega)]) rfl<|.e (by rw[<- S3 (by rw[hmz.len]; omega)]) rfl<|.e (by rw[<- S3 (by rw[hmz.len]; omega)]) rfl<|.e (by rw[<- S3 (by rw[hmz.len]; omega)]) rfl<|zk) rfl)
        ·intro h1
         replace h1:=Int.not_lt.1 h1
         refine g8 ?_
         exact g6.cut (i) zo (d6.mk (.i rfl zi<|zk) (zk) rfl)
       ·intro i hin
        refine je ?_; exact g6.inlX (n:=25) (bks:=bks15) (()) trivial rfl (d6.mk (zk) (.k rfl<|.e (by rw[hin,<- hmz.len,EW]) rfl<|.e (by rw[hin,<- hmz.len,EW]) rfl<|.e (by rw[hin,<- hmz.len,EW]) rfl<|.e (by rw[hin,<- hmz.len,EW]) rfl<|.e (by rw[hin,<- hmz.len,EW]) rfl<|.e (by rw[hin,<- hmz.len,EW]) rfl<|.e (by rw[hin,<- hmz.len,EW]) rfl<|.e (by rw[hin,<- hmz.len,EW]) rfl<|zk) rfl) (.cons rfl<|.cons rfl<|.cons rfl<|.cons rfl<|.cons rfl<|.cons rfl<|.cons rfl<|.cons rfl<|.cons rfl<|.cons rfl<|.cons rfl<|.nil) rfl
      intro _ hX15
      refine b8.norm (S':=⟨_,_,_,_⟩::⟨_,_,_,_⟩::⟨_,_,_,_⟩::⟨_,_,_,_⟩::⟨_,_,_,_⟩::⟨_,_,_,_⟩::⟨_,_,_,_⟩::⟨_,_,_,_⟩::⟨_,_,_,_⟩::⟨_,_,_,_⟩::⟨_,_,_,_⟩::⟨_,_,_,_⟩::⟨_,_,_,_⟩::⟨_,_,_,_⟩::⟨_,_,_,_⟩::⟨_,_,_,_⟩::⟨_,_,_,_⟩::⟨_,_,_,_⟩::⟨_,_,_,_⟩::⟨_,_,_,_⟩::⟨_,_,_,_⟩::⟨_,_,_,_⟩::⟨_,_,_,_⟩::⟨_,_,_,_⟩::⟨_,_,_,_⟩::[]) (M':=[⟨_,_,_⟩,⟨_,_,_⟩,⟨_,_,_⟩,⟨_,_,_⟩,⟨_,_,_⟩,⟨_,_,_⟩,⟨_,_,_⟩,⟨_,_,_⟩,⟨_,_,_⟩,⟨_,_,_⟩,⟨_,_,_⟩]) rfl rfl ?_; refine j6 ?_
      exact g6.lp (k+1) zi zo (d6.mk (.i rfl zi<|zk) (.e (by rfl) rfl<|.e (by rfl) rfl<|.e (by rfl) rfl<|.e (by rfl) rfl<|.e (by rfl) rfl<|.e (by rfl) rfl<|.e (by rfl) rfl<|.e (by rfl) rfl<|.e (by rfl) rfl<|zk) rfl)
     ·intro h11
      replace h11:=Int.not_lt.1 h11
      refine g8 ?_
      exact g6.cut (k) zo (d6.mk (.i rfl zi<|zk) (zk) rfl)
    ·rintro _ rfl
     refine je ?_
     have hmz:=dX (ks:=ks) v hi (i:=ks.length) zo
     refine g9 ?_; refine Tr.frzM 8 103 1000 rfl inferInstance zo (by rw[hmz.len,hhl]) (fun i=>by by_cases hi:i<r.1.length; (rw[hmz.row i hi]; simp only[p6]; omega); (rw[v6 (by rw[hmz.len]; omega)]; exact Nat.zero_le _)) rfl ?_; refine jn ?_; refine m8 ?_
     exact d9.resC (fn:=Tryz.f54) (ts:=[5,6]) rfl rfl rfl (t7 rfl (by rfl)) (.r rfl zi<|.i rfl zi<|.nil)

end Go.Fl

/- Contracts: kinds and steps of exchanges (the program). -/
namespace Go.Fl
open Go Go.Proofs
open b8 renaming op->tO
open j1 renaming op->rO
set_option maxRecDepth 100000

theorem kG {p:List Int} {I:Iv} {v:n7}:E0 p I v=1\/E0 p I v=-1\/E0 p I v=0:=by
 unfold E0
 split
 ·rcases oJ (a:=b6 v.1 0) with h | h | h
  ·exact .inl h.2
  ·exact .inr (.inl h.2)
  ·exact .inr (.inr h.2)
 ·exact ac6
structure CR (p:List Int) (D:Int) (M n e:Nat) (r:q7) (ls:List n7):Prop where
 rows:E2 r
 nn:r.1.length=n
 len:ls.length=n
 red:∀a,a<n->B4 p (b6 ls a)
 hb:∀a,a<n->HB D (2 ^ e*M) (b6 ls a)
def H9 (sg:n7->Int) (r:q7) (ls:List n7):Int:=sg (H0 (b6 ls (n9 r.1).toNat) (b6 ls (n9 r.2).toNat))
def A4 (sg:n7->Int) (r:q7) (ls:List n7):Int:=if H9 sg r ls=1 then 0 else 1
def K9 (r:q7) (ls:List n7) (kind:Int):List n7:=ls.set (y6 r kind).toNat (H0 (b6 ls (y6 r kind).toNat) (b6 ls (y9 r kind).toNat))
theorem CR.nbd {p:List Int} {D:Int} {M n e a:Nat} {r:q7} {ls l0:List n7} (h:CR p D M n e r ls) (h0:H2 p D M n l0) (he:e<=16) (ha:a<n):E7 200 (b6 ls a) :=
 h0.nbd (h.hb a ha) (Nat.le_trans (Nat.pow_le_pow_right zo he) (by decide))
theorem QS {l:List n7} {k j:Nat} {x:n7} (h:k<l.length):b6 (l.set k x) j=if j=k then x else b6 l j:=by
 by_cases e:j=k
 ·subst e; rw[if_pos rfl]; simp[b6,h]
 ·rw[if_neg e]; simp[b6,List.getElem?_set_ne (Ne.symm e)]
theorem CR.step {p:List Int} {D:Int} {M n e:Nat} {r:q7} {ls l0:List n7} (h:CR p D M n e r ls) (h0:H2 p D M n l0) (hi:B3 r=true) (kind:Int):CR p D M n (e+1) (G8 r kind) (K9 r ls kind):=by
 obtain ⟨h1,h2⟩:=GW h.rows kind
 have hn:=h.nn
 have e1:(y6 r kind).toNat<n:=by omega
 have e2:(y9 r kind).toNat<n:=by omega
 refine ⟨(WK h.rows hi kind).1,(gC h.rows.len h.rows.two).1.trans hn,by unfold K9; rw[List.length_set]; exact h.len,fun a ha=>?_,fun a ha=>?_⟩
 ·unfold K9
  rw[QS (by rw[h.len]; exact e1)]
  split
  ·exact YA (h.red _ e1) (h.red _ e2)
  ·exact h.red a ha
 ·unfold K9
  rw[QS (by rw[h.len]; exact e1)]
  have:2 ^ (e+1)*M=2 ^ e*M+2 ^ e*M:=by rw[Nat.pow_succ',Nat.mul_assoc,Nat.two_mul]
  split
  ·rw[this]; exact (h.hb _ e1).sub h0.pos (h.hb _ e2)
  ·exact (h.hb a ha).mono zo
theorem rZ (f:u8) (p q:y3) (h0:z6 f=0) (hp:y0 250 p) (hq:y0 250 q):Ct Tryz.prog 116 [s6 A7 (N5 f),b7 j8 p,b7 j8 q] (b7 j8 (l5 (H0 (j9 f.1 p) (j9 f.1 q)))):=bA (N5 f) p q 250 (Q0 h0) hp hq zo
theorem map_set {l:List n7} {k:Nat} {x:n7}:(l.map l5).set k (l5 x)=(l.set k x).map l5:=by
 rw[List.map_set]
theorem pM (p:List y3) (hn:p.length<=100000) (h0:0<p.length):T9 Tryz.prog 148 [b7 (eL j8) p] (fun t=>o5 t p.length) (l3 false 30 j8 p p.length):=by
 refine T9.mk Tryz.func148 rfl Tryz.ntmps148 rfl (fun w J=>?_); refine m8 ?_; refine tO (ML rfl uu) rfl rfl ?_; refine g9 ?_; refine Tr.exB (s:=4) rfl (fun b1 q1=>?_); refine Tr.cnd rfl ?_ ?_
 ·intro h1
  exact absurd (congrArg List.length (q1 h1)) (by simp only[List.length_nil]; omega)
 ·intro h1
  refine g8 ?_; refine b8.new (Y5 j8 5) rfl rfl rfl rfl ?_; refine g9 ?_; refine jl ?_; refine g8 ?_
  exact d9.resN (fn:=Tryz.f148) (u:=5) rfl rfl (GL zi zi) (HI zi) inferInstance

set_option maxHeartbeats 1000000 in
theorem bH (x:o0) (D:Int) (M e:Nat) (r:q7) (ls:List n7) (hx:Q7 x) (hlo:H2 x.1.1 D M x.2.1.length (p7 x)) (hst:CR x.1.1 D M x.2.1.length e r ls) (he:e<=16):Ct Tryz.prog 94 [s6 R0 (QK x),b7 eO r,b7 (eL j8) (ls.map l5)] (z9 [kI (if H9 (r8 x) r ls=0 then 0 else A4 (r8 x) r ls),kI (if H9 (r8 x) r ls=0 then 14 else 0)]):=by
 have h0:=hx.fld
 have hpo:=Q0 h0
 have hle:x.2.1.length<=8:=hx.rows.le
 have htwo:2<=x.2.1.length:=hx.rows.two
 have hnn:=hst.nn
 have hr2:=hst.rows.len
 have hln:=hst.len
 have hml:(ls.map l5).length=x.2.1.length:=by rw[List.length_map,hln]
 have hg:∀a,a<x.2.1.length->b6 (ls.map l5) a=l5 (b6 ls a):=fun a ha=>EC (by rw[hln]; exact ha)
 have hnb:=fun a (ha:a<x.2.1.length)=>hst.nbd hlo he ha
 have hl1:=BS hst.rows.p1 zo
 have hl2:=BS hst.rows.p2 zo
 have hga:=hg (n9 r.1).toNat zo
 have hgb:=hg (n9 r.2).toNat zo
 have htr:H9 (r8 x) r ls=1\/H9 (r8 x) r ls=-1\/H9 (r8 x) r ls=0:=kG
 have hks:H9 (r8 x) r ls=r8 x (H0 (b6 ls (n9 r.1).toNat) (b6 ls (n9 r.2).toNat)):=rfl
 refine Ct.mk Tryz.func94 rfl Tryz.ntmps94 rfl (fun w J=>?_); refine g9 ?_; refine jb 4 rfl ?_; refine l6 ?_; refine Tr.draw 16 n8 (by kernel_rfl) ?_; refine i4 ?_; refine rO (EG rfl uu) rfl rfl ?_; refine l8 ?_; refine jd (OP r.1 zo) ?_; refine l8 ?_; refine jd (OP r.2 zo) ?_; refine i7 ?_; refine tO (i6 (fun hp=>pP x.1 (b6 (ls.map l5) (n9 r.1).toNat) (b6 (ls.map l5) (n9 r.2).toNat) h0 (by rw[hga]; exact (X8 (hnb _ zo)).mono zo) (by rw[hgb]; exact (X8 (hnb _ zo)).mono zo)) (.a rfl uu<|.a rfl uu<|.a rfl uu<|.nil)) rfl rfl ?_
 rw[hga,hgb,AX (hst.red _ zo),AX (hst.red _ zo)]
 refine m8 ?_; refine Tr.cnd rfl ?_ ?_
 ·intro h2
  try simp only[decide_eq_true_eq] at h2
  have q1:H9 (r8 x) r ls=1:=by rw[hks]; assumption
  have q2:A4 (r8 x) r ls=0:=if_pos q1
  refine m8 ?_; exact d9.res (fn:=Tryz.f94) (ts:=[6,7]) rfl rfl (.i rfl (by rw[q1,q2]; rfl)<|.i rfl (by rw[q1]; rfl)<|.nil)
 ·intro h2
  try simp only[decide_eq_false_iff_not] at h2
  have q1:¬H9 (r8 x) r ls=1:=by rw[hks]; assumption
  have q2:A4 (r8 x) r ls=1:=if_neg q1
  refine l6 ?_; refine Tr.cnd rfl ?_ ?_
  ·intro h4
   try simp only[decide_eq_true_eq] at h4
   have q3:H9 (r8 x) r ls=-1:=by rw[hks]; assumption
   refine m8 ?_; exact d9.res (fn:=Tryz.f94) (ts:=[6,7]) rfl rfl (.i rfl (by rw[q3,q2]; rfl)<|.i rfl (by rw[q3]; rfl)<|.nil)
  ·intro h4
   try simp only[decide_eq_false_iff_not] at h4
   have q4:¬H9 (r8 x) r ls=-1:=by rw[hks]; assumption
   have q3:H9 (r8 x) r ls=0:=by omega
   refine u5 ?_; exact d9.res (fn:=Tryz.f94) (ts:=[6,7]) rfl rfl (.i rfl (by rw[q3]; rfl)<|.i rfl (by rw[q3]; rfl)<|.nil)

set_option maxHeartbeats 1000000 in
theorem bK (x:o0) (D:Int) (M e:Nat) (r:q7) (ls:List n7) (k:Int) (hx:Q7 x) (hlo:H2 x.1.1 D M x.2.1.length (p7 x)) (hst:CR x.1.1 D M x.2.1.length e r ls) (he:e<=16):Ct Tryz.prog 95 [s6 R0 (QK x),b7 eO r,b7 (eL j8) (ls.map l5),kI k] (z9 [b7 eO (G8 r k),b7 (eL j8) ((K9 r ls k).map l5)]):=by
 have h0:=hx.fld
 have hpo:=Q0 h0
 have hle:x.2.1.length<=8:=hx.rows.le
 have htwo:2<=x.2.1.length:=hx.rows.two
 have hnn:=hst.nn
 have hr2:=hst.rows.len
 have hln:=hst.len
 have hml:(ls.map l5).length=x.2.1.length:=by rw[List.length_map,hln]
 have hg:∀a,a<x.2.1.length->b6 (ls.map l5) a=l5 (b6 ls a):=fun a ha=>EC (by rw[hln]; exact ha)
 have hnb:=fun a (ha:a<x.2.1.length)=>hst.nbd hlo he ha
 obtain ⟨hl1,hl2⟩:=GW hst.rows k
 have hga:=hg (y6 r k).toNat zo
 have hgb:=hg (y9 r k).toNat zo
 refine Ct.mk Tryz.func95 rfl Tryz.ntmps95 rfl (fun w J=>?_); refine g9 ?_; refine jb 5 rfl ?_; refine ja 8 ?_; refine j6 ?_; refine jc (bI r k ⟨zo,zo⟩ ⟨zo,zo⟩) ?_; refine u9 ?_; refine b8.new (ED 20 (fun hp=>pM (ls.map l5) zo zo) (.a rfl uu<|.nil)) rfl rfl rfl rfl ?_; refine g8 ?_; refine Tr.draw 15 n8 (by kernel_rfl) ?_; refine i7 ?_; refine rO (EG rfl uu) rfl rfl ?_; refine l8 ?_; refine rO (DF rfl uu rfl rfl rfl rfl) rfl rfl ?_; refine i7 ?_; refine rO (DF rfl uu rfl rfl rfl rfl) rfl rfl ?_
 refine rO (i6 (fun hp=>rZ x.1 (b6 (ls.map l5) (y6 r k).toNat) (b6 (ls.map l5) (y9 r k).toNat) h0 (by rw[hga]; exact (X8 (hnb _ zo)).mono zo) (by rw[hgb]; exact (X8 (hnb _ zo)).mono zo)) (.a rfl uu<|.a rfl uu<|.a rfl uu<|.nil)) rfl rfl ?_
 rw[hga,hgb,AX (hst.red _ zo),AX (hst.red _ zo)]
 refine D2 ?_; refine Tr.frz 20 [9] ⟨rfl,trivial⟩ (by simp only[p6]; omega) rfl ?_; refine i4 ?_; exact d9.resC (fn:=Tryz.f95) (ts:=[9]) rfl rfl rfl (t7 rfl (by rfl)) (.r rfl (by unfold K9; rw[map_set])<|.nil)

end Go.Fl
