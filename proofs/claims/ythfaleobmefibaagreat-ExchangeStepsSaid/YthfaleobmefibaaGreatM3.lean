/- Laws on walking typed knowledge through code, and contracts. -/
import Derived.Test.YthfaleobmefibaaGreatM2
import Derived.Test.YthfaleobmefibaaGreatChecked
import Derived.KernelRfl
import Derived.Laws.CopyRow

/- Steps that follow from the code alone. -/
namespace Go.Fl
open Go
section
variable {P:Program} {c:m9} {ops:Array Oper} {S:i5} {M M0:i1} {rest:List Oper} {Q:Exit->Act->World->Prop}
theorem D5 {d:Option Nat} {ty:TypeId} {pos:String} {af:Array Edge} {gd:Option (Nat×Bool)} (o:Op) (h:b8 P c ops S M (⟨d,o,ty,pos,af,gd⟩::rest) Q):b8 P c ops S M (⟨d,o,ty,pos,af,gd⟩::rest) Q:=h
theorem D8 {d:Option Nat} {ty:TypeId} {pos:String} {af:Array Edge} {gd:Option (Nat×Bool)} {m:Nat} (o:Op) (h:j1 P c ops Q M0 (⟨d,o,ty,pos,af,gd⟩::rest) m S M):j1 P c ops Q M0 (⟨d,o,ty,pos,af,gd⟩::rest) m S M:=h
theorem vB {d:Option Nat} {ty:TypeId} {pos:String} {af:Array Edge} {gd:Nat×Bool} (o:Op) (h:b8 P c ops S M (⟨d,o,ty,pos,af,some gd⟩::rest) Q):b8 P c ops S M (⟨d,o,ty,pos,af,some gd⟩::rest) Q:=h
theorem vC {d:Option Nat} {ty:TypeId} {pos:String} {af:Array Edge} {gd:Nat×Bool} {m:Nat} (o:Op) (h:j1 P c ops Q M0 (⟨d,o,ty,pos,af,some gd⟩::rest) m S M):j1 P c ops Q M0 (⟨d,o,ty,pos,af,some gd⟩::rest) m S M:=h
theorem jc {f:FuncId} [d8 P f] {args:List Operand} {tys:Array TypeId} {ks:List d5} {res:d5} {d:Nat} {ty:TypeId} {pos:String} {af:Array Edge} (hct:Ct P f ks res) [o7 res []] (K:b8 P c ops (⟨d,true,[],res⟩::S) M rest Q) (ha:G0 S true args ks:=by repeat first | exact .nil | refine .a rfl (fun _=>rfl) ?_ | refine .s rfl (fun _=>rfl) rfl ?_ | refine .se rfl (fun _=>rfl) rfl rfl ?_) (hn:Nat.blt d c.n=true:=by rfl):b8 P c ops S M (⟨some d,.call { callee:=.value (.func f),args:=args.toArray,argTypes:=tys },ty,pos,af,none⟩::rest) Q:=b8.op (i6 (fun _=>hct) ha) rfl hn K
theorem jd {f:FuncId} [d8 P f] {args:List Operand} {tys:Array TypeId} {ks:List d5} {res:d5} {d m:Nat} {ty:TypeId} {pos:String} {af:Array Edge} (hct:Ct P f ks res) [o7 res []] (K:j1 P c ops Q M0 rest m (⟨d,true,[],res⟩::S) M) (ha:G0 S true args ks:=by repeat first | exact .nil | refine .a rfl (fun _=>rfl) ?_ | refine .s rfl (fun _=>rfl) rfl ?_ | refine .se rfl (fun _=>rfl) rfl rfl ?_) (hn:Nat.blt d c.n=true:=by rfl):j1 P c ops Q M0 (⟨some d,.call { callee:=.value (.func f),args:=args.toArray,argTypes:=tys },ty,pos,af,none⟩::rest) (m+1) S M:=j1.op (i6 (fun _=>hct) ha) rfl hn K
theorem jb {el:TypeId} {x:Operand} {k:d5} {ks:List d5} {dep:List Nat} {d:Nat} {ty:TypeId} {pos:String} {af:Array Edge} (t:Nat) (hx:j2 S x=some (true,k)) [E5 k ks] [C1 ks dep] (K:b8 P c ops (⟨d,true,[t],y5 t 0⟩::S) (⟨t,dep,j5 ks⟩::M) rest Q) (hs:u4 dep (tags M)=true:=by rfl) (hcs:u4 dep (tags (⟨t,dep,j5 ks⟩::M))=true:=by rfl) (hd:u4 [t] (tags (⟨t,dep,j5 ks⟩::M))=true:=by rfl) (hf:u4 [t] (tags M)=false:=by rfl) (hn:Nat.blt d c.n=true:=by rfl):b8 P c ops S M (⟨some d,.box el x,ty,pos,af,none⟩::rest) Q:=b8.new (xH t hx (fun _=>rfl) hs) hd hcs hf hn K
theorem ja {el:TypeId} {ks:List d5} {d:Nat} {ty:TypeId} {pos:String} {af:Array Edge} (t:Nat) [E4 P el ks] [C1 ks []] (K:b8 P c ops (⟨d,true,[t],y5 t 0⟩::S) (⟨t,[],j5 ks⟩::M) rest Q) (hd:u4 [t] (tags (⟨t,[],j5 ks⟩::M))=true:=by rfl) (hf:u4 [t] (tags M)=false:=by rfl) (hn:Nat.blt d c.n=true:=by rfl):b8 P c ops S M (⟨some d,.alloc el,ty,pos,af,none⟩::rest) Q:=b8.new (HF t) hd rfl hf hn K
theorem jq {x:Operand} {t f:Code} {p:Prop} [Decidable p] (ht:p->Tr P c S M t Q) (hf:¬p->Tr P c S M f Q) (hl:j2 S x=some (true,kB (decide p)):=by rfl):Tr P c S M (.cond x t f) Q:=Tr.cnd hl (fun h=>ht (of_decide_eq_true h)) (fun h=>hf (of_decide_eq_false h))
theorem MC {α:Type}:([]:List α)=[]:=rfl
theorem nC {s:Nat} {b:Bool} {d:List Nat} {k:d5} {S S':i5} (h:S=S'):(⟨s,b,d,k⟩::S:i5)=⟨s,b,d,k⟩::S':=by rw[h]
theorem nM {t:Nat} {d:List Nat} {k:t8} {S S':i1} (h:S=S'):(⟨t,d,k⟩::S:i1)=⟨t,d,k⟩::S':=by rw[h]
theorem jn {x:Code} {S':i5} {M':i1} (h:Tr P c S' M' x Q) (hS:S=S':=by repeat first | apply nC | exact MC) (hM:M=M':=by repeat first | apply nM | exact MC):Tr P c S M x Q:=Tr.norm hS hM h
theorem jl {S':i5} {M':i1} (h:b8 P c ops S' M' rest Q) (hS:S=S':=by repeat first | apply nC | exact MC) (hM:M=M':=by rfl):b8 P c ops S M rest Q:=b8.norm hS hM h
theorem je {S':i5} {M':i1} (h:g6 c S' M' Q) (hS:S=S':=by repeat first | apply nC | exact MC) (hM:M=M':=by repeat first | apply nM | exact MC):g6 c S M Q:=g6.norm hS hM h
theorem zk {p:Prop} (h:p:=by repeat first | exact E3.nil | exact O7.nil | exact E8.nil | refine E3.k rfl rfl ?_ | refine O7.k rfl ?_ | refine E8.k rfl ?_):p:=h
end
theorem i4 {A B:Prop} (h:A) (K:(Unit->A)->B:=by
 intro h
 first
 | with_reducible refine Tr.seq ?_
 | with_reducible refine Tr.rg ?_
 | with_reducible refine b8.fin ?_
 | with_reducible refine g6.nxt ?_
 | with_reducible refine Tr.skip ?_
 | with_reducible refine Tr.blk ?_
 | with_reducible refine g6.blk ?_
 | with_reducible refine Tr.ret ?_
 | with_reducible refine d9.thn ?_
 | with_reducible refine d9.out ?_
 | with_reducible refine AD.thn ?_
 | with_reducible refine j1.z ?_
 | with_reducible refine Tr.exit ?_
 | with_reducible refine AD.here ?_
 | with_reducible refine AD.out rfl ?_
 | (with_reducible refine vB _ ?_); first
  | (with_reducible refine D5 (.move _) ?_); first | refine b8.gd rfl rfl rfl (H7 rfl (by first | exact id | exact fun _=>rfl)) rfl rfl ?_
  | (with_reducible refine D5 (.assign _) ?_); first | refine b8.gd rfl rfl rfl (MK rfl (by first | exact id | exact fun _=>rfl)) rfl rfl ?_
  | (with_reducible refine D5 (.call _) ?_); first | refine b8.gd rfl rfl rfl (RC rfl (by first | exact id | exact fun _=>rfl)) rfl rfl ?_
  | (with_reducible refine D5 (.fieldAddr _ _ _) ?_); first | refine b8.gd rfl rfl rfl (N2 rfl (by first | exact id | exact fun _=>rfl)) rfl rfl ?_ | refine b8.gd rfl rfl rfl (QW rfl (by first | exact id | exact fun _=>rfl) rfl) rfl rfl ?_
  | (with_reducible refine D5 (.unOp .not _ _) ?_); first | refine b8.gd rfl rfl rfl (RI rfl (by first | exact id | exact fun _=>rfl)) rfl rfl ?_
  | (with_reducible refine D5 (.load _ _) ?_); first | refine b8.gd rfl rfl rfl (N3 rfl (by first | exact id | exact fun _=>rfl) rfl) rfl rfl ?_ | refine b8.gd rfl rfl rfl (V0 rfl (by first | exact id | exact fun _=>rfl) rfl) rfl rfl ?_ | refine b8.gd rfl rfl rfl (R5 rfl (by first | exact id | exact fun _=>rfl) rfl rfl) rfl rfl ?_ | refine b8.gd rfl rfl rfl (R4 rfl (by first | exact id | exact fun _=>rfl)) rfl rfl ?_ | refine b8.gd rfl rfl rfl (RA rfl (by first | exact id | exact fun _=>rfl) rfl rfl rfl) rfl rfl ?_
  | (with_reducible refine D5 (.extract _ _) ?_); first | refine b8.gd rfl rfl rfl (JO rfl (by first | exact id | exact fun _=>rfl) rfl) rfl rfl ?_
  | (with_reducible refine D5 (.binOp .lss _ _ _ _) ?_); first | refine b8.gd rfl rfl rfl (RE rfl (by first | exact id | exact fun _=>rfl) rfl (by first | exact id | exact fun _=>rfl)) rfl rfl ?_
  | (with_reducible refine D5 (.binOp .neq _ _ _ _) ?_); first | refine b8.gd rfl rfl rfl (RG rfl (by first | exact id | exact fun _=>rfl) rfl (by first | exact id | exact fun _=>rfl)) rfl rfl ?_
  | (with_reducible refine D5 (.binOp .eql _ _ _ _) ?_); first | refine b8.gd rfl rfl rfl (QV rfl (by first | exact id | exact fun _=>rfl) rfl (by first | exact id | exact fun _=>rfl)) rfl rfl ?_
  | (with_reducible refine D5 (.binOp .gtr _ _ _ _) ?_); first | refine b8.gd rfl rfl rfl (QY rfl (by first | exact id | exact fun _=>rfl) rfl (by first | exact id | exact fun _=>rfl)) rfl rfl ?_
  | (with_reducible refine D5 (.binOp .geq _ _ _ _) ?_); first | refine b8.gd rfl rfl rfl (QX rfl (by first | exact id | exact fun _=>rfl) rfl (by first | exact id | exact fun _=>rfl)) rfl rfl ?_
  | (with_reducible refine D5 (.binOp .leq _ _ _ _) ?_); first | refine b8.gd rfl rfl rfl (RD rfl (by first | exact id | exact fun _=>rfl) rfl (by first | exact id | exact fun _=>rfl)) rfl rfl ?_
  | (with_reducible refine D5 (.binOp .add _ _ _ _) ?_); first | refine b8.gd rfl rfl rfl (HE rfl (by first | exact id | exact fun _=>rfl) rfl (by first | exact id | exact fun _=>rfl) (fun _=>by omega)) rfl rfl ?_
  | (with_reducible refine D5 (.binOp .sub _ _ _ _) ?_); first | refine b8.gd rfl rfl rfl (AP rfl (by first | exact id | exact fun _=>rfl) rfl (by first | exact id | exact fun _=>rfl) (fun _=>by omega)) rfl rfl ?_
  | (with_reducible refine D5 (.binOp .mul _ _ _ _) ?_); first | refine b8.gd rfl rfl rfl (EE rfl (by first | exact id | exact fun _=>rfl) rfl (by first | exact id | exact fun _=>rfl) (fun _=>by omega)) rfl rfl ?_
  | (with_reducible refine D5 (.indexAddr _ _ _) ?_); first | refine b8.gd rfl rfl rfl (F2 rfl (by first | exact id | exact fun _=>rfl) rfl (by first | exact id | exact fun _=>rfl) rfl (fun _=>by omega)) rfl rfl ?_ | refine b8.gd rfl rfl rfl (BV rfl (by first | exact id | exact fun _=>rfl) rfl (by first | exact id | exact fun _=>rfl) rfl (fun _=>by omega)) rfl rfl ?_ | refine b8.gd rfl rfl rfl (JP rfl (by first | exact id | exact fun _=>rfl) rfl (by first | exact id | exact fun _=>rfl) (fun _=>by omega)) rfl rfl ?_ | refine b8.gd rfl rfl rfl (HG rfl (by first | exact id | exact fun _=>rfl) rfl (by first | exact id | exact fun _=>rfl) (fun _=>by omega)) rfl rfl ?_
 | (with_reducible refine D5 _ ?_); first
  | (with_reducible refine D5 (.move _) ?_); first | refine b8.op (H7 rfl (fun _=>rfl)) rfl rfl ?_
  | (with_reducible refine D5 (.assign _) ?_); first | refine b8.op (MK rfl (fun _=>rfl)) rfl rfl ?_
  | (with_reducible refine D5 (.call _) ?_); first | refine b8.op (RC rfl (fun _=>rfl)) rfl rfl ?_ | refine b8.app rfl rfl rfl rfl rfl rfl rfl rfl (by first | omega | (simp only[List.length_cons,List.length_nil]; omega)) (by first | omega | (simp only[List.length_cons,List.length_nil]; omega)) ?_
  | (with_reducible refine D5 (.fieldAddr _ _ _) ?_); first | refine b8.op (N2 rfl (fun _=>rfl)) rfl rfl ?_ | refine b8.op (QW rfl (fun _=>rfl) rfl) rfl rfl ?_
  | (with_reducible refine D5 (.unOp .not _ _) ?_); first | refine b8.op (RI rfl (fun _=>rfl)) rfl rfl ?_
  | (with_reducible refine D5 (.load _ _) ?_); first | refine b8.op (N3 rfl (fun _=>rfl) rfl) rfl rfl ?_ | refine b8.op (V0 rfl (fun _=>rfl) rfl) rfl rfl ?_ | refine b8.op (R5 rfl (fun _=>rfl) rfl rfl) rfl rfl ?_ | refine b8.op (R4 rfl (fun _=>rfl)) rfl rfl ?_ | refine b8.op (RA rfl (fun _=>rfl) rfl rfl rfl) rfl rfl ?_
  | (with_reducible refine D5 (.extract _ _) ?_); first | refine b8.op (JO rfl (fun _=>rfl) rfl) rfl rfl ?_
  | (with_reducible refine D5 (.binOp .lss _ _ _ _) ?_); first | refine b8.op (RE rfl (fun _=>rfl) rfl (fun _=>rfl)) rfl rfl ?_
  | (with_reducible refine D5 (.binOp .neq _ _ _ _) ?_); first | refine b8.op (RG rfl (fun _=>rfl) rfl (fun _=>rfl)) rfl rfl ?_
  | (with_reducible refine D5 (.binOp .eql _ _ _ _) ?_); first | refine b8.op (QV rfl (fun _=>rfl) rfl (fun _=>rfl)) rfl rfl ?_
  | (with_reducible refine D5 (.binOp .gtr _ _ _ _) ?_); first | refine b8.op (QY rfl (fun _=>rfl) rfl (fun _=>rfl)) rfl rfl ?_
  | (with_reducible refine D5 (.binOp .geq _ _ _ _) ?_); first | refine b8.op (QX rfl (fun _=>rfl) rfl (fun _=>rfl)) rfl rfl ?_
  | (with_reducible refine D5 (.binOp .leq _ _ _ _) ?_); first | refine b8.op (RD rfl (fun _=>rfl) rfl (fun _=>rfl)) rfl rfl ?_
  | (with_reducible refine D5 (.binOp .add _ _ _ _) ?_); first | refine b8.op (HE rfl (fun _=>rfl) rfl (fun _=>rfl) (fun _=>by omega)) rfl rfl ?_
  | (with_reducible refine D5 (.binOp .sub _ _ _ _) ?_); first | refine b8.op (AP rfl (fun _=>rfl) rfl (fun _=>rfl) (fun _=>by omega)) rfl rfl ?_
  | (with_reducible refine D5 (.binOp .mul _ _ _ _) ?_); first | refine b8.op (EE rfl (fun _=>rfl) rfl (fun _=>rfl) (fun _=>by omega)) rfl rfl ?_
  | (with_reducible refine D5 (.indexAddr _ _ _) ?_); first | refine b8.op (F2 rfl (fun _=>rfl) rfl (fun _=>rfl) rfl (fun _=>by omega)) rfl rfl ?_ | refine b8.op (BV rfl (fun _=>rfl) rfl (fun _=>rfl) rfl (fun _=>by omega)) rfl rfl ?_ | refine b8.op (JP rfl (fun _=>rfl) rfl (fun _=>rfl) (fun _=>by omega)) rfl rfl ?_ | refine b8.op (HG rfl (fun _=>rfl) rfl (fun _=>rfl) (fun _=>by omega)) rfl rfl ?_
  | (with_reducible refine D5 (.pick _ _ _) ?_); first | refine b8.op (MJ rfl (fun _=>rfl) rfl (fun hp h=>LP ((fun _=>rfl) hp) h)) rfl rfl ?_ | refine b8.op (HH rfl (fun _=>rfl) rfl (fun hp h=>GS ((fun _=>rfl) hp) h)) rfl rfl ?_
  | (with_reducible refine D5 (.store _ _ _) ?_); first | refine b8.stB rfl rfl rfl rfl ?_ | refine b8.stE rfl rfl rfl rfl rfl ?_
 | (with_reducible refine vC _ ?_); first
  | (with_reducible refine D8 (.move _) ?_); first | refine j1.gd rfl rfl rfl (H7 rfl (by first | exact id | exact fun _=>rfl)) rfl rfl ?_
  | (with_reducible refine D8 (.assign _) ?_); first | refine j1.gd rfl rfl rfl (MK rfl (by first | exact id | exact fun _=>rfl)) rfl rfl ?_
  | (with_reducible refine D8 (.call _) ?_); first | refine j1.gd rfl rfl rfl (RC rfl (by first | exact id | exact fun _=>rfl)) rfl rfl ?_
  | (with_reducible refine D8 (.fieldAddr _ _ _) ?_); first | refine j1.gd rfl rfl rfl (N2 rfl (by first | exact id | exact fun _=>rfl)) rfl rfl ?_ | refine j1.gd rfl rfl rfl (QW rfl (by first | exact id | exact fun _=>rfl) rfl) rfl rfl ?_
  | (with_reducible refine D8 (.unOp .not _ _) ?_); first | refine j1.gd rfl rfl rfl (RI rfl (by first | exact id | exact fun _=>rfl)) rfl rfl ?_
  | (with_reducible refine D8 (.load _ _) ?_); first | refine j1.gd rfl rfl rfl (N3 rfl (by first | exact id | exact fun _=>rfl) rfl) rfl rfl ?_ | refine j1.gd rfl rfl rfl (V0 rfl (by first | exact id | exact fun _=>rfl) rfl) rfl rfl ?_ | refine j1.gd rfl rfl rfl (R5 rfl (by first | exact id | exact fun _=>rfl) rfl rfl) rfl rfl ?_ | refine j1.gd rfl rfl rfl (R4 rfl (by first | exact id | exact fun _=>rfl)) rfl rfl ?_ | refine j1.gd rfl rfl rfl (RA rfl (by first | exact id | exact fun _=>rfl) rfl rfl rfl) rfl rfl ?_
  | (with_reducible refine D8 (.extract _ _) ?_); first | refine j1.gd rfl rfl rfl (JO rfl (by first | exact id | exact fun _=>rfl) rfl) rfl rfl ?_
  | (with_reducible refine D8 (.binOp .lss _ _ _ _) ?_); first | refine j1.gd rfl rfl rfl (RE rfl (by first | exact id | exact fun _=>rfl) rfl (by first | exact id | exact fun _=>rfl)) rfl rfl ?_
  | (with_reducible refine D8 (.binOp .neq _ _ _ _) ?_); first | refine j1.gd rfl rfl rfl (RG rfl (by first | exact id | exact fun _=>rfl) rfl (by first | exact id | exact fun _=>rfl)) rfl rfl ?_
  | (with_reducible refine D8 (.binOp .eql _ _ _ _) ?_); first | refine j1.gd rfl rfl rfl (QV rfl (by first | exact id | exact fun _=>rfl) rfl (by first | exact id | exact fun _=>rfl)) rfl rfl ?_
  | (with_reducible refine D8 (.binOp .gtr _ _ _ _) ?_); first | refine j1.gd rfl rfl rfl (QY rfl (by first | exact id | exact fun _=>rfl) rfl (by first | exact id | exact fun _=>rfl)) rfl rfl ?_
  | (with_reducible refine D8 (.binOp .geq _ _ _ _) ?_); first | refine j1.gd rfl rfl rfl (QX rfl (by first | exact id | exact fun _=>rfl) rfl (by first | exact id | exact fun _=>rfl)) rfl rfl ?_
  | (with_reducible refine D8 (.binOp .leq _ _ _ _) ?_); first | refine j1.gd rfl rfl rfl (RD rfl (by first | exact id | exact fun _=>rfl) rfl (by first | exact id | exact fun _=>rfl)) rfl rfl ?_
  | (with_reducible refine D8 (.binOp .add _ _ _ _) ?_); first | refine j1.gd rfl rfl rfl (HE rfl (by first | exact id | exact fun _=>rfl) rfl (by first | exact id | exact fun _=>rfl) (fun _=>by omega)) rfl rfl ?_
  | (with_reducible refine D8 (.binOp .sub _ _ _ _) ?_); first | refine j1.gd rfl rfl rfl (AP rfl (by first | exact id | exact fun _=>rfl) rfl (by first | exact id | exact fun _=>rfl) (fun _=>by omega)) rfl rfl ?_
  | (with_reducible refine D8 (.binOp .mul _ _ _ _) ?_); first | refine j1.gd rfl rfl rfl (EE rfl (by first | exact id | exact fun _=>rfl) rfl (by first | exact id | exact fun _=>rfl) (fun _=>by omega)) rfl rfl ?_
  | (with_reducible refine D8 (.indexAddr _ _ _) ?_); first | refine j1.gd rfl rfl rfl (F2 rfl (by first | exact id | exact fun _=>rfl) rfl (by first | exact id | exact fun _=>rfl) rfl (fun _=>by omega)) rfl rfl ?_ | refine j1.gd rfl rfl rfl (BV rfl (by first | exact id | exact fun _=>rfl) rfl (by first | exact id | exact fun _=>rfl) rfl (fun _=>by omega)) rfl rfl ?_ | refine j1.gd rfl rfl rfl (JP rfl (by first | exact id | exact fun _=>rfl) rfl (by first | exact id | exact fun _=>rfl) (fun _=>by omega)) rfl rfl ?_ | refine j1.gd rfl rfl rfl (HG rfl (by first | exact id | exact fun _=>rfl) rfl (by first | exact id | exact fun _=>rfl) (fun _=>by omega)) rfl rfl ?_
 | (with_reducible refine D8 _ ?_); first
  | (with_reducible refine D8 (.move _) ?_); first | refine j1.op (H7 rfl (fun _=>rfl)) rfl rfl ?_
  | (with_reducible refine D8 (.assign _) ?_); first | refine j1.op (MK rfl (fun _=>rfl)) rfl rfl ?_
  | (with_reducible refine D8 (.call _) ?_); first | refine j1.op (RC rfl (fun _=>rfl)) rfl rfl ?_
  | (with_reducible refine D8 (.fieldAddr _ _ _) ?_); first | refine j1.op (N2 rfl (fun _=>rfl)) rfl rfl ?_ | refine j1.op (QW rfl (fun _=>rfl) rfl) rfl rfl ?_
  | (with_reducible refine D8 (.unOp .not _ _) ?_); first | refine j1.op (RI rfl (fun _=>rfl)) rfl rfl ?_
  | (with_reducible refine D8 (.load _ _) ?_); first | refine j1.op (N3 rfl (fun _=>rfl) rfl) rfl rfl ?_ | refine j1.op (V0 rfl (fun _=>rfl) rfl) rfl rfl ?_ | refine j1.op (R5 rfl (fun _=>rfl) rfl rfl) rfl rfl ?_ | refine j1.op (R4 rfl (fun _=>rfl)) rfl rfl ?_ | refine j1.op (RA rfl (fun _=>rfl) rfl rfl rfl) rfl rfl ?_
  | (with_reducible refine D8 (.extract _ _) ?_); first | refine j1.op (JO rfl (fun _=>rfl) rfl) rfl rfl ?_
  | (with_reducible refine D8 (.binOp .lss _ _ _ _) ?_); first | refine j1.op (RE rfl (fun _=>rfl) rfl (fun _=>rfl)) rfl rfl ?_
  | (with_reducible refine D8 (.binOp .neq _ _ _ _) ?_); first | refine j1.op (RG rfl (fun _=>rfl) rfl (fun _=>rfl)) rfl rfl ?_
  | (with_reducible refine D8 (.binOp .eql _ _ _ _) ?_); first | refine j1.op (QV rfl (fun _=>rfl) rfl (fun _=>rfl)) rfl rfl ?_
  | (with_reducible refine D8 (.binOp .gtr _ _ _ _) ?_); first | refine j1.op (QY rfl (fun _=>rfl) rfl (fun _=>rfl)) rfl rfl ?_
  | (with_reducible refine D8 (.binOp .geq _ _ _ _) ?_); first | refine j1.op (QX rfl (fun _=>rfl) rfl (fun _=>rfl)) rfl rfl ?_
  | (with_reducible refine D8 (.binOp .leq _ _ _ _) ?_); first | refine j1.op (RD rfl (fun _=>rfl) rfl (fun _=>rfl)) rfl rfl ?_
  | (with_reducible refine D8 (.binOp .add _ _ _ _) ?_); first | refine j1.op (HE rfl (fun _=>rfl) rfl (fun _=>rfl) (fun _=>by omega)) rfl rfl ?_
  | (with_reducible refine D8 (.binOp .sub _ _ _ _) ?_); first | refine j1.op (AP rfl (fun _=>rfl) rfl (fun _=>rfl) (fun _=>by omega)) rfl rfl ?_
  | (with_reducible refine D8 (.binOp .mul _ _ _ _) ?_); first | refine j1.op (EE rfl (fun _=>rfl) rfl (fun _=>rfl) (fun _=>by omega)) rfl rfl ?_
  | (with_reducible refine D8 (.indexAddr _ _ _) ?_); first | refine j1.op (F2 rfl (fun _=>rfl) rfl (fun _=>rfl) rfl (fun _=>by omega)) rfl rfl ?_ | refine j1.op (BV rfl (fun _=>rfl) rfl (fun _=>rfl) rfl (fun _=>by omega)) rfl rfl ?_ | refine j1.op (JP rfl (fun _=>rfl) rfl (fun _=>rfl) (fun _=>by omega)) rfl rfl ?_ | refine j1.op (HG rfl (fun _=>rfl) rfl (fun _=>rfl) (fun _=>by omega)) rfl rfl ?_
  | (with_reducible refine D8 (.pick _ _ _) ?_); first | refine j1.op (MJ rfl (fun _=>rfl) rfl (fun hp h=>LP ((fun _=>rfl) hp) h)) rfl rfl ?_ | refine j1.op (HH rfl (fun _=>rfl) rfl (fun hp h=>GS ((fun _=>rfl) hp) h)) rfl rfl ?_
 | refine Tr.seq ?_
 | refine Tr.rg ?_
 | refine Tr.skip ?_
 | refine Tr.blk ?_
 | refine Tr.ret ?_
 | refine Tr.exit ?_
 exact h ()):B:=K fun _=>h
theorem g9 {A B:Prop} (h:A) (K:(Unit->A)->B:=by
 intro h
 iterate 2 refine i4 ?_
 exact h ()):B:=K fun _=>h
theorem i7 {A B:Prop} (h:A) (K:(Unit->A)->B:=by
 intro h
 iterate 3 refine i4 ?_
 exact h ()):B:=K fun _=>h
theorem g8 {A B:Prop} (h:A) (K:(Unit->A)->B:=by
 intro h
 iterate 4 refine i4 ?_
 exact h ()):B:=K fun _=>h
theorem l8 {A B:Prop} (h:A) (K:(Unit->A)->B:=by
 intro h
 iterate 5 refine i4 ?_
 exact h ()):B:=K fun _=>h
theorem l6 {A B:Prop} (h:A) (K:(Unit->A)->B:=by
 intro h
 iterate 6 refine i4 ?_
 exact h ()):B:=K fun _=>h
theorem j6 {A B:Prop} (h:A) (K:(Unit->A)->B:=by
 intro h
 iterate 7 refine i4 ?_
 exact h ()):B:=K fun _=>h
theorem j3 {A B:Prop} (h:A) (K:(Unit->A)->B:=by
 intro h
 iterate 8 refine i4 ?_
 exact h ()):B:=K fun _=>h
theorem m8 {A B:Prop} (h:A) (K:(Unit->A)->B:=by
 intro h
 iterate 9 refine i4 ?_
 exact h ()):B:=K fun _=>h
theorem u5 {A B:Prop} (h:A) (K:(Unit->A)->B:=by
 intro h
 iterate 10 refine i4 ?_
 exact h ()):B:=K fun _=>h
theorem y7 {A B:Prop} (h:A) (K:(Unit->A)->B:=by
 intro h
 iterate 11 refine i4 ?_
 exact h ()):B:=K fun _=>h
theorem u9 {A B:Prop} (h:A) (K:(Unit->A)->B:=by
 intro h
 iterate 12 refine i4 ?_
 exact h ()):B:=K fun _=>h
theorem D2 {A B:Prop} (h:A) (K:(Unit->A)->B:=by
 intro h
 iterate 13 refine i4 ?_
 exact h ()):B:=K fun _=>h
theorem C7 {A B:Prop} (h:A) (K:(Unit->A)->B:=by
 intro h
 iterate 14 refine i4 ?_
 exact h ()):B:=K fun _=>h
theorem L4 {A B:Prop} (h:A) (K:(Unit->A)->B:=by
 intro h
 iterate 15 refine i4 ?_
 exact h ()):B:=K fun _=>h
theorem S6 {A B:Prop} (h:A) (K:(Unit->A)->B:=by
 intro h
 iterate 16 refine i4 ?_
 exact h ()):B:=K fun _=>h
theorem P5 {A B:Prop} (h:A) (K:(Unit->A)->B:=by
 intro h
 iterate 17 refine i4 ?_
 exact h ()):B:=K fun _=>h
theorem FL {A B:Prop} (h:A) (K:(Unit->A)->B:=by
 intro h
 iterate 18 refine i4 ?_
 exact h ()):B:=K fun _=>h
theorem IZ {A B:Prop} (h:A) (K:(Unit->A)->B:=by
 intro h
 iterate 19 refine i4 ?_
 exact h ()):B:=K fun _=>h
theorem JA {A B:Prop} (h:A) (K:(Unit->A)->B:=by
 intro h
 iterate 20 refine i4 ?_
 exact h ()):B:=K fun _=>h
theorem VO {A B:Prop} (h:A) (K:(Unit->A)->B:=by
 intro h
 iterate 21 refine i4 ?_
 exact h ()):B:=K fun _=>h
theorem fE {A B:Prop} (h:A) (K:(Unit->A)->B:=by
 intro h
 iterate 22 refine i4 ?_
 exact h ()):B:=K fun _=>h
theorem ai6 {A B:Prop} (h:A) (K:(Unit->A)->B:=by
 intro h
 iterate 23 refine i4 ?_
 exact h ()):B:=K fun _=>h
theorem fF {A B:Prop} (h:A) (K:(Unit->A)->B:=by
 intro h
 iterate 24 refine i4 ?_
 exact h ()):B:=K fun _=>h
theorem PZ {A B:Prop} (h:A) (K:(Unit->A)->B:=by
 intro h
 iterate 25 refine i4 ?_
 exact h ()):B:=K fun _=>h
theorem ai7 {A B:Prop} (h:A) (K:(Unit->A)->B:=by
 intro h
 iterate 26 refine i4 ?_
 exact h ()):B:=K fun _=>h
theorem fG {A B:Prop} (h:A) (K:(Unit->A)->B:=by
 intro h
 iterate 27 refine i4 ?_
 exact h ()):B:=K fun _=>h
theorem ai8 {A B:Prop} (h:A) (K:(Unit->A)->B:=by
 intro h
 iterate 28 refine i4 ?_
 exact h ()):B:=K fun _=>h
theorem uY {A B:Prop} (h:A) (K:(Unit->A)->B:=by
 intro h
 iterate 29 refine i4 ?_
 exact h ()):B:=K fun _=>h
theorem ai9 {A B:Prop} (h:A) (K:(Unit->A)->B:=by
 intro h
 iterate 30 refine i4 ?_
 exact h ()):B:=K fun _=>h
theorem uZ {A B:Prop} (h:A) (K:(Unit->A)->B:=by
 intro h
 iterate 31 refine i4 ?_
 exact h ()):B:=K fun _=>h
theorem aj0 {A B:Prop} (h:A) (K:(Unit->A)->B:=by
 intro h
 iterate 32 refine i4 ?_
 exact h ()):B:=K fun _=>h
theorem vA {A B:Prop} (h:A) (K:(Unit->A)->B:=by
 intro h
 iterate 33 refine i4 ?_
 exact h ()):B:=K fun _=>h
theorem aj1 {A B:Prop} (h:A) (K:(Unit->A)->B:=by
 intro h
 iterate 34 refine i4 ?_
 exact h ()):B:=K fun _=>h
theorem aj2 {A B:Prop} (h:A) (K:(Unit->A)->B:=by
 intro h
 iterate 35 refine i4 ?_
 exact h ()):B:=K fun _=>h
theorem aj3 {A B:Prop} (h:A) (K:(Unit->A)->B:=by
 intro h
 iterate 36 refine i4 ?_
 exact h ()):B:=K fun _=>h
theorem aj4 {A B:Prop} (h:A) (K:(Unit->A)->B:=by
 intro h
 iterate 37 refine i4 ?_
 exact h ()):B:=K fun _=>h
theorem aj5 {A B:Prop} (h:A) (K:(Unit->A)->B:=by
 intro h
 iterate 38 refine i4 ?_
 exact h ()):B:=K fun _=>h
theorem aj6 {A B:Prop} (h:A) (K:(Unit->A)->B:=by
 intro h
 iterate 39 refine i4 ?_
 exact h ()):B:=K fun _=>h
theorem aj7 {A B:Prop} (h:A) (K:(Unit->A)->B:=by
 intro h
 iterate 40 refine i4 ?_
 exact h ()):B:=K fun _=>h
end Go.Fl

/- The program's types and functions, as our laws ask for them. (Printed by seat.py.) -/
namespace Go.Fl
open Go Go.Proofs

instance:F6 Tryz.prog 3:=F6.mk' Tryz.underlying3 rfl
instance:o8 Tryz.prog 3 1 8 (.int .i64 0):=o8.mk' (by kernel_rfl)
instance:ID Tryz.prog 3 .i64:=⟨Tryz.underlying3⟩
instance:E4 Tryz.prog 3 [i9 (.int .i64 0)]:=E4.mk' (z:=.int .i64 0) (by kernel_rfl) (fun _=>by simp[o4,i9,Value.cells])
instance:F6 Tryz.prog 4:=F6.mk' Tryz.underlying4 rfl
instance:o8 Tryz.prog 4 1 1 (.bool false):=o8.mk' (by kernel_rfl)
instance:SZ Tryz.prog 4:=⟨Tryz.underlying4⟩
instance:F6 Tryz.prog 22:=F6.mk' Tryz.underlying22 rfl
instance:o8 Tryz.prog 22 1 24 (.slice none 0 0):=o8.mk' (by kernel_rfl)
instance:B7 Tryz.prog 22 3:=⟨Tryz.underlying22⟩
instance:C4 Tryz.prog 24:=C4.mk' Tryz.underlying24 rfl
instance:o8 Tryz.prog 24 4 48 (.agg #[.slice none 0 0,.int .i64 0,.int .i64 0,.int .i64 0]):=o8.mk' (by kernel_rfl)
instance:E4 Tryz.prog 24 [i9 (.slice none 0 0),i9 (.int .i64 0),i9 (.int .i64 0),i9 (.int .i64 0)]:=E4.mk' (z:=.agg #[.slice none 0 0,.int .i64 0,.int .i64 0,.int .i64 0]) (by kernel_rfl) (fun _=>by simp[o4,i9,Value.cells])
instance:t6 Tryz.prog 24 0 0:=t6.mk' Tryz.underlying24 rfl rfl (by kernel_rfl)
instance:t6 Tryz.prog 24 1 1:=t6.mk' Tryz.underlying24 rfl rfl (by kernel_rfl)
instance:t6 Tryz.prog 24 2 2:=t6.mk' Tryz.underlying24 rfl rfl (by kernel_rfl)
instance:t6 Tryz.prog 24 3 3:=t6.mk' Tryz.underlying24 rfl rfl (by kernel_rfl)
instance:BG Tryz.prog 24 [(0,1),(1,1),(2,1),(3,1)]:=⟨_,Tryz.underlying24,by kernel_rfl⟩
instance:F6 Tryz.prog 25:=F6.mk' Tryz.underlying25 rfl
instance:o8 Tryz.prog 25 1 24 (.slice none 0 0):=o8.mk' (by kernel_rfl)
instance:B7 Tryz.prog 25 30:=⟨Tryz.underlying25⟩
instance:C4 Tryz.prog 27:=C4.mk' Tryz.underlying27 rfl
instance:o8 Tryz.prog 27 7 120 (.agg #[.slice none 0 0,.int .i64 0,.int .i64 0,.int .i64 0,.slice none 0 0,.slice none 0 0,.slice none 0 0]):=o8.mk' (by kernel_rfl)
instance:E4 Tryz.prog 27 [i9 (.slice none 0 0),i9 (.int .i64 0),i9 (.int .i64 0),i9 (.int .i64 0),i9 (.slice none 0 0),i9 (.slice none 0 0),i9 (.slice none 0 0)]:=E4.mk' (z:=.agg #[.slice none 0 0,.int .i64 0,.int .i64 0,.int .i64 0,.slice none 0 0,.slice none 0 0,.slice none 0 0]) (by kernel_rfl) (fun _=>by simp[o4,i9,Value.cells])
instance:t6 Tryz.prog 27 0 0:=t6.mk' Tryz.underlying27 rfl rfl (by kernel_rfl)
instance:t6 Tryz.prog 27 1 4:=t6.mk' Tryz.underlying27 rfl rfl (by kernel_rfl)
instance:t6 Tryz.prog 27 2 5:=t6.mk' Tryz.underlying27 rfl rfl (by kernel_rfl)
instance:t6 Tryz.prog 27 3 6:=t6.mk' Tryz.underlying27 rfl rfl (by kernel_rfl)
instance:BG Tryz.prog 27 [(0,4),(4,1),(5,1),(6,1)]:=⟨_,Tryz.underlying27,by kernel_rfl⟩
instance:F6 Tryz.prog 28:=F6.mk' Tryz.underlying28 rfl
instance:o8 Tryz.prog 28 1 24 (.slice none 0 0):=o8.mk' (by kernel_rfl)
instance:B7 Tryz.prog 28 22:=⟨Tryz.underlying28⟩
instance:C4 Tryz.prog 30:=C4.mk' Tryz.underlying30 rfl
instance:o8 Tryz.prog 30 2 48 (.agg #[.slice none 0 0,.slice none 0 0]):=o8.mk' (by kernel_rfl)
instance:E4 Tryz.prog 30 [i9 (.slice none 0 0),i9 (.slice none 0 0)]:=E4.mk' (z:=.agg #[.slice none 0 0,.slice none 0 0]) (by kernel_rfl) (fun _=>by simp[o4,i9,Value.cells])
instance:t6 Tryz.prog 30 0 0:=t6.mk' Tryz.underlying30 rfl rfl (by kernel_rfl)
instance:t6 Tryz.prog 30 1 1:=t6.mk' Tryz.underlying30 rfl rfl (by kernel_rfl)
instance:BG Tryz.prog 30 [(0,1),(1,1)]:=⟨_,Tryz.underlying30,by kernel_rfl⟩
instance:C4 Tryz.prog 49:=C4.mk' Tryz.underlying49 rfl
instance:o8 Tryz.prog 49 4 48 (.agg #[.slice none 0 0,.int .i64 0,.int .i64 0,.int .i64 0]):=o8.mk' (by kernel_rfl)
instance:E4 Tryz.prog 49 [i9 (.slice none 0 0),i9 (.int .i64 0),i9 (.int .i64 0),i9 (.int .i64 0)]:=E4.mk' (z:=.agg #[.slice none 0 0,.int .i64 0,.int .i64 0,.int .i64 0]) (by kernel_rfl) (fun _=>by simp[o4,i9,Value.cells])
instance:t6 Tryz.prog 49 0 0:=t6.mk' Tryz.underlying49 rfl rfl (by kernel_rfl)
instance:BG Tryz.prog 49 [(0,4)]:=⟨_,Tryz.underlying49,by kernel_rfl⟩
instance:C4 Tryz.prog 88:=C4.mk' Tryz.underlying88 rfl
instance:o8 Tryz.prog 88 2 48 (.agg #[.slice none 0 0,.slice none 0 0]):=o8.mk' (by kernel_rfl)
instance:E4 Tryz.prog 88 [i9 (.slice none 0 0),i9 (.slice none 0 0)]:=E4.mk' (z:=.agg #[.slice none 0 0,.slice none 0 0]) (by kernel_rfl) (fun _=>by simp[o4,i9,Value.cells])
instance:t6 Tryz.prog 88 0 0:=t6.mk' Tryz.underlying88 rfl rfl (by kernel_rfl)
instance:t6 Tryz.prog 88 1 1:=t6.mk' Tryz.underlying88 rfl rfl (by kernel_rfl)
instance:BG Tryz.prog 88 [(0,1),(1,1)]:=⟨_,Tryz.underlying88,by kernel_rfl⟩
instance:F6 Tryz.prog 112:=F6.mk' Tryz.underlying112 rfl
instance:E4 Tryz.prog 114 [i9 (.pointer none),i9 (.slice none 0 0),i9 (.slice none 0 0),i9 (.slice none 0 0),i9 (.slice none 0 0),i9 (.slice none 0 0),i9 (.slice none 0 0),i9 (.slice none 0 0),i9 (.slice none 0 0)]:=E4.mk' (z:=.agg #[.pointer none,.slice none 0 0,.slice none 0 0,.slice none 0 0,.slice none 0 0,.slice none 0 0,.slice none 0 0,.slice none 0 0,.slice none 0 0]) (by kernel_rfl) (fun _=>by simp[o4,i9,Value.cells])
instance:t6 Tryz.prog 114 0 0:=t6.mk' Tryz.underlying114 rfl rfl (by kernel_rfl)
instance:t6 Tryz.prog 114 1 1:=t6.mk' Tryz.underlying114 rfl rfl (by kernel_rfl)
instance:t6 Tryz.prog 114 2 3:=t6.mk' Tryz.underlying114 rfl rfl (by kernel_rfl)
instance:t6 Tryz.prog 114 3 4:=t6.mk' Tryz.underlying114 rfl rfl (by kernel_rfl)
instance:t6 Tryz.prog 114 4 5:=t6.mk' Tryz.underlying114 rfl rfl (by kernel_rfl)
instance:t6 Tryz.prog 114 5 6:=t6.mk' Tryz.underlying114 rfl rfl (by kernel_rfl)
instance:t6 Tryz.prog 114 6 7:=t6.mk' Tryz.underlying114 rfl rfl (by kernel_rfl)
instance:BG Tryz.prog 114 [(0,1),(1,2),(3,1),(4,1),(5,1),(6,1),(7,2)]:=⟨_,Tryz.underlying114,by kernel_rfl⟩
instance:C4 Tryz.prog 121:=C4.mk' Tryz.underlying121 rfl
instance:o8 Tryz.prog 121 3 72 (.agg #[.slice none 0 0,.slice none 0 0,.slice none 0 0]):=o8.mk' (by kernel_rfl)
instance:E4 Tryz.prog 121 [i9 (.slice none 0 0),i9 (.slice none 0 0),i9 (.slice none 0 0)]:=E4.mk' (z:=.agg #[.slice none 0 0,.slice none 0 0,.slice none 0 0]) (by kernel_rfl) (fun _=>by simp[o4,i9,Value.cells])
instance:t6 Tryz.prog 121 0 0:=t6.mk' Tryz.underlying121 rfl rfl (by kernel_rfl)
instance:t6 Tryz.prog 121 1 1:=t6.mk' Tryz.underlying121 rfl rfl (by kernel_rfl)
instance:t6 Tryz.prog 121 2 2:=t6.mk' Tryz.underlying121 rfl rfl (by kernel_rfl)
instance:BG Tryz.prog 121 [(0,1),(1,1),(2,1)]:=⟨_,Tryz.underlying121,by kernel_rfl⟩
instance:B7 Tryz.prog 145 22:=⟨Tryz.underlying145⟩
instance:C4 Tryz.prog 160:=C4.mk' Tryz.underlying160 rfl
instance:o8 Tryz.prog 160 2 32 (.agg #[.bool false,.slice none 0 0]):=o8.mk' (by kernel_rfl)
instance:E4 Tryz.prog 160 [i9 (.bool false),i9 (.slice none 0 0)]:=E4.mk' (z:=.agg #[.bool false,.slice none 0 0]) (by kernel_rfl) (fun _=>by simp[o4,i9,Value.cells])
instance:t6 Tryz.prog 160 0 0:=t6.mk' Tryz.underlying160 rfl rfl (by kernel_rfl)
instance:t6 Tryz.prog 160 1 1:=t6.mk' Tryz.underlying160 rfl rfl (by kernel_rfl)
instance:BG Tryz.prog 160 [(0,1),(1,1)]:=⟨_,Tryz.underlying160,by kernel_rfl⟩
instance:C4 Tryz.prog 161:=C4.mk' Tryz.underlying161 rfl
instance:o8 Tryz.prog 161 8 128 (.agg #[.bool false,.slice none 0 0,.bool false,.slice none 0 0,.bool false,.slice none 0 0,.bool false,.slice none 0 0]):=o8.mk' (by kernel_rfl)
instance:AH Tryz.prog 161 4 160:=⟨Tryz.underlying161⟩
instance:E4 Tryz.prog 161 [i9 (.bool false),i9 (.slice none 0 0),i9 (.bool false),i9 (.slice none 0 0),i9 (.bool false),i9 (.slice none 0 0),i9 (.bool false),i9 (.slice none 0 0)]:=E4.mk' (z:=.agg #[.bool false,.slice none 0 0,.bool false,.slice none 0 0,.bool false,.slice none 0 0,.bool false,.slice none 0 0]) (by kernel_rfl) (fun _=>by simp[o4,i9,Value.cells])
instance:C4 Tryz.prog 163:=C4.mk' Tryz.underlying163 rfl
instance:o8 Tryz.prog 163 10 160 (.agg #[.bool false,.slice none 0 0,.bool false,.slice none 0 0,.bool false,.slice none 0 0,.bool false,.slice none 0 0,.bool false,.slice none 0 0]):=o8.mk' (by kernel_rfl)
instance:E4 Tryz.prog 163 [i9 (.bool false),i9 (.slice none 0 0),i9 (.bool false),i9 (.slice none 0 0),i9 (.bool false),i9 (.slice none 0 0),i9 (.bool false),i9 (.slice none 0 0),i9 (.bool false),i9 (.slice none 0 0)]:=E4.mk' (z:=.agg #[.bool false,.slice none 0 0,.bool false,.slice none 0 0,.bool false,.slice none 0 0,.bool false,.slice none 0 0,.bool false,.slice none 0 0]) (by kernel_rfl) (fun _=>by simp[o4,i9,Value.cells])
instance:t6 Tryz.prog 163 0 0:=t6.mk' Tryz.underlying163 rfl rfl (by kernel_rfl)
instance:t6 Tryz.prog 163 1 8:=t6.mk' Tryz.underlying163 rfl rfl (by kernel_rfl)
instance:BG Tryz.prog 163 [(0,8),(8,2)]:=⟨_,Tryz.underlying163,by kernel_rfl⟩
instance:AH Tryz.prog 172 4 22:=⟨Tryz.underlying172⟩
instance:E4 Tryz.prog 172 [i9 (.slice none 0 0),i9 (.slice none 0 0),i9 (.slice none 0 0),i9 (.slice none 0 0)]:=E4.mk' (z:=.agg #[.slice none 0 0,.slice none 0 0,.slice none 0 0,.slice none 0 0]) (by kernel_rfl) (fun _=>by simp[o4,i9,Value.cells])
instance:F6 Tryz.prog 173:=F6.mk' Tryz.underlying173 rfl
instance:o8 Tryz.prog 173 1 24 (.slice none 0 0):=o8.mk' (by kernel_rfl)
instance:B7 Tryz.prog 173 22:=⟨Tryz.underlying173⟩
instance:F6 Tryz.prog 192:=F6.mk' Tryz.underlying192 rfl
instance:o8 Tryz.prog 192 1 24 (.slice none 0 0):=o8.mk' (by kernel_rfl)
instance:B7 Tryz.prog 192 160:=⟨Tryz.underlying192⟩
instance:F6 Tryz.prog 193:=F6.mk' Tryz.underlying193 rfl
instance:o8 Tryz.prog 193 1 24 (.slice none 0 0):=o8.mk' (by kernel_rfl)
instance:B7 Tryz.prog 193 160:=⟨Tryz.underlying193⟩
instance:C4 Tryz.prog 197:=C4.mk' Tryz.underlying197 rfl
instance:o8 Tryz.prog 197 12 192 (.agg #[.slice none 0 0,.int .i64 0,.int .i64 0,.int .i64 0,.slice none 0 0,.slice none 0 0,.bool false,.slice none 0 0,.bool false,.slice none 0 0,.bool false,.slice none 0 0]):=o8.mk' (by kernel_rfl)
instance:E4 Tryz.prog 197 [i9 (.slice none 0 0),i9 (.int .i64 0),i9 (.int .i64 0),i9 (.int .i64 0),i9 (.slice none 0 0),i9 (.slice none 0 0),i9 (.bool false),i9 (.slice none 0 0),i9 (.bool false),i9 (.slice none 0 0),i9 (.bool false),i9 (.slice none 0 0)]:=E4.mk' (z:=.agg #[.slice none 0 0,.int .i64 0,.int .i64 0,.int .i64 0,.slice none 0 0,.slice none 0 0,.bool false,.slice none 0 0,.bool false,.slice none 0 0,.bool false,.slice none 0 0]) (by kernel_rfl) (fun _=>by simp[o4,i9,Value.cells])
instance:t6 Tryz.prog 197 0 0:=t6.mk' Tryz.underlying197 rfl rfl (by kernel_rfl)
instance:t6 Tryz.prog 197 1 4:=t6.mk' Tryz.underlying197 rfl rfl (by kernel_rfl)
instance:t6 Tryz.prog 197 2 5:=t6.mk' Tryz.underlying197 rfl rfl (by kernel_rfl)
instance:t6 Tryz.prog 197 3 6:=t6.mk' Tryz.underlying197 rfl rfl (by kernel_rfl)
instance:t6 Tryz.prog 197 4 8:=t6.mk' Tryz.underlying197 rfl rfl (by kernel_rfl)
instance:t6 Tryz.prog 197 5 10:=t6.mk' Tryz.underlying197 rfl rfl (by kernel_rfl)
instance:BG Tryz.prog 197 [(0,4),(4,1),(5,1),(6,2),(8,2),(10,2)]:=⟨_,Tryz.underlying197,by kernel_rfl⟩
instance:B7 Tryz.prog 206 173:=⟨Tryz.underlying206⟩
instance:B7 Tryz.prog 217 4:=⟨Tryz.underlying217⟩
instance:F6 Tryz.prog 242:=F6.mk' Tryz.underlying242 rfl
instance:o8 Tryz.prog 242 1 24 (.slice none 0 0):=o8.mk' (by kernel_rfl)
instance:B7 Tryz.prog 242 193:=⟨Tryz.underlying242⟩
instance:E4 Tryz.prog 242 [i9 (.slice none 0 0)]:=E4.mk' (z:=.slice none 0 0) (by kernel_rfl) (fun _=>by simp[o4,i9,Value.cells])
instance:d8 Tryz.prog 13:=d8.mk' Tryz.func13 (by kernel_rfl) (by kernel_rfl)
instance:d8 Tryz.prog 14:=d8.mk' Tryz.func14 (by kernel_rfl) (by kernel_rfl)
instance:d8 Tryz.prog 17:=d8.mk' Tryz.func17 (by kernel_rfl) (by kernel_rfl)
instance:d8 Tryz.prog 18:=d8.mk' Tryz.func18 (by kernel_rfl) (by kernel_rfl)
instance:d8 Tryz.prog 22:=d8.mk' Tryz.func22 (by kernel_rfl) (by kernel_rfl)
instance:d8 Tryz.prog 23:=d8.mk' Tryz.func23 (by kernel_rfl) (by kernel_rfl)
instance:d8 Tryz.prog 24:=d8.mk' Tryz.func24 (by kernel_rfl) (by kernel_rfl)
instance:d8 Tryz.prog 25:=d8.mk' Tryz.func25 (by kernel_rfl) (by kernel_rfl)
instance:d8 Tryz.prog 26:=d8.mk' Tryz.func26 (by kernel_rfl) (by kernel_rfl)
instance:d8 Tryz.prog 28:=d8.mk' Tryz.func28 (by kernel_rfl) (by kernel_rfl)
instance:d8 Tryz.prog 32:=d8.mk' Tryz.func32 (by kernel_rfl) (by kernel_rfl)
instance:d8 Tryz.prog 34:=d8.mk' Tryz.func34 (by kernel_rfl) (by kernel_rfl)
instance:d8 Tryz.prog 40:=d8.mk' Tryz.func40 (by kernel_rfl) (by kernel_rfl)
instance:d8 Tryz.prog 41:=d8.mk' Tryz.func41 (by kernel_rfl) (by kernel_rfl)
instance:d8 Tryz.prog 45:=d8.mk' Tryz.func45 (by kernel_rfl) (by kernel_rfl)
instance:d8 Tryz.prog 46:=d8.mk' Tryz.func46 (by kernel_rfl) (by kernel_rfl)
instance:d8 Tryz.prog 47:=d8.mk' Tryz.func47 (by kernel_rfl) (by kernel_rfl)
instance:d8 Tryz.prog 48:=d8.mk' Tryz.func48 (by kernel_rfl) (by kernel_rfl)
instance:d8 Tryz.prog 49:=d8.mk' Tryz.func49 (by kernel_rfl) (by kernel_rfl)
instance:d8 Tryz.prog 50:=d8.mk' Tryz.func50 (by kernel_rfl) (by kernel_rfl)
instance:d8 Tryz.prog 51:=d8.mk' Tryz.func51 (by kernel_rfl) (by kernel_rfl)
instance:d8 Tryz.prog 52:=d8.mk' Tryz.func52 (by kernel_rfl) (by kernel_rfl)
instance:d8 Tryz.prog 54:=d8.mk' Tryz.func54 (by kernel_rfl) (by kernel_rfl)
instance:d8 Tryz.prog 55:=d8.mk' Tryz.func55 (by kernel_rfl) (by kernel_rfl)
instance:d8 Tryz.prog 58:=d8.mk' Tryz.func58 (by kernel_rfl) (by kernel_rfl)
instance:d8 Tryz.prog 64:=d8.mk' Tryz.func64 (by kernel_rfl) (by kernel_rfl)
instance:d8 Tryz.prog 65:=d8.mk' Tryz.func65 (by kernel_rfl) (by kernel_rfl)
instance:d8 Tryz.prog 66:=d8.mk' Tryz.func66 (by kernel_rfl) (by kernel_rfl)
instance:d8 Tryz.prog 69:=d8.mk' Tryz.func69 (by kernel_rfl) (by kernel_rfl)
instance:d8 Tryz.prog 70:=d8.mk' Tryz.func70 (by kernel_rfl) (by kernel_rfl)
instance:d8 Tryz.prog 71:=d8.mk' Tryz.func71 (by kernel_rfl) (by kernel_rfl)
instance:d8 Tryz.prog 72:=d8.mk' Tryz.func72 (by kernel_rfl) (by kernel_rfl)
instance:d8 Tryz.prog 74:=d8.mk' Tryz.func74 (by kernel_rfl) (by kernel_rfl)
instance:d8 Tryz.prog 75:=d8.mk' Tryz.func75 (by kernel_rfl) (by kernel_rfl)
instance:d8 Tryz.prog 76:=d8.mk' Tryz.func76 (by kernel_rfl) (by kernel_rfl)
instance:d8 Tryz.prog 77:=d8.mk' Tryz.func77 (by kernel_rfl) (by kernel_rfl)
instance:d8 Tryz.prog 78:=d8.mk' Tryz.func78 (by kernel_rfl) (by kernel_rfl)
instance:d8 Tryz.prog 79:=d8.mk' Tryz.func79 (by kernel_rfl) (by kernel_rfl)
instance:d8 Tryz.prog 81:=d8.mk' Tryz.func81 (by kernel_rfl) (by kernel_rfl)
instance:d8 Tryz.prog 82:=d8.mk' Tryz.func82 (by kernel_rfl) (by kernel_rfl)
instance:d8 Tryz.prog 83:=d8.mk' Tryz.func83 (by kernel_rfl) (by kernel_rfl)
instance:d8 Tryz.prog 84:=d8.mk' Tryz.func84 (by kernel_rfl) (by kernel_rfl)
instance:d8 Tryz.prog 85:=d8.mk' Tryz.func85 (by kernel_rfl) (by kernel_rfl)
instance:d8 Tryz.prog 86:=d8.mk' Tryz.func86 (by kernel_rfl) (by kernel_rfl)
instance:d8 Tryz.prog 87:=d8.mk' Tryz.func87 (by kernel_rfl) (by kernel_rfl)
instance:d8 Tryz.prog 91:=d8.mk' Tryz.func91 (by kernel_rfl) (by kernel_rfl)
instance:d8 Tryz.prog 93:=d8.mk' Tryz.func93 (by kernel_rfl) (by kernel_rfl)
instance:d8 Tryz.prog 94:=d8.mk' Tryz.func94 (by kernel_rfl) (by kernel_rfl)
instance:d8 Tryz.prog 95:=d8.mk' Tryz.func95 (by kernel_rfl) (by kernel_rfl)
instance:d8 Tryz.prog 96:=d8.mk' Tryz.func96 (by kernel_rfl) (by kernel_rfl)
instance:d8 Tryz.prog 97:=d8.mk' Tryz.func97 (by kernel_rfl) (by kernel_rfl)
instance:d8 Tryz.prog 98:=d8.mk' Tryz.func98 (by kernel_rfl) (by kernel_rfl)
instance:d8 Tryz.prog 99:=d8.mk' Tryz.func99 (by kernel_rfl) (by kernel_rfl)
instance:d8 Tryz.prog 100:=d8.mk' Tryz.func100 (by kernel_rfl) (by kernel_rfl)
instance:d8 Tryz.prog 101:=d8.mk' Tryz.func101 (by kernel_rfl) (by kernel_rfl)
instance:d8 Tryz.prog 102:=d8.mk' Tryz.func102 (by kernel_rfl) (by kernel_rfl)
instance:d8 Tryz.prog 103:=d8.mk' Tryz.func103 (by kernel_rfl) (by kernel_rfl)
instance:d8 Tryz.prog 104:=d8.mk' Tryz.func104 (by kernel_rfl) (by kernel_rfl)
instance:d8 Tryz.prog 105:=d8.mk' Tryz.func105 (by kernel_rfl) (by kernel_rfl)
instance:d8 Tryz.prog 106:=d8.mk' Tryz.func106 (by kernel_rfl) (by kernel_rfl)
instance:d8 Tryz.prog 107:=d8.mk' Tryz.func107 (by kernel_rfl) (by kernel_rfl)
instance:d8 Tryz.prog 108:=d8.mk' Tryz.func108 (by kernel_rfl) (by kernel_rfl)
instance:d8 Tryz.prog 109:=d8.mk' Tryz.func109 (by kernel_rfl) (by kernel_rfl)
instance:d8 Tryz.prog 112:=d8.mk' Tryz.func112 (by kernel_rfl) (by kernel_rfl)
instance:d8 Tryz.prog 113:=d8.mk' Tryz.func113 (by kernel_rfl) (by kernel_rfl)
instance:d8 Tryz.prog 114:=d8.mk' Tryz.func114 (by kernel_rfl) (by kernel_rfl)
instance:d8 Tryz.prog 115:=d8.mk' Tryz.func115 (by kernel_rfl) (by kernel_rfl)
instance:d8 Tryz.prog 116:=d8.mk' Tryz.func116 (by kernel_rfl) (by kernel_rfl)
instance:d8 Tryz.prog 118:=d8.mk' Tryz.func118 (by kernel_rfl) (by kernel_rfl)
instance:d8 Tryz.prog 119:=d8.mk' Tryz.func119 (by kernel_rfl) (by kernel_rfl)
instance:d8 Tryz.prog 120:=d8.mk' Tryz.func120 (by kernel_rfl) (by kernel_rfl)
instance:d8 Tryz.prog 121:=d8.mk' Tryz.func121 (by kernel_rfl) (by kernel_rfl)
instance:d8 Tryz.prog 122:=d8.mk' Tryz.func122 (by kernel_rfl) (by kernel_rfl)
instance:d8 Tryz.prog 123:=d8.mk' Tryz.func123 (by kernel_rfl) (by kernel_rfl)
instance:d8 Tryz.prog 124:=d8.mk' Tryz.func124 (by kernel_rfl) (by kernel_rfl)
instance:d8 Tryz.prog 125:=d8.mk' Tryz.func125 (by kernel_rfl) (by kernel_rfl)
instance:d8 Tryz.prog 126:=d8.mk' Tryz.func126 (by kernel_rfl) (by kernel_rfl)
instance:d8 Tryz.prog 127:=d8.mk' Tryz.func127 (by kernel_rfl) (by kernel_rfl)
instance:d8 Tryz.prog 128:=d8.mk' Tryz.func128 (by kernel_rfl) (by kernel_rfl)
instance:d8 Tryz.prog 129:=d8.mk' Tryz.func129 (by kernel_rfl) (by kernel_rfl)
instance:d8 Tryz.prog 130:=d8.mk' Tryz.func130 (by kernel_rfl) (by kernel_rfl)
instance:d8 Tryz.prog 131:=d8.mk' Tryz.func131 (by kernel_rfl) (by kernel_rfl)
instance:d8 Tryz.prog 132:=d8.mk' Tryz.func132 (by kernel_rfl) (by kernel_rfl)
instance:d8 Tryz.prog 136:=d8.mk' Tryz.func136 (by kernel_rfl) (by kernel_rfl)
instance:d8 Tryz.prog 137:=d8.mk' Tryz.func137 (by kernel_rfl) (by kernel_rfl)
instance:d8 Tryz.prog 138:=d8.mk' Tryz.func138 (by kernel_rfl) (by kernel_rfl)
instance:d8 Tryz.prog 139:=d8.mk' Tryz.func139 (by kernel_rfl) (by kernel_rfl)
instance:d8 Tryz.prog 140:=d8.mk' Tryz.func140 (by kernel_rfl) (by kernel_rfl)
instance:d8 Tryz.prog 141:=d8.mk' Tryz.func141 (by kernel_rfl) (by kernel_rfl)
instance:d8 Tryz.prog 142:=d8.mk' Tryz.func142 (by kernel_rfl) (by kernel_rfl)
instance:d8 Tryz.prog 143:=d8.mk' Tryz.func143 (by kernel_rfl) (by kernel_rfl)
instance:d8 Tryz.prog 144:=d8.mk' Tryz.func144 (by kernel_rfl) (by kernel_rfl)
instance:d8 Tryz.prog 145:=d8.mk' Tryz.func145 (by kernel_rfl) (by kernel_rfl)
instance:d8 Tryz.prog 147:=d8.mk' Tryz.func147 (by kernel_rfl) (by kernel_rfl)
instance:d8 Tryz.prog 148:=d8.mk' Tryz.func148 (by kernel_rfl) (by kernel_rfl)
instance:d8 Tryz.prog 149:=d8.mk' Tryz.func149 (by kernel_rfl) (by kernel_rfl)
instance:d8 Tryz.prog 150:=d8.mk' Tryz.func150 (by kernel_rfl) (by kernel_rfl)
instance:d8 Tryz.prog 151:=d8.mk' Tryz.func151 (by kernel_rfl) (by kernel_rfl)
instance:d8 Tryz.prog 152:=d8.mk' Tryz.func152 (by kernel_rfl) (by kernel_rfl)
instance:d8 Tryz.prog 153:=d8.mk' Tryz.func153 (by kernel_rfl) (by kernel_rfl)
instance:d8 Tryz.prog 154:=d8.mk' Tryz.func154 (by kernel_rfl) (by kernel_rfl)
instance:d8 Tryz.prog 155:=d8.mk' Tryz.func155 (by kernel_rfl) (by kernel_rfl)
instance:d8 Tryz.prog 157:=d8.mk' Tryz.func157 (by kernel_rfl) (by kernel_rfl)
instance:d8 Tryz.prog 158:=d8.mk' Tryz.func158 (by kernel_rfl) (by kernel_rfl)
instance:d8 Tryz.prog 159:=d8.mk' Tryz.func159 (by kernel_rfl) (by kernel_rfl)
instance:d8 Tryz.prog 160:=d8.mk' Tryz.func160 (by kernel_rfl) (by kernel_rfl)
instance:d8 Tryz.prog 161:=d8.mk' Tryz.func161 (by kernel_rfl) (by kernel_rfl)
instance:d8 Tryz.prog 162:=d8.mk' Tryz.func162 (by kernel_rfl) (by kernel_rfl)
instance:d8 Tryz.prog 163:=d8.mk' Tryz.func163 (by kernel_rfl) (by kernel_rfl)
instance:d8 Tryz.prog 164:=d8.mk' Tryz.func164 (by kernel_rfl) (by kernel_rfl)
instance:d8 Tryz.prog 165:=d8.mk' Tryz.func165 (by kernel_rfl) (by kernel_rfl)
instance:d8 Tryz.prog 166:=d8.mk' Tryz.func166 (by kernel_rfl) (by kernel_rfl)
instance:d8 Tryz.prog 167:=d8.mk' Tryz.func167 (by kernel_rfl) (by kernel_rfl)
instance:d8 Tryz.prog 168:=d8.mk' Tryz.func168 (by kernel_rfl) (by kernel_rfl)
instance:d8 Tryz.prog 169:=d8.mk' Tryz.func169 (by kernel_rfl) (by kernel_rfl)
instance:d8 Tryz.prog 170:=d8.mk' Tryz.func170 (by kernel_rfl) (by kernel_rfl)
instance:d8 Tryz.prog 171:=d8.mk' Tryz.func171 (by kernel_rfl) (by kernel_rfl)
instance:d8 Tryz.prog 172:=d8.mk' Tryz.func172 (by kernel_rfl) (by kernel_rfl)
instance:d8 Tryz.prog 173:=d8.mk' Tryz.func173 (by kernel_rfl) (by kernel_rfl)
instance:d8 Tryz.prog 174:=d8.mk' Tryz.func174 (by kernel_rfl) (by kernel_rfl)
instance:d8 Tryz.prog 175:=d8.mk' Tryz.func175 (by kernel_rfl) (by kernel_rfl)
instance:d8 Tryz.prog 176:=d8.mk' Tryz.func176 (by kernel_rfl) (by kernel_rfl)
instance:d8 Tryz.prog 177:=d8.mk' Tryz.func177 (by kernel_rfl) (by kernel_rfl)
instance:d8 Tryz.prog 178:=d8.mk' Tryz.func178 (by kernel_rfl) (by kernel_rfl)
instance:d8 Tryz.prog 179:=d8.mk' Tryz.func179 (by kernel_rfl) (by kernel_rfl)
instance:d8 Tryz.prog 180:=d8.mk' Tryz.func180 (by kernel_rfl) (by kernel_rfl)
instance:d8 Tryz.prog 181:=d8.mk' Tryz.func181 (by kernel_rfl) (by kernel_rfl)
instance:d8 Tryz.prog 182:=d8.mk' Tryz.func182 (by kernel_rfl) (by kernel_rfl)
instance:d8 Tryz.prog 183:=d8.mk' Tryz.func183 (by kernel_rfl) (by kernel_rfl)
instance:d8 Tryz.prog 184:=d8.mk' Tryz.func184 (by kernel_rfl) (by kernel_rfl)
instance:d8 Tryz.prog 185:=d8.mk' Tryz.func185 (by kernel_rfl) (by kernel_rfl)
instance:d8 Tryz.prog 186:=d8.mk' Tryz.func186 (by kernel_rfl) (by kernel_rfl)
instance:d8 Tryz.prog 187:=d8.mk' Tryz.func187 (by kernel_rfl) (by kernel_rfl)
instance:d8 Tryz.prog 188:=d8.mk' Tryz.func188 (by kernel_rfl) (by kernel_rfl)
instance:d8 Tryz.prog 189:=d8.mk' Tryz.func189 (by kernel_rfl) (by kernel_rfl)
instance:d8 Tryz.prog 190:=d8.mk' Tryz.func190 (by kernel_rfl) (by kernel_rfl)
instance:d8 Tryz.prog 191:=d8.mk' Tryz.func191 (by kernel_rfl) (by kernel_rfl)
instance:d8 Tryz.prog 192:=d8.mk' Tryz.func192 (by kernel_rfl) (by kernel_rfl)
instance:d8 Tryz.prog 193:=d8.mk' Tryz.func193 (by kernel_rfl) (by kernel_rfl)
instance:d8 Tryz.prog 194:=d8.mk' Tryz.func194 (by kernel_rfl) (by kernel_rfl)
instance:d8 Tryz.prog 195:=d8.mk' Tryz.func195 (by kernel_rfl) (by kernel_rfl)
instance:d8 Tryz.prog 196:=d8.mk' Tryz.func196 (by kernel_rfl) (by kernel_rfl)
instance:d8 Tryz.prog 197:=d8.mk' Tryz.func197 (by kernel_rfl) (by kernel_rfl)
instance:d8 Tryz.prog 198:=d8.mk' Tryz.func198 (by kernel_rfl) (by kernel_rfl)
instance:d8 Tryz.prog 199:=d8.mk' Tryz.func199 (by kernel_rfl) (by kernel_rfl)
instance:d8 Tryz.prog 200:=d8.mk' Tryz.func200 (by kernel_rfl) (by kernel_rfl)
instance:d8 Tryz.prog 201:=d8.mk' Tryz.func201 (by kernel_rfl) (by kernel_rfl)
instance:d8 Tryz.prog 202:=d8.mk' Tryz.func202 (by kernel_rfl) (by kernel_rfl)
instance:d8 Tryz.prog 203:=d8.mk' Tryz.func203 (by kernel_rfl) (by kernel_rfl)
instance:d8 Tryz.prog 204:=d8.mk' Tryz.func204 (by kernel_rfl) (by kernel_rfl)
instance:d8 Tryz.prog 205:=d8.mk' Tryz.func205 (by kernel_rfl) (by kernel_rfl)
instance:d8 Tryz.prog 206:=d8.mk' Tryz.func206 (by kernel_rfl) (by kernel_rfl)
instance:d8 Tryz.prog 209:=d8.mk' Tryz.func209 (by kernel_rfl) (by kernel_rfl)
instance:d8 Tryz.prog 210:=d8.mk' Tryz.func210 (by kernel_rfl) (by kernel_rfl)
instance:d8 Tryz.prog 211:=d8.mk' Tryz.func211 (by kernel_rfl) (by kernel_rfl)
instance:d8 Tryz.prog 212:=d8.mk' Tryz.func212 (by kernel_rfl) (by kernel_rfl)
instance:d8 Tryz.prog 213:=d8.mk' Tryz.func213 (by kernel_rfl) (by kernel_rfl)
instance:d8 Tryz.prog 214:=d8.mk' Tryz.func214 (by kernel_rfl) (by kernel_rfl)
instance:d8 Tryz.prog 215:=d8.mk' Tryz.func215 (by kernel_rfl) (by kernel_rfl)
instance:d8 Tryz.prog 216:=d8.mk' Tryz.func216 (by kernel_rfl) (by kernel_rfl)
instance:d8 Tryz.prog 217:=d8.mk' Tryz.func217 (by kernel_rfl) (by kernel_rfl)
instance:d8 Tryz.prog 218:=d8.mk' Tryz.func218 (by kernel_rfl) (by kernel_rfl)
instance:d8 Tryz.prog 219:=d8.mk' Tryz.func219 (by kernel_rfl) (by kernel_rfl)
instance:d8 Tryz.prog 221:=d8.mk' Tryz.func221 (by kernel_rfl) (by kernel_rfl)
instance:d8 Tryz.prog 222:=d8.mk' Tryz.func222 (by kernel_rfl) (by kernel_rfl)
instance:d8 Tryz.prog 223:=d8.mk' Tryz.func223 (by kernel_rfl) (by kernel_rfl)
instance:d8 Tryz.prog 224:=d8.mk' Tryz.func224 (by kernel_rfl) (by kernel_rfl)
instance:d8 Tryz.prog 225:=d8.mk' Tryz.func225 (by kernel_rfl) (by kernel_rfl)
instance:d8 Tryz.prog 227:=d8.mk' Tryz.func227 (by kernel_rfl) (by kernel_rfl)
instance:d8 Tryz.prog 228:=d8.mk' Tryz.func228 (by kernel_rfl) (by kernel_rfl)
theorem n8:Tryz.prog.follows .mixedOrders=true:=by kernel_rfl
end Go.Fl

/- Contracts, printed by gen.py. -/
namespace Go.Fl
open Go Go.Proofs
open b8 renaming op->tO
open j1 renaming op->rO
set_option maxRecDepth 100000


theorem wY {S:List Int} {x:Int} (h:S.Nodup) (hx:decide (x∈S)=false):(S++[x]).Nodup :=
 List.nodup_append.2 ⟨h,by simp,fun a ha b hb=>by simp at hb; subst hb; exact fun e=>of_decide_eq_false hx (e▸ha)⟩
theorem CU (p:List Int) (hn:p.length<=1000000):Ct Tryz.prog 143 [b7 (eL eI) p] (b7 (eL eI) p):=by
 refine Ct.mk Tryz.func143 rfl Tryz.ntmps143 rfl (fun w J=>?_); refine m8 ?_; refine tO (ML rfl uu) rfl rfl ?_; refine g9 ?_; refine Tr.exB (s:=4) rfl (fun b1 q1=>?_); refine Tr.cnd rfl ?_ ?_
 ·intro h1
  refine j6 ?_; exact d9.res1 (fn:=Tryz.f143) rfl (.n rfl (q1 h1).symm<|.nil)
 ·intro h1
  refine g8 ?_; refine b8.new (Y5 eI 5) rfl rfl rfl rfl ?_; refine g9 ?_; refine jl ?_; refine i7 ?_; refine Tr.frz 5 [2] ⟨rfl,trivial⟩ (by simp only[p6]; omega) rfl ?_; refine i4 ?_
  exact d9.res1 (fn:=Tryz.f143) rfl (.r rfl zi<|.nil)

end Go.Fl

/- Integers as digits to the base 10^8. Plain Lean, no program in sight. -/
namespace Go.Fl
def val:List Int->Int
 | []=>0
 | x::xs=>x+100000000*val xs
abbrev BP (n:Nat):Int:=100000000 ^ n
theorem T7 (n:Nat):0<BP n:=Int.pow_pos zo
theorem T8 (n:Nat):BP (n+1)=100000000*BP n:=by unfold BP; rw[Int.pow_succ,Int.mul_comm]
theorem NI (m n:Nat):BP (m+n)=BP m*BP n:=Int.pow_add ..
theorem HT {m n:Nat} (h:m<=n):BP m<=BP n:=by
 obtain ⟨k,rfl⟩:=Nat.exists_eq_add_of_le h
 have h1:BP m*1<=BP m*BP k:=Int.mul_le_mul_of_nonneg_left (by have:=T7 k; omega) (Int.le_of_lt (T7 m))
 rw[NI]; omega
theorem KG:∀{xs ys:List Int},val (xs++ys)=val xs+BP xs.length*val ys
 | [],ys=>by simp[val,BP]
 | x::xs,ys=>by
  rw[List.cons_append,val,val,KG,List.length_cons,T8,Int.mul_add,Int.mul_assoc]; omega
theorem X3 {xs:List Int} {y:Int}:val (xs++[y])=val xs+BP xs.length*y:=by rw[KG]; simp[val]
def Dg (xs:List Int):Prop:=∀x∈xs,0<=x/\x<100000000
theorem Dg.nil:Dg []:=fun _ h=>by cases h
theorem Dg.snoc {xs:List Int} {y:Int} (h:Dg xs) (h0:0<=y) (h1:y<100000000):Dg (xs++[y]):=fun x hx=>by
 rcases List.mem_append.1 hx with hx | hx
 ·exact h x hx
 ·simp at hx; subst hx; exact ⟨h0,h1⟩
theorem Dg.at {xs:List Int} (h:Dg xs) {i:Nat} (hi:i<xs.length):0<=b6 xs i/\b6 xs i<100000000:=h _ (G1 hi)
theorem Dg.tail {x:Int} {xs:List Int} (h:Dg (x::xs)):Dg xs:=fun y hy=>h y (List.mem_cons_of_mem _ hy)
theorem Dg.take {xs:List Int} (h:Dg xs) (n:Nat):Dg (xs.take n):=fun y hy=>h y (List.mem_of_mem_take hy)
theorem Dg.val0:∀{xs:List Int},Dg xs->0<=val xs
 | [],_=>Int.le_refl _
 | x::xs,h=>by
  have:=h x List.mem_cons_self
  have:=Dg.val0 h.tail
  rw[val]; omega
theorem Dg.val1:∀{xs:List Int},Dg xs->val xs<BP xs.length
 | [],_=>by simp[val,BP]
 | x::xs,h=>by
  have:=h x List.mem_cons_self
  have:=Dg.val1 h.tail
  rw[val,List.length_cons,T8]; omega
structure Nm (xs:List Int):Prop where
 dg:Dg xs
 last:∀h:xs≠[],xs.getLast h≠0
theorem Nm.nil:Nm []:=⟨Dg.nil,fun h=>absurd rfl h⟩
theorem Nm.tail {x:Int} {xs:List Int} (h:Nm (x::xs)):Nm xs:=⟨h.dg.tail,fun hn=>by
 have:=h.last (by simp)
 rwa [List.getLast_cons hn] at this⟩
theorem Nm.pos:∀{xs:List Int},Nm xs->xs≠[]->0<val xs
 | [],_,h=>absurd rfl h
 | x::xs,h,_=>by
  have h1:=h.dg x List.mem_cons_self
  rw[val]
  by_cases hn:xs=[]
  ·subst hn
   have:=h.last (by simp)
   simp at this
   simp[val]; omega
  ·have:=Nm.pos h.tail hn
   omega
theorem Nm.uniq:∀{xs ys:List Int},Nm xs->Nm ys->val xs=val ys->xs=ys
 | [],[],_,_,_=>rfl
 | [],y::ys,_,h,e=>by have:=h.pos (by simp); rw[<- e] at this; simp[val] at this
 | x::xs,[],h,_,e=>by have:=h.pos (by simp); rw[e] at this; simp[val] at this
 | x::xs,y::ys,h,k,e=>by
  have h1:=h.dg x List.mem_cons_self
  have h2:=k.dg y List.mem_cons_self
  rw[val,val] at e
  obtain rfl:x=y:=by omega
  rw[Nm.uniq h.tail k.tail zo]
def IR:Nat->Nat->List Int
 | 0,_=>[]
 | f+1,n=>if n=0 then [] else ((n%100000000:Nat):Int)::IR f (n/100000000)
theorem UM:∀{f n:Nat},n<=f->Nm (IR f n)/\val (IR f n)=n
 | 0,n,h=>by
  obtain rfl:n=0:=by omega
  exact ⟨Nm.nil,rfl⟩
 | f+1,n,h=>by
  rw[IR]
  by_cases e:n=0
  ·rw[if_pos e]; subst e; exact ⟨Nm.nil,rfl⟩
  ·rw[if_neg e]
   obtain ⟨h1,h2⟩:=UM (f:=f) (n:=n/100000000) zo
   refine ⟨⟨fun x hx=>?_,fun hn=>?_⟩,?_⟩
   ·rcases List.mem_cons.1 hx with rfl | hx
    ·omega
    ·exact h1.dg x hx
   ·by_cases hq:IR f (n/100000000)=[]
    ·have:n/100000000=0:=by rw[hq] at h2; simp[val] at h2; omega
     simp only[hq,List.getLast_singleton]; omega
    ·rw[List.getLast_cons hq]; exact h1.last hq
   ·rw[val,h2]; omega
def d7 (n:Nat):List Int:=IR n n
theorem O2 (n:Nat):Nm (d7 n):=(UM (Nat.le_refl n)).1
theorem y4 (n:Nat):val (d7 n)=n:=(UM (Nat.le_refl n)).2
theorem x9 (n:Nat):Dg (d7 n):=(O2 n).dg
theorem PB {xs:List Int} {n:Nat} (h:Nm xs) (e:val xs=n):xs=d7 n:=h.uniq (O2 n) (by rw[y4,e])
theorem cS:d7 0=[]:=rfl
theorem sU {n:Nat}:d7 n=[]↔n=0:=⟨fun h=>by have:=y4 n; rw[h] at this; simp[val] at this; omega,fun h=>by subst h; rfl⟩
theorem IS {n:Nat}:(d7 n).length=0↔n=0:=by rw[List.length_eq_zero_iff,sU]
def dl (z:Int):Nat:=(d7 z.natAbs).length
theorem IT (z:Int):(z.natAbs:Int)<BP (dl z):=by
 have:=(x9 z.natAbs).val1
 rwa [y4] at this
theorem Nm.low:∀{xs:List Int},Nm xs->xs≠[]->BP (xs.length-1)<=val xs
 | [],_,h=>absurd rfl h
 | x::xs,h,_=>by
  have h1:=h.dg x List.mem_cons_self
  rw[val,List.length_cons,Nat.add_sub_cancel]
  by_cases hn:xs=[]
  ·subst hn
   have:=h.pos (by simp)
   simp[val,BP] at this ⊢; omega
  ·have:=Nm.low h.tail hn
   have hl:xs.length=(xs.length-1)+1:=by have:=List.length_pos_iff.2 hn; omega
   rw[hl,T8]; omega
theorem O3 {z:Int} {k:Nat} (h:(z.natAbs:Int)<BP k):dl z<=k:=by
 by_cases hn:d7 z.natAbs=[]
 ·unfold dl; rw[hn]; exact Nat.zero_le _
 ·have h1:=(O2 z.natAbs).low hn
  rw[y4] at h1
  have hl:0<dl z:=List.length_pos_iff.2 hn
  rcases Nat.lt_or_ge k (dl z) with h2 | h2
  ·have:=HT (show k<=dl z-1 by omega)
   unfold dl at *; omega
  ·exact h2
theorem P3 (a b:Int):dl (a+b)<=max (dl a) (dl b)+1:=by
 refine O3 ?_
 have h1:=IT a; have h2:=IT b
 have h3:=HT (Nat.le_max_left (dl a) (dl b)); have h4:=HT (Nat.le_max_right (dl a) (dl b))
 rw[T8]; omega
theorem s9 (a b:Int):dl (a*b)<=dl a+dl b:=by
 refine O3 ?_
 have h1:=IT a; have h2:=IT b
 rw[Int.natAbs_mul,NI]
 push_cast
 by_cases hb:b.natAbs=0
 ·rw[hb]; simp; exact Int.mul_pos (T7 _) (T7 _)
 ·exact Int.lt_of_lt_of_le (Int.mul_lt_mul_of_pos_right h1 zo) (Int.mul_le_mul_of_nonneg_left (Int.le_of_lt h2) (Int.le_of_lt (T7 _)))
theorem K4 (a:Int):dl (-a)=dl a:=by unfold dl; rw[Int.natAbs_neg]
theorem C5 {a:Int}:dl a=0↔a=0:=by unfold dl; rw[IS]; omega
def j7:List Int->List Int
 | []=>[]
 | x::xs=>if j7 xs=[]/\x=0 then [] else x::j7 xs
theorem YO:∀{xs:List Int},val (j7 xs)=val xs
 | []=>rfl
 | x::xs=>by
  have ih:=YO (xs:=xs)
  rw[j7]
  split
  ·rename_i h
   rw[h.1] at ih
   show 0=x+100000000*val xs
   rw[<- ih,h.2]; simp[val]
  ·rw[val,val,ih]
theorem R8:∀{xs:List Int},(j7 xs).length<=xs.length
 | []=>Nat.le_refl _
 | x::xs=>by
  have:=R8 (xs:=xs)
  rw[j7]; split
  ·simp
  ·simp only[List.length_cons]; omega
theorem SK:∀{xs:List Int} {x:Int},x∈j7 xs->x∈xs
 | [],_,h=>h
 | y::ys,x,h=>by
  rw[j7] at h
  split at h
  ·cases h
  ·rcases List.mem_cons.1 h with rfl | h
   ·exact List.mem_cons_self
   ·exact List.mem_cons_of_mem _ (SK h)
theorem KF:∀{xs:List Int} (h:j7 xs≠[]),(j7 xs).getLast h≠0
 | [],h=>absurd rfl h
 | x::xs,h=>by
  have e:j7 (x::xs)=x::j7 xs:=by
   rw[j7] at h ⊢
   split
   ·rename_i hh; rw[if_pos hh] at h; exact absurd rfl h
   ·rfl
  by_cases hn:j7 xs=[]
  ·have hx:x≠0:=fun hx=>by rw[j7,if_pos ⟨hn,hx⟩] at h; exact h rfl
   simp only[e,hn,List.getLast_singleton]; exact hx
  ·simp only[e,List.getLast_cons hn]; exact KF hn
theorem lN {xs:List Int} (h:Dg xs):Nm (j7 xs):=⟨fun x hx=>h x (SK hx),KF⟩
theorem DJ {xs:List Int} (h:Dg xs) {n:Nat} (e:val xs=n):j7 xs=d7 n:=PB (lN h) (by rw[YO,e])
theorem SL:∀{xs:List Int},(∀i,i<xs.length->b6 xs i=0)->j7 xs=[]
 | [],_=>rfl
 | x::xs,h=>by
  rw[j7,if_pos ⟨SL fun i hi=>h (i+1) (by simpa using hi),h 0 (by simp)⟩]
theorem FX:∀{xs:List Int} {m:Nat},m<=xs.length->(∀i,m<=i->i<xs.length->b6 xs i=0)->(m=0\/b6 xs (m-1)≠0)->j7 xs=xs.take m
 | xs,0,_,h,_=>by rw[List.take_zero]; exact SL fun i hi=>h i (Nat.zero_le _) hi
 | [],m+1,hm,_,_=>by simp at hm
 | x::xs,m+1,hm,h,hl=>by
  have hz:∀i,m<=i->i<xs.length->b6 xs i=0:=fun i h1 h2=>h (i+1) zo (by simpa using h2)
  rw[List.take_succ_cons,j7]
  rcases Nat.eq_zero_or_pos m with rfl | hm0
  ·have hx:x≠0:=by rcases hl with hl | hl; omega; exact hl
   rw[if_neg (fun hh=>hx hh.2),SL fun i hi=>hz i (Nat.zero_le _) hi]; rfl
  ·have hl':b6 xs (m-1)≠0:=by
    rcases hl with hl | hl
    ·omega
    ·rw[show m+1-1=(m-1)+1 by omega] at hl; exact hl
   have ih:=FX (xs:=xs) (m:=m) (by simpa using hm) hz (.inr hl')
   have hne:j7 xs≠[]:=by rw[ih]; exact fun hh=>by (have h5:=congrArg List.length hh; rw[List.length_take,List.length_nil] at h5; rw[List.length_cons] at hm; omega)
   rw[if_neg (fun hh=>hne hh.1),ih]
def B2 (xs:List Int) (i:Nat):Int:=if i<xs.length then b6 xs i else 0
def s7 (xs:List Int):Nat->List Int×Int
 | 0=>([],0)
 | i+1=>((s7 xs i).1++[(B2 xs i+(s7 xs i).2)%100000000],(B2 xs i+(s7 xs i).2)/100000000)
theorem W9 {xs:List Int}:∀{i:Nat},(s7 xs i).1.length=i
 | 0=>rfl
 | i+1=>by rw[s7,List.length_append,W9]; rfl
theorem Z0 {xs:List Int}:∀{i:Nat},Dg (s7 xs i).1
 | 0=>Dg.nil
 | i+1=>by rw[s7]; exact Z0.snoc (Int.emod_nonneg _ zo) (Int.emod_lt_of_pos _ zo)
theorem CJ {xs:List Int} {i:Nat}:val (xs.take (i+1))=val (xs.take i)+BP i*B2 xs i:=by
 unfold B2
 by_cases h:i<xs.length
 ·rw[if_pos h,V5 h,X3,List.length_take,Nat.min_eq_left zo]
 ·rw[if_neg h,List.take_of_length_le zo,List.take_of_length_le zo]; simp
theorem XO {xs:List Int}:∀{i:Nat},val (s7 xs i).1+BP i*(s7 xs i).2=val (xs.take i)
 | 0=>by simp[s7,val]
 | i+1=>by
  have ih:=XO (xs:=xs) (i:=i)
  rw[s7,CJ,<- ih,X3,W9,T8]
  generalize B2 xs i=x
  generalize (s7 xs i).2=c
  have h:=Int.emod_add_mul_ediv (x+c) 100000000
  have h2:BP i*(x+c)=BP i*((x+c)%100000000)+BP i*(100000000*((x+c)/100000000)):=by rw[<- Int.mul_add,h]
  have h3:100000000*BP i*((x+c)/100000000)=BP i*(100000000*((x+c)/100000000)):=by rw[Int.mul_comm 100000000 (BP i),Int.mul_assoc]
  rw[h3]
  rw[Int.mul_add] at h2
  omega
def w7 (xs:List Int):Prop:=∀i,i<xs.length->-9223372036854775808<=b6 xs i/\b6 xs i<=9223372036854775807
theorem w7.x {xs:List Int} (h:w7 xs) (i:Nat):-9223372036854775808<=B2 xs i/\B2 xs i<=9223372036854775807:=by
 unfold B2
 split
 ·exact h i (by assumption)
 ·omega
theorem Dg.inI {xs:List Int} (h:Dg xs):w7 xs:=fun i hi=>by have:=h.at hi; omega
theorem MT {xs:List Int} (h:w7 xs):∀{i:Nat},-100000000000<=(s7 xs i).2/\(s7 xs i).2<=100000000000
 | 0=>by simp[s7]
 | i+1=>by
  have:=MT h (i:=i)
  have:=h.x i
  rw[s7]; simp only; omega
theorem jF {xs:List Int} {i:Nat}:B2 xs i/100000000+(B2 xs i%100000000+(s7 xs i).2)/100000000=(s7 xs (i+1)).2/\(B2 xs i%100000000+(s7 xs i).2)%100000000=(B2 xs i+(s7 xs i).2)%100000000:=by
 rw[s7]; simp only; omega
theorem jE {xs:List Int} {i:Nat} (hi:xs.length<=i) (h:(s7 xs i).2=0):val xs=val (s7 xs i).1:=by
 have:=XO (xs:=xs) (i:=i)
 rw[h,Int.mul_zero,Int.add_zero,List.take_of_length_le hi] at this
 exact this.symm
theorem jD {xs:List Int} {i:Nat} (hi:xs.length<=i) (h:(s7 xs i).2=-1):val xs=val (s7 xs i).1-BP i:=by
 have:=XO (xs:=xs) (i:=i)
 rw[h,List.take_of_length_le hi] at this
 omega
def bw (ds:List Int):Nat->Int
 | 0=>0
 | k+1=>if -(b6 ds k)-bw ds k<0 then 1 else 0
theorem KZ {ds:List Int}:∀{k:Nat},bw ds k=0\/bw ds k=1
 | 0=>.inl rfl
 | k+1=>by rw[bw]; split; exact .inr rfl; exact .inl rfl
def P1 (ds:List Int) (j:Nat):Int:=if -(b6 ds j)-bw ds j<0 then -(b6 ds j)-bw ds j+100000000 else -(b6 ds j)-bw ds j
def F1 (ds:List Int) (k:Nat):List Int:=j4 ds.length fun j=>if j<k then P1 ds j else b6 ds j
theorem aF {ds:List Int} {k:Nat}:(F1 ds k).length=ds.length:=p8
theorem oD {ds:List Int}:ds=F1 ds 0:=by
 unfold F1
 exact (T2 rfl).trans (C9 fun j _=>by rw[if_neg zo])
theorem TT {ds:List Int} {k:Nat} (h:k<ds.length):b6 (F1 ds k) k=b6 ds k:=by unfold F1; rw[q9 h,if_neg zo]
theorem aG {ds:List Int} {k:Nat}:(F1 ds k).set k (P1 ds k)=F1 ds (k+1):=by
 unfold F1
 rw[FW]
 refine C9 fun j _=>?_
 by_cases e:j=k
 ·subst e; rw[if_pos rfl,if_pos zo]
 ·rw[if_neg e]
  by_cases h:j<k
  ·rw[if_pos h,if_pos zo]
  ·rw[if_neg h,if_neg zo]
theorem TS {ds:List Int} (h:Dg ds) {j:Nat} (hj:j<ds.length):0<=P1 ds j/\P1 ds j<100000000:=by
 have:=h.at hj
 unfold P1
 rcases KZ (ds:=ds) (k:=j) with e | e<;>rw[e]<;>split<;>omega
theorem TV {ds:List Int} (h:Dg ds):∀{k:Nat},k<=ds.length->val (j4 k (P1 ds))=BP k*bw ds k-val (ds.take k)/\(bw ds k=0->val (ds.take k)=0)
 | 0,_=>by simp[j4,val,bw]
 | k+1,hk=>by
  obtain ⟨ih,ih0⟩:=TV h (k:=k) zo
  have hr:=h.at (i:=k) zo
  rw[F0,X3,p8,ih,V5 zo,X3,List.length_take,Nat.min_eq_left zo,T8,bw]
  have h01:=KZ (ds:=ds) (k:=k)
  have hp:=T7 k
  unfold P1
  split
  ·rename_i hn
   refine ⟨?_,fun hh=>absurd hh zo⟩
   rw[Int.mul_add (BP k),Int.mul_sub (BP k),Int.mul_neg]
   rw[Int.mul_comm 100000000 (BP k),Int.mul_assoc]
   omega
  ·rename_i hn
   have h0:b6 ds k=0/\bw ds k=0:=by omega
   rw[h0.1,h0.2,ih0 h0.2]
   simp
theorem oE {ds:List Int} (h:Dg ds) (e:bw ds ds.length≠0):Dg (F1 ds ds.length)/\val (F1 ds ds.length)=BP ds.length-val ds:=by
 have e1:F1 ds ds.length=j4 ds.length (P1 ds):=C9 fun j hj=>if_pos hj
 have hv:=(TV h (Nat.le_refl ds.length)).1
 rw[List.take_length,(KZ.resolve_left e),Int.mul_one] at hv
 rw[e1]
 refine ⟨fun x hx=>?_,hv⟩
 obtain ⟨j,hj,rfl⟩:=BT hx
 rw[p8] at hj
 rw[q9 hj]; exact TS h hj
theorem oF {ds:List Int} (h:Dg ds) (e:bw ds ds.length=0):Dg (F1 ds ds.length++[1])/\val (F1 ds ds.length++[1])=BP ds.length-val ds:=by
 have e1:F1 ds ds.length=j4 ds.length (P1 ds):=C9 fun j hj=>if_pos hj
 obtain ⟨hv,hz⟩:=TV h (Nat.le_refl ds.length)
 have hz:=hz e
 rw[List.take_length] at hv hz
 rw[e,hz] at hv
 rw[e1]
 refine ⟨Dg.snoc (fun x hx=>?_) zo zo,?_⟩
 ·obtain ⟨j,hj,rfl⟩:=BT hx
  rw[p8] at hj
  rw[q9 hj]; exact TS h hj
 ·rw[X3,p8,hv,hz]; simp
def g7 (z:Int):List Int:=if z<0 then (d7 z.natAbs).map (fun x=>-x) else d7 z.natAbs
theorem mD:∀{xs:List Int},val (xs.map fun x=>-x)=-val xs
 | []=>rfl
 | x::xs=>by rw[List.map_cons,val,val,mD]; omega
theorem q8 (z:Int):val (g7 z)=z:=by
 unfold g7
 split
 ·rw[mD,y4]; omega
 ·rw[y4]; omega
theorem r9 (z:Int):(g7 z).length=dl z:=by unfold g7 dl; split<;>simp
theorem vW:g7 0=[]:=rfl
theorem v5 (z:Int):w7 (g7 z):=fun i hi=>by
 unfold g7 at hi ⊢
 split
 ·rename_i h
  rw[if_pos h,List.length_map] at hi
  rw[HA hi]
  have:=(x9 z.natAbs).at hi
  omega
 ·rename_i h
  rw[if_neg h] at hi
  have:=(x9 z.natAbs).at hi
  omega
end Go.Fl

/- Sums, differences, comparisons and products of digits. Plain Lean, no program in sight. -/
namespace Go.Fl
theorem gM {xs:List Int} (h:Dg xs) (k:xs≠[]->BP (xs.length-1)<=val xs):Nm xs:=by
 refine ⟨h,fun hn e=>?_⟩
 have e2:xs=xs.dropLast++[xs.getLast hn]:=(List.dropLast_concat_getLast hn).symm
 have h1:=k hn
 rw[e] at e2
 have h2:Dg xs.dropLast:=fun x hx=>h x ((List.dropLast_sublist xs).subset hx)
 have h3:=h2.val1
 rw[e2,X3,Int.mul_zero,Int.add_zero] at h1
 rw[List.length_append,List.length_singleton,Nat.add_sub_cancel] at h1
 omega
theorem DK {xs:List Int} {i:Nat} (h:i<xs.length):val (xs.drop i)=b6 xs i+100000000*val (xs.drop (i+1)):=by
 rw[List.drop_eq_getElem_cons h,val,Y3 (List.getElem?_eq_getElem h)]
theorem FY {xs:List Int} {i:Nat} (h:i<=xs.length):val xs=val (xs.take i)+BP i*val (xs.drop i):=by
 conv=>lhs; rw[<- List.take_append_drop i xs]
 rw[KG,List.length_take,Nat.min_eq_left h]
theorem NG:∀{xs:List Int} {i:Nat} {v:Int},i<xs.length->val (xs.set i v)=val xs+BP i*(v-b6 xs i)
 | [],_,_,h=>by simp at h
 | x::xs,0,v,_=>by simp only[List.set_cons_zero,val,BP,Int.pow_zero]; show _=_+1*(v-x); omega
 | x::xs,i+1,v,h=>by
  rw[List.set_cons_succ,val,val,NG (by simpa using h),T8,Int.mul_add,Int.mul_assoc]
  show _=_+100000000*(BP i*(v-b6 xs i))
  omega
theorem Dg.set {xs:List Int} (h:Dg xs) {i:Nat} {v:Int} (h0:0<=v) (h1:v<100000000):Dg (xs.set i v):=fun x hx=>by
 rcases List.mem_or_eq_of_mem_set hx with hx | rfl
 ·exact h x hx
 ·exact ⟨h0,h1⟩
theorem Dg.x {xs:List Int} (h:Dg xs) (i:Nat):0<=B2 xs i/\B2 xs i<100000000:=by
 unfold B2; split
 ·exact h.at (by assumption)
 ·omega
theorem T6 {xs:List Int} {i:Nat} (h:i<xs.length):B2 xs i=b6 xs i:=if_pos h
theorem HS {xs:List Int} {i:Nat} (h:¬i<xs.length):B2 xs i=0:=if_neg h
theorem UL {n:Nat}:Dg (List.replicate n 0):=fun x hx=>by rw[List.eq_of_mem_replicate hx]; omega
theorem SN {n:Nat}:val (List.replicate n 0)=0:=by
 induction n with
 | zero=>rfl
 | succ n ih=>rw[List.replicate_succ,val,ih]; omega
def F7 (a b:List Int):Nat->List Int×Int
 | 0=>([],0)
 | i+1=>((F7 a b i).1++[(b6 a i+(F7 a b i).2+B2 b i)%100000000],(b6 a i+(F7 a b i).2+B2 b i)/100000000)
theorem IE {a b:List Int}:∀{i:Nat},(F7 a b i).1.length=i
 | 0=>rfl
 | i+1=>by rw[F7,List.length_append,IE]; rfl
theorem NU {a b:List Int}:∀{i:Nat},Dg (F7 a b i).1
 | 0=>Dg.nil
 | i+1=>by rw[F7]; exact NU.snoc (Int.emod_nonneg _ zo) (Int.emod_lt_of_pos _ zo)
theorem KU {a b:List Int} (ha:Dg a) (hb:Dg b):∀{i:Nat},i<=a.length->0<=(F7 a b i).2/\(F7 a b i).2<=1
 | 0,_=>by simp[F7]
 | i+1,h=>by
  have:=KU ha hb (i:=i) zo
  have:=ha.at (i:=i) zo
  have:=hb.x i
  rw[F7]; simp only; omega
theorem WG {n:Nat} (x:Int):BP n*x=BP n*(x%100000000)+BP (n+1)*(x/100000000):=by
 have h:=Int.emod_add_mul_ediv x 100000000
 rw[T8,Int.mul_comm 100000000 (BP n),Int.mul_assoc,<- Int.mul_add,h]
theorem TA {a b:List Int}:∀{i:Nat},i<=a.length->val (F7 a b i).1+BP i*(F7 a b i).2=val (a.take i)+val (b.take i)
 | 0,_=>by simp[F7,val]
 | i+1,h=>by
  have ih:=TA (a:=a) (b:=b) (i:=i) zo
  have e:=WG (n:=i) (b6 a i+(F7 a b i).2+B2 b i)
  rw[Int.mul_add,Int.mul_add] at e
  rw[F7,CJ (xs:=a),CJ (xs:=b),X3,IE,T6 (xs:=a) zo]
  dsimp only
  omega
theorem add_zero {a b:List Int} (ha:Nm a) (hb:Nm b) (hl:b.length<=a.length) (h:(F7 a b a.length).2=0):(F7 a b a.length).1=d7 (val a+val b).toNat:=by
 have hv:=TA (a:=a) (b:=b) (Nat.le_refl _)
 rw[h,Int.mul_zero,Int.add_zero,List.take_length,List.take_of_length_le hl] at hv
 have h0:=ha.dg.val0; have h1:=hb.dg.val0
 refine PB (gM NU fun hn=>?_) (by rw[hv]; omega)
 have hne:a≠[]:=fun e=>hn (List.eq_nil_of_length_eq_zero (by rw[IE,e]; rfl))
 have:=ha.low hne
 rw[IE,hv]; omega
theorem mZ {a b:List Int} (ha:Nm a) (hb:Nm b) (hl:b.length<=a.length) (h:(F7 a b a.length).2=1):(F7 a b a.length).1++[1]=d7 (val a+val b).toNat:=by
 have hv:=TA (a:=a) (b:=b) (Nat.le_refl _)
 rw[h,Int.mul_one,List.take_length,List.take_of_length_le hl] at hv
 have h0:=ha.dg.val0; have h1:=hb.dg.val0
 have h2:val ((F7 a b a.length).1++[1])=val a+val b:=by rw[X3,IE]; omega
 refine PB (gM (NU.snoc zo zo) fun _=>?_) (by rw[h2]; omega)
 have:=(NU (a:=a) (b:=b) (i:=a.length)).val0
 rw[h2,List.length_append,IE,List.length_singleton,Nat.add_sub_cancel]; omega
def sb (a b:List Int):Nat->Int
 | 0=>0
 | k+1=>if b6 a k-sb a b k-B2 b k<0 then 1 else 0
theorem XU {a b:List Int}:∀{k:Nat},sb a b k=0\/sb a b k=1
 | 0=>.inl rfl
 | k+1=>by rw[sb]; split; exact .inr rfl; exact .inl rfl
def CG (a b:List Int) (j:Nat):Int:=if b6 a j-sb a b j-B2 b j<0 then b6 a j-sb a b j-B2 b j+100000000 else b6 a j-sb a b j-B2 b j
def D3 (a b:List Int) (k:Nat):List Int:=j4 a.length fun j=>if j<k then CG a b j else b6 a j
theorem HL {a b:List Int} {k:Nat}:(D3 a b k).length=a.length:=p8
theorem aa7 {a b:List Int}:a=D3 a b 0:=by
 unfold D3
 exact (T2 rfl).trans (C9 fun j _=>by rw[if_neg zo])
theorem RY {a b:List Int} {k:Nat} (h:k<a.length):b6 (D3 a b k) k=b6 a k:=by unfold D3; rw[q9 h,if_neg zo]
theorem jX {a b:List Int} {k:Nat}:(D3 a b k).set k (CG a b k)=D3 a b (k+1):=by
 unfold D3
 rw[FW]
 refine C9 fun j _=>?_
 by_cases e:j=k
 ·subst e; rw[if_pos rfl,if_pos zo]
 ·rw[if_neg e]
  by_cases h:j<k
  ·rw[if_pos h,if_pos zo]
  ·rw[if_neg h,if_neg zo]
theorem aa6 {a b:List Int} (ha:Dg a) (hb:Dg b) {j:Nat} (hj:j<a.length):0<=CG a b j/\CG a b j<100000000:=by
 have:=ha.at hj
 have:=hb.x j
 unfold CG
 rcases XU (a:=a) (b:=b) (k:=j) with e | e<;>rw[e]<;>split<;>omega
theorem kC {a b:List Int}:∀{k:Nat},k<=a.length->val (j4 k (CG a b))=val (a.take k)-val (b.take k)+BP k*sb a b k
 | 0,_=>by simp[j4,val,sb]
 | k+1,hk=>by
  have ih:=kC (a:=a) (b:=b) (k:=k) zo
  rw[F0,X3,p8,ih,CJ (xs:=a),CJ (xs:=b),T6 (xs:=a) zo,T8,sb]
  unfold CG
  rw[Int.mul_comm 100000000 (BP k),Int.mul_assoc]
  split
  ·rw[Int.mul_add,Int.mul_sub,Int.mul_sub]; omega
  ·rw[Int.mul_sub,Int.mul_sub]; simp; omega
theorem ae9 {a b:List Int} (ha:Dg a) (hb:Dg b) (hl:b.length<=a.length) (hle:val b<=val a):j7 (D3 a b a.length)=d7 (val a-val b).toNat:=by
 have e1:D3 a b a.length=j4 a.length (CG a b):=C9 fun j hj=>if_pos hj
 have hd:Dg (j4 a.length (CG a b)):=fun x hx=>by
  obtain ⟨j,hj,rfl⟩:=BT hx
  rw[p8] at hj
  rw[q9 hj]; exact aa6 ha hb hj
 have hv:=kC (a:=a) (b:=b) (Nat.le_refl _)
 rw[List.take_length,List.take_of_length_le hl] at hv
 have h1:=hd.val1
 rw[p8] at h1
 have hz:sb a b a.length=0:=by
  rcases XU (a:=a) (b:=b) (k:=a.length) with e | e
  ·exact e
  ·rw[e,Int.mul_one] at hv; omega
 rw[hz,Int.mul_zero,Int.add_zero] at hv
 rw[e1]
 exact DJ hd (by rw[hv]; omega)
theorem OL {a b:List Int} (ha:Nm a) (hb:Nm b) (h:a.length<b.length):val a<val b:=by
 have h1:=ha.dg.val1
 have h2:=hb.low (fun e=>by rw[e] at h; simp at h)
 have:=HT (show a.length<=b.length-1 by omega)
 omega
theorem OK {a b:List Int} (ha:Dg a) (hb:Dg b) (hl:a.length=b.length) {i:Nat} (hi:i<a.length) (h:∀j,i<j->j<a.length->b6 a j=b6 b j) (hlt:b6 a i<b6 b i):val a<val b:=by
 have e:a.drop (i+1)=b.drop (i+1):=by
  refine D1 (by simp[hl]) fun j hj=>?_
  rw[List.length_drop] at hj
  have:=h (i+1+j) zo zo
  unfold b6 at this ⊢
  simpa [List.getD_eq_getElem?_getD,List.getElem?_drop] using this
 have h1:=FY (xs:=a) (i:=i) zo
 have h2:=FY (xs:=b) (i:=i) zo
 rw[DK hi] at h1
 rw[DK zo,<- e] at h2
 have h3:=(ha.take i).val1
 have h4:=(hb.take i).val0
 rw[List.length_take,Nat.min_eq_left zo] at h3
 have h5:BP i*(b6 a i+100000000*val (a.drop (i+1))+1)<=BP i*(b6 b i+100000000*val (a.drop (i+1))):=Int.mul_le_mul_of_nonneg_left zo (Int.le_of_lt (T7 i))
 rw[Int.mul_add,Int.mul_one] at h5
 omega
theorem aK {a b:List Int} (hl:a.length=b.length) (h:∀j,j<a.length->b6 a j=b6 b j):a=b:=D1 hl h
def r7 (x y:Int):Int:=if x<y then -1 else if y<x then 1 else 0
structure AE (a b o:List Int) (i k:Nat) (c:Int):Prop where
 len:o.length=a.length+b.length
 dg:Dg o
 c0:0<=c/\c<100000000
 z:∀j,i+b.length<=j->j<o.length->b6 o j=0
 v:val o+BP (i+k)*c=val (a.take i)*val b+BP i*b6 a i*val (b.take k)
structure U0 (a b o:List Int) (i:Nat):Prop where
 len:o.length=a.length+b.length
 dg:Dg o
 z:∀j,i+b.length<=j->j<o.length->b6 o j=0
 v:val o=val (a.take i)*val b
section
variable {a b o:List Int} {i k:Nat} {c:Int}
theorem U0.start:U0 a b (List.replicate (a.length+b.length) 0) 0 :=
 ⟨by simp,UL,fun j _ hj=>QQ (by simpa using hj),by rw[SN]; simp[val]⟩
theorem U0.row (h:U0 a b o i):AE a b o i 0 0:=⟨h.len,h.dg,by omega,h.z,by rw[h.v]; simp[val]⟩
theorem AE.n (ha:Dg a) (hb:Dg b) (h:AE a b o i k c) (hi:i<a.length) (hk:k<b.length):0<=b6 o (i+k)/\b6 o (i+k)<100000000/\0<=b6 a i*b6 b k/\b6 a i*b6 b k<=9999999800000001:=by
 have h1:=h.dg.at (i:=i+k) (by rw[h.len]; omega)
 have h2:=ha.at hi
 have h3:=hb.at hk
 refine ⟨h1.1,h1.2,Int.mul_nonneg h2.1 h3.1,?_⟩
 have:b6 a i*b6 b k<=99999999*99999999:=Int.mul_le_mul zo zo h3.1 zo
 omega
theorem AE.next (ha:Dg a) (hb:Dg b) (h:AE a b o i k c) (hi:i<a.length) (hk:k<b.length):AE a b (o.set (i+k) ((b6 o (i+k)+b6 a i*b6 b k+c)%100000000)) i (k+1) ((b6 o (i+k)+b6 a i*b6 b k+c)/100000000):=by
 obtain ⟨n1,n2,n3,n4⟩:=h.n ha hb hi hk
 have hc:=h.c0
 have hik:i+k<o.length:=by rw[h.len]; omega
 refine ⟨by rw[List.length_set]; exact h.len,h.dg.set (Int.emod_nonneg _ zo) (Int.emod_lt_of_pos _ zo),by omega,fun j h1 h2=>?_,?_⟩
 ·rw[List.length_set] at h2
  rw[N1 h2,if_neg zo]; exact h.z j h1 h2
 ·have e:=WG (n:=i+k) (b6 o (i+k)+b6 a i*b6 b k+c)
  rw[Int.mul_add,Int.mul_add] at e
  have hv:=h.v
  have e2:BP i*b6 a i*val (b.take (k+1))=BP i*b6 a i*val (b.take k)+BP (i+k)*(b6 a i*b6 b k):=by
   rw[CJ,T6 hk,Int.mul_add,NI]
   congr 1
   rw[Int.mul_assoc,Int.mul_assoc,Int.mul_left_comm (b6 a i)]
  rw[NG hik,e2,Int.mul_sub,<- Nat.add_assoc]
  omega
theorem AE.done (h:AE a b o i b.length c) (hi:i<a.length):U0 a b (o.set (i+b.length) c) (i+1):=by
 have hl:i+b.length<o.length:=by rw[h.len]; omega
 have hz:=h.z (i+b.length) (Nat.le_refl _) hl
 refine ⟨by rw[List.length_set]; exact h.len,h.dg.set h.c0.1 h.c0.2,fun j h1 h2=>?_,?_⟩
 ·rw[List.length_set] at h2
  rw[N1 h2,if_neg zo]; exact h.z j zo h2
 ·have hv:=h.v
  rw[List.take_length] at hv
  rw[NG hl,hz,Int.sub_zero,CJ,T6 hi,Int.add_mul]; exact hv
theorem U0.fin (h:U0 a b o a.length) (ha:Dg a) (hb:Dg b):j7 o=d7 (val a*val b).toNat:=by
 have hv:=h.v
 rw[List.take_length] at hv
 have:=Int.mul_nonneg ha.val0 hb.val0
 exact DJ h.dg (by rw[hv]; omega)
end
structure M5 (a o:List Int) (n:Int) (i:Nat) (r:Int):Prop where
 len:o.length=a.length
 dg:Dg o
 r0:0<=r/\r<n
 z:∀j,j<i->j<o.length->b6 o j=0
 v:val (a.drop i)=n*val (o.drop i)+r
section
variable {a o:List Int} {n r:Int} {i:Nat}
theorem M5.start (hn:0<n):M5 a (List.replicate a.length 0) n a.length 0 :=
 ⟨by simp,UL,by omega,fun j h _=>QQ h,by rw[List.drop_length,List.drop_of_length_le (by simp)]; simp[val]⟩
theorem M5.q (ha:Dg a) (h:M5 a o n (i+1) r) (hi:i<a.length):0<=(r*100000000+b6 a i)/n/\(r*100000000+b6 a i)/n<100000000/\0<=(r*100000000+b6 a i)%n/\(r*100000000+b6 a i)%n<n:=by
 have h1:=ha.at hi
 have h2:=h.r0
 refine ⟨Int.ediv_nonneg zo zo,Int.ediv_lt_of_lt_mul zo ?_,Int.emod_nonneg _ zo,Int.emod_lt_of_pos _ zo⟩
 have:(r+1)*100000000<=n*100000000:=Int.mul_le_mul_of_nonneg_right zo zo
 rw[Int.mul_comm 100000000 n]; omega
theorem M5.next (ha:Dg a) (h:M5 a o n (i+1) r) (hi:i<a.length):M5 a (o.set i ((r*100000000+b6 a i)/n)) n i ((r*100000000+b6 a i)%n):=by
 obtain ⟨q1,q2,q3,q4⟩:=h.q ha hi
 have hl:=h.len
 refine ⟨by rw[List.length_set]; exact hl,h.dg.set q1 q2,⟨q3,q4⟩,fun j h1 h2=>?_,?_⟩
 ·rw[List.length_set] at h2
  rw[N1 h2,if_neg zo]; exact h.z j zo h2
 ·have e:=Int.emod_add_mul_ediv (r*100000000+b6 a i) n
  rw[DK hi,h.v,DK (xs:=o.set i _) (by rw[List.length_set]; omega),N1 zo,if_pos rfl,List.drop_set_of_lt zo,Int.mul_add,Int.mul_add,Int.mul_left_comm n 100000000]
  omega
theorem M5.fin (h:M5 a o n 0 r):j7 o=d7 (val a/n).toNat/\r=val a%n:=by
 have hv:=h.v
 rw[List.drop_zero,List.drop_zero] at hv
 have hr:=h.r0
 have e1:val a/n=val o:=by rw[hv,Int.mul_add_ediv_left _ _ zo,Int.ediv_eq_zero_of_lt hr.1 hr.2]; omega
 have e2:val a%n=r:=by rw[hv,Int.mul_add_emod_self_left,Int.emod_eq_of_lt hr.1 hr.2]
 have h0:=h.dg.val0
 exact ⟨DJ h.dg (by rw[e1]; omega),e2.symm⟩
end
end Go.Fl

/- Long division of digits. Plain Lean, no program in sight. -/
namespace Go.Fl
theorem uN {xs:List Int} (h:Dg xs) {n:Nat} (hv:val xs<BP n) {k:Nat} (hk:n<=k) (hl:k<xs.length):b6 xs k=0:=by
 have h1:=h.at hl
 have h2:=FY (xs:=xs) (i:=k) zo
 have h3:=(h.take k).val0
 have hd:Dg (xs.drop (k+1)):=fun x hx=>h x (List.mem_of_mem_drop hx)
 have h4:=hd.val0
 rw[DK hl] at h2
 have h5:=HT hk
 refine Classical.byContradiction fun hne=>?_
 have h6:BP k*1<=BP k*(b6 xs k+100000000*val (xs.drop (k+1))):=Int.mul_le_mul_of_nonneg_left zo (Int.le_of_lt (T7 k))
 omega
structure O8 (u0 v:List Int) (j:Nat) (s:Int) (u:List Int) (i:Nat) (c:Int):Prop where
 len:u.length=u0.length
 same:∀k,k<j\/j+i<=k->b6 u k=b6 u0 k
 dg:∀k,j<=k->k<j+i->0<=b6 u k/\b6 u k<100000000
 v:val u+BP (j+i)*c=val u0+s*BP j*val (v.take i)
 cb:-100000000<=c/\c<=1
section
variable {u0 v u:List Int} {j i:Nat} {s c:Int}
theorem O8.start:O8 u0 v j s u0 0 0:=⟨rfl,fun _ _=>rfl,fun _ _ _=>by omega,by simp[val],by omega⟩
theorem O8.b (hv:Dg v) (hs:-99999999<=s/\s<=1) (hi:i<v.length):-9999999800000001<=s*b6 v i/\s*b6 v i<=99999999:=by
 have h1:=hv.at hi
 constructor
 ·have h2:(-s)*b6 v i<=99999999*99999999:=by
   by_cases hp:0<=-s
   ·exact Int.mul_le_mul zo zo h1.1 zo
   ·have:(-s)*b6 v i<=0*b6 v i:=Int.mul_le_mul_of_nonneg_right zo h1.1
    omega
  rw[Int.neg_mul] at h2; omega
 ·have h2:s*b6 v i<=1*b6 v i:=Int.mul_le_mul_of_nonneg_right hs.2 h1.1
  omega
theorem O8.next (hv:Dg v) (hs:-99999999<=s/\s<=1) (h:O8 u0 v j s u i c) (hi:i<v.length) (hl:j+i<u0.length) (hu:0<=b6 u0 (j+i)/\b6 u0 (j+i)<100000000) :
  b6 u (j+i)=b6 u0 (j+i)/\O8 u0 v j s (u.set (j+i) ((b6 u0 (j+i)+s*b6 v i+c)%100000000)) (i+1) ((b6 u0 (j+i)+s*b6 v i+c)/100000000):=by
 have hb:=O8.b hv hs hi
 have hc:=h.cb
 have he:=h.same (j+i) (.inr (Nat.le_refl _))
 have hul:=h.len
 refine ⟨he,by rw[List.length_set]; exact hul,fun k hk=>?_,fun k h1 h2=>?_,?_,?_⟩
 ·by_cases hkl:k<u.length
  ·rw[N1 hkl,if_neg zo]; exact h.same k zo
  ·have e1:∀y:Int,b6 (u.set (j+i) y) k=b6 u k:=fun y=>by
    unfold b6
    simp only[List.getD_eq_getElem?_getD]
    rw[List.getElem?_eq_none (show (u.set (j+i) y).length<=k by rw[List.length_set]; omega),List.getElem?_eq_none (show u.length<=k by omega)]
   rw[e1]; exact h.same k zo
 ·have hkl:k<u.length:=by omega
  rw[N1 hkl]
  by_cases e:j+i=k
  ·rw[if_pos e]; exact ⟨Int.emod_nonneg _ zo,Int.emod_lt_of_pos _ zo⟩
  ·rw[if_neg e]; exact h.dg k h1 zo
 ·have e:=WG (n:=j+i) (b6 u0 (j+i)+s*b6 v i+c)
  rw[Int.mul_add,Int.mul_add] at e
  have hv':=h.v
  have e2:s*BP j*val (v.take (i+1))=s*BP j*val (v.take i)+BP (j+i)*(s*b6 v i):=by
   rw[CJ,T6 hi,Int.mul_add,NI]
   congr 1
   rw[Int.mul_comm s (BP j),Int.mul_assoc,Int.mul_assoc,Int.mul_left_comm s]
  rw[NG zo,he,e2,Int.mul_sub,<- Nat.add_assoc]
  omega
 ·constructor
  ·omega
  ·omega
theorem O8.done (h:O8 u0 v j s u v.length c) (hl:j+v.length<u0.length):b6 u (j+v.length)=b6 u0 (j+v.length)/\val (u.set (j+v.length) (b6 u (j+v.length)+c))=val u0+s*BP j*val v:=by
 have hv:=h.v
 rw[List.take_length] at hv
 refine ⟨h.same _ (.inr (Nat.le_refl _)),?_⟩
 rw[NG (by rw[h.len]; exact hl),<- hv]
 congr 1
 rw[Int.add_comm (b6 u _),Int.add_sub_cancel]
end
structure O0 (u0:List Int) (j n:Nat) (T V:Int) (u:List Int) (g:Int):Prop where
 len:u.length=u0.length
 dg:∀k,k<u.length->k≠j+n->0<=b6 u k/\b6 u k<100000000
 hi:∀k,j+n<k->k<u.length->b6 u k=0
 low:u.take j=u0.take j
 v:val u=val u0-g*BP j*V
 g0:T/V<=g
 g1:g<=99999999
section
variable {u0 u:List Int} {j n:Nat} {T V g:Int}
theorem O0.t (h:O0 u0 j n T V u g) (hl:j+n<u0.length) (hT:T=val (u0.drop j)):val (u.drop j)=T-g*V:=by
 have h1:=FY (xs:=u) (i:=j) (by rw[h.len]; omega)
 have h2:=FY (xs:=u0) (i:=j) zo
 have h3:=h.v
 rw[h1,h2,h.low,<- hT] at h3
 have h4:BP j*val (u.drop j)=BP j*(T-g*V):=by
  rw[Int.mul_sub,show BP j*(g*V)=g*BP j*V by rw[Int.mul_comm g (BP j),Int.mul_assoc]]; omega
 exact Int.eq_of_mul_eq_mul_left (by have:=T7 j; omega) h4
theorem O0.top (h:O0 u0 j n T V u g) (hl:j+n<u0.length):∃lo,0<=lo/\lo<BP n/\val (u.drop j)=lo+BP n*b6 u (j+n):=by
 have hlen:=h.len
 have h1:=FY (xs:=u.drop j) (i:=n) (by rw[List.length_drop]; omega)
 have hd:Dg ((u.drop j).take n):=fun x hx=>by
  obtain ⟨i,hi,rfl⟩:=BT hx
  rw[List.length_take,List.length_drop] at hi
  have e:b6 ((u.drop j).take n) i=b6 u (j+i):=by
   unfold b6
   simp only[List.getD_eq_getElem?_getD,List.getElem?_take,List.getElem?_drop]
   rw[if_pos zo]
  rw[e]; exact h.dg _ zo zo
 have hz:val ((u.drop j).drop n)=b6 u (j+n):=by
  rw[List.drop_drop,DK zo]
  have:val (u.drop (j+n+1))=0:=by
   have hr:u.drop (j+n+1)=List.replicate (u.drop (j+n+1)).length 0:=List.eq_replicate_of_mem fun x hx=>by
    obtain ⟨i,hi,rfl⟩:=BT hx
    rw[List.length_drop] at hi
    have e:b6 (u.drop (j+n+1)) i=b6 u (j+n+1+i):=by
     unfold b6
     simp only[List.getD_eq_getElem?_getD,List.getElem?_drop]
    rw[e]; exact h.hi _ zo zo
   rw[hr,SN]
  rw[this]; omega
 have h2:=hd.val1
 rw[List.length_take,List.length_drop,Nat.min_eq_left zo] at h2
 exact ⟨_,hd.val0,h2,by rw[h1,hz]⟩
theorem O0.lt (h:O0 u0 j n T V u g) (hl:j+n<u0.length) (hT:T=val (u0.drop j)) (hn:b6 u (j+n)<0) (hV:0<V):T/V<g:=by
 obtain ⟨lo,h1,h2,h3⟩:=h.top hl
 rw[h.t hl hT] at h3
 have h4:BP n*b6 u (j+n)<=BP n*(-1):=Int.mul_le_mul_of_nonneg_left zo (Int.le_of_lt (T7 n))
 have h5:T<g*V:=by omega
 exact Int.ediv_lt_of_lt_mul hV h5
theorem O0.ge (h:O0 u0 j n T V u g) (hl:j+n<u0.length) (hT:T=val (u0.drop j)) (hn:0<=b6 u (j+n)) (hV:0<V) (hVn:V<BP n):g=T/V/\Dg u/\val (u.drop j)<V:=by
 obtain ⟨lo,h1,h2,h3⟩:=h.top hl
 have h4:0<=BP n*b6 u (j+n):=Int.mul_nonneg (Int.le_of_lt (T7 n)) hn
 have ht:=h.t hl hT
 have h5:g*V<=T:=by omega
 have hg:g=T/V:=Int.le_antisymm ((Int.le_ediv_iff_mul_le hV).2 h5) h.g0
 have h6:val (u.drop j)<V:=by
  rw[ht,hg]
  have:=Int.emod_lt_of_pos T hV
  have e:=Int.emod_add_mul_ediv T V
  rw[Int.mul_comm] at e
  omega
 refine ⟨hg,fun x hx=>?_,h6⟩
 obtain ⟨k,hk,rfl⟩:=BT hx
 by_cases e:k=j+n
 ·subst e
  refine ⟨hn,?_⟩
  have:b6 u (j+n)=0:=by
   refine Classical.byContradiction fun hne=>?_
   have:BP n*1<=BP n*b6 u (j+n):=Int.mul_le_mul_of_nonneg_left zo (Int.le_of_lt (T7 n))
   omega
  omega
 ·exact h.dg k hk e
end
theorem uI {T V t vt:Int} {n:Nat} (hV:vt*BP n<=V) (hvt:0<vt) (hT:T<(t+1)*BP n) (hT2:T<100000000*V) (h0:0<=T):T/V<=(if 99999999<t/vt then 99999999 else t/vt)/\0<=T/V:=by
 have hp:=T7 n
 have hVp:0<V:=by
  have:0<vt*BP n:=Int.mul_pos hvt hp
  omega
 have h1:T/V<100000000:=Int.ediv_lt_of_lt_mul hVp hT2
 have hq0:0<=T/V:=Int.ediv_nonneg h0 zo
 have h2:T/V*V<=T:=Int.ediv_mul_le T zo
 have h3:T/V*(vt*BP n)<=T/V*V:=Int.mul_le_mul_of_nonneg_left hV hq0
 have h4:T/V*vt*BP n<(t+1)*BP n:=by rw[Int.mul_assoc]; omega
 have h5:T/V*vt<t+1:=Int.lt_of_mul_lt_mul_right h4 (Int.le_of_lt hp)
 have h6:T/V<=t/vt:=(Int.le_ediv_iff_mul_le hvt).2 zo
 refine ⟨?_,hq0⟩
 split<;>omega
structure V7 (A V:Int) (n:Nat) (u out:List Int) (j:Nat):Prop where
 lu:u.length=out.length+n
 dg:Dg u
 do_:Dg out
 jo:j<=out.length
 lt:val (u.drop j)<V
 v:A=V*BP j*val (out.drop j)+val u
section
variable {A V T g:Int} {n j:Nat} {u out u' v:List Int}
theorem V7.gs (hv:Nm v) (hn:v.length=n) (h2:2<=n) (h:V7 A (val v) n u out (j+1)) :
  val (u.drop j)/val v<=(if 99999999<(b6 u (j+n)*100000000+b6 u (j+n-1))/b6 v (n-1) then 99999999 else (b6 u (j+n)*100000000+b6 u (j+n-1))/b6 v (n-1))/\0<=val (u.drop j)/val v/\0<b6 v (n-1)/\(∀k,j+n<k->k<u.length->b6 u k=0)/\val v<BP n:=by
 have hlu:=h.lu
 have hjo:=h.jo
 have hne:v≠[]:=fun e=>by rw[e] at hn; simp at hn; omega
 have hvlt:=hv.dg.val1
 rw[hn] at hvlt
 have hd1:Dg (u.drop (j+1)):=fun x hx=>h.dg x (List.mem_of_mem_drop hx)
 have hd0:Dg (u.drop j):=fun x hx=>h.dg x (List.mem_of_mem_drop hx)
 have hz:∀k,j+n<k->k<u.length->b6 u k=0:=fun k h3 h4=>by
  have:=uN hd1 (n:=n) (by have:=h.lt; omega) (k:=k-(j+1)) zo (by rw[List.length_drop]; omega)
  unfold b6 at this ⊢
  simp only[List.getD_eq_getElem?_getD,List.getElem?_drop] at this ⊢
  rwa [show j+1+(k-(j+1))=k by omega] at this
 have hvt:0<b6 v (n-1):=by
  have h3:=hv.last hne
  have h4:b6 v (n-1)=v.getLast hne:=by
   rw[List.getLast_eq_getElem]
   exact Y3 (by rw[<- hn]; exact List.getElem?_eq_getElem _)
  rw[h4]
  have:=hv.dg _ (List.getLast_mem hne)
  omega
 have hV:b6 v (n-1)*BP (n-1)<=val v:=by
  have h3:=FY (xs:=v) (i:=n-1) zo
  have h4:=(hv.dg.take (n-1)).val0
  have h5:v.drop (n-1)=[b6 v (n-1)]:=by
   rw[List.drop_eq_getElem_cons zo,List.drop_of_length_le zo]
   congr 1
   exact (Y3 (List.getElem?_eq_getElem zo)).symm
  rw[h5] at h3
  simp only[val,Int.mul_zero,Int.add_zero] at h3
  rw[Int.mul_comm]; omega
 have hT0:=hd0.val0
 have hT1:val (u.drop j)<100000000*val v:=by
  rw[DK zo]
  have:=h.dg.at (i:=j) zo
  have:=h.lt
  omega
 have hT2:val (u.drop j)<(b6 u (j+n)*100000000+b6 u (j+n-1)+1)*BP (n-1):=by
  have h3:=FY (xs:=u.drop j) (i:=n-1) (by rw[List.length_drop]; omega)
  have hdt:Dg ((u.drop j).take (n-1)):=hd0.take _
  have h4:=hdt.val1
  rw[List.length_take,List.length_drop,Nat.min_eq_left zo] at h4
  have h6:=DK (xs:=u) (i:=j+(n-1)) zo
  have h7:=DK (xs:=u) (i:=j+n) zo
  rw[show j+(n-1)+1=j+n by omega] at h6
  rw[List.drop_drop,h6,h7] at h3
  have h5:val (u.drop (j+n+1))=0:=by
   have hr:u.drop (j+n+1)=List.replicate (u.drop (j+n+1)).length 0:=List.eq_replicate_of_mem fun x hx=>by
    obtain ⟨i,hi,rfl⟩:=BT hx
    rw[List.length_drop] at hi
    have e:b6 (u.drop (j+n+1)) i=b6 u (j+n+1+i):=by
     unfold b6
     simp only[List.getD_eq_getElem?_getD,List.getElem?_drop]
    rw[e]; exact hz _ zo zo
   rw[hr,SN]
  rw[h5,Int.mul_zero,Int.add_zero] at h3
  rw[h3,show j+(n-1)=j+n-1 by omega,Int.add_mul,Int.one_mul,Int.mul_comm (b6 u (j+n)*100000000+b6 u (j+n-1)),Int.mul_comm 100000000 (b6 u (j+n)),Int.add_comm (b6 u (j+n)*100000000)]
  omega
 obtain ⟨g1,g2⟩:=uI hV hvt hT2 hT1 hT0
 exact ⟨g1,g2,hvt,hz,hvlt⟩
theorem O0.mk' (h:V7 A V n u out (j+1)) (_hn:j+n<u.length) {s:Int} (hs:O8 u v j (-s) u' n T) (hvn:v.length=n) (hV:val v=V) (hz:∀k,j+n<k->k<u.length->b6 u k=0) (hg:val (u.drop j)/V<=s) (hg1:s<=99999999) :
  O0 u j n (val (u.drop j)) V (u'.set (j+n) (b6 u' (j+n)+T)) s:=by
 have hl:=hs.len
 subst hvn
 obtain ⟨e1,e2⟩:=hs.done zo
 refine ⟨by rw[List.length_set]; exact hl,fun k hk hne=>?_,fun k h1 h2=>?_,?_,?_,hg,hg1⟩
 ·rw[List.length_set] at hk
  rw[N1 hk,if_neg (fun e=>hne e.symm)]
  by_cases hc:k<j\/j+v.length<=k
  ·rw[hs.same k hc]; exact h.dg.at zo
  ·exact hs.dg k zo zo
 ·rw[List.length_set] at h2
  rw[N1 h2,if_neg zo,hs.same k zo]
  exact hz k h1 zo
 ·refine D1 (by simp[hl]) fun k hk=>?_
  rw[List.length_take,List.length_set] at hk
  have e:∀{xs:List Int},b6 (xs.take j) k=b6 xs k:=fun {xs}=>by
   unfold b6
   simp only[List.getD_eq_getElem?_getD,List.getElem?_take]
   rw[if_pos zo]
  rw[e,e,N1 zo,if_neg zo]
  exact hs.same k (.inl zo)
 ·rw[e2,hV,Int.neg_mul,Int.neg_mul]; omega
theorem O0.back (h:O0 u j n T V u' g) (hl:j+n<u.length) (hT:T=val (u.drop j)) (hn:b6 u' (j+n)<0) (hVp:0<V) {u2:List Int} {c:Int} (hs:O8 u' v j 1 u2 n c) (hvn:v.length=n) (hV:val v=V) :
  O0 u j n T V (u2.set (j+n) (b6 u2 (j+n)+c)) (g-1):=by
 have hlt:=h.lt hl hT hn hVp
 have hlen:=h.len
 have hl2:=hs.len
 subst hvn
 obtain ⟨e1,e2⟩:=hs.done zo
 refine ⟨by rw[List.length_set]; omega,fun k hk hne=>?_,fun k h1 h2=>?_,?_,?_,by omega,by have:=h.g1; omega⟩
 ·rw[List.length_set] at hk
  rw[N1 hk,if_neg (fun e=>hne e.symm)]
  by_cases hc:k<j\/j+v.length<=k
  ·rw[hs.same k hc]; exact h.dg k zo hne
  ·exact hs.dg k zo zo
 ·rw[List.length_set] at h2
  rw[N1 h2,if_neg zo,hs.same k zo]
  exact h.hi k h1 zo
 ·rw[<- h.low]
  refine D1 (by simp[hl2]) fun k hk=>?_
  rw[List.length_take,List.length_set] at hk
  have e:∀{xs:List Int},b6 (xs.take j) k=b6 xs k:=fun {xs}=>by
   unfold b6
   simp only[List.getD_eq_getElem?_getD,List.getElem?_take]
   rw[if_pos zo]
  rw[e,e,N1 zo,if_neg zo]
  exact hs.same k (.inl zo)
 ·rw[e2,h.v,hV,Int.one_mul,Int.sub_mul,Int.sub_mul,Int.one_mul]; omega
theorem V7.next (h:V7 A V n u out (j+1)) (hw:O0 u j n (val (u.drop j)) V u' g) (hl:j+n<u.length) (hn:0<=b6 u' (j+n)) (hV:0<V) (hVn:V<BP n):V7 A V n u' (out.set j g) j:=by
 obtain ⟨e1,e2,e3⟩:=hw.ge hl rfl hn hV hVn
 have hjo:=h.jo
 have h0:Dg (u.drop j):=fun x hx=>h.dg x (List.mem_of_mem_drop hx)
 have hg0:0<=g:=by rw[e1]; exact Int.ediv_nonneg h0.val0 zo
 have:=hw.g1
 refine ⟨by rw[hw.len,h.lu,List.length_set],e2,h.do_.set hg0 zo,by rw[List.length_set]; omega,e3,?_⟩
 rw[DK (xs:=out.set j g) (by rw[List.length_set]; omega),N1 zo,if_pos rfl,List.drop_set_of_lt zo,hw.v,h.v,T8,Int.mul_add,show V*BP j*g=g*BP j*V by rw[Int.mul_comm V,Int.mul_comm (BP j*V),Int.mul_assoc],show V*(100000000*BP j)=V*BP j*100000000 by rw[Int.mul_comm 100000000 (BP j),Int.mul_assoc],Int.mul_assoc (V*BP j)]
 omega
theorem V7.fin (h:V7 A V n u out 0) (hV:0<V):val out=A/V/\val u=A%V/\Dg out/\Dg u:=by
 have hv:=h.v
 have hlt:=h.lt
 rw[List.drop_zero] at hv hlt
 simp only[BP,Int.pow_zero,Int.mul_one] at hv
 have h0:=h.dg.val0
 refine ⟨?_,?_,h.do_,h.dg⟩
 ·rw[hv,Int.mul_add_ediv_left _ _ zo,Int.ediv_eq_zero_of_lt h0 hlt]; omega
 ·rw[hv,Int.mul_add_emod_self_left,Int.emod_eq_of_lt h0 hlt]
theorem V7.start {x:Int} (hx:0<=x) (hv:Nm v) (hn:v.length=n) (h2:2<=n) (hle:n<=(d7 x.toNat).length):V7 x (val v) n (d7 x.toNat++[0,0]) (List.replicate ((d7 x.toNat).length+2-n) 0) ((d7 x.toNat).length+2-n):=by
 have hd:=x9 x.toNat
 have hD:Dg (d7 x.toNat++[0,0]):=fun y hy=>by
  rcases List.mem_append.1 hy with hy | hy
  ·exact hd y hy
  ·simp at hy; subst hy; omega
 have hval:val (d7 x.toNat++[0,0])=x:=by rw[KG,y4]; simp[val]; omega
 have hne:v≠[]:=fun e=>by rw[e] at hn; simp at hn; omega
 refine ⟨by simp; omega,hD,UL,by simp,?_,?_⟩
 ·have h1:=hv.low hne
  rw[hn] at h1
  have e:(d7 x.toNat++[0,0]).drop ((d7 x.toNat).length+2-n)=(d7 x.toNat).drop ((d7 x.toNat).length+2-n)++[0,0]:=List.drop_append_of_le_length zo
  rw[e,KG]
  have hdd:Dg ((d7 x.toNat).drop ((d7 x.toNat).length+2-n)):=fun y hy=>hd y (List.mem_of_mem_drop hy)
  have h3:=hdd.val1
  rw[List.length_drop] at h3
  have h4:=HT (show (d7 x.toNat).length-((d7 x.toNat).length+2-n)<=n-1 by omega)
  simp only[val]
  omega
 ·rw[List.drop_of_length_le (by simp),hval]
  simp[val]
end
end Go.Fl

/- Integers: what the contracts of the package field lean on. Plain Lean, no program in sight. -/
namespace Go.Fl
theorem WT {α:Type} [Inhabited α] {xs:List α} {i m:Nat} (h:i<m):b6 (xs.take m) i=b6 xs i:=by simp[b6,List.getD,List.getElem?_take_of_lt h]
def wh (z:Int):Bool×List Int:=(decide (z<0),d7 z.natAbs)
theorem FZ {b:Bool} {ds:List Int} {z:Int} (hb:b=decide (z<0)) (hd:ds=d7 z.natAbs):(b,ds)=wh z:=by unfold wh; rw[hb,hd]
theorem mN {ds:List Int} {z:Int} {n:Nat} (hz:z=n) (hd:ds=d7 n):(false,ds)=wh z:=by subst hz; exact FZ (by simp) (by simpa using hd)
theorem mM {ds:List Int} {z:Int} {n:Nat} (hz:z=-(n:Int)) (h0:0<n) (hd:ds=d7 n):(true,ds)=wh z:=FZ (by simp; omega) (by rw[hd,hz,Int.natAbs_neg,Int.natAbs_natCast])
theorem NB (n:Int):n=100000000*n.tdiv 100000000+n.tmod 100000000/\(0<=n->0<=n.tmod 100000000/\n.tmod 100000000<100000000)/\(n<=0->-100000000<n.tmod 100000000/\n.tmod 100000000<=0):=by
 have h:=Int.mul_tdiv_add_tmod n 100000000
 refine ⟨by omega,fun h0=>⟨Int.tmod_nonneg _ h0,?_⟩,fun h0=>?_⟩
 ·exact Int.tmod_lt_of_pos n zo
 ·have h1:=Int.tmod_nonneg 100000000 (show 0<=-n by omega)
  have h2:=Int.tmod_lt_of_pos (-n) (show (0:Int)<100000000 by omega)
  rw[Int.neg_tmod] at h1 h2
  omega
theorem jI {xs:List Int} {i:Nat} (hi:xs.length<=i) (h:(s7 xs i).2=0):(false,j7 (s7 xs i).1)=wh (val xs):=by
 have h1:=jE hi h
 have h0:=(Z0 (xs:=xs) (i:=i)).val0
 exact mN (n:=(val xs).toNat) zo (DJ Z0 zo)
theorem TL {ds:List Int} {k:Nat}:bw ds (k+1)=if -(b6 ds k)-bw ds k<0 then 1 else 0:=rfl
theorem TU {ds:List Int} {k:Nat} (hk:k<ds.length):b6 ((F1 ds k).set k (-b6 (F1 ds k) k-bw ds k)) k=-b6 ds k-bw ds k:=by
 rw[N1 (by rw[aF]; exact hk),if_pos rfl,TT hk]
theorem aI {ds:List Int} {k:Nat} (hk:k<ds.length) (h:b6 ((F1 ds k).set k (-b6 (F1 ds k) k-bw ds k)) k<0) :
  ((F1 ds k).set k (-b6 (F1 ds k) k-bw ds k)).set k (b6 ((F1 ds k).set k (-b6 (F1 ds k) k-bw ds k)) k+100000000)=F1 ds (k+1)/\(1:Int)=bw ds (k+1):=by
 rw[TU hk] at h ⊢
 refine ⟨?_,by rw[TL,if_pos h]⟩
 rw[List.set_set,<- aG]
 congr 1
 unfold P1; rw[if_pos h]
theorem aH {ds:List Int} {k:Nat} (hk:k<ds.length) (h:0<=b6 ((F1 ds k).set k (-b6 (F1 ds k) k-bw ds k)) k):(F1 ds k).set k (-b6 (F1 ds k) k-bw ds k)=F1 ds (k+1)/\(0:Int)=bw ds (k+1):=by
 rw[TU hk] at h
 refine ⟨?_,by rw[TL,if_neg zo]⟩
 rw[<- aG,TT hk]
 congr 1
 unfold P1; rw[if_neg zo]
theorem jH {xs:List Int} {i:Nat} (hi:xs.length<=i) (h:(s7 xs i).2=-1) (hb:bw (s7 xs i).1 i≠0):(true,j7 (F1 (s7 xs i).1 i))=wh (val xs):=by
 have h1:=jD hi h
 have hl:(s7 xs i).1.length=i:=W9
 have hd:=Z0 (xs:=xs) (i:=i)
 have hlt:=hd.val1
 have h2:=oE hd (by rw[hl]; exact hb)
 rw[hl] at h2 hlt
 exact mM (n:=(-val xs).toNat) zo zo (DJ h2.1 zo)
theorem jG {xs:List Int} {i:Nat} (hi:xs.length<=i) (h:(s7 xs i).2=-1) (hb:bw (s7 xs i).1 i=0):(true,j7 (F1 (s7 xs i).1 i++[1]))=wh (val xs):=by
 have h1:=jD hi h
 have hl:(s7 xs i).1.length=i:=W9
 have hd:=Z0 (xs:=xs) (i:=i)
 have hlt:=hd.val1
 have h2:=oF hd (by rw[hl]; exact hb)
 rw[hl] at h2 hlt
 exact mM (n:=(-val xs).toNat) zo zo (DJ h2.1 zo)
def R1 (ds:List Int) (k:Nat):List Int:=j4 ds.length fun j=>if j<k then -(b6 ds j) else b6 ds j
theorem WM {ds:List Int}:ds=R1 ds 0:=by
 unfold R1
 exact (T2 rfl).trans (C9 fun j _=>by rw[if_neg zo])
theorem WL {ds:List Int} {k:Nat} (h:k<ds.length):b6 (R1 ds k) k=b6 ds k:=by unfold R1; rw[q9 h,if_neg zo]
theorem gJ {ds:List Int} {k:Nat} (h:k<ds.length):(R1 ds k).set k (-(b6 (R1 ds k) k))=R1 ds (k+1):=by
 rw[WL h]
 unfold R1
 rw[FW]
 refine C9 fun j _=>?_
 by_cases e:j=k
 ·subst e; rw[if_pos rfl,if_pos zo]
 ·rw[if_neg e]
  by_cases h:j<k
  ·rw[if_pos h,if_pos zo]
  ·rw[if_neg h,if_neg zo]
theorem gI {ds:List Int}:R1 ds ds.length=ds.map fun x=>-x:=by
 refine D1 (by unfold R1; rw[p8,List.length_map]) fun j hj=>?_
 unfold R1 at hj ⊢
 rw[p8] at hj
 rw[q9 hj,if_pos hj,HA hj]
theorem vV {z:Int} (h:decide (z<0)=false):d7 z.natAbs=g7 z:=by unfold g7; rw[if_neg (of_decide_eq_false h)]
theorem vT {z:Int} (h:decide (z<0)=true):R1 (d7 z.natAbs) (d7 z.natAbs).length=g7 z:=by rw[gI]; unfold g7; rw[if_pos (of_decide_eq_true h)]
theorem tD {z:Int}:(d7 z.natAbs).length=dl z:=rfl
theorem CX {z:Int}:0<dl z↔z≠0:=by have:=C5 (a:=z); omega
theorem ah6 {z:Int}:(!decide (z<0)&&decide ((0:Int)<((d7 z.natAbs).length:Nat)),d7 z.natAbs)=wh (-z):=by
 refine FZ ?_ (by rw[Int.natAbs_neg])
 have:=CX (z:=z)
 rw[tD]
 by_cases h:z<0
 ·simp[h]; omega
 ·by_cases e:z=0
  ·subst e; simp[C5.2 rfl]
  ·have h2:(0:Int)<(dl z:Nat):=by omega
   simp[h]; omega
theorem I4 {n:Int}:val [n]=n:=by simp[val]
theorem GN {x y:Int} (h:x<y):r7 x y=-1:=if_pos h
theorem GM {x y:Int} (h:y<x):r7 x y=1:=by unfold r7; rw[if_neg zo,if_pos h]
theorem OJ {x y:Int} (h:x=y):r7 x y=0:=by unfold r7; rw[if_neg zo,if_neg zo]
theorem oO {x y:Int}:r7 (x-y) 0=r7 x y:=by
 unfold r7
 by_cases h:x<y
 ·rw[if_pos h,if_pos zo]
 ·rw[if_neg h,if_neg zo]
  by_cases h2:y<x
  ·rw[if_pos h2,if_pos zo]
  ·rw[if_neg h2,if_neg zo]
theorem oK {m n:Nat} (h:(d7 m).length≠(d7 n).length):r7 ((d7 m).length:Nat) ((d7 n).length:Nat)=r7 m n:=by
 have h1:=y4 m; have h2:=y4 n
 rcases Nat.lt_or_ge (d7 m).length (d7 n).length with h3 | h3
 ·have:=OL (O2 m) (O2 n) h3
  rw[GN zo,GN zo]
 ·have:=OL (O2 n) (O2 m) zo
  rw[GM zo,GM zo]
theorem oI {m n:Nat} (hl:(d7 m).length=(d7 n).length) {i:Nat} (hi:i<(d7 m).length) (h:∀j,i<j->j<(d7 m).length->b6 (d7 m) j=b6 (d7 n) j) (hne:b6 (d7 m) i≠b6 (d7 n) i):r7 (b6 (d7 m) i) (b6 (d7 n) i)=r7 m n:=by
 have h1:=y4 m; have h2:=y4 n
 rcases Int.lt_or_gt_of_ne hne with h3 | h3
 ·have:=OK (x9 m) (x9 n) hl hi h h3
  rw[GN h3,GN zo]
 ·have:=OK (x9 n) (x9 m) hl.symm zo (fun j h4 h5=>(h j h4 zo).symm) h3
  rw[GM h3,GM zo]
theorem oH {m n:Nat} (hl:(d7 m).length=(d7 n).length) (h:∀j,0<=j->j<(d7 m).length->b6 (d7 m) j=b6 (d7 n) j):(0:Int)=r7 m n:=by
 have e:=aK hl (fun j hj=>h j (Nat.zero_le _) hj)
 have h1:=y4 m; have h2:=y4 n
 rw[e,h2] at h1
 rw[OJ h1.symm]
end Go.Fl

/- Contracts: the library, for integers. -/
namespace Go.Fl
open Go Go.Proofs
open b8 renaming op->tO
open j1 renaming op->rO
set_option maxRecDepth 100000

theorem bG (x:Int):Ct Tryz.prog 224 [kI x] (kB false):=by
 refine Ct.mk Tryz.func224 rfl Tryz.ntmps224 rfl (fun w J=>?_); refine C7 ?_; exact d9.res1 (fn:=Tryz.f224) rfl (.b rfl (by simp)<|.nil)

theorem aU (x y:Int):Ct Tryz.prog 214 [kI x,kI y] (kI (r7 x y)):=by
 refine Ct.mk Tryz.func214 rfl Tryz.ntmps214 rfl (fun w J=>?_); refine j3 ?_; refine tO (i6 (fun hp=>bG _) (.a rfl uu<|.nil)) rfl rfl ?_; refine l6 ?_; refine tO (i6 (fun hp=>bG _) (.a rfl uu<|.nil)) rfl rfl ?_; refine m8 ?_; refine Tr.cnd rfl ?_ ?_
 ·intro h3
  simp at h3
 ·intro h3
  refine j3 ?_; refine Tr.cnd rfl ?_ ?_
  ·intro h7
   simp at h7
  ·intro h7
   refine u5 ?_; refine jq ?_ ?_
   ·intro h9
    refine j6 ?_; exact d9.res1 (fn:=Tryz.f214) rfl (.i rfl (GN h9).symm<|.nil)
   ·intro h9
    replace h9:=Int.not_lt.1 h9
    refine u5 ?_; refine jq ?_ ?_
    ·intro h11
     refine j6 ?_; exact d9.res1 (fn:=Tryz.f214) rfl (.i rfl (GM zo).symm<|.nil)
    ·intro h11
     replace h11:=Int.not_lt.1 h11
     refine j3 ?_; exact d9.res1 (fn:=Tryz.f214) rfl (.i rfl (OJ zo).symm<|.nil)

theorem ON (p:List Int) (hn:p.length<=1000000) (h0:0<p.length):T9 Tryz.prog 143 [b7 (eL eI) p] (fun t=>o5 t p.length) (l3 false 3 eI p p.length):=by
 refine T9.mk Tryz.func143 rfl Tryz.ntmps143 rfl (fun w J=>?_); refine m8 ?_; refine tO (ML rfl uu) rfl rfl ?_; refine g9 ?_; refine Tr.exB (s:=4) rfl (fun b1 q1=>?_); refine Tr.cnd rfl ?_ ?_
 ·intro h1
  exact absurd (congrArg List.length (q1 h1)) (by simp only[List.length_nil]; omega)
 ·intro h1
  refine g8 ?_; refine b8.new (Y5 eI 5) rfl rfl rfl rfl ?_; refine g9 ?_; refine jl ?_; refine g8 ?_
  exact d9.resN (fn:=Tryz.f143) (u:=5) rfl rfl (GL zi zi) (HI zi) inferInstance

end Go.Fl

/- Contracts: integers of the package field (reading, normal form). -/
namespace Go.Fl
open Go Go.Proofs
open b8 renaming op->tO
open j1 renaming op->rO
set_option maxRecDepth 100000

def eW:i8 (Bool×List Int):=eC (fun v:Bool×List Int=>(v.1,v.2,())) (eP BO (eP (eL eI) eU))
instance {v:Bool×List Int}:E5 (b7 eW v) [kB (v.1),b7 (eL eI) (v.2)]:=inferInstanceAs (E5 (b7 (eC (fun v:Bool×List Int=>(v.1,v.2,())) (eP BO (eP (eL eI) eU))) v) _)
instance {v:Bool×List Int} {tl:List d5}:H1 eW v tl (kB (v.1)::b7 (eL eI) (v.2)::tl):=inferInstanceAs (H1 (eC (fun v:Bool×List Int=>(v.1,v.2,())) (eP BO (eP (eL eI) eU))) v tl _)
instance {v:Bool×List Int}:v7 eW v 1 (eL eI) (v.2) 1:=inferInstanceAs (v7 (eC (fun v:Bool×List Int=>(v.1,v.2,())) (eP BO (eP (eL eI) eU))) v 1 _ _ _)
instance {ks r:List d5} {b:Bool} {l:List Int} [h:t9 ks (eP BO (eP (eL eI) eU)) (b,l,()) r]:t9 ks eW ((b,l)) r:=⟨fun h'=>h.imp h'⟩
instance {z:Int}:v7 eW (wh z) 1 (eL eI) (d7 z.natAbs) 1:=inferInstanceAs (v7 eW (wh z) 1 (eL eI) ((wh z).2) _)
instance {z:Int}:E5 (b7 eW (wh z)) [kB (decide (z<0)),b7 (eL eI) (d7 z.natAbs)]:=inferInstanceAs (E5 (b7 eW (wh z)) [kB ((wh z).1),b7 (eL eI) ((wh z).2)])
instance {z:Int} {tl:List d5}:H1 eW (wh z) tl (kB (decide (z<0))::b7 (eL eI) (d7 z.natAbs)::tl):=inferInstanceAs (H1 eW (wh z) tl (kB ((wh z).1)::b7 (eL eI) ((wh z).2)::tl))
theorem OO (n:Int) (hn:-9223372036854775808<=n/\n<=9223372036854775807):Ct Tryz.prog 195 [kI n] (z9 [kI (n/100000000),kI (n%100000000)]):=by
 obtain ⟨hq1,hq2,hq3⟩:=NB n
 refine Ct.mk Tryz.func195 rfl Tryz.ntmps195 rfl (fun w J=>?_); refine m8 ?_; refine tO (BY rfl uu rfl uu (fun _=>zo)) rfl rfl ?_; refine i4 ?_; refine tO (EH rfl uu rfl uu (fun _=>zo)) rfl rfl ?_; refine y7 ?_; refine jq ?_ ?_
 ·intro h2
  refine u9 ?_; exact d9.res (fn:=Tryz.f195) (ts:=[2,3]) rfl rfl (.i rfl zo<|.i rfl zo<|.nil)
 ·intro h2
  replace h2:=Int.not_lt.1 h2
  refine y7 ?_; exact d9.res (fn:=Tryz.f195) (ts:=[2,3]) rfl rfl (.i rfl zo<|.i rfl zo<|.nil)

theorem OY (xs:List Int) (ad:Option Addr) (cp:Nat):Ct Tryz.prog 190 [J8 eI ad cp xs] (J8 eI ad cp (j7 xs)):=by
 refine Ct.mk Tryz.func190 rfl Tryz.ntmps190 rfl (fun w J=>?_); refine Tr.fact (s:=0) rfl (fun _ _ h=>U9 h.2) (fun hb=>?_); refine l8 ?_; refine Tr.for (σ:=Nat) [] [] (fun m=>[⟨0,true,[],J8 eI ad cp (xs.take m)⟩]) (fun m=>[]) (fun m=>m<=xs.length/\∀i,m<=i->i<xs.length->b6 xs i=0) (fun m=>j7 xs=xs.take m) (fun m=>m) (xs.length) ⟨by omega,fun i h1 h2=>absurd h1 zo⟩ (d6.mk (.v rfl (List.take_length).symm<|.nil) (.nil) rfl) ?_ ?_
 ·rintro m ⟨hm,hz⟩
  refine jn ?_
  have hl:(xs.take m).length=m:=by rw[List.length_take]; omega
  have hat:0<m->b6 (xs.take m) ((((xs.take m).length:Nat):Int)-1).toNat=b6 xs (m-1):=fun h=>by rw[hl,show (((m:Nat):Int)-1).toNat=m-1 by omega]; exact WT zo
  refine g8 ?_; refine tO (WX rfl uu) rfl rfl ?_; refine g8 ?_; refine b8.gd rfl rfl rfl (WX rfl id) rfl rfl ?_; refine b8.gd rfl rfl rfl (AP rfl id rfl uu (fun hp=>by simp at hp; omega)) rfl rfl ?_; refine b8.gd rfl rfl rfl (xO rfl id rfl id rfl (fun hp=>by simp at hp; omega)) rfl rfl ?_; refine l8 ?_; refine Tr.cnd rfl ?_ ?_
  ·intro h1
   try simp only[decide_eq_true_eq,Bool.and_eq_true] at h1
   refine l6 ?_; refine tO (WX rfl uu) rfl rfl ?_; refine i4 ?_; refine tO (xV rfl uu rfl uu (fun _=>zo)) rfl rfl ?_; refine i7 ?_; exact g6.lp (m-1) ⟨by omega,fun i h2 h3=>by (by_cases e:i=m-1; subst e; rw[<- hat zo]; exact h1.2; exact hz i zo h3)⟩ zo (d6.mk (.v rfl (by rw[List.take_take]; congr 1; omega)<|.nil) (.nil) rfl)
  ·intro h1
   try simp only[decide_eq_true_eq,decide_eq_false_iff_not,Bool.and_eq_false_imp] at h1
   refine g8 ?_
   exact g6.cut (m) (FX hm hz (by by_cases e:m=0; exact .inl e; exact .inr (by rw[<- hat zo]; exact h1 zo))) (d6.mk (.v rfl zi<|.nil) (.nil) rfl)
 ·intro m hE0
  refine jn ?_; refine j6 ?_; exact d9.res1 (fn:=Tryz.f190) rfl (.v rfl hE0.symm<|.nil)

theorem IQ (xs:List Int):Ct Tryz.prog 190 [b7 (eL eI) xs] (b7 (eL eI) (j7 xs)):=Ct.ofSlv fun ad cp=>OY xs ad cp

set_option maxHeartbeats 1000000 in
theorem UA (xs:List Int) (hx:w7 xs) (hn:xs.length<=1000000):Ct Tryz.prog 167 [b7 (eL eI) xs] (b7 eW (wh (val xs))):=by
 refine Ct.mk Tryz.func167 rfl Tryz.ntmps167 rfl (fun w J=>?_); refine g9 ?_; refine ja 2 ?_; refine FL ?_; refine Tr.grow (s:=3) rfl rfl 3 rfl 3 eI rfl ?_
 refine Tr.for1 (σ:=Nat) [⟨0,true,_,_⟩,⟨2,true,_,_⟩] [⟨2,_,_⟩] (fun i=>[⟨3,true,[3],o5 3 i⟩,⟨4,true,[],kI (s7 xs i).2⟩,⟨5,true,[],kI (i:Int)⟩]) (fun i=>[⟨3,[],l3 true 3 eI (s7 xs i).1 i⟩]) (fun i=>(i:Int)+(s7 xs i).2.natAbs<=xs.length+100000000000) (fun i=>xs.length<=i/\((s7 xs i).2=0\/(s7 xs i).2=-1)/\i<=xs.length+100000000000) (fun i=>(xs.length-i)*1000000000000+(s7 xs i).2.natAbs) (0) (by simp[s7]; omega) (d6.mk (.o rfl zi rfl<|.i rfl zi<|.i rfl zi<|zk) (.a zi zi<|zk) rfl) ?_ ?_
 ·rintro i hi
  refine jn ?_
  have hc1:=MT hx (i:=i)
  have hc2:=MT hx (i:=i+1)
  have hx1:=hx.x i
  have hs:=jF (xs:=xs) (i:=i)
  have hs2:(s7 xs (i+1)).2=(B2 xs i+(s7 xs i).2)/100000000:=rfl
  have hxo:¬i<xs.length->B2 xs i=0:=HS
  refine D2 ?_; refine b8.gd rfl rfl rfl (MJ rfl id rfl (fun hp h=>LP (id hp) h)) rfl rfl ?_; refine i7 ?_; refine Tr.cnd rfl ?_ ?_
  ·intro h4
   try simp only[decide_eq_true_eq,Bool.and_eq_true,Bool.or_eq_true,ne_eq] at h4
   refine u5 ?_; refine Tr.meet2 (σ:=Unit) [⟨0,true,_,_⟩,⟨2,true,_,_⟩,⟨3,true,_,_⟩,⟨4,true,_,_⟩,⟨5,true,_,_⟩] [⟨2,_,_⟩,⟨3,_,_⟩] (zk) (zk) (fun _=>[⟨6,true,[],kI (B2 xs i/100000000)⟩,⟨7,true,[],kI (B2 xs i%100000000)⟩]) (fun _=>[]) (fun _=>True) ?_ ?_
   ·skip
    refine j3 ?_; refine jq ?_ ?_
    ·intro h7
     refine l8 ?_; refine tO (i6 (fun hp=>OO _ (by have:=hx i zo; omega)) (.a rfl uu<|.nil)) rfl rfl ?_; refine l6 ?_
     exact g6.cut (()) zi (d6.mk (.i rfl (by rw[T6 zo])<|.i rfl (by rw[T6 zo])<|zk) (zk) rfl)
    ·intro h7
     replace h7:=Int.not_lt.1 h7
     refine i4 ?_
     exact g6.cut (()) zi (d6.mk (.i rfl (by rw[hxo zo]; rfl)<|.i rfl (by rw[hxo zo]; rfl)<|zk) (zk) rfl)
   ·intro _ hM
    refine jn ?_; refine l8 ?_; refine tO (i6 (fun hp=>OO _ zo) (.a rfl uu<|.nil)) rfl rfl ?_; refine u5 ?_; refine b8.new (w4 eI 48 (fun hp=>.cons rfl<|.nil) rfl rfl rfl rfl) rfl rfl rfl rfl ?_; refine i4 ?_; refine jl ?_; refine D2 ?_
    exact g6.lp (i+1) zo zo (d6.mk (.o rfl zi rfl<|.i rfl hs.1<|.i rfl zi<|zk) (.a (by rw[s7,<- hs.2]) zi<|zk) rfl)
  ·intro h4
   try simp only[decide_eq_true_eq,decide_eq_false_iff_not,Bool.and_eq_false_imp,Bool.or_eq_false_iff,Int.not_lt,ne_eq,Classical.not_not] at h4
   refine g8 ?_
   exact g6.cut (i) ⟨by omega,by omega,by omega⟩ (d6.mk (.o rfl zi rfl<|.i rfl zi<|.i rfl zi<|zk) (.a zi zi<|zk) rfl)
 ·rintro i ⟨hi,hc,hb⟩
  refine je ?_; refine j3 ?_; refine jq ?_ ?_
  ·intro h11
   refine i7 ?_
   refine b8.frz 3 [3,55] ⟨rfl,rfl,trivial⟩ (by first | (simp only[p6]; omega) | (simp only[p6,List.length_singleton]; omega)) rfl ?_
   refine jl ?_; refine tO (i6 (fun hp=>IQ _) (.a rfl uu<|.nil)) rfl rfl ?_; refine tO (A1 (fun hp=>.cons rfl rfl rfl<|.nil)) rfl rfl ?_; refine l8 ?_; exact d9.resC1 (fn:=Tryz.f167) rfl rfl (t7 rfl (jI hi h11))
  ·intro h11
   refine y7 ?_; refine tO (S8 rfl uu) rfl rfl ?_; refine i7 ?_
   refine Tr.for1 (σ:=Nat) [⟨2,true,_,_⟩,⟨3,true,_,_⟩,⟨58,true,_,_⟩,⟨59,true,_,_⟩] [⟨2,_,_⟩] (fun k=>[⟨10,true,[],kI (bw (s7 xs i).1 k)⟩,⟨60,true,[],kI (k:Int)⟩]) (fun k=>[⟨3,[],l3 true 3 eI (F1 (s7 xs i).1 k) i⟩]) (fun k=>k<=i) (fun k=>k=i) (fun k=>i-k) (0) zi (d6.mk (.i rfl zi<|.i rfl zi<|zk) (.a oD zi<|zk) rfl) ?_ ?_
   ·rintro k hk
    refine jn ?_
    have hl:(s7 xs i).1.length=i:=W9
    have hd:=fun (h:k<i)=>(Z0 (xs:=xs) (i:=i)).at (i:=k) zo
    have hb01:=KZ (ds:=(s7 xs i).1) (k:=k)
    have hat:=fun (h:k<i)=>TT (ds:=(s7 xs i).1) (k:=k) zo
    have hcl:=aF (ds:=(s7 xs i).1) (k:=k)
    have hsv:=fun (h:k<i)=>TU (ds:=(s7 xs i).1) (k:=k) zo
    refine l6 ?_; refine jq ?_ ?_
    ·intro h15
     refine FL ?_; refine tO (EF rfl uu (fun _=>zo)) rfl rfl ?_; refine JA ?_; refine jq ?_ ?_
     ·intro h19
      refine JA ?_
      exact g6.lp (k+1) zi zo (d6.mk (.i rfl (aI zo h19).2<|.i rfl zi<|zk) (.a (aI zo h19).1 zi<|zk) rfl)
     ·intro h19
      replace h19:=Int.not_lt.1 h19
      refine j6 ?_
      exact g6.lp (k+1) zi zo (d6.mk (.i rfl (aH zo h19).2<|.i rfl zi<|zk) (.a (aH zo h19).1 zi<|zk) rfl)
    ·intro h15
     replace h15:=Int.not_lt.1 h15
     refine g8 ?_
     exact g6.cut (k) zo (d6.mk (.i rfl zi<|.i rfl zi<|zk) (.a zi zi<|zk) rfl)
   ·rintro _ rfl
    refine je ?_; refine j3 ?_; refine jq ?_ ?_
    ·intro h23
     refine g9 ?_; refine b8.new (w4 eI 87 (fun hp=>.cons rfl<|.nil) rfl rfl rfl rfl) rfl rfl rfl rfl ?_; refine i4 ?_; refine jl ?_; refine l6 ?_
     refine b8.frz 3 [3,88,89] ⟨rfl,rfl,rfl,trivial⟩ (by first | (simp only[p6]; omega) | (simp only[p6,List.length_singleton]; omega)) rfl ?_
     refine jl ?_; refine tO (i6 (fun hp=>IQ _) (.a rfl uu<|.nil)) rfl rfl ?_; refine tO (A1 (fun hp=>.cons rfl rfl rfl<|.cons rfl rfl rfl<|.nil)) rfl rfl ?_; refine g8 ?_; exact d9.resC1 (fn:=Tryz.f167) rfl rfl (t7 rfl (jG hi zo zo))
    ·intro h23
     refine l8 ?_
     refine b8.frz 3 [3,58,89] ⟨rfl,rfl,rfl,trivial⟩ (by first | (simp only[p6]; omega) | (simp only[p6,List.length_singleton]; omega)) rfl ?_
     refine jl ?_; refine tO (i6 (fun hp=>IQ _) (.a rfl uu<|.nil)) rfl rfl ?_; refine tO (A1 (fun hp=>.cons rfl rfl rfl<|.cons rfl rfl rfl<|.nil)) rfl rfl ?_; refine g8 ?_; exact d9.resC1 (fn:=Tryz.f167) rfl rfl (t7 rfl (jH hi zo zo))

end Go.Fl

/- Contracts: integers of the package field (normal form, signs, comparisons). -/
namespace Go.Fl
open Go Go.Proofs
open b8 renaming op->tO
open j1 renaming op->rO
set_option maxRecDepth 100000

theorem sI  : Ct Tryz.prog 170 [b7 eW (wh 0)] (b7 (eL eI) []):=by
 refine Ct.mk Tryz.func170 rfl Tryz.ntmps170 rfl (fun w J=>?_); refine g9 ?_; refine jb 1 rfl ?_; refine j6 ?_; refine tO (i6 (fun hp=>CU _ (by simp[cS])) (.a rfl uu<|.nil)) rfl rfl ?_; refine u5 ?_; refine Tr.cnd rfl ?_ ?_
 ·intro h2
  exact absurd (of_decide_eq_true h2) zo
 ·intro h2
  refine u5 ?_; refine Tr.cnd rfl ?_ ?_
  ·intro h8
   refine j6 ?_; exact d9.res1 (fn:=Tryz.f170) rfl (.n rfl rfl<|.nil)
  ·intro h8
   exact absurd h8 (by simp[cS])

theorem sH (z:Int) (hz:z≠0) (hn:dl z<=1000000):Ct Tryz.prog 170 [b7 eW (wh z)] (b7 (eL eI) (g7 z)):=by
 have hp:=CX.2 hz
 have hl:(d7 z.natAbs).length=dl z:=rfl
 refine Ct.mk Tryz.func170 rfl Tryz.ntmps170 rfl (fun w J=>?_); refine g9 ?_; refine jb 1 rfl ?_; refine j6 ?_; refine b8.new (ED 7 (fun hp=>ON _ zo zo) (.a rfl uu<|.nil)) rfl rfl rfl rfl ?_; refine u5 ?_; refine Tr.cnd rfl ?_ ?_
 ·intro h2
  refine i7 ?_; refine tO (S8 rfl uu) rfl rfl ?_; refine i7 ?_
  refine Tr.for1 (σ:=Nat) [⟨3,true,_,_⟩,⟨11,true,_,_⟩] [] (fun k=>[⟨12,true,[],kI (k:Int)⟩]) (fun k=>[⟨7,[],l3 false 3 eI (R1 (d7 z.natAbs) k) (dl z)⟩]) (fun k=>k<=dl z) (fun k=>k=dl z) (fun k=>dl z-k) (0) (Nat.zero_le _) (d6.mk (.i rfl zi<|zk) (.a WM zi<|.nil) rfl) ?_ ?_
  ·intro k hR0
   refine jn ?_
   have hd:=fun (h:k<dl z)=>(x9 z.natAbs).at (i:=k) zo
   have hat:=fun (h:k<dl z)=>WL (ds:=(d7 z.natAbs)) (k:=k) zo
   refine l6 ?_; refine jq ?_ ?_
   ·intro h4
    refine P5 ?_; refine tO (EF rfl uu (fun _=>zo)) rfl rfl ?_; refine m8 ?_
    exact g6.lp (k+1) zi zo (d6.mk (.i rfl zi<|zk) (.a (gJ zo) zi<|.nil) rfl)
   ·intro h4
    replace h4:=Int.not_lt.1 h4
    refine g8 ?_
    exact g6.cut (k) zo (d6.mk (.i rfl zi<|zk) (.a zi zi<|.nil) rfl)
  ·rintro _ rfl
   refine je ?_; refine l8 ?_; refine tO (S8 rfl uu) rfl rfl ?_; refine i7 ?_; refine jq ?_ ?_
   ·intro h8
    omega
   ·intro h8
    refine j3 ?_; refine Tr.frz 7 [2] ⟨rfl,trivial⟩ (by simp only[p6]; omega) rfl ?_; refine i4 ?_; exact d9.res1 (fn:=Tryz.f170) rfl (.r rfl (vT h2)<|.nil)
 ·intro h2
  refine l6 ?_; refine tO (S8 rfl uu) rfl rfl ?_; refine i7 ?_; refine jq ?_ ?_
  ·intro h8
   omega
  ·intro h8
   refine j3 ?_; refine Tr.frz 7 [2] ⟨rfl,trivial⟩ (by simp only[p6]; omega) rfl ?_; refine i4 ?_; exact d9.res1 (fn:=Tryz.f170) rfl (.r rfl (vV h2)<|.nil)

theorem cP (z:Int) (hn:dl z<=1000000):Ct Tryz.prog 170 [b7 eW (wh z)] (b7 (eL eI) (g7 z)):=by
 by_cases h:z=0
 ·subst h; exact sI
 ·exact sH z h hn

theorem BK (z:Int):Ct Tryz.prog 168 [b7 eW (wh z)] (kI (r7 z 0)):=by
 have hp:=CX (z:=z)
 have hl:(d7 z.natAbs).length=dl z:=rfl
 refine Ct.mk Tryz.func168 rfl Tryz.ntmps168 rfl (fun w J=>?_); refine g9 ?_; refine jb 1 rfl ?_; refine C7 ?_; refine Tr.cnd rfl ?_ ?_
 ·intro h1
  try simp only[decide_eq_true_eq] at h1
  refine j3 ?_; exact d9.res1 (fn:=Tryz.f168) rfl (.i rfl (OJ zo).symm<|.nil)
 ·intro h1
  try simp only[decide_eq_false_iff_not] at h1
  refine j6 ?_; refine Tr.cnd rfl ?_ ?_
  ·intro h3
   refine j3 ?_; exact d9.res1 (fn:=Tryz.f168) rfl (.i rfl (GN (of_decide_eq_true h3)).symm<|.nil)
  ·intro h3
   refine m8 ?_; exact d9.res1 (fn:=Tryz.f168) rfl (.i rfl (GM (by have:=of_decide_eq_false h3; omega)).symm<|.nil)

theorem DS (z:Int):Ct Tryz.prog 163 [b7 eW (wh z)] (b7 eW (wh (-z))):=by
 refine Ct.mk Tryz.func163 rfl Tryz.ntmps163 rfl (fun w J=>?_); refine g9 ?_; refine jb 1 rfl ?_; refine ja 2 ?_; refine fF ?_; exact d9.resC1 (fn:=Tryz.f163) rfl rfl (t7 rfl ah6)

theorem P2 (n:Int) (hn:-9223372036854775808<=n/\n<=9223372036854775807):Ct Tryz.prog 159 [kI n] (b7 eW (wh n)):=by
 refine Ct.mk Tryz.func159 rfl Tryz.ntmps159 rfl (fun w J=>?_); refine g9 ?_; refine ja 2 ?_; refine l8 ?_; refine tO (M3 eI (fun hp=>.cons rfl<|.nil) rfl rfl rfl rfl) rfl rfl ?_; refine jc (UA [n] (fun i hi=>by (simp at hi; subst hi; exact hn)) (by simp)) ?_; refine g8 ?_; exact d9.resC1 (fn:=Tryz.f159) rfl rfl (t7 rfl (by rw[I4]; rfl))

theorem cL (m n:Nat) (hm:(d7 m).length<=10000000) (_:(d7 n).length<=10000000):Ct Tryz.prog 191 [b7 (eL eI) (d7 m),b7 (eL eI) (d7 n)] (kI (r7 m n)):=by
 refine Ct.mk Tryz.func191 rfl Tryz.ntmps191 rfl (fun w J=>?_); refine L4 ?_; refine jq ?_ ?_
 ·intro h1
  refine l6 ?_; refine tO (i6 (fun hp=>aU _ _) (.a rfl uu<|.a rfl uu<|.nil)) rfl rfl ?_; refine l8 ?_; exact d9.res1 (fn:=Tryz.f191) rfl (.i rfl (oK zo)<|.nil)
 ·intro h1
  replace h1:=Classical.not_not.1 h1
  refine y7 ?_
  refine Tr.for1 (σ:=Nat) [⟨0,true,_,_⟩,⟨1,true,_,_⟩] [] (fun i=>[⟨5,true,[],kI ((i:Int)-1)⟩]) (fun i=>[]) (fun i=>i<=(d7 m).length/\∀j,i<=j->j<(d7 m).length->b6 (d7 m) j=b6 (d7 n) j) (fun i=>i=0/\∀j,i<=j->j<(d7 m).length->b6 (d7 m) j=b6 (d7 n) j) (fun i=>i) ((d7 m).length) ⟨by omega,fun j h1 h2=>absurd h1 zo⟩ (d6.mk (.i rfl zi<|zk) (.nil) rfl) ?_ ?_
  ·rintro i ⟨hi,hR⟩
   refine jn ?_
   have e1:((i:Int)-1).toNat=i-1:=by omega
   refine j6 ?_; refine jq ?_ ?_
   ·intro h4
    refine l8 ?_; refine Tr.draw 8 n8 (by kernel_rfl) ?_; refine u9 ?_; refine jq ?_ ?_
    ·intro h6
     refine i4 ?_; refine Tr.draw 8 n8 (by kernel_rfl) ?_; refine m8 ?_; refine tO (i6 (fun hp=>aU _ _) (.a rfl uu<|.a rfl uu<|.nil)) rfl rfl ?_; refine u5 ?_; exact d9.res1 (fn:=Tryz.f191) rfl (.i rfl (by rw[e1]; exact oI zo zo (fun j h1 h2=>hR j zo h2) (by rw[<- e1]; exact h6))<|.nil)
    ·intro h6
     replace h6:=Classical.not_not.1 h6
     refine j3 ?_
     exact g6.lp (i-1) ⟨by omega,fun j h1 h2=>by (by_cases e:j=i-1; subst e; rw[<- e1]; exact h6; exact hR j zo h2)⟩ zo (d6.mk (.i rfl zi<|zk) (.nil) rfl)
   ·intro h4
    replace h4:=Int.not_le.1 h4
    refine g8 ?_
    exact g6.cut (i) ⟨by omega,hR⟩ (d6.mk (.i rfl zi<|zk) (.nil) rfl)
  ·rintro i ⟨hi,hR⟩
   refine je ?_; refine j6 ?_; exact d9.res1 (fn:=Tryz.f191) rfl (.i rfl (by subst hi; exact oH zo hR)<|.nil)

theorem cJ (a:List Int) (n:Int) (ha:Dg a) (hl:a.length<=10000000) (hn:0<n/\n<=100000000):Ct Tryz.prog 218 [b7 (eL eI) a,kI n] (z9 [b7 (eL eI) (d7 (val a/n).toNat),kI (val a%n)]):=by
 refine Ct.mk Tryz.func218 rfl Tryz.ntmps218 rfl (fun w J=>?_); refine u5 ?_; refine b8.new (BX eI 11 rfl uu rfl uu rfl rfl rfl (fun _=>zo)) rfl rfl rfl rfl ?_; refine D2 ?_
 refine Tr.for1 (σ:=Nat×List Int×Int) [⟨0,true,_,_⟩,⟨1,true,_,_⟩,⟨6,true,_,_⟩] [] (fun (i,o,r)=>[⟨7,true,[],kI r⟩,⟨8,true,[],kI ((i:Int)-1)⟩]) (fun (i,o,r)=>[⟨11,[],l3 false 3 eI o a.length⟩]) (fun (i,o,r)=>i<=a.length/\M5 a o n i r) (fun (i,o,r)=>i=0/\M5 a o n 0 r) (fun (i,o,r)=>i) ((a.length,List.replicate a.length 0,0)) ⟨Nat.le_refl _,M5.start hn.1⟩ (d6.mk (.i rfl zi<|.i rfl zi<|zk) (.a zi zi<|.nil) rfl) ?_ ?_
 ·rintro ⟨i,o,r⟩ ⟨hi,hs⟩
  refine jn ?_
  have e1:((i:Int)-1).toNat=i-1:=by omega
  have hr0:=hs.r0
  have hq:=fun (h:0<i)=>M5.q (i:=i-1) ha (by rw[show i-1+1=i by omega]; exact hs) zo
  have ha1:=fun (h:0<i)=>ha.at (i:=i-1) zo
  refine j6 ?_; refine jq ?_ ?_
  ·intro h3
   refine l6 ?_
   have ha2:=ha1 zo
   rw[<- e1] at ha2
   refine u5 ?_; refine Tr.drawS 9 11 n8 (by kernel_rfl) ?_
   obtain ⟨q1,q2,q3,q4⟩:=hq zo
   rw[<- e1] at q1 q2
   rw[<- Int.tdiv_eq_ediv_of_nonneg zo] at q1 q2
   refine o6.opA (H7 rfl uu) (by kernel_rfl) rfl rfl ?_; refine o6.opA (H7 rfl uu) (by kernel_rfl) rfl rfl ?_; refine o6.opA (H7 rfl uu) (by kernel_rfl) rfl rfl ?_; refine o6.opA (H7 rfl uu) (by kernel_rfl) rfl rfl ?_; refine o6.opA (BY rfl uu rfl uu (fun _=>zo)) (by kernel_rfl) rfl rfl ?_; refine o6.op (H7 rfl uu) rfl rfl ?_; refine o6.op (H7 rfl uu) rfl rfl ?_; refine o6.op (EH rfl uu rfl uu (fun _=>zo)) rfl rfl ?_
   first | refine o6.opA (JP rfl uu rfl uu (fun _=>zo)) (by kernel_rfl) rfl rfl ?_ | refine o6.opA (HG rfl uu rfl uu (fun _=>zo)) (by kernel_rfl) rfl rfl ?_
   refine o6.z (ae1 rfl rfl rfl rfl rfl) rfl rfl rfl ?_; refine m8 ?_
   exact g6.lp ((i-1,o.set (i-1) ((r*100000000+b6 a (i-1))/n),(r*100000000+b6 a (i-1))%n)) ⟨by omega,M5.next ha (by rw[show i-1+1=i by omega]; exact hs) zo⟩ (by show i-1<i; omega) (d6.mk (.i rfl (by rw[e1,Int.tmod_eq_emod_of_nonneg zo])<|.i rfl zi<|zk) (.a (by rw[e1,Int.tdiv_eq_ediv_of_nonneg zo]) zi<|.nil) rfl)
  ·intro h3
   replace h3:=Int.not_le.1 h3
   refine g8 ?_
   exact g6.cut ((i,o,r)) (by obtain rfl:i=0:=zo; exact ⟨rfl,hs⟩) (d6.mk (.i rfl zi<|.i rfl zi<|zk) (.a zi zi<|.nil) rfl)
 ·rintro ⟨i,o,r⟩ ⟨rfl,hs⟩
  refine je ?_; refine g8 ?_; refine b8.frz 11 [6,35] ⟨rfl,rfl,trivial⟩ (by simp only[p6]; omega) rfl ?_; refine jl ?_; refine tO (i6 (fun hp=>IQ _) (.a rfl uu<|.nil)) rfl rfl ?_; refine l6 ?_; exact d9.res (fn:=Tryz.f218) (ts:=[4,5]) rfl rfl (.r rfl hs.fin.1<|.i rfl hs.fin.2<|.nil)

end Go.Fl

/- Integers: differences in place, sums and products, as the contracts want them. Plain Lean, no program in sight. -/
namespace Go.Fl
def T1 (a b:List Int) (k:Nat):Int:=b6 a k-sb a b k-B2 b k
section
variable {a b:List Int} {k:Nat}
theorem jZ:sb a b (k+1)=if T1 a b k<0 then 1 else 0:=rfl
theorem aa8 (hk:k<a.length) (hb:k<b.length):((D3 a b k).set k (b6 (D3 a b k) k-sb a b k)).set k (b6 ((D3 a b k).set k (b6 (D3 a b k) k-sb a b k)) k-b6 b k)=(D3 a b k).set k (T1 a b k):=by
 rw[List.set_set,N1 (by rw[HL]; exact hk),if_pos rfl,RY hk]
 unfold T1
 rw[T6 hb]
theorem aa9 (hk:k<a.length) (hb:¬k<b.length):(D3 a b k).set k (b6 (D3 a b k) k-sb a b k)=(D3 a b k).set k (T1 a b k):=by
 rw[RY hk]
 unfold T1
 rw[HS hb,Int.sub_zero]
theorem ab0 (hk:k<a.length):b6 ((D3 a b k).set k (b6 (D3 a b k) k-sb a b k)) k=b6 a k-sb a b k:=by rw[N1 (by rw[HL]; exact hk),if_pos rfl,RY hk]
theorem XV (hk:k<a.length):b6 ((D3 a b k).set k (T1 a b k)) k=T1 a b k:=by rw[N1 (by rw[HL]; exact hk),if_pos rfl]
theorem kA (hk:k<a.length) (h:b6 ((D3 a b k).set k (T1 a b k)) k<0):((D3 a b k).set k (T1 a b k)).set k (b6 ((D3 a b k).set k (T1 a b k)) k+100000000)=D3 a b (k+1)/\(1:Int)=sb a b (k+1):=by
 rw[XV hk] at h ⊢
 refine ⟨?_,by rw[jZ,if_pos h]⟩
 rw[List.set_set,<- jX]
 congr 1
 unfold T1 at h ⊢; unfold CG; rw[if_pos h]
theorem jY (hk:k<a.length) (h:0<=b6 ((D3 a b k).set k (T1 a b k)) k):(D3 a b k).set k (T1 a b k)=D3 a b (k+1)/\(0:Int)=sb a b (k+1):=by
 rw[XV hk] at h
 refine ⟨?_,by rw[jZ,if_neg zo]⟩
 rw[<- jX]
 congr 1
 unfold CG; rw[if_neg (by unfold T1 at h; omega)]; rfl
end
theorem HP:∀{xs:List Int},xs.take (j7 xs).length=j7 xs
 | []=>rfl
 | x::xs=>by
  rw[j7]
  split
  ·rfl
  ·rw[List.length_cons,List.take_succ_cons,HP]
theorem M6 {m n:Nat} (h:n<=m):(d7 n).length<=(d7 m).length:=by
 have h1:=IT (m:Int)
 exact O3 (z:=(n:Int)) (k:=(d7 m).length) (by rw[Int.natAbs_natCast]; rw[Int.natAbs_natCast] at h1; exact Int.lt_of_le_of_lt zo h1)
theorem kT {m n:Nat} (h:n<=m):List.take (j7 (D3 (d7 m) (d7 n) (d7 m).length)).length (D3 (d7 m) (d7 n) (d7 m).length)=d7 (m-n):=by
 have hm:=y4 m; have hn:=y4 n
 have hle:=M6 h
 rw[HP,ae9 (x9 m) (x9 n) hle zo]
 congr 1; omega
structure AY (a b:Int) (X Y:List Int):Prop where
 nx:Nm X
 ny:Nm Y
 le:Y.length<=X.length
 hi:X.length<=10000000
 v:val X+val Y=a.natAbs+b.natAbs
section
variable {a b:Int} {X Y:List Int}
theorem AY.l (h:(d7 b.natAbs).length<=(d7 a.natAbs).length) (hi:dl a<=10000000):AY a b (d7 a.natAbs) (d7 b.natAbs):=⟨O2 _,O2 _,h,hi,by rw[y4,y4]⟩
theorem AY.r (h:(d7 a.natAbs).length<(d7 b.natAbs).length) (hi:dl b<=10000000):AY a b (d7 b.natAbs) (d7 a.natAbs):=⟨O2 _,O2 _,by omega,hi,by rw[y4,y4,Int.add_comm]⟩
theorem mO (hs:decide (a<0)=decide (b<0)) {ds:List Int} (hd:ds=d7 (a.natAbs+b.natAbs)):(decide (a<0),ds)=wh (a+b):=by
 have e:(a<0)=(b<0):=by simpa using hs
 refine FZ ?_ ?_
 ·by_cases h:a<0
  ·have:b<0:=e▸h
   simp[h]; omega
  ·have:¬b<0:=e▸h
   simp[h]; omega
 ·rw[hd]
  congr 1
  by_cases h:a<0
  ·have:b<0:=e▸h
   omega
  ·have:¬b<0:=e▸h
   omega
theorem AY.zero (h:AY a b X Y) (hs:decide (a<0)=decide (b<0)) (hc:(F7 X Y X.length).2<=0):(decide (a<0),(F7 X Y X.length).1)=wh (a+b):=by
 have h1:=KU h.nx.dg h.ny.dg (Nat.le_refl X.length)
 refine mO hs ?_
 rw[add_zero h.nx h.ny h.le zo,h.v]; congr 1
theorem AY.one (h:AY a b X Y) (hs:decide (a<0)=decide (b<0)) (hc:0<(F7 X Y X.length).2):(decide (a<0),(F7 X Y X.length).1++[(F7 X Y X.length).2])=wh (a+b):=by
 have h1:=KU h.nx.dg h.ny.dg (Nat.le_refl X.length)
 have h2:(F7 X Y X.length).2=1:=by omega
 refine mO hs ?_
 rw[h2,mZ h.nx h.ny h.le h2,h.v]; congr 1
theorem ah9 (hs:decide (a<0)≠decide (b<0)) (h:r7 (a.natAbs:Nat) (b.natAbs:Nat)=0):(false,[])=wh (a+b):=by
 have e:a.natAbs=b.natAbs:=by unfold r7 at h; split at h<;>(try split at h)<;>omega
 have:a+b=0:=by
  by_cases h1:a<0<;>by_cases h2:b<0
  ·exact absurd (by simp[h1,h2]) hs
  ·omega
  ·omega
  ·exact absurd (by simp[h1,h2]) hs
 rw[this]; rfl
theorem oG {m n:Int} (h:r7 m n=1):n<m:=by unfold r7 at h; split at h<;>(try split at h)<;>omega
theorem oL {m n:Int} (h0:r7 m n≠0) (h:r7 m n≠1):m<n:=by unfold r7 at h h0; split at h<;>(try split at h)<;>omega
theorem mL (hs:decide (a<0)≠decide (b<0)) (h:b.natAbs<a.natAbs) {ds:List Int} (hd:ds=d7 (a.natAbs-b.natAbs)):(decide (a<0),ds)=wh (a+b):=by
 have h3:(a<0/\¬b<0)\/(¬a<0/\b<0):=by
  by_cases h1:a<0<;>by_cases h2:b<0
  ·exact absurd (by simp[h1,h2]) hs
  ·exact .inl ⟨h1,h2⟩
  ·exact .inr ⟨h1,h2⟩
  ·exact absurd (by simp[h1,h2]) hs
 refine FZ ?_ (by rw[hd]; congr 1; omega)
 by_cases h1:a<0
 ·simp[h1]; omega
 ·simp[h1]; omega
theorem ai0 (hs:decide (a<0)≠decide (b<0)) (h:a.natAbs<b.natAbs) {ds:List Int} (hd:ds=d7 (b.natAbs-a.natAbs)):(decide (b<0),ds)=wh (a+b):=by
 rw[Int.add_comm]; exact mL (fun e=>hs e.symm) h hd
end
theorem ah7 {a b:Int} (ha:a≠0) (hb:b≠0) {o:List Int} (h:U0 (d7 a.natAbs) (d7 b.natAbs) o (d7 a.natAbs).length):(decide (decide (a<0)≠decide (b<0)),j7 o)=wh (a*b):=by
 have e:=h.fin (x9 _) (x9 _)
 rw[y4,y4] at e
 refine FZ ?_ (by rw[e]; congr 1; rw[Int.natAbs_mul]; omega)
 by_cases h1:a<0<;>by_cases h2:b<0
 ·have:=Int.mul_pos_of_neg_of_neg h1 h2; simp[h1,h2]; omega
 ·have:=Int.mul_neg_of_neg_of_pos h1 (show 0<b by omega); simp[h1,h2]; omega
 ·have:=Int.mul_neg_of_pos_of_neg (show 0<a by omega) h2; simp[h1,h2]; omega
 ·have:=Int.mul_pos (show 0<a by omega) (show 0<b by omega); simp[h1,h2]; omega
theorem ah8 {a b:Int} (h:a=0\/b=0):(false,[])=wh (a*b):=by
 rcases h with rfl | rfl
 ·rw[Int.zero_mul]; rfl
 ·rw[Int.mul_zero]; rfl
theorem WF {a b:Int} {o:List Int} (h:U0 (d7 a.natAbs) (d7 b.natAbs) o (d7 a.natAbs).length):j7 o=d7 (a*b).natAbs:=by
 have e:=h.fin (x9 _) (x9 _)
 rw[y4,y4] at e
 rw[e]; congr 1; rw[Int.natAbs_mul]; omega
end Go.Fl

/- Contracts: integers of the package field (differences in place, sums, products). -/
namespace Go.Fl
open Go Go.Proofs
open b8 renaming op->tO
open j1 renaming op->rO
set_option maxRecDepth 100000

theorem bC (a b:List Int) (ha:Dg a) (hb:Dg b) (_:b.length<=a.length) (h0:0<a.length) (hn:a.length<=10000000):KL Tryz.prog 192 (a.length) [b7 (eL eI) b] (l3 false 3 eI a a.length) (l3 false 3 eI (D3 a b a.length) a.length) (C8 0 1 0 (j7 (D3 a b a.length)).length):=by
 refine KL.mk Tryz.func192 rfl Tryz.ntmps192 rfl (fun w J bb cap=>?_); refine D2 ?_; refine tO (JR rfl uu) rfl rfl ?_; refine tO (S8 rfl uu) rfl rfl ?_; refine i7 ?_
 refine Tr.for1 (σ:=Nat) [⟨0,true,_,_⟩,⟨1,true,_,_⟩,⟨8,true,_,_⟩] [] (fun k=>[⟨9,true,[],kI (k:Int)⟩,⟨5,true,[],kI (sb a b k)⟩]) (fun k=>[⟨0,[],l3 false 3 eI (D3 a b k) a.length⟩]) (fun k=>k<=a.length) (fun k=>k=a.length) (fun k=>a.length-k) (0) (Nat.zero_le _) (d6.mk (.i rfl zi<|.i rfl zi<|zk) (.a aa7 zi<|.nil) rfl) ?_ ?_
 ·intro k hR0
  refine jn ?_
  have hbx:=hb.x k
  have h01:=XU (a:=a) (b:=b) (k:=k)
  have hcl:=HL (a:=a) (b:=b) (k:=k)
  have had:=fun (h:k<a.length)=>ha.at (i:=k) h
  have hat:=fun (h:k<a.length)=>RY (a:=a) (b:=b) h
  have hw:=fun (h:k<a.length)=>ab0 (b:=b) h
  have hv:=fun (h:k<a.length)=>XV (b:=b) h
  have hbi:=fun (h:k<b.length)=>T6 h
  have hU:T1 a b k=b6 a k-sb a b k-B2 b k:=rfl
  refine l6 ?_; refine jq ?_ ?_
  ·intro h3
   refine u9 ?_; refine tO (JR rfl uu) rfl rfl ?_; refine m8 ?_; refine Tr.meet2 (σ:=Unit) [⟨0,true,_,_⟩,⟨1,true,_,_⟩,⟨6,true,_,_⟩,⟨8,true,_,_⟩,⟨9,true,_,_⟩] [] (zk) (.nil) (fun _=>[]) (fun _=>[⟨0,[],l3 false 3 eI ((D3 a b k).set k (T1 a b k)) a.length⟩]) (fun _=>True) ?_ ?_
   ·skip
    refine j3 ?_; refine jq ?_ ?_
    ·intro h6
     refine Tr.draw 8 n8 (by kernel_rfl) ?_; refine rO (JR rfl uu) rfl rfl ?_; refine u9 ?_
     exact g6.cut (()) zi (d6.mk (zk) (.a (aa8 zo zo) zi<|.nil) rfl)
    ·intro h6
     replace h6:=Int.not_lt.1 h6
     refine i4 ?_
     exact g6.cut (()) zi (d6.mk (zk) (.a (aa9 zo zo) zi<|.nil) rfl)
   ·intro _ hM
    refine jn ?_; refine j6 ?_; refine tO (JR rfl uu) rfl rfl ?_; refine l6 ?_; refine jq ?_ ?_
    ·intro h9
     refine g9 ?_; refine tO (JR rfl uu) rfl rfl ?_; refine P5 ?_
     exact g6.lp (k+1) zi zo (d6.mk (.i rfl zi<|.i rfl (kA zo h9).2<|zk) (.a (kA zo h9).1 zi<|.nil) rfl)
    ·intro h9
     replace h9:=Int.not_lt.1 h9
     refine j6 ?_
     exact g6.lp (k+1) zi zo (d6.mk (.i rfl zi<|.i rfl (jY zo h9).2<|zk) (.a (jY zo h9).1 zi<|.nil) rfl)
  ·intro h3
   replace h3:=Int.not_lt.1 h3
   refine g8 ?_
   exact g6.cut (k) zo (d6.mk (.i rfl zi<|.i rfl zi<|zk) (.a zi zi<|.nil) rfl)
 ·rintro _ rfl
  refine je ?_; refine i7 ?_; refine tO (JR rfl uu) rfl rfl ?_; refine tO (WY (n:=1) (fun ad cap=>OY (D3 a b a.length) ad cap) rfl uu (fun _=>⟨by omega,by simp only[p6]; omega,by have:=R8 (xs:=D3 a b a.length); rw[HL] at this; exact this⟩)) rfl rfl ?_; refine g8 ?_; exact d9.mutR (s:=0) (fn:=Tryz.f192) rfl rfl rfl (fun _ _ h=>h) (fun _ _ hm h=>iG hm h)

set_option maxHeartbeats 1000000 in
theorem V9 (a b:Int) (ha:dl a<=1000000) (hb:dl b<=1000000):Ct Tryz.prog 162 [b7 eW (wh a),b7 eW (wh b)] (b7 eW (wh (a+b))):=by
 have hal:(d7 a.natAbs).length=dl a:=rfl
 have hbl:(d7 b.natAbs).length=dl b:=rfl
 refine Ct.mk Tryz.func162 rfl Tryz.ntmps162 rfl (fun w J=>?_); refine g9 ?_; refine jb 2 rfl ?_; refine jb 3 rfl ?_; refine ja 4 ?_; refine m8 ?_; refine tO (xK rfl uu rfl uu) rfl rfl ?_; refine g9 ?_; refine Tr.cnd rfl ?_ ?_
 ·intro h1
  have hs:=of_decide_eq_true h1
  refine i4 ?_; refine Tr.draw 5 n8 (by kernel_rfl) ?_; refine m8 ?_; refine Tr.meet2 (σ:=List Int×List Int) [⟨2,true,_,_⟩,⟨4,true,_,_⟩] [⟨2,_,_⟩,⟨4,_,_⟩] (zk) (zk) (fun (X,Y)=>[⟨5,true,[],b7 (eL eI) X⟩,⟨6,true,[],b7 (eL eI) Y⟩]) (fun (X,Y)=>[]) (fun (X,Y)=>AY a b X Y) ?_ ?_
  ·skip
   refine m8 ?_; refine jq ?_ ?_
   ·intro h3
    refine l6 ?_; exact g6.cut (((d7 b.natAbs),(d7 a.natAbs))) (AY.r zo zo) (d6.mk (.r rfl rfl<|.r rfl rfl<|zk) (zk) rfl)
   ·intro h3
    replace h3:=Int.not_lt.1 h3
    refine i4 ?_; exact g6.cut (((d7 a.natAbs),(d7 b.natAbs))) (AY.l zo zo) (d6.mk (.r rfl rfl<|.r rfl rfl<|zk) (zk) rfl)
  ·rintro ⟨X,Y⟩ hA
   refine jn ?_
   have hXl:=hA.hi
   have hYl:=hA.le
   refine l8 ?_; refine b8.new (xS eI 30 rfl uu rfl uu rfl (fun _=>zo)) rfl rfl rfl rfl ?_; refine S6 ?_
   refine Tr.for1 (σ:=Nat) [⟨2,true,_,_⟩,⟨4,true,_,_⟩,⟨6,true,_,_⟩,⟨31,true,_,_⟩,⟨32,true,_,_⟩] [⟨2,_,_⟩,⟨4,_,_⟩] (fun k=>[⟨33,true,[],kI (k:Int)⟩,⟨7,true,[30],o5 30 k⟩,⟨8,true,[],kI (F7 X Y k).2⟩]) (fun k=>[⟨30,[],l3 false 3 eI (F7 X Y k).1 k⟩]) (fun k=>k<=X.length) (fun k=>k=X.length) (fun k=>X.length-k) (0) (Nat.zero_le _) (d6.mk (.i rfl zi<|.o rfl zi rfl<|.i rfl zi<|zk) (.a zi zi<|zk) rfl) ?_ ?_
   ·intro k hR0
    refine jn ?_
    have hXd:=fun (h:k<X.length)=>hA.nx.dg.at (i:=k) h
    have hYx:=hA.ny.dg.x k
    have hcc:=fun (h:k<=X.length)=>KU hA.nx.dg hA.ny.dg (i:=k) h
    have hYi:=fun (h:k<Y.length)=>T6 h
    have hYo:=fun (h:¬k<Y.length)=>HS h
    refine l6 ?_; refine jq ?_ ?_
    ·intro h8
     refine VO ?_; refine Tr.meet2 (σ:=Unit) [⟨2,true,_,_⟩,⟨4,true,_,_⟩,⟨6,true,_,_⟩,⟨7,true,_,_⟩,⟨31,true,_,_⟩,⟨32,true,_,_⟩,⟨33,true,_,_⟩] [⟨2,_,_⟩,⟨4,_,_⟩,⟨30,_,_⟩] (zk) (zk) (fun _=>[⟨10,true,[],kI (b6 X k+(F7 X Y k).2+B2 Y k)⟩]) (fun _=>[]) (fun _=>True) ?_ ?_
     ·skip
      refine j3 ?_; refine jq ?_ ?_
      ·intro h11
       refine m8 ?_
       exact g6.cut (()) zi (d6.mk (.i rfl (by rw[T6 zo])<|zk) (zk) rfl)
      ·intro h11
       replace h11:=Int.not_lt.1 h11
       refine i4 ?_
       exact g6.cut (()) zi (d6.mk (.i rfl (by rw[HS zo,Int.add_zero])<|zk) (zk) rfl)
     ·intro _ hM
      refine jn ?_; refine g9 ?_
      obtain ⟨hq1,hq2,hq3⟩:=NB (b6 X k+(F7 X Y k).2+B2 Y k)
      refine i4 ?_; refine tO (BY rfl uu rfl uu (fun _=>zo)) rfl rfl ?_; refine l6 ?_; refine tO (EH rfl uu rfl uu (fun _=>zo)) rfl rfl ?_; refine b8.new (w4 eI 56 (fun hp=>.cons rfl<|.nil) rfl rfl rfl rfl) rfl rfl rfl rfl ?_; refine i4 ?_; refine jl ?_; refine j3 ?_
      exact g6.lp (k+1) zi zo (d6.mk (.i rfl zi<|.o rfl zi rfl<|.i rfl (by rw[Int.tdiv_eq_ediv_of_nonneg zo]; rfl)<|zk) (.a (by rw[Int.tmod_eq_emod_of_nonneg zo]; rfl) zi<|zk) rfl)
    ·intro h8
     replace h8:=Int.not_lt.1 h8
     refine g8 ?_
     exact g6.cut (k) zo (d6.mk (.i rfl zi<|.o rfl zi rfl<|.i rfl zi<|zk) (.a zi zi<|zk) rfl)
   ·rintro _ rfl
    refine je ?_
    have hcc:=KU hA.nx.dg hA.ny.dg (Nat.le_refl X.length)
    refine j3 ?_; refine jq ?_ ?_
    ·intro h16
     refine i7 ?_; refine b8.new (w4 eI 63 (fun hp=>.cons rfl<|.nil) rfl rfl rfl rfl) rfl rfl rfl rfl ?_; refine i4 ?_; refine jl ?_; refine j3 ?_; refine tO (A1 (fun hp=>.cons rfl rfl rfl<|.cons rfl rfl rfl<|.nil)) rfl rfl ?_; refine i7 ?_
     refine Tr.frzC 30 4 (by simp only[p6]; first | omega | (rw[List.length_singleton]; omega)) rfl rfl ?_
     refine g9 ?_; exact d9.resC1 (fn:=Tryz.f162) rfl rfl (t7 rfl (hA.one hs h16))
    ·intro h16
     replace h16:=Int.not_lt.1 h16
     refine j6 ?_; refine tO (A1 (fun hp=>.cons rfl rfl rfl<|.cons rfl rfl rfl<|.nil)) rfl rfl ?_; refine i7 ?_
     refine Tr.frzC 30 4 (by simp only[p6]; first | omega | (rw[List.length_singleton]; omega)) rfl rfl ?_
     refine g9 ?_; exact d9.resC1 (fn:=Tryz.f162) rfl rfl (t7 rfl (hA.zero hs zo))
 ·intro h1
  have hs:=of_decide_eq_false h1
  refine m8 ?_; refine jc (cL a.natAbs b.natAbs zo zo) ?_; refine m8 ?_; refine Tr.cnd rfl ?_ ?_
  ·intro h20
   try simp only[decide_eq_true_eq] at h20
   have hc0:r7 (a.natAbs:Nat) (b.natAbs:Nat)=0:=by omega
   refine g9 ?_; refine tO (A1 (fun hp=>.nil)) rfl rfl ?_; refine l6 ?_; exact d9.resC1 (fn:=Tryz.f162) rfl rfl (t7 rfl (ah9 hs hc0))
  ·intro h20
   try simp only[decide_eq_false_iff_not] at h20
   refine l6 ?_; refine Tr.cnd rfl ?_ ?_
   ·intro h22
    try simp only[decide_eq_true_eq] at h22
    have hlt:=oG h22
    have hp1:=CX (z:=a)
    have hlz:a≠0:=by omega
    have hp2:=hp1.2 hlz
    refine i4 ?_; refine Tr.ent (S':=[⟨0,true,_,_⟩,⟨1,true,_,_⟩,⟨2,true,_,_⟩,⟨3,true,_,_⟩,⟨4,true,_,_⟩,⟨11,true,_,_⟩,⟨12,true,_,_⟩,⟨13,true,_,_⟩,⟨14,true,_,_⟩,⟨15,true,_,_⟩,⟨69,true,_,_⟩,⟨70,true,_,_⟩,⟨71,true,_,_⟩,⟨72,true,_,_⟩,⟨73,true,_,_⟩,⟨75,true,_,_⟩,⟨74,true,_,_⟩,⟨78,true,_,_⟩,⟨77,true,_,_⟩]) (M':=[⟨2,_,_⟩,⟨3,_,_⟩,⟨4,_,_⟩]) (d6.mk (zk) (zk) rfl) ?_; refine Tr.drawQ [⟨2,_,_⟩,⟨3,_,_⟩] [⟨4,_,_⟩] rfl n8 #[false,false,false,false,false,false,false,false,false,false] rfl fun f=>?_
    simp only[A2,List.map_cons,List.map_nil,List.cons_append,List.nil_append]
    refine f0.take 0 #[true,false,false,false,false,false,false,false,false,false] (by kernel_rfl) (by kernel_rfl) (by kernel_rfl) rfl rfl (CL rfl) rfl rfl ?_; refine f0.take 1 #[true,true,false,false,false,false,false,false,false,false] (by kernel_rfl) (by kernel_rfl) (by kernel_rfl) rfl rfl (EN rfl rfl) rfl rfl ?_; refine f0.take 2 #[true,true,true,false,false,false,false,false,false,false] (by kernel_rfl) (by kernel_rfl) (by kernel_rfl) rfl rfl (CL rfl) rfl rfl ?_; refine f0.take 3 #[true,true,true,true,false,false,false,false,false,false] (by kernel_rfl) (by kernel_rfl) (by kernel_rfl) rfl rfl (EN rfl rfl) rfl rfl ?_
    refine f0.take 5 #[true,true,true,true,false,true,false,false,false,false] (by kernel_rfl) (by kernel_rfl) (by kernel_rfl) rfl rfl (CL rfl) rfl rfl ?_; refine f0.take 6 #[true,true,true,true,false,true,true,false,false,false] (by kernel_rfl) (by kernel_rfl) (by kernel_rfl) rfl rfl (EN rfl rfl) rfl rfl ?_; refine f0.one 4 (by kernel_rfl) rfl ?_; refine b8.new (ED 83 (fun hp=>ON _ zo zo) (.a rfl uu<|.nil)) rfl rfl rfl rfl ?_; refine f0.k #[true,true,true,true,true,true,true,false,false,false] rfl (D9 (by intro e he; simp only[A2,List.map_cons,List.map_nil,List.mem_cons,List.not_mem_nil,or_false] at he; rcases he with rfl | rfl<;>simp)) ?_
    refine f0.one 7 (by kernel_rfl) rfl ?_; refine b8.mutR (bC _ _ (x9 _) (x9 _) (M6 zo) zo zo) rfl zo (.a rfl uu<|.nil) rfl (fun _ _ _ _ h=>h) (fun h=>h) rfl ?_; refine jl ?_; refine b8.frzQ 83 [86] ⟨rfl,trivial⟩ (⟨by have:=R8 (xs:=D3 (d7 a.natAbs) (d7 b.natAbs) (d7 a.natAbs).length); rw[HL] at this; exact this,by simp only[p6]; omega⟩) rfl ?_; refine jl ?_; refine f0.k #[true,true,true,true,true,true,true,true,false,false] rfl (D9 (by intro e he; simp only[A2,List.map_cons,List.map_nil,List.mem_cons,List.not_mem_nil,or_false] at he; rcases he with rfl | rfl<;>simp)) ?_
    refine f0.one 8 (by kernel_rfl) rfl ?_; refine tO (A1 (fun hp=>.cons rfl rfl rfl<|.cons rfl rfl rfl<|.nil)) rfl rfl ?_; refine f0.k #[true,true,true,true,true,true,true,true,true,false] rfl (D9 (by intro e he; simp only[A2,List.map_cons,List.map_nil,List.mem_cons,List.not_mem_nil,or_false] at he; rcases he with rfl | rfl<;>simp)) ?_; refine f0.one 9 (by kernel_rfl) rfl ?_; refine b8.stB rfl rfl rfl rfl ?_; refine f0.k #[true,true,true,true,true,true,true,true,true,true] rfl (D9 (by intro e he; simp only[A2,List.map_cons,List.map_nil,List.mem_cons,List.not_mem_nil,or_false] at he; rcases he with rfl | rfl<;>simp)) ?_
    refine f0.done (by kernel_rfl) ?_; refine g6.nxt (Tr.ret (d9.out (d9.thn ?_))); exact d9.resC1 (fn:=Tryz.f162) rfl rfl (t7 rfl (mL hs zo (kT zo)))
   ·intro h22
    try simp only[decide_eq_false_iff_not] at h22
    have hlt:=oL h20 h22
    have hp1:=CX (z:=b)
    have hlz:b≠0:=by omega
    have hp2:=hp1.2 hlz
    refine g8 ?_; refine Tr.ent (S':=[⟨0,true,_,_⟩,⟨1,true,_,_⟩,⟨2,true,_,_⟩,⟨3,true,_,_⟩,⟨4,true,_,_⟩,⟨11,true,_,_⟩,⟨12,true,_,_⟩,⟨13,true,_,_⟩,⟨14,true,_,_⟩,⟨15,true,_,_⟩,⟨69,true,_,_⟩,⟨70,true,_,_⟩,⟨71,true,_,_⟩,⟨72,true,_,_⟩,⟨73,true,_,_⟩,⟨75,true,_,_⟩,⟨74,true,_,_⟩,⟨78,true,_,_⟩,⟨77,true,_,_⟩]) (M':=[⟨2,_,_⟩,⟨3,_,_⟩,⟨4,_,_⟩]) (d6.mk (zk) (zk) rfl) ?_; refine Tr.drawQ [⟨2,_,_⟩,⟨3,_,_⟩] [⟨4,_,_⟩] rfl n8 #[false,false,false,false,false,false,false,false,false,false] rfl fun f=>?_
    simp only[A2,List.map_cons,List.map_nil,List.cons_append,List.nil_append]
    refine f0.take 0 #[true,false,false,false,false,false,false,false,false,false] (by kernel_rfl) (by kernel_rfl) (by kernel_rfl) rfl rfl (CL rfl) rfl rfl ?_; refine f0.take 1 #[true,true,false,false,false,false,false,false,false,false] (by kernel_rfl) (by kernel_rfl) (by kernel_rfl) rfl rfl (EN rfl rfl) rfl rfl ?_; refine f0.take 2 #[true,true,true,false,false,false,false,false,false,false] (by kernel_rfl) (by kernel_rfl) (by kernel_rfl) rfl rfl (CL rfl) rfl rfl ?_; refine f0.take 3 #[true,true,true,true,false,false,false,false,false,false] (by kernel_rfl) (by kernel_rfl) (by kernel_rfl) rfl rfl (EN rfl rfl) rfl rfl ?_
    refine f0.take 5 #[true,true,true,true,false,true,false,false,false,false] (by kernel_rfl) (by kernel_rfl) (by kernel_rfl) rfl rfl (CL rfl) rfl rfl ?_; refine f0.take 6 #[true,true,true,true,false,true,true,false,false,false] (by kernel_rfl) (by kernel_rfl) (by kernel_rfl) rfl rfl (EN rfl rfl) rfl rfl ?_; refine f0.one 4 (by kernel_rfl) rfl ?_; refine b8.new (ED 92 (fun hp=>ON _ zo zo) (.a rfl uu<|.nil)) rfl rfl rfl rfl ?_; refine f0.k #[true,true,true,true,true,true,true,false,false,false] rfl (D9 (by intro e he; simp only[A2,List.map_cons,List.map_nil,List.mem_cons,List.not_mem_nil,or_false] at he; rcases he with rfl | rfl<;>simp)) ?_
    refine f0.one 7 (by kernel_rfl) rfl ?_; refine b8.mutR (bC _ _ (x9 _) (x9 _) (M6 zo) zo zo) rfl zo (.a rfl uu<|.nil) rfl (fun _ _ _ _ h=>h) (fun h=>h) rfl ?_; refine jl ?_; refine b8.frzQ 92 [95] ⟨rfl,trivial⟩ (⟨by have:=R8 (xs:=D3 (d7 b.natAbs) (d7 a.natAbs) (d7 b.natAbs).length); rw[HL] at this; exact this,by simp only[p6]; omega⟩) rfl ?_; refine jl ?_; refine f0.k #[true,true,true,true,true,true,true,true,false,false] rfl (D9 (by intro e he; simp only[A2,List.map_cons,List.map_nil,List.mem_cons,List.not_mem_nil,or_false] at he; rcases he with rfl | rfl<;>simp)) ?_
    refine f0.one 8 (by kernel_rfl) rfl ?_; refine tO (A1 (fun hp=>.cons rfl rfl rfl<|.cons rfl rfl rfl<|.nil)) rfl rfl ?_; refine f0.k #[true,true,true,true,true,true,true,true,true,false] rfl (D9 (by intro e he; simp only[A2,List.map_cons,List.map_nil,List.mem_cons,List.not_mem_nil,or_false] at he; rcases he with rfl | rfl<;>simp)) ?_; refine f0.one 9 (by kernel_rfl) rfl ?_; refine b8.stB rfl rfl rfl rfl ?_; refine f0.k #[true,true,true,true,true,true,true,true,true,true] rfl (D9 (by intro e he; simp only[A2,List.map_cons,List.map_nil,List.mem_cons,List.not_mem_nil,or_false] at he; rcases he with rfl | rfl<;>simp)) ?_
    refine f0.done (by kernel_rfl) ?_; refine g9 ?_; exact d9.resC1 (fn:=Tryz.f162) rfl rfl (t7 rfl (ai0 hs zo (kT zo)))

end Go.Fl

/- Contracts: integers of the package field (products). -/
namespace Go.Fl
open Go Go.Proofs
open b8 renaming op->tO
open j1 renaming op->rO
set_option maxRecDepth 100000

set_option maxHeartbeats 1000000 in
theorem L3 (a b:Int) (ha:dl a<=1000000) (hb:dl b<=1000000):Ct Tryz.prog 161 [b7 eW (wh a),b7 eW (wh b)] (b7 eW (wh (a*b))):=by
 have hal:(d7 a.natAbs).length=dl a:=rfl
 have hbl:(d7 b.natAbs).length=dl b:=rfl
 have hap:=CX (z:=a)
 have hbp:=CX (z:=b)
 refine Ct.mk Tryz.func161 rfl Tryz.ntmps161 rfl (fun w J=>?_); refine g9 ?_; refine jb 2 rfl ?_; refine jb 3 rfl ?_; refine ja 4 ?_; refine P5 ?_; refine Tr.cnd rfl ?_ ?_
 ·intro h1
  try simp only[decide_eq_true_eq,Bool.or_eq_true] at h1
  refine g9 ?_; refine tO (A1 (fun hp=>.nil)) rfl rfl ?_; refine l8 ?_; exact d9.resC1 (fn:=Tryz.f161) rfl rfl (t7 rfl (ah8 zo))
 ·intro h1
  try simp only[decide_eq_false_iff_not,Bool.or_eq_false_iff] at h1
  refine y7 ?_; refine b8.new (RF eI 30 rfl uu rfl uu rfl rfl (fun _=>zo)) rfl rfl rfl rfl ?_; refine u9 ?_
  refine Tr.for1 (σ:=Nat×List Int) [⟨2,true,_,_⟩,⟨3,true,_,_⟩,⟨4,true,_,_⟩,⟨32,true,_,_⟩,⟨33,true,_,_⟩] [⟨2,_,_⟩,⟨3,_,_⟩,⟨4,_,_⟩] (fun (i,o)=>[⟨5,true,[30],o5 30 ((d7 a.natAbs).length+(d7 b.natAbs).length)⟩,⟨34,true,[],kI (i:Int)⟩]) (fun (i,o)=>[⟨30,[],l3 false 3 eI o ((d7 a.natAbs).length+(d7 b.natAbs).length)⟩]) (fun (i,o)=>i<=(d7 a.natAbs).length/\U0 (d7 a.natAbs) (d7 b.natAbs) o i) (fun (i,o)=>i=(d7 a.natAbs).length/\U0 (d7 a.natAbs) (d7 b.natAbs) o (d7 a.natAbs).length) (fun (i,o)=>(d7 a.natAbs).length-i) ((0,List.replicate ((d7 a.natAbs).length+(d7 b.natAbs).length) 0)) ⟨by omega,U0.start⟩ (d6.mk (.o rfl zo rfl<|.i rfl zi<|zk) (.a (by congr 1) zo<|zk) rfl) ?_ ?_
  ·rintro ⟨i,o⟩ ⟨hi,hR⟩
   refine jn ?_
   have hAd:=fun (h:i<(d7 a.natAbs).length)=>(x9 a.natAbs).at (i:=i) h
   refine l6 ?_; refine jq ?_ ?_
   ·intro h5
    refine fG ?_
    refine Tr.for1 (σ:=Nat×List Int×Int) [⟨2,true,_,_⟩,⟨3,true,_,_⟩,⟨4,true,_,_⟩,⟨5,true,_,_⟩,⟨6,true,_,_⟩,⟨7,true,_,_⟩,⟨32,true,_,_⟩,⟨33,true,_,_⟩,⟨34,true,_,_⟩,⟨40,true,_,_⟩,⟨41,true,_,_⟩] [⟨2,_,_⟩,⟨3,_,_⟩,⟨4,_,_⟩] (fun (k,o2,c)=>[⟨8,true,[],kI c⟩,⟨42,true,[],kI (k:Int)⟩]) (fun (k,o2,c)=>[⟨30,[],l3 false 3 eI o2 ((d7 a.natAbs).length+(d7 b.natAbs).length)⟩]) (fun (k,o2,c)=>k<=(d7 b.natAbs).length/\AE (d7 a.natAbs) (d7 b.natAbs) o2 i k c) (fun (k,o2,c)=>AE (d7 a.natAbs) (d7 b.natAbs) o2 i (d7 b.natAbs).length c) (fun (k,o2,c)=>(d7 b.natAbs).length-k) ((0,o,0)) ⟨by omega,hR.row⟩ (d6.mk (.i rfl zi<|.i rfl zi<|zk) (.a zi zi<|zk) rfl) ?_ ?_
    ·rintro ⟨k,o2,c⟩ ⟨hk,hS⟩
     refine jn ?_
     have hn:=fun (h:k<(d7 b.natAbs).length)=>hS.n (x9 _) (x9 _) zo h
     have hc0:=hS.c0
     refine l6 ?_; refine jq ?_ ?_
     ·intro h9
      refine L4 ?_
      obtain ⟨n1,n2,n3,n4⟩:=hn zo
      refine S6 ?_
      obtain ⟨hq1,hq2,hq3⟩:=NB (b6 o2 (i+k)+b6 (d7 a.natAbs) i*b6 (d7 b.natAbs) k+c)
      refine l8 ?_; refine tO (EH rfl uu rfl uu (fun _=>zo)) rfl rfl ?_; refine i4 ?_; refine tO (BY rfl uu rfl uu (fun _=>zo)) rfl rfl ?_; refine u5 ?_
      exact g6.lp ((k+1,o2.set (i+k) ((b6 o2 (i+k)+b6 (d7 a.natAbs) i*b6 (d7 b.natAbs) k+c)%100000000),(b6 o2 (i+k)+b6 (d7 a.natAbs) i*b6 (d7 b.natAbs) k+c)/100000000)) ⟨by omega,hS.next (x9 _) (x9 _) zo zo⟩ (by show (d7 b.natAbs).length-(k+1)<(d7 b.natAbs).length-k; omega) (d6.mk (.i rfl (by rw[Int.tdiv_eq_ediv_of_nonneg zo])<|.i rfl zi<|zk) (.a (by rw[Int.tmod_eq_emod_of_nonneg zo]) zi<|zk) rfl)
     ·intro h9
      replace h9:=Int.not_lt.1 h9
      refine g8 ?_
      exact g6.cut ((k,o2,c)) (by obtain rfl:k=(d7 b.natAbs).length:=zo; exact hS) (d6.mk (.i rfl zi<|.i rfl zi<|zk) (.a zi zi<|zk) rfl)
    ·rintro ⟨k,o2,c⟩ hS
     refine je ?_
     have hc0:=hS.c0
     refine FL ?_
     exact g6.lp ((i+1,o2.set (i+(d7 b.natAbs).length) c)) ⟨by omega,hS.done zo⟩ (by show (d7 a.natAbs).length-(i+1)<(d7 a.natAbs).length-i; omega) (d6.mk (.o rfl zi rfl<|.i rfl zi<|zk) (.a rfl zi<|zk) rfl)
   ·intro h5
    replace h5:=Int.not_lt.1 h5
    refine g8 ?_
    exact g6.cut ((i,o)) (by obtain rfl:i=(d7 a.natAbs).length:=zo; exact ⟨rfl,hR⟩) (d6.mk (.o rfl zi rfl<|.i rfl zi<|zk) (.a zi zi<|zk) rfl)
  ·rintro ⟨i,o⟩ ⟨rfl,hR⟩
   refine je ?_; refine g9 ?_; refine Tr.frz 30 [5] ⟨rfl,trivial⟩ (by simp only[p6]; omega) rfl ?_; refine Tr.draw 7 n8 (by kernel_rfl) ?_; refine g8 ?_; refine rO (RH rfl uu rfl uu) rfl rfl ?_; refine i4 ?_; refine rO (i6 (fun hp=>IQ _) (.a rfl uu<|.nil)) rfl rfl ?_; refine i4 ?_; refine tO (A1 (fun hp=>.cons rfl rfl rfl<|.cons rfl rfl rfl<|.nil)) rfl rfl ?_; refine g8 ?_; exact d9.resC1 (fn:=Tryz.f161) rfl rfl (t7 rfl (ah7 (hap.1 zo) (hbp.1 zo) hR))

set_option maxHeartbeats 1000000 in
theorem sJ (a b:Int) (ha:dl a<=1000000) (hb:dl b<=1000000) (h0:a≠0/\b≠0):T9 Tryz.prog 161 [b7 eW (wh a),b7 eW (wh b)] (fun t=>H6 [kB (decide (decide (a<0)≠decide (b<0))),C8 t 1 0 (d7 (a*b).natAbs).length]) (l3 false 3 eI (d7 (a*b).natAbs) (d7 (a*b).natAbs).length):=by
 have hal:(d7 a.natAbs).length=dl a:=rfl
 have hbl:(d7 b.natAbs).length=dl b:=rfl
 have hap:=CX (z:=a)
 have hbp:=CX (z:=b)
 refine T9.mk Tryz.func161 rfl Tryz.ntmps161 rfl (fun w J=>?_); refine g9 ?_; refine jb 2 rfl ?_; refine jb 3 rfl ?_; refine ja 4 ?_; refine P5 ?_; refine Tr.cnd rfl ?_ ?_
 ·intro h1
  try simp only[decide_eq_true_eq,Bool.or_eq_true] at h1
  omega
 ·intro h1
  try simp only[decide_eq_false_iff_not,Bool.or_eq_false_iff] at h1
  refine y7 ?_; refine b8.new (RF eI 30 rfl uu rfl uu rfl rfl (fun _=>zo)) rfl rfl rfl rfl ?_; refine u9 ?_
  refine Tr.for1 (σ:=Nat×List Int) [⟨2,true,_,_⟩,⟨3,true,_,_⟩,⟨4,true,_,_⟩,⟨32,true,_,_⟩,⟨33,true,_,_⟩] [⟨2,_,_⟩,⟨3,_,_⟩,⟨4,_,_⟩] (fun (i,o)=>[⟨5,true,[30],o5 30 ((d7 a.natAbs).length+(d7 b.natAbs).length)⟩,⟨34,true,[],kI (i:Int)⟩]) (fun (i,o)=>[⟨30,[],l3 false 3 eI o ((d7 a.natAbs).length+(d7 b.natAbs).length)⟩]) (fun (i,o)=>i<=(d7 a.natAbs).length/\U0 (d7 a.natAbs) (d7 b.natAbs) o i) (fun (i,o)=>i=(d7 a.natAbs).length/\U0 (d7 a.natAbs) (d7 b.natAbs) o (d7 a.natAbs).length) (fun (i,o)=>(d7 a.natAbs).length-i) ((0,List.replicate ((d7 a.natAbs).length+(d7 b.natAbs).length) 0)) ⟨by omega,U0.start⟩ (d6.mk (.o rfl zo rfl<|.i rfl zi<|zk) (.a (by congr 1) zo<|zk) rfl) ?_ ?_
  ·rintro ⟨i,o⟩ ⟨hi,hR⟩
   refine jn ?_
   have hAd:=fun (h:i<(d7 a.natAbs).length)=>(x9 a.natAbs).at (i:=i) h
   refine l6 ?_; refine jq ?_ ?_
   ·intro h5
    refine fG ?_
    refine Tr.for1 (σ:=Nat×List Int×Int) [⟨2,true,_,_⟩,⟨3,true,_,_⟩,⟨4,true,_,_⟩,⟨5,true,_,_⟩,⟨6,true,_,_⟩,⟨7,true,_,_⟩,⟨32,true,_,_⟩,⟨33,true,_,_⟩,⟨34,true,_,_⟩,⟨40,true,_,_⟩,⟨41,true,_,_⟩] [⟨2,_,_⟩,⟨3,_,_⟩,⟨4,_,_⟩] (fun (k,o2,c)=>[⟨8,true,[],kI c⟩,⟨42,true,[],kI (k:Int)⟩]) (fun (k,o2,c)=>[⟨30,[],l3 false 3 eI o2 ((d7 a.natAbs).length+(d7 b.natAbs).length)⟩]) (fun (k,o2,c)=>k<=(d7 b.natAbs).length/\AE (d7 a.natAbs) (d7 b.natAbs) o2 i k c) (fun (k,o2,c)=>AE (d7 a.natAbs) (d7 b.natAbs) o2 i (d7 b.natAbs).length c) (fun (k,o2,c)=>(d7 b.natAbs).length-k) ((0,o,0)) ⟨by omega,hR.row⟩ (d6.mk (.i rfl zi<|.i rfl zi<|zk) (.a zi zi<|zk) rfl) ?_ ?_
    ·rintro ⟨k,o2,c⟩ ⟨hk,hS⟩
     refine jn ?_
     have hn:=fun (h:k<(d7 b.natAbs).length)=>hS.n (x9 _) (x9 _) zo h
     have hc0:=hS.c0
     refine l6 ?_; refine jq ?_ ?_
     ·intro h9
      refine L4 ?_
      obtain ⟨n1,n2,n3,n4⟩:=hn zo
      refine S6 ?_
      obtain ⟨hq1,hq2,hq3⟩:=NB (b6 o2 (i+k)+b6 (d7 a.natAbs) i*b6 (d7 b.natAbs) k+c)
      refine l8 ?_; refine tO (EH rfl uu rfl uu (fun _=>zo)) rfl rfl ?_; refine i4 ?_; refine tO (BY rfl uu rfl uu (fun _=>zo)) rfl rfl ?_; refine u5 ?_
      exact g6.lp ((k+1,o2.set (i+k) ((b6 o2 (i+k)+b6 (d7 a.natAbs) i*b6 (d7 b.natAbs) k+c)%100000000),(b6 o2 (i+k)+b6 (d7 a.natAbs) i*b6 (d7 b.natAbs) k+c)/100000000)) ⟨by omega,hS.next (x9 _) (x9 _) zo zo⟩ (by show (d7 b.natAbs).length-(k+1)<(d7 b.natAbs).length-k; omega) (d6.mk (.i rfl (by rw[Int.tdiv_eq_ediv_of_nonneg zo])<|.i rfl zi<|zk) (.a (by rw[Int.tmod_eq_emod_of_nonneg zo]) zi<|zk) rfl)
     ·intro h9
      replace h9:=Int.not_lt.1 h9
      refine g8 ?_
      exact g6.cut ((k,o2,c)) (by obtain rfl:k=(d7 b.natAbs).length:=zo; exact hS) (d6.mk (.i rfl zi<|.i rfl zi<|zk) (.a zi zi<|zk) rfl)
    ·rintro ⟨k,o2,c⟩ hS
     refine je ?_
     have hc0:=hS.c0
     refine FL ?_
     exact g6.lp ((i+1,o2.set (i+(d7 b.natAbs).length) c)) ⟨by omega,hS.done zo⟩ (by show (d7 a.natAbs).length-(i+1)<(d7 a.natAbs).length-i; omega) (d6.mk (.o rfl zi rfl<|.i rfl zi<|zk) (.a rfl zi<|zk) rfl)
   ·intro h5
    replace h5:=Int.not_lt.1 h5
    refine g8 ?_
    exact g6.cut ((i,o)) (by obtain rfl:i=(d7 a.natAbs).length:=zo; exact ⟨rfl,hR⟩) (d6.mk (.o rfl zi rfl<|.i rfl zi<|zk) (.a zi zi<|zk) rfl)
  ·rintro ⟨i,o⟩ ⟨rfl,hR⟩
   refine je ?_; refine g9 ?_; refine Tr.draw 7 n8 (by kernel_rfl) ?_; refine g8 ?_; refine rO (RH rfl uu rfl uu) rfl rfl ?_; refine i4 ?_; refine rO (WY (n:=1) (fun ad cap=>OY o ad cap) rfl uu (fun _=>⟨by omega,by simp only[p6]; omega,by have:=R8 (xs:=o); rw[hR.len] at this; exact this⟩)) rfl rfl ?_; refine i4 ?_; refine tO (A1 (fun hp=>.cons rfl rfl rfl<|.cons rfl rfl rfl<|.nil)) rfl rfl ?_; refine g8 ?_; exact d9.resNC (fn:=Tryz.f161) (u:=30) rfl rfl (fun _ _ _ h=>nS (by have:=R8 (xs:=o); rw[hR.len,WF hR] at this; exact this) (by rw[<- WF hR,HP]) h) (nI rfl (by rw[WF hR])) inferInstance

end Go.Fl

/- Integers: long division, as its contract wants it. Plain Lean, no program in sight. -/
namespace Go.Fl
theorem Nm.top {xs:List Int} (h:Nm xs) (h0:0<xs.length):0<b6 xs (xs.length-1):=by
 have hne:xs≠[]:=List.length_pos_iff.1 h0
 have h3:=h.last hne
 have h4:b6 xs (xs.length-1)=xs.getLast hne:=by
  rw[List.getLast_eq_getElem]
  exact Y3 (List.getElem?_eq_getElem _)
 rw[h4]
 have:=h.dg _ (List.getLast_mem hne)
 omega
def QC (n:Nat):Int:=(100000000:Int).tdiv (b6 (d7 n) (((d7 n).length:Int)-1).toNat+1)
theorem fM {n:Nat} (h:0<(d7 n).length):0<b6 (d7 n) (((d7 n).length:Int)-1).toNat/\b6 (d7 n) (((d7 n).length:Int)-1).toNat<100000000:=by
 have e:(((d7 n).length:Int)-1).toNat=(d7 n).length-1:=by omega
 rw[e]
 exact ⟨(O2 n).top h,((x9 n).at zo).2⟩
theorem YI {a b:Int} (ha:0<=a) (hb:0<b):0<=a.tdiv b/\a.tdiv b<=a:=by
 rw[Int.tdiv_eq_ediv_of_nonneg ha]
 exact ⟨Int.ediv_nonneg ha zo,Int.ediv_le_self _ ha⟩
theorem vJ {n:Nat} (h:0<(d7 n).length):0<QC n/\QC n<=50000000:=by
 have h1:=fM h
 unfold QC
 generalize b6 (d7 n) (((d7 n).length:Int)-1).toNat=t at *
 rw[Int.tdiv_eq_ediv_of_nonneg zo]
 refine ⟨Int.le_ediv_of_mul_le zo zo,Int.le_of_lt_add_one (Int.ediv_lt_of_lt_mul zo zo)⟩
def IX (x y z:Int):Int:=if 99999999<(x*100000000+y).tdiv z then 99999999 else (x*100000000+y).tdiv z
theorem uH {x y z:Int} (hx:0<=x) (hy:0<=y) (hz:0<z):0<=IX x y z/\IX x y z<=99999999:=by
 have:=YI (a:=x*100000000+y) zo hz
 unfold IX
 split<;>omega
theorem uG {T x y z:Int} (hx:0<=x) (hy:0<=y) (h:T<=(if 99999999<(x*100000000+y)/z then 99999999 else (x*100000000+y)/z)):T<=IX x y z:=by
 unfold IX
 rw[Int.tdiv_eq_ediv_of_nonneg zo]
 exact h
theorem O0.bd {u0 u:List Int} {j n:Nat} {T V g:Int} (h:O0 u0 j n T V u g) (hl:j+n<u0.length) (hT:T=val (u0.drop j)) (h0:0<=T) (hV:0<V) (hVn:V<BP n):-100000000<b6 u (j+n):=by
 obtain ⟨lo,l0,l1,e⟩:=h.top hl
 have ht:=h.t hl hT
 have hg:=h.g1
 have h1:g*V<=99999999*V:=Int.mul_le_mul_of_nonneg_right hg zo
 refine Classical.byContradiction fun hh=>?_
 have h2:BP n*b6 u (j+n)<=BP n*(-100000000):=Int.mul_le_mul_of_nonneg_left zo (Int.le_of_lt (T7 n))
 omega
theorem vL {m n:Nat} {F:Int} (hF:0<F) (h:n<=m):((n:Int)*F).natAbs<=((m:Int)*F).natAbs/\n<=((n:Int)*F).natAbs:=by
 have h1:(n:Int)*F<=m*F:=Int.mul_le_mul_of_nonneg_right zo zo
 have h2:(n:Int)*1<=n*F:=Int.mul_le_mul_of_nonneg_left zo zo
 omega
theorem vK {m n x y nn:Nat} {F:Int} {u out:List Int} (hF:0<F) (hx:x=((m:Int)*F).natAbs) (hy:y=((n:Int)*F).natAbs) (hn:0<n) (h:V7 (x:Int) (val (d7 y)) nn u out 0) :
  j7 out=d7 (m/n)/\d7 (val (j7 u)/F).toNat=d7 (m%n)/\Dg (j7 u):=by
 have e1:(x:Int)=F*m:=by rw[hx,Int.mul_comm,Int.natAbs_of_nonneg (Int.mul_nonneg zo zo)]
 have e2:(y:Int)=F*n:=by rw[hy,Int.mul_comm,Int.natAbs_of_nonneg (Int.mul_nonneg zo zo)]
 have h0:(0:Int)<F*n:=Int.mul_pos hF zo
 obtain ⟨h1,h2,h3,h4⟩:=h.fin (by rw[y4]; omega)
 rw[y4,e1,e2] at h1 h2
 rw[Int.mul_ediv_mul_of_pos _ _ hF] at h1
 rw[Int.mul_emod_mul_of_pos _ _ hF] at h2
 refine ⟨DJ h3 (by rw[h1]; rfl),?_,(lN h4).dg⟩
 rw[YO,h2,Int.mul_ediv_cancel_left _ zo]
 congr 1
theorem HR {n:Nat}:(false,d7 n)=wh (n:Int):=mN rfl rfl
theorem J6 {F:Int} (h0:0<=F) (h:F<100000000):dl F<=1:=O3 (by simp[BP]; omega)
end Go.Fl

/- Contracts: integers of the package field (long division). -/
namespace Go.Fl
open Go Go.Proofs
open b8 renaming op->tO
open j1 renaming op->rO
set_option maxRecDepth 100000

set_option maxHeartbeats 4000000 in
theorem qH (m n:Nat) (h2:2<=(d7 n).length) (hnm:n<=m) (hm:(d7 m).length<=900000):Ct Tryz.prog 219 [b7 (eL eI) (d7 m),b7 (eL eI) (d7 n)] (z9 [b7 (eL eI) (d7 (m/n)),b7 (eL eI) (d7 (m%n))]):=by
 have h00:([0,0]:List Int).length=2:=rfl
 obtain ⟨F,hF⟩:∃F,F=QC n:=⟨_,rfl⟩
 obtain ⟨x,hx⟩:∃x:Nat,x=((m:Int)*F).natAbs:=⟨_,rfl⟩
 obtain ⟨y,hy⟩:∃y:Nat,y=((n:Int)*F).natAbs:=⟨_,rfl⟩
 obtain ⟨lu,hlu⟩:∃k,k=(d7 x).length:=⟨_,rfl⟩
 obtain ⟨nn,hnn⟩:∃k,k=(d7 y).length:=⟨_,rfl⟩
 have hFr:=vJ (n:=n) zo
 rw[<- hF] at hFr
 have hlD:=fM (n:=n) zo
 have hlx:=vL hFr.1 hnm
 have hn0:0<n:=by have:=IS (n:=n); omega
 have hle:=M6 hnm
 have hny:=M6 (n:=n) (m:=y) zo
 have hyx:=M6 (n:=y) (m:=x) zo
 have hdm:dl (m:Int)=(d7 m).length:=rfl
 have hdn:dl (n:Int)=(d7 n).length:=rfl
 have hdF:=J6 (F:=F) zo zo
 have hdx:dl ((m:Int)*F)=lu:=by rw[hlu,hx]; rfl
 have hlb:=s9 (m:Int) F
 have hdx2:(d7 ((m:Int)*F).natAbs).length=lu:=by rw[hlu,hx]
 have hV0:0<val (d7 y):=by rw[y4]; omega
 have hVn:val (d7 y)<BP nn:=by rw[hnn]; exact (x9 y).val1
 have hqF:=YI (a:=100000000) (b:=b6 (d7 n) (((d7 n).length:Int)-1).toNat+1) zo zo
 refine Ct.mk Tryz.func219 rfl Tryz.ntmps219 rfl (fun w J=>?_); refine L4 ?_; refine tO (BY rfl uu rfl uu (fun _=>zo)) rfl rfl ?_; refine g8 ?_; refine Tr.rwI (s:=6) rfl (show _=F from hF.symm) ?_; refine g9 ?_; refine tO (A1 (fun hp=>.cons rfl rfl rfl<|.nil)) rfl rfl ?_; refine i4 ?_; refine jc (P2 F zo) ?_; refine b8.new (ED 34 (fun hp=>sJ (m:Int) F zo zo zo) (.se rfl uu rfl HR<|.a rfl uu<|.nil)) rfl rfl rfl rfl ?_; refine tO (xL Tryz.underlying160 rfl (ft:=22) (off:=1) rfl rfl rfl uu rfl) rfl rfl ?_
 refine b8.new (w4 eI 36 (fun hp=>.cons rfl<|.cons rfl<|.nil) rfl rfl rfl rfl) rfl rfl rfl rfl ?_; refine b8.appQ rfl (Nat.zero_add _) rfl rfl (fun _ _=>inferInstance) rfl rfl (by decide) rfl rfl (by have h:([0,0]:List Int).length=2:=rfl; omega) (by have h:([0,0]:List Int).length=2:=rfl; omega) (fun L2 o2 hq2=>?_); refine jl ?_
 obtain rfl:o2=0:=by omega
 obtain rfl:L2=d7 ((m:Int)*F).natAbs++[0,0]:=by simpa using hq2
 refine g8 ?_
 rw[<- hx,<- hlu]
 refine g9 ?_; refine tO (A1 (fun hp=>.cons rfl rfl rfl<|.nil)) rfl rfl ?_; refine i4 ?_; refine jc (P2 F zo) ?_; refine tO (i6 (fun hp=>L3 (n:Int) F zo zo) (.se rfl uu rfl HR<|.a rfl uu<|.nil)) rfl rfl ?_; refine tO (xM Tryz.underlying160 rfl (ft:=22) (off:=1) rfl rfl rfl uu rfl rfl) rfl rfl ?_; refine g8 ?_
 rw[<- hy]
 refine j6 ?_
 rw[<- hnn]
 refine g9 ?_; refine tO (Y6 rfl uu) rfl rfl ?_; refine g9 ?_; refine tO (iA rfl uu rfl uu) rfl rfl ?_; refine b8.new (RF eI 51 rfl uu rfl uu rfl rfl (fun _=>zo)) rfl rfl rfl rfl ?_; refine j6 ?_; refine tO (S8 rfl uu) rfl rfl ?_; refine g8 ?_
 refine Tr.for1 (σ:=Nat×List Int×List Int) [⟨6,true,_,_⟩,⟨8,true,_,_⟩] [] (fun (j,u,out)=>[⟨7,true,[34],o5 34 (lu+2)⟩,⟨9,true,[],kI (nn:Int)⟩,⟨10,true,[51],o5 51 (lu+2-nn)⟩,⟨11,true,[],kI ((j:Int)-1)⟩]) (fun (j,u,out)=>[⟨34,[],l3 false 3 eI u (lu+2)⟩,⟨51,[],l3 false 3 eI out (lu+2-nn)⟩]) (fun (j,u,out)=>u.length=lu+2/\out.length=lu+2-nn/\V7 (x:Int) (val (d7 y)) nn u out j) (fun (j,u,out)=>j=0/\u.length=lu+2/\out.length=lu+2-nn/\V7 (x:Int) (val (d7 y)) nn u out 0) (fun (j,u,out)=>j) ((lu+2-nn,d7 x++[0,0],List.replicate (lu+2-nn) 0)) ⟨by rw[List.length_append,<- hlu]; rfl,by simp,by rw[hlu]; exact V7.start (x:=(x:Int)) zo (O2 y) hnn.symm zo (by show nn<=(d7 x).length; omega)⟩ (d6.mk (.conv rfl rfl (fun g v h=>vE zo h) rfl<|.i rfl zi<|.o rfl (by split<;>omega) rfl<|.i rfl (by split<;>omega)<|zk) (.a zi zi<|.a (by congr 1; split<;>omega) (by split<;>omega)<|.nil) rfl) ?_ ?_
 ·rintro ⟨j,u,out⟩ ⟨hul,hol,hR⟩
  refine jn ?_; refine j6 ?_; refine jq ?_ ?_
  ·intro h7
   obtain ⟨j0,rfl⟩:∃j0,j=j0+1:=⟨j-1,by omega⟩
   have hjo:=hR.jo
   obtain ⟨hg1,hg2,hvt,hz,hvlt⟩:=hR.gs (O2 y) hnn.symm zo
   have hT0:0<=val (u.drop j0):=Dg.val0 fun z hz=>hR.dg z (List.mem_of_mem_drop hz)
   have e1:((j0:Int)+nn-1).toNat=j0+nn-1:=by omega
   have e2:((nn:Int)-1).toNat=nn-1:=by omega
   have hu1:=hR.dg.at (i:=j0+nn) zo
   have hu2:=hR.dg.at (i:=((j0:Int)+nn-1).toNat) zo
   have hvt2:0<b6 (d7 y) ((nn:Int)-1).toNat:=by rw[e2]; exact hvt
   have hq0:=YI (a:=b6 u (j0+nn)*100000000+b6 u ((j0:Int)+nn-1).toNat) zo hvt2
   refine Tr.rwI (s:=11) rfl (show (((j0+1:Nat):Int)-1)=(j0:Int) by omega) ?_; refine l8 ?_; refine Tr.draw 20 n8 (by kernel_rfl) ?_; refine VO ?_; refine tO (BY rfl uu rfl uu (fun _=>zo)) rfl rfl ?_; refine tO (iB rfl uu rfl uu) rfl rfl ?_; refine g8 ?_
   obtain ⟨g,hg⟩:∃g,g=IX (b6 u (j0+nn)) (b6 u ((j0:Int)+nn-1).toNat) (b6 (d7 y) ((nn:Int)-1).toNat):=⟨_,rfl⟩
   refine Tr.rwI (s:=12) rfl (show _=g from hg.symm) ?_
   have hgr:=uH hu1.1 hu2.1 hvt2
   rw[<- hg] at hgr
   have hgT:val (u.drop j0)/val (d7 y)<=g:=by rw[hg]; exact uG hu1.1 hu2.1 (by rw[e1,e2]; exact hg1)
   refine y7 ?_
   refine Tr.for1 (σ:=Nat×List Int×Int) [⟨6,true,_,_⟩,⟨7,true,_,_⟩,⟨8,true,_,_⟩,⟨9,true,_,_⟩,⟨10,true,_,_⟩,⟨11,true,_,_⟩,⟨12,true,_,_⟩,⟨81,true,_,_⟩] [⟨51,_,_⟩] (fun (i,u1,c)=>[⟨13,true,[],kI c⟩,⟨82,true,[],kI (i:Int)⟩]) (fun (i,u1,c)=>[⟨34,[],l3 false 3 eI u1 (lu+2)⟩]) (fun (i,u1,c)=>i<=nn/\O8 u (d7 y) j0 (-g) u1 i c) (fun (i,u1,c)=>O8 u (d7 y) j0 (-g) u1 nn c) (fun (i,u1,c)=>nn-i) ((0,u,0)) ⟨by omega,O8.start⟩ (d6.mk (.i rfl zi<|.i rfl zi<|zk) (.a zi zi<|zk) rfl) ?_ ?_
   ·rintro ⟨i,u1,c⟩ ⟨hi,hS⟩
    refine jn ?_
    have hsl:=hS.len
    have hcb:=hS.cb
    refine l6 ?_; refine jq ?_ ?_
    ·intro h12
     refine y7 ?_; refine Tr.draw 20 n8 (by kernel_rfl) ?_
     obtain ⟨s1,s2⟩:=hS.next (x9 y) ⟨zo,zo⟩ zo zo (hR.dg.at zo)
     have hb:=O8.b (x9 y) (s:=-g) ⟨zo,zo⟩ (show i<(d7 y).length by omega)
     have hng:-g*b6 (d7 y) i=-(g*b6 (d7 y) i):=Int.neg_mul _ _
     have hu3:b6 u1 (i+j0)=b6 u (j0+i):=by rw[Nat.add_comm]; exact s1
     have hu4:=hR.dg.at (i:=j0+i) zo
     have hval:b6 u1 (i+j0)-g*b6 (d7 y) i+c=b6 u (j0+i)+-g*b6 (d7 y) i+c:=by omega
     refine L4 ?_; refine rO (i6 (fun hp=>OO _ zo) (.a rfl uu<|.nil)) rfl rfl ?_; refine PZ ?_
     exact g6.lp ((i+1,u1.set (j0+i) ((b6 u (j0+i)+-g*b6 (d7 y) i+c)%100000000),(b6 u (j0+i)+-g*b6 (d7 y) i+c)/100000000)) ⟨by omega,s2⟩ (by show nn-(i+1)<nn-i; omega) (d6.mk (.i rfl (by rw[hval])<|.i rfl zi<|zk) (.a (by rw[hval,Nat.add_comm i j0]) zi<|zk) rfl)
    ·intro h12
     replace h12:=Int.not_lt.1 h12
     refine g8 ?_
     exact g6.cut ((i,u1,c)) (by obtain rfl:i=nn:=zo; exact hS) (d6.mk (.i rfl zi<|.i rfl zi<|zk) (.a zi zi<|zk) rfl)
   ·rintro ⟨i,u1,c⟩ hS
    refine je ?_
    have hsl:=hS.len
    have hcb:=hS.cb
    have hst:=hS.same (j0+nn) (.inr (Nat.le_refl _))
    refine L4 ?_
    refine Tr.for (σ:=List Int×Int) [⟨6,true,_,_⟩,⟨7,true,_,_⟩,⟨8,true,_,_⟩,⟨9,true,_,_⟩,⟨10,true,_,_⟩,⟨11,true,_,_⟩] [⟨51,_,_⟩] (fun (u2,g2)=>[⟨12,true,[],kI g2⟩]) (fun (u2,g2)=>[⟨34,[],l3 false 3 eI u2 (lu+2)⟩]) (fun (u2,g2)=>O0 u j0 nn (val (u.drop j0)) (val (d7 y)) u2 g2) (fun (u2,g2)=>O0 u j0 nn (val (u.drop j0)) (val (d7 y)) u2 g2/\0<=b6 u2 (j0+nn)) (fun (u2,g2)=>g2.toNat) ((u1.set (j0+nn) (b6 u1 (j0+nn)+c),g)) (O0.mk' hR zo hS hnn.symm rfl hz hgT hgr.2) (d6.mk (.i rfl zi<|zk) (.a zi zi<|zk) rfl) ?_ ?_
    ·rintro ⟨u2,g2⟩ hW
     refine jn ?_
     have hwl:=hW.len
     have hwg:=hW.g1
     have hwb:=hW.bd zo rfl hT0 hV0 hVn
     refine u9 ?_; refine jq ?_ ?_
     ·intro h18
      have hlt:=hW.lt zo rfl h18 hV0
      refine fE ?_
      refine Tr.for1 (σ:=Nat×List Int×Int) [⟨6,true,_,_⟩,⟨7,true,_,_⟩,⟨8,true,_,_⟩,⟨9,true,_,_⟩,⟨10,true,_,_⟩,⟨11,true,_,_⟩,⟨12,true,_,_⟩,⟨130,true,_,_⟩] [⟨51,_,_⟩] (fun (i,u3,c3)=>[⟨13,true,[],kI c3⟩,⟨131,true,[],kI (i:Int)⟩]) (fun (i,u3,c3)=>[⟨34,[],l3 false 3 eI u3 (lu+2)⟩]) (fun (i,u3,c3)=>i<=nn/\O8 u2 (d7 y) j0 1 u3 i c3) (fun (i,u3,c3)=>O8 u2 (d7 y) j0 1 u3 nn c3) (fun (i,u3,c3)=>nn-i) ((0,u2,0)) ⟨by omega,O8.start⟩ (d6.mk (.i rfl zi<|.i rfl zi<|zk) (.a zi zi<|zk) rfl) ?_ ?_
      ·rintro ⟨i,u3,c3⟩ ⟨hi,hS3⟩
       refine jn ?_
       have hsl3:=hS3.len
       have hcb3:=hS3.cb
       refine l6 ?_; refine jq ?_ ?_
       ·intro h22
        refine y7 ?_; refine Tr.draw 18 n8 (by kernel_rfl) ?_
        have hu4:=hW.dg (j0+i) zo zo
        obtain ⟨t1,t2⟩:=hS3.next (x9 y) ⟨zo,zo⟩ zo zo hu4
        have hvd:=(x9 y).at (i:=i) zo
        have hu3:b6 u3 (i+j0)=b6 u2 (j0+i):=by rw[Nat.add_comm]; exact t1
        have hval3:b6 u3 (i+j0)+b6 (d7 y) i+c3=b6 u2 (j0+i)+1*b6 (d7 y) i+c3:=by omega
        refine D2 ?_; refine rO (i6 (fun hp=>OO _ zo) (.a rfl uu<|.nil)) rfl rfl ?_; refine PZ ?_
        exact g6.lp ((i+1,u3.set (j0+i) ((b6 u2 (j0+i)+1*b6 (d7 y) i+c3)%100000000),(b6 u2 (j0+i)+1*b6 (d7 y) i+c3)/100000000)) ⟨by omega,t2⟩ (by show nn-(i+1)<nn-i; omega) (d6.mk (.i rfl (by rw[hval3])<|.i rfl zi<|zk) (.a (by rw[hval3,Nat.add_comm i j0]) zi<|zk) rfl)
       ·intro h22
        replace h22:=Int.not_lt.1 h22
        refine g8 ?_
        exact g6.cut ((i,u3,c3)) (by obtain rfl:i=nn:=zo; exact hS3) (d6.mk (.i rfl zi<|.i rfl zi<|zk) (.a zi zi<|zk) rfl)
      ·rintro ⟨i,u3,c3⟩ hS3
       refine je ?_
       have hsl3:=hS3.len
       have hcb3:=hS3.cb
       have hst3:=hS3.same (j0+nn) (.inr (Nat.le_refl _))
       refine C7 ?_
       exact g6.lp ((u3.set (j0+nn) (b6 u3 (j0+nn)+c3),g2-1)) (hW.back zo rfl h18 hV0 hS3 hnn.symm rfl) (by show (g2-1).toNat<g2.toNat; omega) (d6.mk (.i rfl zi<|zk) (.a zi zi<|zk) rfl)
     ·intro h18
      replace h18:=Int.not_lt.1 h18
      refine g8 ?_
      exact g6.cut ((u2,g2)) ⟨hW,by omega⟩ (d6.mk (.i rfl zi<|zk) (.a zi zi<|zk) rfl)
    ·rintro ⟨u2,g2⟩ ⟨hW,hW0⟩
     refine jn ?_
     have hwl:=hW.len
     have hwg:=hW.g1
     refine C7 ?_
     exact g6.lp ((j0,u2,out.set j0 g2)) ⟨by rw[hW.len]; exact hul,by rw[List.length_set]; exact hol,hR.next hW zo zo hV0 hVn⟩ (by show j0<j0+1; omega) (d6.mk (.o rfl zi rfl<|.i rfl zi<|.o rfl zi rfl<|.i rfl zi<|zk) (.a zi zi<|.a zi zi<|.nil) rfl)
  ·intro h7
   replace h7:=Int.not_le.1 h7
   refine g8 ?_
   exact g6.cut ((j,u,out)) (by obtain rfl:j=0:=zo; exact ⟨rfl,hul,hol,hR⟩) (d6.mk (.o rfl zi rfl<|.i rfl zi<|.o rfl zi rfl<|.i rfl zi<|zk) (.a zi zi<|.a zi zi<|.nil) rfl)
 ·rintro ⟨_,u,out⟩ ⟨rfl,hul,hol,hR⟩
  refine je ?_
  have hfin:=vK hFr.1 hx hy hn0 hR
  refine g8 ?_; refine tO (WY (n:=1) (fun ad cap=>OY u ad cap) rfl uu (fun _=>⟨by omega,by simp only[p6]; omega,by have:=R8 (xs:=u); omega⟩)) rfl rfl ?_; refine b8.frzQ 34 [174] ⟨rfl,trivial⟩ ⟨by have:=R8 (xs:=u); omega,by simp only[p6]; omega⟩ rfl ?_; refine jl ?_; refine i4 ?_; refine jc (cJ (u.take (j7 u).length) F (by rw[HP]; exact hfin.2.2) (by have:=R8 (xs:=u); rw[List.length_take]; omega) zo) ?_; refine u5 ?_; refine b8.frz 51 [10,179] ⟨rfl,rfl,trivial⟩ (by simp only[p6]; omega) rfl ?_
  refine jl ?_; refine tO (i6 (fun hp=>IQ _) (.a rfl uu<|.nil)) rfl rfl ?_; refine l6 ?_; exact d9.res (fn:=Tryz.f219) (ts:=[4,5]) rfl rfl (.r rfl hfin.1<|.r rfl (by rw[HP]; exact hfin.2.1)<|.nil)

end Go.Fl

/- Integers: quotient and rest with signs. Plain Lean, no program in sight. -/
namespace Go.Fl
theorem iI {a b q r:Int} (hb:b≠0) (h:a=b*q+r) (h0:0<=r) (h1:r<b.natAbs):a/b=q/\a%b=r:=by
 rcases Int.lt_or_gt_of_ne hb with hn | hp
 ·have h2:=(Int.ediv_emod_unique (a:=a) (b:=-b) (q:=-q) (r:=r) zo).2 ⟨by rw[Int.neg_mul_neg]; omega,h0,by omega⟩
  rw[Int.ediv_neg,Int.emod_neg] at h2
  exact ⟨by omega,h2.2⟩
 ·exact (Int.ediv_emod_unique hp).2 ⟨by omega,h0,by omega⟩
abbrev AV (a b:Int):Prop:=decide (a<0)≠decide (b<0)
theorem mP {a b z:Int} {Q:Nat} (hz:z=if AV a b then -(Q:Int) else Q):(decide ((0:Int)<((d7 Q).length:Nat))&&decide (decide (a<0)≠decide (b<0)),d7 Q)=wh z:=by
 have hl:=IS (n:=Q)
 by_cases h:AV a b
 ·rw[if_pos h] at hz
  refine FZ ?_ (by rw[hz]; congr 1; omega)
  have h2:decide (decide (a<0)≠decide (b<0))=true:=decide_eq_true h
  rw[h2,Bool.and_true,decide_eq_decide]
  omega
 ·rw[if_neg h] at hz
  refine FZ ?_ (by rw[hz]; congr 1)
  have h2:decide (decide (a<0)≠decide (b<0))=false:=decide_eq_false h
  rw[h2,Bool.and_false]
  exact (decide_eq_false zo).symm
section
variable {a b:Int}
theorem gG:(a.natAbs:Int)=b.natAbs*((a.natAbs/b.natAbs:Nat):Int)+((a.natAbs%b.natAbs:Nat):Int):=by
 have:=Nat.div_add_mod a.natAbs b.natAbs
 rw[<- Int.natCast_mul,<- Int.natCast_add,this]
theorem AW:AV a b↔((a<0/\¬b<0)\/(¬a<0/\b<0)):=by
 unfold AV
 by_cases h1:a<0<;>by_cases h2:b<0<;>simp[h1,h2]
theorem XC (hb:b≠0) (h:¬(a<0/\0<a.natAbs%b.natAbs)):a/b=(if AV a b then -((a.natAbs/b.natAbs:Nat):Int) else ((a.natAbs/b.natAbs:Nat):Int))/\a%b=((a.natAbs%b.natAbs:Nat):Int):=by
 have e:=gG (a:=a) (b:=b)
 have hlt:a.natAbs%b.natAbs<b.natAbs:=Nat.mod_lt _ zo
 generalize hq:((a.natAbs/b.natAbs:Nat):Int)=q at *
 refine iI hb ?_ zo zo
 have hB:(b.natAbs:Int)=if b<0 then -b else b:=by split<;>omega
 have hA:(a.natAbs:Int)=if a<0 then -a else a:=by split<;>omega
 by_cases h1:a<0<;>by_cases h2:b<0
 ·rw[if_pos h1] at hA; rw[if_pos h2] at hB
  rw[if_neg (by rw[AW]; omega)]
  rw[hA,hB,Int.neg_mul] at e; omega
 ·rw[if_pos h1] at hA; rw[if_neg h2] at hB
  rw[if_pos (by rw[AW]; omega)]
  rw[hA,hB] at e; rw[Int.mul_neg]; omega
 ·rw[if_neg h1] at hA; rw[if_pos h2] at hB
  rw[if_pos (by rw[AW]; omega)]
  rw[hA,hB,Int.neg_mul] at e; rw[Int.mul_neg]; omega
 ·rw[if_neg h1] at hA; rw[if_neg h2] at hB
  rw[if_neg (by rw[AW]; omega)]
  rw[hA,hB] at e; omega
theorem iH (hb:b≠0) (ha:a<0) (hr:0<a.natAbs%b.natAbs):a/b=(if AV a b then -((a.natAbs/b.natAbs+1:Nat):Int) else ((a.natAbs/b.natAbs+1:Nat):Int))/\a%b=(b.natAbs:Int)+-((a.natAbs%b.natAbs:Nat):Int):=by
 have e:=gG (a:=a) (b:=b)
 have hlt:a.natAbs%b.natAbs<b.natAbs:=Nat.mod_lt _ zo
 rw[Int.natCast_add]
 generalize hq:((a.natAbs/b.natAbs:Nat):Int)=q at *
 refine iI hb ?_ zo zo
 have hB:(b.natAbs:Int)=if b<0 then -b else b:=by split<;>omega
 have hA:(a.natAbs:Int)=-a:=by omega
 by_cases h2:b<0
 ·rw[if_pos h2] at hB
  rw[if_neg (by rw[AW]; omega)]
  rw[hA,hB,Int.neg_mul] at e; rw[Int.mul_add]; omega
 ·rw[if_neg h2] at hB
  rw[if_pos (by rw[AW]; omega)]
  rw[hA,hB] at e; rw[Int.mul_neg,Int.mul_add]; omega
end
theorem iE {n:Nat} (h:(d7 n).length=1):b6 (d7 n) 0=n:=by
 have hv:=y4 n
 match hd:d7 n,h with
 | [x],_=>rw[hd] at hv; simpa [val,b6] using hv
theorem ad1 {m n:Nat} (h:(d7 n).length=1):d7 (val (d7 m)/b6 (d7 n) 0).toNat=d7 (m/n)/\val (d7 m)%b6 (d7 n) 0=((m%n:Nat):Int):=by
 rw[iE h,y4]
 exact ⟨by congr 1,by rw[Int.natCast_emod]⟩
theorem sZ {x y:Int} (hy:y≠0):dl (x%y)<=dl y:=M6 (by have:=Int.emod_nonneg x hy; have:=Int.emod_lt x hy; omega)
theorem oM {x y:Int} (h:r7 x y<0):x<y:=by unfold r7 at h; split at h<;>(try split at h)<;>omega
theorem oN {x y:Int} (h:0<=r7 x y):y<=x:=by unfold r7 at h; split at h<;>(try split at h)<;>omega
theorem mB:∀{xs:List Int},w7 xs->-(10000000000000000000*BP xs.length-10000000000000000000)<=val xs/\val xs<=10000000000000000000*BP xs.length-10000000000000000000
 | [],_=>by simp[val,BP]
 | x::xs,h=>by
  have h1:=h 0 (by simp)
  have ih:=mB (xs:=xs) fun i hi=>h (i+1) (by simpa using hi)
  have e:b6 (x::xs) 0=x:=rfl
  rw[e] at h1
  rw[val,List.length_cons,T8]
  omega
theorem M7 {xs:List Int} (h:w7 xs):dl (val xs)<=xs.length+3:=by
 refine O3 ?_
 have h1:=mB h
 have h2:=T7 xs.length
 rw[T8,T8,T8]
 omega
theorem UO {n:Int} (h:-9223372036854775808<=n/\n<=9223372036854775807):dl n<=3:=O3 (by simp[BP]; omega)
end Go.Fl

/- Contracts: integers of the package field (quotient and rest, what the package offers). -/
namespace Go.Fl
open Go Go.Proofs
open b8 renaming op->tO
open j1 renaming op->rO
set_option maxRecDepth 100000

set_option maxHeartbeats 2000000 in
theorem UK (a b:Int) (hb0:b≠0) (ha:dl a<=800000) (hb:dl b<=800000):Ct Tryz.prog 206 [b7 eW (wh a),b7 eW (wh b)] (z9 [b7 eW (wh (a/b)),b7 eW (wh (a%b))]):=by
 have hal:(d7 a.natAbs).length=dl a:=rfl
 have hbl:(d7 b.natAbs).length=dl b:=rfl
 have hbp:=(CX (z:=b)).2 hb0
 have hlt:a.natAbs%b.natAbs<b.natAbs:=Nat.mod_lt _ zo
 have hql:=M6 (m:=a.natAbs) (n:=a.natAbs/b.natAbs) (Nat.div_le_self _ _)
 have hrl:=M6 (m:=b.natAbs) (n:=a.natAbs%b.natAbs) zo
 have hrz:=IS (n:=a.natAbs%b.natAbs)
 have hdq:dl ((a.natAbs/b.natAbs:Nat):Int)=(d7 (a.natAbs/b.natAbs)).length:=rfl
 have X9:dl ((a.natAbs%b.natAbs:Nat):Int)=(d7 (a.natAbs%b.natAbs)).length:=rfl
 have hdb:dl (b.natAbs:Int)=dl b:=rfl
 have hd1:=J6 (F:=1) zo zo
 refine Ct.mk Tryz.func206 rfl Tryz.ntmps206 rfl (fun w J=>?_); refine g9 ?_; refine jb 2 rfl ?_; refine jb 3 rfl ?_; refine ja 4 ?_; refine ja 5 ?_; refine g9 ?_; refine Tr.meet2 (σ:=Unit) [⟨2,true,_,_⟩,⟨3,true,_,_⟩,⟨4,true,_,_⟩,⟨5,true,_,_⟩] [⟨2,_,_⟩,⟨3,_,_⟩] (zk) (zk) (fun _=>[]) (fun _=>[⟨4,[],j5 [kB false,b7 (eL eI) (d7 (a.natAbs/b.natAbs))]⟩,⟨5,[],j5 [kB false,b7 (eL eI) (d7 (a.natAbs%b.natAbs))]⟩]) (fun _=>True) ?_ ?_
 ·skip
  refine j6 ?_; refine jc (cL a.natAbs b.natAbs zo zo) ?_; refine g8 ?_; refine Tr.cnd rfl ?_ ?_
  ·intro h2
   try simp only[decide_eq_true_eq] at h2
   have hc:=oM h2
   refine j6 ?_
   exact g6.cut (()) zi (d6.mk (zk) (.conv (fun _ _ _ h=>nT rfl (by rw[Nat.div_eq_of_lt zo]; rfl) h) rfl<|.conv (fun _ _ _ h=>LA rfl (by rw[Nat.mod_eq_of_lt zo]) h) rfl<|zk) rfl)
  ·intro h2
   try simp only[decide_eq_false_iff_not,Int.not_lt] at h2
   have hc:=oN h2
   refine m8 ?_; refine Tr.cnd rfl ?_ ?_
   ·intro h4
    try simp only[decide_eq_true_eq] at h4
    refine l6 ?_; refine Tr.drawS 11 4 n8 (by kernel_rfl) ?_
    have hd0:=(x9 b.natAbs).at (i:=0) zo
    have h1d:=iE (n:=b.natAbs) zo
    refine o6.opA (N2 rfl uu) (by kernel_rfl) rfl rfl ?_; refine o6.opA (V0 rfl uu rfl) (by kernel_rfl) rfl rfl ?_; refine o6.opA (N2 rfl uu) (by kernel_rfl) rfl rfl ?_; refine o6.opA (V0 rfl uu rfl) (by kernel_rfl) rfl rfl ?_
    first | refine o6.opA (F2 rfl uu rfl uu rfl (fun _=>zo)) (by kernel_rfl) rfl rfl ?_ | refine o6.opA (BV rfl uu rfl uu rfl (fun _=>zo)) (by kernel_rfl) rfl rfl ?_
    refine o6.opA (N3 rfl uu rfl) (by kernel_rfl) rfl rfl ?_; refine o6.opA (i6 (fun hp=>cJ (d7 a.natAbs) (b6 (d7 b.natAbs) 0) (x9 _) zo zo) (.a rfl uu<|.a rfl uu<|.nil)) (by kernel_rfl) rfl rfl ?_; refine o6.opA (H7 rfl uu) (by kernel_rfl) rfl rfl ?_; refine o6.opA (JO rfl uu rfl) (by kernel_rfl) rfl rfl ?_; refine o6.op (JO rfl uu rfl) rfl rfl ?_; refine o6.opA (N2 rfl uu) (by kernel_rfl) rfl rfl ?_; refine o6.z (EK rfl rfl rfl) rfl rfl rfl ?_; refine g8 ?_
    have sh:=ad1 (m:=a.natAbs) (n:=b.natAbs) zo
    refine i4 ?_; refine tO (i6 (fun hp=>P2 _ (by rw[sh.2]; omega)) (.a rfl uu<|.nil)) rfl rfl ?_; refine i7 ?_
    exact g6.cut (()) zi (d6.mk (zk) (.conv (fun _ _ _ h=>LA rfl sh.1 h) rfl<|.conv (fun _ _ _ h=>LA (by rw[sh.2]; exact decide_eq_false zo) (by rw[sh.2]; rfl) h) rfl<|zk) rfl)
   ·intro h4
    try simp only[decide_eq_false_iff_not] at h4
    refine l8 ?_; refine jc (qH a.natAbs b.natAbs zo zo zo) ?_; refine m8 ?_
    exact g6.cut (()) zi (d6.mk (zk) (.conv (fun _ _ _ h=>LA rfl rfl h) rfl<|.conv (fun _ _ _ h=>LA rfl rfl h) rfl<|zk) rfl)
 ·intro _ hM
  refine jn ?_; refine D2 ?_; refine Tr.cnd rfl ?_ ?_
  ·intro h8
   try simp only[decide_eq_true_eq,Bool.and_eq_true] at h8
   have hrp:0<a.natAbs%b.natAbs:=by omega
   obtain ⟨o1,o2⟩:=iH hb0 h8.1 hrp
   refine i4 ?_; refine Tr.draw 2 n8 (by kernel_rfl) ?_; refine i4 ?_; refine jd (P2 1 zo) ?_; refine i4 ?_; refine tO (i6 (fun hp=>V9 ((a.natAbs/b.natAbs:Nat):Int) 1 zo zo) (.se rfl uu rfl HR<|.a rfl uu<|.nil)) rfl rfl ?_; refine i7 ?_; refine Tr.draw 5 n8 (by kernel_rfl) ?_; refine g9 ?_; refine rO (A1 (fun hp=>.cons rfl rfl rfl<|.nil)) rfl rfl ?_; refine i4 ?_; refine rO (i6 (fun hp=>DS ((a.natAbs%b.natAbs:Nat):Int)) (.se rfl uu rfl HR<|.nil)) rfl rfl ?_; refine i4 ?_; refine tO (i6 (fun hp=>V9 (b.natAbs:Int) (-((a.natAbs%b.natAbs:Nat):Int)) zo (by rw[K4]; omega)) (.se rfl uu rfl HR<|.a rfl uu<|.nil)) rfl rfl ?_
   refine C7 ?_; refine b8.gd rfl rfl rfl (RH rfl id rfl id) rfl rfl ?_; refine l6 ?_; refine Tr.drawS 2 4 n8 (by kernel_rfl) ?_; refine o6.opA (R4 rfl uu) (by kernel_rfl) rfl rfl ?_; refine o6.op (R4 rfl uu) rfl rfl ?_; refine o6.z (EK rfl rfl rfl) rfl rfl rfl ?_; refine g8 ?_; exact d9.resC2 (fn:=Tryz.f206) rfl rfl rfl (t7 rfl (mP o1)) (t7 rfl (by rw[o2]; rfl))
  ·intro h8
   try simp only[decide_eq_true_eq,decide_eq_false_iff_not,Bool.and_eq_false_imp,Int.not_lt] at h8
   obtain ⟨o1,o2⟩:=XC hb0 (fun hh=>by have:=h8 hh.1; omega)
   refine D2 ?_; refine b8.gd rfl rfl rfl (RH rfl id rfl id) rfl rfl ?_; refine l6 ?_; refine Tr.drawS 2 4 n8 (by kernel_rfl) ?_; refine o6.opA (R4 rfl uu) (by kernel_rfl) rfl rfl ?_; refine o6.op (R4 rfl uu) rfl rfl ?_; refine o6.z (EK rfl rfl rfl) rfl rfl rfl ?_; refine g8 ?_; exact d9.resC2 (fn:=Tryz.f206) rfl rfl rfl (t7 rfl (mP o1)) (t7 rfl (by rw[o2]; exact HR))

theorem bB (a b:Int) (ha:dl a<=800000) (hb:dl b<=800000):Ct Tryz.prog 203 [b7 eW (wh a),b7 eW (wh b)] (kI (r7 a b)):=by
 refine Ct.mk Tryz.func203 rfl Tryz.ntmps203 rfl (fun w J=>?_); refine g9 ?_; refine jb 2 rfl ?_; refine jb 3 rfl ?_; refine g8 ?_; refine Tr.draw 3 n8 (by kernel_rfl) ?_; refine g9 ?_; refine jd (DS b) ?_; refine i4 ?_; refine jc (V9 a (-b) zo (by rw[K4]; omega)) ?_; refine jc (BK (a+-b)) ?_; refine g8 ?_; exact d9.res1 (fn:=Tryz.f203) rfl (.i rfl (by rw[<- Int.sub_eq_add_neg]; exact oO)<|.nil)

end Go.Fl

/- Integers: what the contracts of the reference's integers lean on. Plain Lean, no program in sight. -/
namespace Go.Fl
def V3 (xs:List Int) (neg:Bool):List Int:=if neg=true then (j7 xs).map (fun x=>-x) else j7 xs
theorem ac0 {xs:List Int} {neg:Bool} (h:neg=true):R1 (j7 xs) (j7 xs).length=V3 xs neg:=by unfold V3; rw[if_pos h,gI]
theorem ab9 {xs:List Int} {neg:Bool} (h:neg=false):j7 xs=V3 xs neg:=by unfold V3; rw[if_neg (by rw[h]; simp)]
theorem lO {xs:List Int} (h:Nm xs):j7 xs=xs:=by
 have h0:=h.dg.val0
 have e:val xs=((val xs).toNat:Nat):=by omega
 rw[DJ h.dg e]
 exact (PB h e).symm
theorem YM:∀{xs:List Int},j7 (xs.map fun x=>-x)=(j7 xs).map fun x=>-x
 | []=>rfl
 | x::xs=>by
  rw[List.map_cons,j7,j7,YM]
  by_cases h:j7 xs=[]/\x=0
  ·rw[if_pos h,if_pos ⟨by rw[h.1]; rfl,by omega⟩]; rfl
  ·rw[if_neg h,if_neg (fun hh=>h ⟨by simpa using hh.1,by omega⟩)]; rfl
theorem lM (z:Int):j7 (g7 z)=g7 z:=by
 unfold g7
 split
 ·rw[YM,lO (O2 _)]
 ·exact lO (O2 _)
theorem QH {z:Int} (h:0<=z):g7 z=d7 z.toNat:=by unfold g7; rw[if_neg zo]; congr 1; omega
theorem QI (n:Nat):g7 (n:Int)=d7 n:=QH zo
theorem vU {z:Int} (h:0<=z):Nm (g7 z):=by rw[QH h]; exact O2 _
theorem WB:∀(xs:List Int),(xs.map fun x=>-x).map (fun x=>-x)=xs
 | []=>rfl
 | x::xs=>by rw[List.map_cons,List.map_cons,WB,Int.neg_neg]
theorem ac1 (z:Int):V3 (g7 z) true=g7 (-z):=by
 unfold V3
 rw[if_pos rfl,lM]
 by_cases h:z=0
 ·subst h; rfl
 ·unfold g7
  by_cases h1:z<0
  ·rw[if_pos h1,if_neg zo,WB,Int.natAbs_neg]
  ·rw[if_neg h1,if_pos zo,Int.natAbs_neg]
theorem ac2 (z:Int):V3 (g7 z) (decide (z<0))=d7 z.natAbs:=by
 unfold V3
 rw[lM]
 unfold g7
 by_cases h:z<0
 ·rw[if_pos h,if_pos (by simpa using h),WB]
 ·rw[if_neg h,if_neg (by simpa using h)]
theorem VZ {z:Int}:(g7 z).length=0↔z=0:=by rw[r9]; exact C5
theorem vS {z:Int} (h:0<(g7 z).length):b6 (g7 z) (((g7 z).length:Int)-1).toNat<0↔z<0:=by
 have e:(((g7 z).length:Int)-1).toNat=(g7 z).length-1:=by omega
 rw[e]
 rw[r9] at h ⊢
 have ht:=(O2 z.natAbs).top (by exact h)
 unfold g7
 by_cases h1:z<0
 ·rw[if_pos h1,HA (show dl z-1<(d7 z.natAbs).length by unfold dl at h ⊢; omega)]
  unfold dl
  omega
 ·rw[if_neg h1]
  unfold dl
  omega
theorem wO {z:Int} (h:0<(g7 z).length->(b6 (g7 z) (((g7 z).length:Int)-1).toNat<0↔z<0)):(decide ((0:Int)<((g7 z).length:Nat))&&decide (b6 (g7 z) (((g7 z).length:Int)-1).toNat<0))=decide (z<0):=by
 by_cases h0:0<(g7 z).length
 ·rw[decide_eq_true (show (0:Int)<((g7 z).length:Nat) by omega),Bool.true_and,decide_eq_decide]
  exact h h0
 ·have:z=0:=VZ.1 zo
  subst this
  rfl
theorem wV {xs:List Int} {i:Nat} (hi:xs.length<=i) (h:(s7 xs i).2=0):j7 (s7 xs i).1=g7 (val xs):=by
 have h1:=jI hi h
 have h2:=jE hi h
 have h0:=(Z0 (xs:=xs) (i:=i)).val0
 rw[QH zo]
 exact DJ Z0 zo
theorem gK {xs ds:List Int} (h:(true,j7 ds)=wh (val xs)):V3 ds true=g7 (val xs):=by
 unfold wh at h
 have h1:true=decide (val xs<0):=congrArg Prod.fst h
 have h2:j7 ds=d7 (val xs).natAbs:=congrArg Prod.snd h
 unfold V3 g7
 rw[if_pos rfl,if_pos (of_decide_eq_true h1.symm),h2]
theorem aJ {ds:List Int} {k:Nat} (h:k=ds.length):j4 k (P1 ds)=F1 ds k:=by
 subst h
 unfold F1
 exact C9 fun j hj=>by rw[if_pos hj]
theorem wU {xs:List Int} {i:Nat} (hi:xs.length<=i) (h:(s7 xs i).2=-1) (hb:bw (s7 xs i).1 i≠0):V3 (j4 i (P1 (s7 xs i).1)) true=g7 (val xs):=by
 rw[aJ W9.symm]; exact gK (jH hi h hb)
theorem wT {xs:List Int} {i:Nat} (hi:xs.length<=i) (h:(s7 xs i).2=-1) (hb:bw (s7 xs i).1 i=0):V3 (j4 i (P1 (s7 xs i).1)++[1]) true=g7 (val xs):=by
 rw[aJ W9.symm]; exact gK (jG hi h hb)
def GH (xs ys:List Int) (n:Nat):List Int:=j4 n fun i=>B2 xs i+B2 ys i
theorem mE {f g:Nat->Int}:∀{n:Nat},val (j4 n fun i=>f i+g i)=val (j4 n f)+val (j4 n g)
 | 0=>rfl
 | n+1=>by
  rw[F0,F0,F0,X3,X3,X3,mE,p8,p8,p8,Int.mul_add]; omega
theorem YT {xs:List Int}:∀{n:Nat},val (j4 n (B2 xs))=val (xs.take n)
 | 0=>rfl
 | n+1=>by rw[F0,X3,p8,YT,CJ]
theorem mX {xs ys:List Int} {n:Nat} (h1:xs.length<=n) (h2:ys.length<=n):val (GH xs ys n)=val xs+val ys:=by
 unfold GH
 rw[mE,YT,YT,List.take_of_length_le h1,List.take_of_length_le h2]
theorem mW {x y:Int} {n:Nat}:w7 (GH (g7 x) (g7 y) n):=fun i hi=>by
 unfold GH at hi ⊢
 rw[p8] at hi
 rw[q9 hi]
 have b:∀z:Int,∀j,-100000000<B2 (g7 z) j/\B2 (g7 z) j<100000000:=fun z j=>by
  unfold B2
  split
  ·rename_i hj
   rw[r9] at hj
   have:=(x9 z.natAbs).at (i:=j) hj
   unfold g7
   split
   ·rw[HA hj]; omega
   ·omega
  ·omega
 have:=b x i; have:=b y i
 omega
theorem EA {z:Int} {j:Nat} (hj:j<(g7 z).length):-100000000<b6 (g7 z) j/\b6 (g7 z) j<100000000:=by
 rw[r9] at hj
 have:=(x9 z.natAbs).at (i:=j) hj
 unfold g7
 split
 ·rw[HA hj]; omega
 ·omega
theorem fZ {x y:Int} (hx:-100000000<x/\x<100000000) (hy:-100000000<y/\y<100000000):-10000000000000000<=x*y/\x*y<=10000000000000000:=by
 have h:(x*y).natAbs<=100000000*100000000:=by rw[Int.natAbs_mul]; exact Nat.mul_le_mul zo zo
 omega
def P6 (xs ys:List Int) (i k:Nat):List Int:=List.replicate i 0++j4 k fun j=>b6 xs i*b6 ys j
theorem WE {xs ys:List Int} {i k:Nat}:(P6 xs ys i k).length=i+k:=by unfold P6; rw[List.length_append,List.length_replicate,p8]
theorem wF {xs ys:List Int} {i k:Nat}:P6 xs ys i k++[b6 xs i*b6 ys k]=P6 xs ys i (k+1):=by unfold P6; rw[F0,List.append_assoc]
theorem wH {xs ys:List Int} {i:Nat}:List.replicate i 0=P6 xs ys i 0:=by unfold P6; simp[j4]
theorem mC {c:Int} {ys:List Int}:∀{k:Nat},k<=ys.length->val (j4 k fun j=>c*b6 ys j)=c*val (ys.take k)
 | 0,_=>by simp[j4,val]
 | k+1,h=>by rw[F0,X3,p8,mC zo,CJ,T6 zo,Int.mul_add,Int.mul_left_comm]
theorem wG {xs ys:List Int} {i:Nat}:val (P6 xs ys i ys.length)=BP i*(b6 xs i*val ys):=by
 unfold P6
 rw[KG,SN,List.length_replicate,mC (Nat.le_refl _),List.take_length]; omega
theorem wE {x y:Int} {i k:Nat} (hi:i<(g7 x).length) (hk:k<=(g7 y).length):w7 (P6 (g7 x) (g7 y) i k):=fun j hj=>by
 rw[WE] at hj
 have hm:b6 (P6 (g7 x) (g7 y) i k) j∈P6 (g7 x) (g7 y) i k:=G1 (by rw[WE]; exact hj)
 unfold P6 at hm
 rcases List.mem_append.1 hm with h | h
 ·have e:=List.eq_of_mem_replicate h
  unfold P6; omega
 ·obtain ⟨q,hq,e⟩:=BT h
  unfold P6
  rw[p8] at hq
  rw[q9 hq] at e
  have:=fZ (EA hi) (EA (z:=y) (j:=q) zo)
  omega
theorem wJ {xs ys:List Int} {i:Nat} (h:i<xs.length):val (xs.take i)*val ys+val (P6 xs ys i ys.length)=val (xs.take (i+1))*val ys:=by
 rw[wG,CJ,T6 h,Int.add_mul,Int.mul_assoc]
theorem vI {a b:List Int} (ha:Nm a) (hb:Nm b) (h:a.length≠b.length):decide ((a.length:Int)<(b.length:Nat))=decide (val a<val b):=by
 rw[decide_eq_decide]
 rcases Nat.lt_or_gt_of_ne h with h1 | h1
 ·have:=OL ha hb h1
  omega
 ·have:=OL hb ha h1
  omega
theorem vH {a b:List Int} (ha:Dg a) (hb:Dg b) (hl:a.length=b.length) {i:Nat} (hi:i<a.length) (h:∀j,i<j->j<a.length->b6 a j=b6 b j) (hne:b6 a i≠b6 b i):decide (b6 a i<b6 b i)=decide (val a<val b):=by
 rw[decide_eq_decide]
 rcases Int.lt_or_gt_of_ne hne with h1 | h1
 ·have:=OK ha hb hl hi h h1
  omega
 ·have:=OK hb ha hl.symm zo (fun j h2 h3=>(h j h2 zo).symm) h1
  omega
theorem vG {a b:List Int} (hl:a.length=b.length) (h:∀j,0<=j->j<a.length->b6 a j=b6 b j):false=decide (val a<val b):=by
 rw[aK hl fun j hj=>h j (Nat.zero_le _) hj]
 exact (decide_eq_false (Int.lt_irrefl _)).symm
theorem tN {r x:Int} (hr:0<=r) (hx:0<=x/\x<100000000):j7 (x::d7 r.toNat)=d7 (r*100000000+x).toNat:=by
 refine DJ (fun y hy=>?_) ?_
 ·rcases List.mem_cons.1 hy with rfl | hy
  ·exact hx
  ·exact x9 _ y hy
 ·rw[val,y4]; omega
theorem tH {T n:Int} (_:0<n):(T-n*(T/n))=T%n:=by have:=Int.mul_ediv_add_emod T n; omega
theorem tL {T n m:Int} (hn:0<n) (h:¬T<n*m):m<=T/n:=Int.le_ediv_of_mul_le hn (by rw[Int.mul_comm]; omega)
theorem tK {T n m:Int} (hn:0<n) (h:T<n*m):T/n<=m-1:=by have:=Int.ediv_lt_of_lt_mul hn (show T<m*n by rw[Int.mul_comm]; exact h); omega
def SY (xs:List Int):Prop:=∀x∈xs,-100000000<x/\x<100000000
theorem Dg.sm {xs:List Int} (h:Dg xs):SY xs:=fun x hx=>by have:=h x hx; omega
theorem fT (z:Int):SY (g7 z):=fun x hx=>by
 obtain ⟨j,hj,rfl⟩:=BT hx
 exact EA hj
theorem OI {ds:List Int} (h:Dg ds) {k:Nat} (hk:k=ds.length):Dg (j4 k (P1 ds)):=fun x hx=>by
 obtain ⟨j,hj,rfl⟩:=BT hx
 rw[p8] at hj
 rw[q9 hj]; exact TS h zo
theorem ab8 {xs:List Int} {neg:Bool} {i:Nat} (hi:i<=(j7 xs).length) (hg:0<i->neg=true) (h:i<(j7 xs).length->neg=false):R1 (j7 xs) i=V3 xs neg:=by
 cases hn:neg with
 | true =>
  have e:i=(j7 xs).length:=by
   rcases Nat.lt_or_ge i (j7 xs).length with h1 | h1
   ·rw[h h1] at hn; cases hn
   ·omega
  rw[e]; exact ac0 rfl
 | false =>
  have e:i=0:=by
   rcases Nat.eq_zero_or_pos i with h1 | h1
   ·exact h1
   ·rw[hg h1] at hn; cases hn
  rw[e,<- WM]; exact ab9 rfl
theorem w7.take {xs:List Int} (h:w7 xs) (n:Nat):w7 (xs.take n):=fun j hj=>by
 rw[List.length_take] at hj
 rw[WT zo]; exact h j zo
theorem tM {m n:Nat} {o:List Int} {R:Int} {i:Nat} (h:M5 (d7 m) o (n:Int) (i+1) R) (hi:i<(d7 m).length):0<=R*100000000+b6 (d7 m) i/\0<=(R*100000000+b6 (d7 m) i)/n/\(R*100000000+b6 (d7 m) i)/n<100000000:=by
 have h1:=h.q (x9 m) hi
 have h2:=(x9 m).at hi
 have h3:=h.r0
 exact ⟨by omega,h1.1,h1.2.1⟩
theorem dH {m n:Nat} {o:List Int} {R:Int} (h:M5 (d7 m) o (n:Int) 0 R):j7 o=d7 (m/n)/\d7 R.toNat=d7 (m%n):=by
 have h1:=h.fin
 rw[y4] at h1
 refine ⟨h1.1,?_⟩
 rw[h1.2]
 congr 1
theorem tJ {T:Int} {n:Nat} (h:(T/n)<100000000) (hn:0<n) (h0:0<=T):dl T<=dl (n:Int)+1:=by
 refine O3 ?_
 have h1:=IT (n:Int)
 have h2:=Int.lt_mul_of_ediv_lt (show (0:Int)<n by omega) h
 rw[T8]
 have:(T.natAbs:Int)=T:=by omega
 omega
theorem tI {R:Int} {n:Nat} (h:0<=R/\R<n):dl R<=dl (n:Int):=M6 zo
theorem cU {z:Int} (h:0<=z):(d7 z.toNat).length=dl z:=by unfold dl; congr 2; omega
theorem uA {x y:Nat}:Nat.gcd y (x%y)=Nat.gcd x y:=by rw[Nat.gcd_comm,<- Nat.gcd_rec,Nat.gcd_comm]
theorem U8 {x:Int} (h:-9223372036854775808<=x/\x<=9223372036854775807):w7 [x]:=fun j hj=>by
 have e:j=0:=by simpa using hj
 subst e
 exact h
theorem UP {q:Nat}:(g7 (val (g7 (-val (d7 q)))-val [1])).length<=dl (q:Int)+2:=by
 rw[r9,q8,I4,y4,Int.sub_eq_add_neg]
 have h1:=P3 (-(q:Int)) (-1)
 rw[K4] at h1
 have h2:dl (-1)<=1:=J6 (F:=1) zo zo
 omega
theorem UQ {q:Nat}:(g7 (-val (d7 q))).length=dl (q:Int):=by rw[r9,y4,K4]
end Go.Fl

/- Contracts: integers of the reference of chapter 1. -/
namespace Go.Fl
open Go Go.Proofs
open b8 renaming op->tO
open j1 renaming op->rO
set_option maxRecDepth 100000

theorem UG (n:Int) (hn:-9223372036854775808<=n/\n<=9223372036854775807):Ct Tryz.prog 174 [kI n] (z9 [kI (n/100000000),kI (n%100000000)]):=by
 obtain ⟨hq1,hq2,hq3⟩:=NB n
 refine Ct.mk Tryz.func174 rfl Tryz.ntmps174 rfl (fun w J=>?_); refine m8 ?_; refine tO (BY rfl uu rfl uu (fun _=>zo)) rfl rfl ?_; refine i4 ?_; refine tO (EH rfl uu rfl uu (fun _=>zo)) rfl rfl ?_; refine y7 ?_; refine jq ?_ ?_
 ·intro h2
  refine u9 ?_; exact d9.res (fn:=Tryz.f174) (ts:=[2,3]) rfl rfl (.i rfl zo<|.i rfl zo<|.nil)
 ·intro h2
  replace h2:=Int.not_lt.1 h2
  refine y7 ?_; exact d9.res (fn:=Tryz.f174) (ts:=[2,3]) rfl rfl (.i rfl zo<|.i rfl zo<|.nil)

theorem UH (xs:List Int) (hn:xs.length<=10000000):Ct Tryz.prog 175 [b7 (eL eI) xs] (b7 (eL eI) (j7 xs)):=by
 refine Ct.mk Tryz.func175 rfl Tryz.ntmps175 rfl (fun w J=>?_); refine u9 ?_
 refine Tr.for (σ:=Nat) [⟨0,true,_,_⟩] [] (fun m=>[⟨3,true,[],kI (m:Int)⟩]) (fun m=>[]) (fun m=>m<=xs.length/\∀i,m<=i->i<xs.length->b6 xs i=0) (fun m=>m<=xs.length/\j7 xs=xs.take m) (fun m=>m) (xs.length) ⟨by omega,fun i h1 h2=>absurd h1 zo⟩ (d6.mk (.i rfl zi<|zk) (.nil) rfl) ?_ ?_
 ·rintro m ⟨hm,hz⟩
  refine jn ?_
  have e1:0<m->((m:Int)-1).toNat=m-1:=fun h=>by omega
  refine j3 ?_; refine b8.gd rfl rfl rfl (AP rfl id rfl uu (fun hp=>by simp at hp; omega)) rfl rfl ?_
  first | refine b8.gd rfl rfl rfl (F2 rfl id rfl id rfl (fun hp=>by simp at hp; omega)) rfl rfl ?_ | refine b8.gd rfl rfl rfl (BV rfl id rfl id rfl (fun hp=>by simp at hp; omega)) rfl rfl ?_
  refine l8 ?_; refine Tr.cnd rfl ?_ ?_
  ·intro h2
   try simp only[decide_eq_true_eq,Bool.and_eq_true] at h2
   refine m8 ?_
   exact g6.lp (m-1) ⟨by omega,fun i h3 h4=>by (by_cases e:i=m-1; subst e; rw[<- e1 zo]; exact h2.2; exact hz i zo h4)⟩ zo (d6.mk (.i rfl zi<|zk) (.nil) rfl)
  ·intro h2
   try simp only[decide_eq_true_eq,decide_eq_false_iff_not,Bool.and_eq_false_imp] at h2
   refine g8 ?_
   exact g6.cut (m) ⟨hm,FX hm hz (by by_cases e:m=0; exact .inl e; exact .inr (by rw[<- e1 zo]; exact h2 zo))⟩ (d6.mk (.i rfl zi<|zk) (.nil) rfl)
 ·rintro m ⟨hm,hE⟩
  refine jn ?_
  have htl:=R8 (xs:=xs)
  have hz0:([]:List Int).length=0:=rfl
  have htk:(xs.take m).length=m:=by rw[List.length_take]; omega
  have e2:((m:Nat):Int).toNat=m:=rfl
  refine g9 ?_; refine b8.new (Y5 eI 18) rfl rfl rfl rfl ?_; refine g9 ?_; refine tO (FS rfl uu rfl uu (fun _=>zo)) rfl rfl ?_; refine b8.app rfl rfl rfl rfl rfl rfl rfl rfl (by rw[e2]; omega) (by rw[e2]; omega) ?_; refine jl ?_; refine i7 ?_; refine Tr.frz 18 [2] ⟨rfl,trivial⟩ (by rw[e2]; simp only[p6]; omega) rfl ?_; refine i4 ?_; exact d9.res1 (fn:=Tryz.f175) rfl (.r rfl (by rw[List.nil_append,hE]; rfl)<|.nil)

theorem rT (xs:List Int) (hn:xs.length<=10000000):T9 Tryz.prog 175 [b7 (eL eI) xs] (fun t=>o5 t (j7 xs).length) (l3 false 3 eI (j7 xs) (j7 xs).length):=by
 refine T9.mk Tryz.func175 rfl Tryz.ntmps175 rfl (fun w J=>?_); refine u9 ?_
 refine Tr.for (σ:=Nat) [⟨0,true,_,_⟩] [] (fun m=>[⟨3,true,[],kI (m:Int)⟩]) (fun m=>[]) (fun m=>m<=xs.length/\∀i,m<=i->i<xs.length->b6 xs i=0) (fun m=>m<=xs.length/\j7 xs=xs.take m) (fun m=>m) (xs.length) ⟨by omega,fun i h1 h2=>absurd h1 zo⟩ (d6.mk (.i rfl zi<|zk) (.nil) rfl) ?_ ?_
 ·rintro m ⟨hm,hz⟩
  refine jn ?_
  have e1:0<m->((m:Int)-1).toNat=m-1:=fun h=>by omega
  refine j3 ?_; refine b8.gd rfl rfl rfl (AP rfl id rfl uu (fun hp=>by simp at hp; omega)) rfl rfl ?_
  first | refine b8.gd rfl rfl rfl (F2 rfl id rfl id rfl (fun hp=>by simp at hp; omega)) rfl rfl ?_ | refine b8.gd rfl rfl rfl (BV rfl id rfl id rfl (fun hp=>by simp at hp; omega)) rfl rfl ?_
  refine l8 ?_; refine Tr.cnd rfl ?_ ?_
  ·intro h2
   try simp only[decide_eq_true_eq,Bool.and_eq_true] at h2
   refine m8 ?_
   exact g6.lp (m-1) ⟨by omega,fun i h3 h4=>by (by_cases e:i=m-1; subst e; rw[<- e1 zo]; exact h2.2; exact hz i zo h4)⟩ zo (d6.mk (.i rfl zi<|zk) (.nil) rfl)
  ·intro h2
   try simp only[decide_eq_true_eq,decide_eq_false_iff_not,Bool.and_eq_false_imp] at h2
   refine g8 ?_
   exact g6.cut (m) ⟨hm,FX hm hz (by by_cases e:m=0; exact .inl e; exact .inr (by rw[<- e1 zo]; exact h2 zo))⟩ (d6.mk (.i rfl zi<|zk) (.nil) rfl)
 ·rintro m ⟨hm,hE⟩
  refine jn ?_
  have htl:=R8 (xs:=xs)
  have hz0:([]:List Int).length=0:=rfl
  have htk:(xs.take m).length=m:=by rw[List.length_take]; omega
  have e2:((m:Nat):Int).toNat=m:=rfl
  refine g9 ?_; refine b8.new (Y5 eI 18) rfl rfl rfl rfl ?_; refine g9 ?_; refine tO (FS rfl uu rfl uu (fun _=>zo)) rfl rfl ?_; refine b8.app rfl rfl rfl rfl rfl rfl rfl rfl (by rw[e2]; omega) (by rw[e2]; omega) ?_; refine jl ?_; refine g8 ?_; exact d9.resN (fn:=Tryz.f175) (u:=18) rfl rfl (GL (by rw[List.nil_append,hE]; rfl) (by rw[hE,e2]; omega)) (HI (by rw[hE,e2]; omega)) inferInstance

theorem OW (xs:List Int) (neg:Bool) (hn:xs.length<=10000000) (hx:SY xs):Ct Tryz.prog 176 [b7 (eL eI) xs,kB neg] (b7 (eL eI) (V3 xs neg)):=by
 have htl:=R8 (xs:=xs)
 refine Ct.mk Tryz.func176 rfl Tryz.ntmps176 rfl (fun w J=>?_); refine j3 ?_; refine b8.new (ED 8 (fun hp=>rT _ zo) (.a rfl uu<|.nil)) rfl rfl rfl rfl ?_; refine m8 ?_
 refine Tr.for1 (σ:=Nat) [⟨1,true,_,_⟩,⟨5,true,_,_⟩] [] (fun i=>[⟨6,true,[],kI (i:Int)⟩]) (fun i=>[⟨8,[],l3 false 3 eI (R1 (j7 xs) i) (j7 xs).length⟩]) (fun i=>i<=(j7 xs).length/\(0<i->neg=true)) (fun i=>i<=(j7 xs).length/\R1 (j7 xs) i=V3 xs neg) (fun i=>(j7 xs).length-i) (0) ⟨by omega,fun h=>absurd h zo⟩ (d6.mk (.i rfl zi<|zk) (.a WM zi<|.nil) rfl) ?_ ?_
 ·rintro i ⟨hi,hg⟩
  refine jn ?_
  have hat:=fun (h:i<(j7 xs).length)=>WL (ds:=j7 xs) (k:=i) h
  have hxi:=fun (h:i<(j7 xs).length)=>hx _ (SK (G1 h))
  refine l8 ?_; refine tO (S8 rfl uu) rfl rfl ?_; refine l6 ?_; refine Tr.cnd rfl ?_ ?_
  ·intro h3
   try simp only[decide_eq_true_eq,Bool.and_eq_true] at h3
   refine y7 ?_; refine tO (EF rfl uu (fun _=>zo)) rfl rfl ?_; refine u5 ?_
   exact g6.lp (i+1) ⟨by omega,fun _=>h3.2⟩ zo (d6.mk (.i rfl zi<|zk) (.a (gJ zo) zi<|.nil) rfl)
  ·intro h3
   try simp only[decide_eq_true_eq,Bool.and_eq_false_imp] at h3
   refine g8 ?_
   exact g6.cut (i) ⟨hi,ab8 hi hg (fun hh=>h3 zo)⟩ (d6.mk (.i rfl zi<|zk) (.a zi zi<|.nil) rfl)
 ·rintro i ⟨hi,hE⟩
  refine je ?_; refine j6 ?_; refine Tr.frz 8 [4] ⟨rfl,trivial⟩ (by simp only[p6]; omega) rfl ?_; refine i4 ?_; exact d9.res1 (fn:=Tryz.f176) rfl (.r rfl hE<|.nil)

set_option maxHeartbeats 1000000 in
theorem X6 (xs:List Int) (hx:w7 xs) (hn:xs.length<=1000000):Ct Tryz.prog 128 [b7 (eL eI) xs] (b7 (eL eI) (g7 (val xs))):=by
 have h1l:([1]:List Int).length=1:=rfl
 refine Ct.mk Tryz.func128 rfl Tryz.ntmps128 rfl (fun w J=>?_); refine VO ?_; refine Tr.grow (s:=3) rfl rfl 3 rfl 3 eI rfl ?_
 refine Tr.for1 (σ:=Nat) [⟨0,true,_,_⟩] [] (fun i=>[⟨5,true,[],kI (i:Int)⟩,⟨3,true,[3],o5 3 i⟩,⟨4,true,[],kI (s7 xs i).2⟩]) (fun i=>[⟨3,[],l3 true 3 eI (s7 xs i).1 i⟩]) (fun i=>i<=xs.length) (fun i=>i=xs.length) (fun i=>xs.length-i) (0) (Nat.zero_le _) (d6.mk (.i rfl zi<|.o rfl zi rfl<|.i rfl zi<|zk) (.a zi zi<|.nil) rfl) ?_ ?_
 ·intro i hR0
  refine jn ?_
  have hc1:=MT hx (i:=i)
  have hxx:=hx i
  have hs:=jF (xs:=xs) (i:=i)
  have hxi:=fun (h:i<xs.length)=>T6 h
  refine m8 ?_; refine jq ?_ ?_
  ·intro h4
   refine u5 ?_; refine tO (i6 (fun hp=>UG _ (by have:=hxx zo; omega)) (.a rfl uu<|.nil)) rfl rfl ?_; refine u9 ?_; refine tO (i6 (fun hp=>UG _ zo) (.a rfl uu<|.nil)) rfl rfl ?_; refine y7 ?_; refine b8.new (w4 eI 39 (fun hp=>.cons rfl<|.nil) rfl rfl rfl rfl) rfl rfl rfl rfl ?_; refine i4 ?_; refine jl ?_; refine S6 ?_
   exact g6.lp (i+1) zi zo (d6.mk (.i rfl zi<|.o rfl zi rfl<|.i rfl (by rw[<- hs.1,hxi zo])<|zk) (.a (by rw[s7,<- hs.2,hxi zo]) zi<|.nil) rfl)
  ·intro h4
   replace h4:=Int.not_lt.1 h4
   refine g8 ?_
   exact g6.cut (i) zo (d6.mk (.i rfl zi<|.o rfl zi rfl<|.i rfl zi<|zk) (.a zi zi<|.nil) rfl)
 ·rintro _ rfl
  refine je ?_; refine i4 ?_
  refine Tr.for (σ:=Nat) [] [] (fun i=>[⟨3,true,[3],o5 3 i⟩,⟨4,true,[],kI (s7 xs i).2⟩]) (fun i=>[⟨3,[],l3 true 3 eI (s7 xs i).1 i⟩]) (fun i=>xs.length<=i/\(i=xs.length\/(i=xs.length+1/\(s7 xs i).2.natAbs<=2000)\/(i=xs.length+2/\((s7 xs i).2=0\/(s7 xs i).2=-1)))) (fun i=>xs.length<=i/\((s7 xs i).2=0\/(s7 xs i).2=-1)/\i<=xs.length+2) (fun i=>xs.length+2-i) (xs.length) ⟨zo,zo⟩ (d6.mk (.o rfl zi rfl<|.i rfl zi<|.nil) (.a zi zi<|.nil) rfl) ?_ ?_
  ·rintro i ⟨hi,hm⟩
   refine jn ?_
   have hc1:=MT hx (i:=i)
   have hxo:=HS (xs:=xs) (i:=i) zo
   have hs2:(s7 xs (i+1)).2=(B2 xs i+(s7 xs i).2)/100000000:=rfl
   rw[hxo,Int.zero_add] at hs2
   have hrl:(s7 xs i).1.length=i:=W9
   refine y7 ?_; refine Tr.cnd rfl ?_ ?_
   ·intro h10
    try simp only[decide_eq_true_eq,Bool.and_eq_true,ne_eq] at h10
    refine l6 ?_; refine tO (i6 (fun hp=>UG _ zo) (.a rfl uu<|.nil)) rfl rfl ?_; refine y7 ?_; refine b8.new (w4 eI 57 (fun hp=>.cons rfl<|.nil) rfl rfl rfl rfl) rfl rfl rfl rfl ?_; refine i4 ?_; refine jl ?_; refine j3 ?_
    exact g6.lp (i+1) ⟨zo,zo⟩ zo (d6.mk (.o rfl zi rfl<|.i rfl hs2.symm<|.nil) (.a (by rw[s7,hxo,Int.zero_add]) zi<|.nil) rfl)
   ·intro h10
    try simp only[decide_eq_true_eq,decide_eq_false_iff_not,Bool.and_eq_false_imp,ne_eq,Classical.not_not] at h10
    refine g8 ?_
    exact g6.cut (i) ⟨hi,by omega,by omega⟩ (d6.mk (.o rfl zi rfl<|.i rfl zi<|.nil) (.a zi zi<|.nil) rfl)
  ·rintro i ⟨hi,hc,hb⟩
   refine jn ?_
   have hrl:(s7 xs i).1.length=i:=W9
   refine j6 ?_; refine jq ?_ ?_
   ·intro h14
    refine i7 ?_; refine b8.frz 3 [3,62] ⟨rfl,rfl,trivial⟩ (by simp only[p6]; omega) rfl ?_; refine jl ?_; refine tO (i6 (fun hp=>UH _ zo) (.a rfl uu<|.nil)) rfl rfl ?_; refine l8 ?_; exact d9.res1 (fn:=Tryz.f128) rfl (.r rfl (wV hi h14)<|.nil)
   ·intro h14
    refine FL ?_; refine Tr.grow (s:=12) rfl rfl 12 rfl 3 eI rfl ?_
    refine Tr.for1 (σ:=Nat) [⟨3,true,_,_⟩] [⟨3,_,_⟩] (fun k=>[⟨14,true,[],kI (k:Int)⟩,⟨12,true,[12],o5 12 k⟩,⟨13,true,[],kI (bw (s7 xs i).1 k)⟩]) (fun k=>[⟨12,[],l3 true 3 eI (j4 k (P1 (s7 xs i).1)) k⟩]) (fun k=>k<=i) (fun k=>k=i) (fun k=>i-k) (0) (Nat.zero_le _) (d6.mk (.i rfl zi<|.o rfl zi rfl<|.i rfl zi<|zk) (.a zi zi<|zk) rfl) ?_ ?_
    ·intro k hR2
     refine jn ?_
     have hl:(s7 xs i).1.length=i:=W9
     have hd:=fun (h:k<i)=>(Z0 (xs:=xs) (i:=i)).at (i:=k) zo
     have hb01:=KZ (ds:=(s7 xs i).1) (k:=k)
     have hbs:=TL (ds:=(s7 xs i).1) (k:=k)
     refine l8 ?_; refine tO (S8 rfl uu) rfl rfl ?_; refine i7 ?_; refine jq ?_ ?_
     ·intro h19
      refine u5 ?_; refine tO (EF rfl uu (fun _=>zo)) rfl rfl ?_; refine P5 ?_; refine jq ?_ ?_
      ·intro h23
       refine u5 ?_; refine b8.new (w4 eI 83 (fun hp=>.cons rfl<|.nil) rfl rfl rfl rfl) rfl rfl rfl rfl ?_; refine i4 ?_; refine jl ?_; refine m8 ?_
       exact g6.lp (k+1) zi zo (d6.mk (.i rfl zi<|.o rfl zi rfl<|.i rfl (by rw[hbs,if_pos h23])<|zk) (.a (by rw[F0]; congr 2; unfold P1; rw[if_pos h23]) zi<|zk) rfl)
      ·intro h23
       replace h23:=Int.not_lt.1 h23
       refine l8 ?_; refine b8.new (w4 eI 83 (fun hp=>.cons rfl<|.nil) rfl rfl rfl rfl) rfl rfl rfl rfl ?_; refine i4 ?_; refine jl ?_; refine m8 ?_
       exact g6.lp (k+1) zi zo (d6.mk (.i rfl zi<|.o rfl zi rfl<|.i rfl (by rw[hbs,if_neg zo])<|zk) (.a (by rw[F0]; congr 2; unfold P1; rw[if_neg zo]) zi<|zk) rfl)
     ·intro h19
      replace h19:=Int.not_lt.1 h19
      refine g8 ?_
      exact g6.cut (k) zo (d6.mk (.i rfl zi<|.o rfl zi rfl<|.i rfl zi<|zk) (.a zi zi<|zk) rfl)
    ·rintro _ rfl
     refine je ?_; refine j3 ?_; refine jq ?_ ?_
     ·intro h26
      refine g9 ?_; refine b8.new (w4 eI 88 (fun hp=>.cons rfl<|.nil) rfl rfl rfl rfl) rfl rfl rfl rfl ?_; refine i4 ?_; refine jl ?_; refine l6 ?_; refine b8.frz 12 [12,89,90] ⟨rfl,rfl,rfl,trivial⟩ (by simp only[p6]; omega) rfl ?_; refine jl ?_
      refine tO (i6 (fun hp=>OW _ true (by first | (rw[p8]; omega) | (rw[List.length_append,p8]; omega)) (by first | exact (OI Z0 W9.symm).sm | exact ((OI Z0 W9.symm).snoc zo zo).sm)) (.a rfl uu<|.a rfl uu<|.nil)) rfl rfl ?_
      refine g8 ?_; exact d9.res1 (fn:=Tryz.f128) rfl (.r rfl (wT hi zo zo)<|.nil)
     ·intro h26
      refine l8 ?_; refine b8.frz 12 [12,90] ⟨rfl,rfl,trivial⟩ (by simp only[p6]; omega) rfl ?_; refine jl ?_
      refine tO (i6 (fun hp=>OW _ true (by first | (rw[p8]; omega) | (rw[List.length_append,p8]; omega)) (by first | exact (OI Z0 W9.symm).sm | exact ((OI Z0 W9.symm).snoc zo zo).sm)) (.a rfl uu<|.a rfl uu<|.nil)) rfl rfl ?_
      refine g8 ?_; exact d9.res1 (fn:=Tryz.f128) rfl (.r rfl (wU hi zo zo)<|.nil)

end Go.Fl

/- Contracts: integers of the reference of chapter 1 (signs, sums, products). -/
namespace Go.Fl
open Go Go.Proofs
open b8 renaming op->tO
open j1 renaming op->rO
set_option maxRecDepth 100000

theorem IM (z:Int):Ct Tryz.prog 129 [b7 (eL eI) (g7 z)] (kB (decide (z<0))):=by
 refine Ct.mk Tryz.func129 rfl Tryz.ntmps129 rfl (fun w J=>?_); refine Tr.fact (s:=0) rfl (fun _ _ h=>U9 h) (fun hb=>?_); refine C7 ?_; refine b8.gd rfl rfl rfl (AP rfl id rfl uu (fun hp=>by simp at hp; omega)) rfl rfl ?_
 first | refine b8.gd rfl rfl rfl (F2 rfl id rfl id rfl (fun hp=>by simp at hp; omega)) rfl rfl ?_ | refine b8.gd rfl rfl rfl (BV rfl id rfl id rfl (fun hp=>by simp at hp; omega)) rfl rfl ?_
 refine j6 ?_; exact d9.res1 (fn:=Tryz.f129) rfl (.b rfl (wO fun h=>vS h)<|.nil)

theorem LI (z:Int) (hn:dl z<=10000000):Ct Tryz.prog 178 [b7 (eL eI) (g7 z)] (b7 (eL eI) (d7 z.natAbs)):=by
 refine Ct.mk Tryz.func178 rfl Tryz.ntmps178 rfl (fun w J=>?_); refine m8 ?_; refine tO (i6 (fun hp=>IM _) (.a rfl uu<|.nil)) rfl rfl ?_; refine tO (i6 (fun hp=>OW _ _ (by rw[r9]; exact hn) (fT z)) (.a rfl uu<|.a rfl uu<|.nil)) rfl rfl ?_; refine g8 ?_; exact d9.res1 (fn:=Tryz.f178) rfl (.r rfl (ac2 z)<|.nil)

theorem rY (a b:List Int) (ha:Nm a) (hb:Nm b) (hm:a.length<=10000000) (_:b.length<=10000000):Ct Tryz.prog 198 [b7 (eL eI) a,b7 (eL eI) b] (kB (decide (val a<val b))):=by
 refine Ct.mk Tryz.func198 rfl Tryz.ntmps198 rfl (fun w J=>?_); refine L4 ?_; refine jq ?_ ?_
 ·intro h1
  refine u9 ?_; exact d9.res1 (fn:=Tryz.f198) rfl (.b rfl (vI ha hb zo)<|.nil)
 ·intro h1
  replace h1:=Classical.not_not.1 h1
  refine y7 ?_
  refine Tr.for1 (σ:=Nat) [⟨0,true,_,_⟩,⟨1,true,_,_⟩] [] (fun i=>[⟨5,true,[],kI ((i:Int)-1)⟩]) (fun i=>[]) (fun i=>i<=a.length/\∀j,i<=j->j<a.length->b6 a j=b6 b j) (fun i=>i=0/\∀j,i<=j->j<a.length->b6 a j=b6 b j) (fun i=>i) (a.length) ⟨by omega,fun j h1 h2=>absurd h1 zo⟩ (d6.mk (.i rfl zi<|zk) (.nil) rfl) ?_ ?_
  ·rintro i ⟨hi,hR⟩
   refine jn ?_
   have e1:((i:Int)-1).toNat=i-1:=by omega
   refine j6 ?_; refine jq ?_ ?_
   ·intro h4
    refine l8 ?_; refine Tr.draw 8 n8 (by kernel_rfl) ?_; refine u9 ?_; refine jq ?_ ?_
    ·intro h6
     refine i4 ?_; refine Tr.draw 8 n8 (by kernel_rfl) ?_; refine JA ?_; exact d9.res1 (fn:=Tryz.f198) rfl (.b rfl (by rw[e1]; exact vH ha.dg hb.dg zo zo (fun j h1 h2=>hR j zo h2) (by rw[<- e1]; exact h6))<|.nil)
    ·intro h6
     replace h6:=Classical.not_not.1 h6
     refine j3 ?_
     exact g6.lp (i-1) ⟨by omega,fun j h1 h2=>by (by_cases e:j=i-1; subst e; rw[<- e1]; exact h6; exact hR j zo h2)⟩ zo (d6.mk (.i rfl zi<|zk) (.nil) rfl)
   ·intro h4
    replace h4:=Int.not_le.1 h4
    refine g8 ?_
    exact g6.cut (i) ⟨by omega,hR⟩ (d6.mk (.i rfl zi<|zk) (.nil) rfl)
  ·rintro i ⟨hi,hR⟩
   refine je ?_; refine j6 ?_; exact d9.res1 (fn:=Tryz.f198) rfl (.b rfl (by subst hi; exact vG zo hR)<|.nil)

set_option maxHeartbeats 1000000 in
theorem DR (xs ys:List Int) (hx:w7 xs) (hy:w7 ys) (hn:xs.length<=900000) (hm:ys.length<=900000):Ct Tryz.prog 122 [b7 (eL eI) xs,b7 (eL eI) ys] (b7 (eL eI) (g7 (val xs+val ys))):=by
 have hdx:=M7 hx
 have hdy:=M7 hy
 have hlx:=r9 (val xs)
 have hly:=r9 (val ys)
 refine Ct.mk Tryz.func122 rfl Tryz.ntmps122 rfl (fun w J=>?_); refine j3 ?_; refine tO (i6 (fun hp=>X6 _ (by assumption) zo) (.a rfl uu<|.nil)) rfl rfl ?_; refine i4 ?_; refine tO (i6 (fun hp=>X6 _ (by assumption) zo) (.a rfl uu<|.nil)) rfl rfl ?_; refine L4 ?_; refine Tr.grow (s:=5) rfl rfl 5 rfl 3 eI rfl ?_
 refine Tr.for1 (σ:=Nat) [⟨0,true,_,_⟩,⟨1,true,_,_⟩] [] (fun i=>[⟨5,true,[5],o5 5 i⟩,⟨6,true,[],kI (i:Int)⟩]) (fun i=>[⟨5,[],l3 true 3 eI (GH (g7 (val xs)) (g7 (val ys)) i) i⟩]) (fun i=>i<=max (g7 (val xs)).length (g7 (val ys)).length) (fun i=>i=max (g7 (val xs)).length (g7 (val ys)).length) (fun i=>max (g7 (val xs)).length (g7 (val ys)).length-i) (0) zo (d6.mk (.o rfl zi rfl<|.i rfl zi<|zk) (.a zi zi<|.nil) rfl) ?_ ?_
 ·intro i hR0
  refine jn ?_
  have hbx:=fun (h:i<(g7 (val xs)).length)=>EA h
  have hby:=fun (h:i<(g7 (val ys)).length)=>EA h
  have hxi:=fun (h:i<(g7 (val xs)).length)=>T6 h
  have hyi:=fun (h:i<(g7 (val ys)).length)=>T6 h
  have hxo:=fun (h:¬i<(g7 (val xs)).length)=>HS h
  have hyo:=fun (h:¬i<(g7 (val ys)).length)=>HS h
  refine L4 ?_; refine Tr.cnd rfl ?_ ?_
  ·intro h4
   try simp only[decide_eq_true_eq,Bool.or_eq_true] at h4
   refine m8 ?_; refine Tr.meet2 (σ:=Unit) [⟨0,true,_,_⟩,⟨1,true,_,_⟩,⟨5,true,_,_⟩,⟨6,true,_,_⟩] [⟨5,_,_⟩] (zk) (zk) (fun _=>[⟨7,true,[],kI (B2 (g7 (val xs)) i)⟩]) (fun _=>[]) (fun _=>True) ?_ ?_
   ·skip
    refine j3 ?_; refine jq ?_ ?_
    ·intro h7
     refine j6 ?_
     exact g6.cut (()) zi (d6.mk (.i rfl (hxi zo).symm<|zk) (zk) rfl)
    ·intro h7
     replace h7:=Int.not_lt.1 h7
     refine i4 ?_
     exact g6.cut (()) zi (d6.mk (.i rfl (hxo zo).symm<|zk) (zk) rfl)
   ·intro _ hM
    refine jn ?_; refine Tr.meet2 (σ:=Unit) [⟨0,true,_,_⟩,⟨1,true,_,_⟩,⟨5,true,_,_⟩,⟨6,true,_,_⟩] [⟨5,_,_⟩] (zk) (zk) (fun _=>[⟨7,true,[],kI (B2 (g7 (val xs)) i+B2 (g7 (val ys)) i)⟩]) (fun _=>[]) (fun _=>True) ?_ ?_
    ·skip
     refine j3 ?_; refine jq ?_ ?_
     ·intro h9
      refine i4 ?_
      have hxb:-100000000<B2 (g7 (val xs)) i/\B2 (g7 (val xs)) i<100000000:=by (by_cases hh:i<(g7 (val xs)).length; rw[hxi hh]; exact hbx hh; rw[hxo hh]; omega)
      refine j3 ?_
      exact g6.cut (()) zi (d6.mk (.i rfl (by rw[hyi zo])<|zk) (zk) rfl)
     ·intro h9
      replace h9:=Int.not_lt.1 h9
      refine i4 ?_
      exact g6.cut (()) zi (d6.mk (.i rfl (by rw[hyo zo,Int.add_zero])<|zk) (zk) rfl)
    ·intro _ hM
     refine jn ?_; refine i7 ?_; refine b8.new (w4 eI 44 (fun hp=>.cons rfl<|.nil) rfl rfl rfl rfl) rfl rfl rfl rfl ?_; refine i4 ?_; refine jl ?_; refine m8 ?_
     exact g6.lp (i+1) zo zo (d6.mk (.o rfl zi rfl<|.i rfl zi<|zk) (.a (by unfold GH; rw[F0]) zi<|.nil) rfl)
  ·intro h4
   try simp only[decide_eq_false_iff_not,Bool.or_eq_false_iff,Int.not_lt] at h4
   refine g8 ?_
   exact g6.cut (i) zo (d6.mk (.o rfl zi rfl<|.i rfl zi<|zk) (.a zi zi<|.nil) rfl)
 ·rintro _ rfl
  refine je ?_
  have hxl:=Nat.le_max_left (g7 (val xs)).length (g7 (val ys)).length
  have hyl:=Nat.le_max_right (g7 (val xs)).length (g7 (val ys)).length
  have hal:(GH (g7 (val xs)) (g7 (val ys)) (max (g7 (val xs)).length (g7 (val ys)).length)).length=max (g7 (val xs)).length (g7 (val ys)).length:=p8
  refine g8 ?_; refine b8.frz 5 [5,46] ⟨rfl,rfl,trivial⟩ (by simp only[p6]; omega) rfl ?_; refine jl ?_; refine tO (i6 (fun hp=>X6 _ mW zo) (.a rfl uu<|.nil)) rfl rfl ?_; refine g8 ?_; exact d9.res1 (fn:=Tryz.f122) rfl (.r rfl (by rw[mX hxl hyl,q8,q8])<|.nil)

theorem FE (xs:List Int) (hx:w7 xs) (hn:xs.length<=1000000):Ct Tryz.prog 136 [b7 (eL eI) xs] (b7 (eL eI) (g7 (-val xs))):=by
 have hdx:=M7 hx
 refine Ct.mk Tryz.func136 rfl Tryz.ntmps136 rfl (fun w J=>?_); refine j3 ?_; refine tO (i6 (fun hp=>X6 _ (by assumption) zo) (.a rfl uu<|.nil)) rfl rfl ?_; refine tO (i6 (fun hp=>OW _ true (by rw[r9]; omega) (fT _)) (.a rfl uu<|.a rfl uu<|.nil)) rfl rfl ?_; refine g8 ?_; exact d9.res1 (fn:=Tryz.f136) rfl (.r rfl (ac1 _)<|.nil)

theorem LG (xs ys:List Int) (hx:w7 xs) (hy:w7 ys) (hn:xs.length<=800000) (hm:ys.length<=800000):Ct Tryz.prog 145 [b7 (eL eI) xs,b7 (eL eI) ys] (b7 (eL eI) (g7 (val xs-val ys))):=by
 have hdx:=M7 hx
 have hdy:=M7 hy
 have hlx:=r9 (val xs)
 have hly:=r9 (val ys)
 refine Ct.mk Tryz.func145 rfl Tryz.ntmps145 rfl (fun w J=>?_); refine m8 ?_; refine tO (i6 (fun hp=>FE _ (by assumption) zo) (.a rfl uu<|.nil)) rfl rfl ?_; refine tO (i6 (fun hp=>DR xs (g7 (-val ys)) (by assumption) (v5 _) zo (by rw[r9,K4]; omega)) (.a rfl uu<|.a rfl uu<|.nil)) rfl rfl ?_; refine g8 ?_; exact d9.res1 (fn:=Tryz.f145) rfl (.r rfl (by rw[q8,Int.sub_eq_add_neg])<|.nil)

set_option maxHeartbeats 1000000 in
theorem I8 (xs ys:List Int) (hx:w7 xs) (hy:w7 ys) (hn:xs.length<=400000) (hm:ys.length<=400000):Ct Tryz.prog 123 [b7 (eL eI) xs,b7 (eL eI) ys] (b7 (eL eI) (g7 (val xs*val ys))):=by
 have hdx:=M7 hx
 have hdy:=M7 hy
 have hlx:=r9 (val xs)
 have hly:=r9 (val ys)
 refine Ct.mk Tryz.func123 rfl Tryz.ntmps123 rfl (fun w J=>?_); refine j3 ?_; refine tO (i6 (fun hp=>X6 _ (by assumption) zo) (.a rfl uu<|.nil)) rfl rfl ?_; refine i4 ?_; refine tO (i6 (fun hp=>X6 _ (by assumption) zo) (.a rfl uu<|.nil)) rfl rfl ?_; refine L4 ?_
 refine Tr.for1 (σ:=Nat) [⟨0,true,_,_⟩,⟨1,true,_,_⟩] [] (fun i=>[⟨6,true,[],kI (i:Int)⟩,⟨5,true,[],b7 (eL eI) (g7 (val ((g7 (val xs)).take i)*val (g7 (val ys))))⟩]) (fun i=>[]) (fun i=>i<=(g7 (val xs)).length) (fun i=>i=(g7 (val xs)).length) (fun i=>(g7 (val xs)).length-i) (0) (Nat.zero_le _) (d6.mk (.i rfl zi<|.n rfl (by simp[val,vW])<|zk) (.nil) rfl) ?_ ?_
 ·intro i hR0
  refine jn ?_
  have hbx:=fun (h:i<(g7 (val xs)).length)=>EA h
  have hdo:=s9 (val ((g7 (val xs)).take i)) (val (g7 (val ys)))
  have hdt:=M7 ((v5 (val xs)).take i)
  have htl:((g7 (val xs)).take i).length<=i:=by rw[List.length_take]; omega
  have hdv:dl (val (g7 (val ys)))=dl (val ys):=by rw[q8]
  refine m8 ?_; refine jq ?_ ?_
  ·intro h4
   refine j6 ?_; refine b8.new (BX eI 20 rfl uu rfl uu rfl rfl rfl (fun _=>zo)) rfl rfl rfl rfl ?_; refine m8 ?_
   refine Tr.for1 (σ:=Nat) [⟨0,true,_,_⟩,⟨1,true,_,_⟩,⟨5,true,_,_⟩,⟨6,true,_,_⟩] [] (fun k=>[⟨8,true,[],kI (k:Int)⟩,⟨7,true,[20],o5 20 (i+k)⟩]) (fun k=>[⟨20,[],l3 false 3 eI (P6 (g7 (val xs)) (g7 (val ys)) i k) (i+k)⟩]) (fun k=>k<=(g7 (val ys)).length) (fun k=>k=(g7 (val ys)).length) (fun k=>(g7 (val ys)).length-k) (0) (Nat.zero_le _) (d6.mk (.i rfl zi<|.o rfl zi rfl<|zk) (.a wH zi<|.nil) rfl) ?_ ?_
   ·intro k hR1
    refine jn ?_
    have hby:=fun (h:k<(g7 (val ys)).length)=>EA h
    have hb:=fun (h:i<(g7 (val xs)).length) (h2:k<(g7 (val ys)).length)=>fZ (EA h) (EA h2)
    refine m8 ?_; refine jq ?_ ?_
    ·intro h8
     refine g8 ?_; refine Tr.draw 11 n8 (by kernel_rfl) ?_
     have hbb:=hb zo zo
     refine u5 ?_; refine j1.new (w4 eI 37 (fun hp=>.cons rfl<|.nil) rfl rfl rfl rfl) rfl rfl rfl rfl ?_; refine g9 ?_; refine jl ?_; refine m8 ?_
     exact g6.lp (k+1) zi zo (d6.mk (.i rfl zi<|.o rfl zi rfl<|zk) (.a wF zi<|.nil) rfl)
    ·intro h8
     replace h8:=Int.not_lt.1 h8
     refine g8 ?_
     exact g6.cut (k) zo (d6.mk (.i rfl zi<|.o rfl zi rfl<|zk) (.a zi zi<|.nil) rfl)
   ·rintro _ rfl
    refine je ?_
    have hrl:=WE (xs:=(g7 (val xs))) (ys:=(g7 (val ys))) (i:=i) (k:=(g7 (val ys)).length)
    refine g8 ?_; refine b8.frz 20 [7,40] ⟨rfl,rfl,trivial⟩ (by simp only[p6]; omega) rfl ?_; refine jl ?_; refine tO (i6 (fun hp=>DR _ (P6 (g7 (val xs)) (g7 (val ys)) i (g7 (val ys)).length) (v5 _) (wE zo (Nat.le_refl _)) (by rw[r9]; omega) (by rw[hrl]; omega)) (.a rfl uu<|.a rfl uu<|.nil)) rfl rfl ?_; refine m8 ?_
    exact g6.lp (i+1) zi zo (d6.mk (.i rfl zi<|.r rfl (by rw[q8,wJ zo])<|zk) (.nil) rfl)
  ·intro h4
   replace h4:=Int.not_lt.1 h4
   refine g8 ?_
   exact g6.cut (i) zo (d6.mk (.i rfl zi<|.r rfl zi<|zk) (.nil) rfl)
 ·rintro _ rfl
  refine je ?_
  have hfin:val ((g7 (val xs)).take (g7 (val xs)).length)=val xs:=by rw[List.take_length,q8]
  refine g8 ?_; refine tO (i6 (fun hp=>X6 _ (v5 _) (by rw[r9,hfin,q8]; have:=s9 (val xs) (val ys); omega)) (.a rfl uu<|.nil)) rfl rfl ?_; refine g8 ?_; exact d9.res1 (fn:=Tryz.f123) rfl (.r rfl (by rw[hfin,q8,q8])<|.nil)

theorem BI (xs:List Int) (hx:w7 xs) (hn:xs.length<=1000000):Ct Tryz.prog 75 [b7 (eL eI) xs] (kI (r7 (val xs) 0)):=by
 have hl0:=VZ (z:=val xs)
 refine Ct.mk Tryz.func75 rfl Tryz.ntmps75 rfl (fun w J=>?_); refine j3 ?_; refine tO (i6 (fun hp=>X6 _ (by assumption) zo) (.a rfl uu<|.nil)) rfl rfl ?_; refine y7 ?_; refine jq ?_ ?_
 ·intro h2
  refine j6 ?_; exact d9.res1 (fn:=Tryz.f75) rfl (.i rfl (OJ zo).symm<|.nil)
 ·intro h2
  refine l6 ?_; refine tO (i6 (fun hp=>IM _) (.a rfl uu<|.nil)) rfl rfl ?_; refine g9 ?_; refine Tr.cnd rfl ?_ ?_
  ·intro h4
   refine j6 ?_; exact d9.res1 (fn:=Tryz.f75) rfl (.i rfl (GN (of_decide_eq_true h4)).symm<|.nil)
  ·intro h4
   refine j3 ?_; exact d9.res1 (fn:=Tryz.f75) rfl (.i rfl (GM (by have:=of_decide_eq_false h4; omega)).symm<|.nil)

end Go.Fl

/- Contracts: the rational field is one. -/
namespace Go.Fl
open Go Go.Proofs
open b8 renaming op->tO
open j1 renaming op->rO
set_option maxRecDepth 100000

abbrev u8:=List Int×Int×Int×Int
def z7:i8 u8:=eC (fun v:u8=>(v.1,v.2.1,v.2.2.1,v.2.2.2,())) (eP (eL eI) (eP eI (eP eI (eP eI eU))))
instance {v:u8}:E5 (b7 z7 v) [b7 (eL eI) (v.1),kI (v.2.1),kI (v.2.2.1),kI (v.2.2.2)]:=inferInstanceAs (E5 (b7 (eC (fun v:u8=>(v.1,v.2.1,v.2.2.1,v.2.2.2,())) (eP (eL eI) (eP eI (eP eI (eP eI eU))))) v) _)
instance {v:u8} {tl:List d5}:H1 z7 v tl (b7 (eL eI) (v.1)::kI (v.2.1)::kI (v.2.2.1)::kI (v.2.2.2)::tl):=inferInstanceAs (H1 (eC (fun v:u8=>(v.1,v.2.1,v.2.2.1,v.2.2.2,())) (eP (eL eI) (eP eI (eP eI (eP eI eU))))) v tl _)
instance {v:u8}:P0 z7 v (b7 z7 v):=⟨fun h=>h⟩
instance {v:u8}:v7 z7 v 0 (eL eI) (v.1) 0:=inferInstanceAs (v7 (eC (fun v:u8=>(v.1,v.2.1,v.2.2.1,v.2.2.2,())) (eP (eL eI) (eP eI (eP eI (eP eI eU))))) v 0 _ _ _)
instance {v:u8}:v7 z7 v 1 eI (v.2.1) 1:=inferInstanceAs (v7 (eC (fun v:u8=>(v.1,v.2.1,v.2.2.1,v.2.2.2,())) (eP (eL eI) (eP eI (eP eI (eP eI eU))))) v 1 _ _ _)
instance {v:u8}:v7 z7 v 2 eI (v.2.2.1) 2:=inferInstanceAs (v7 (eC (fun v:u8=>(v.1,v.2.1,v.2.2.1,v.2.2.2,())) (eP (eL eI) (eP eI (eP eI (eP eI eU))))) v 2 _ _ _)
instance {v:u8}:v7 z7 v 3 eI (v.2.2.2) 3:=inferInstanceAs (v7 (eC (fun v:u8=>(v.1,v.2.1,v.2.2.1,v.2.2.2,())) (eP (eL eI) (eP eI (eP eI (eP eI eU))))) v 3 _ _ _)
instance {ks r:List d5} {a:List Int} {b c d:Int} [h:t9 ks (eP (eL eI) (eP eI (eP eI (eP eI eU)))) (a,b,c,d,()) r]:t9 ks z7 ((a,b,c,d)) r:=⟨fun h'=>h.imp h'⟩
def JX:u8:=([0,1],0,0,1)
def BZ (c:Int):Bool:=!decide (-1000<=c/\c<=1000)
theorem pB (xs:List Int) (f:FuncId) (q:Int->Bool) [d8 Tryz.prog f] (hf:∀x,Ct Tryz.prog f [kI x] (kB (q x))):Ct Tryz.prog 149 [b7 (eL eI) xs,i9 (.func (.func f) #[] #[])] (kI (FJ q xs)):=by
 refine Ct.mk Tryz.func149 rfl Tryz.ntmps149 rfl (fun w J=>?_); refine Tr.fact (s:=0) rfl (fun _ _ h=>U9 h) (fun hb=>?_); refine D2 ?_
 refine Tr.for1 (σ:=Nat) [⟨0,true,_,_⟩,⟨1,true,_,_⟩,⟨7,true,_,_⟩] [] (fun k=>[⟨8,true,[],kI (k:Int)⟩]) (fun k=>[]) (fun k=>k<=xs.length/\∀i,i<k->q (b6 xs i)=false) (fun k=>∀i,i<xs.length->q (b6 xs i)=false) (fun k=>xs.length-k) (0) ⟨by omega,fun i h=>absurd h zo⟩ (d6.mk (.i rfl zi<|zk) (.nil) rfl) ?_ ?_
 ·rintro k ⟨hk,hR⟩
  refine jn ?_; refine l6 ?_; refine jq ?_ ?_
  ·intro h2
   refine P5 ?_; refine tO (JN rfl uu (fun hp=>hf _) (.a rfl uu<|.nil)) rfl rfl ?_; refine g9 ?_; refine Tr.cnd rfl ?_ ?_
   ·intro h4
    refine D2 ?_; exact d9.res1 (fn:=Tryz.f149) rfl (.i rfl (eM zo hR h4)<|.nil)
   ·intro h4
    refine j6 ?_
    exact g6.lp (k+1) ⟨by omega,fun i hi=>by (rcases Nat.lt_succ_iff_lt_or_eq.1 hi with h | h; exact hR i h; subst h; exact h4)⟩ zo (d6.mk (.i rfl zi<|zk) (.nil) rfl)
  ·intro h2
   replace h2:=Int.not_lt.1 h2
   refine g8 ?_
   exact g6.cut (k) (fun i hi=>hR i zo) (d6.mk (.i rfl zi<|zk) (.nil) rfl)
 ·intro k hE
  refine je ?_; refine j6 ?_; exact d9.res1 (fn:=Tryz.f149) rfl (.i rfl (eN hE)<|.nil)

theorem oY (xs:List Int) (f:FuncId) (q:Int->Bool) [d8 Tryz.prog f] (hf:∀x,Ct Tryz.prog f [kI x] (kB (q x))):Ct Tryz.prog 99 [b7 (eL eI) xs,i9 (.func (.func f) #[] #[])] (kB (xs.any q)):=by
 refine Ct.mk Tryz.func99 rfl Tryz.ntmps99 rfl (fun w J=>?_); refine m8 ?_; refine tO (i6 (fun hp=>pB _ f q hf) (.a rfl uu<|.a rfl uu<|.nil)) rfl rfl ?_; refine l8 ?_; exact d9.res1 (fn:=Tryz.f99) rfl (.b rfl eQ<|.nil)

theorem IL (n a b:Int):Ct Tryz.prog 186 [kI n,kI a,kI b] (kB (decide (a<=n/\n<=b))):=by
 refine Ct.mk Tryz.func186 rfl Tryz.ntmps186 rfl (fun w J=>?_); refine IZ ?_; exact d9.res1 (fn:=Tryz.f186) rfl (.b rfl (by symm; exact Bool.decide_and _ _)<|.nil)

theorem pV (c:Int):Ct Tryz.prog 187 [kI c] (kB (BZ c)):=by
 refine Ct.mk Tryz.func187 rfl Tryz.ntmps187 rfl (fun w J=>?_); refine j3 ?_; refine tO (i6 (fun hp=>IL _ _ _) (.a rfl uu<|.a rfl uu<|.a rfl uu<|.nil)) rfl rfl ?_; refine l8 ?_; exact d9.res1 (fn:=Tryz.f187) rfl (.b rfl (by rfl)<|.nil)

theorem rG  : Ct Tryz.prog 112 [] (b7 z7 JX):=by
 refine Ct.mk Tryz.func112 rfl Tryz.ntmps112 rfl (fun w J=>?_); refine g9 ?_; refine ja 0 ?_; refine g8 ?_; refine b8.new (w4 eI 1 (fun hp=>.cons rfl<|.cons rfl<|.nil) rfl rfl rfl rfl) rfl rfl rfl rfl ?_; refine tO (A1 (fun hp=>.cons rfl rfl rfl<|.cons rfl rfl rfl<|.nil)) rfl rfl ?_; refine i7 ?_; refine Tr.frzC 1 0 (by simp only[p6]; omega) rfl rfl ?_; refine i4 ?_; exact d9.resC1 (fn:=Tryz.f112) rfl rfl (t7 rfl (by rfl))

end Go.Fl

/- Integers of any size in arrays of the call's own: loads and stores at any place. -/
namespace Go.Fl
open Go Go.RowKit
set_option maxRecDepth 100000
def eZ:i8 Int:=eC wh eW
instance {z:Int}:P0 eZ z (b7 eW (wh z)):=⟨fun h=>h⟩
instance {z:Int} {tl:List d5}:H1 eZ z tl (kB (decide (z<0))::b7 (eL eI) (d7 z.natAbs)::tl):=⟨fun h h'=>(inferInstance:H1 eW (wh z) tl (kB (decide (z<0))::b7 (eL eI) (d7 z.natAbs)::tl)).imp h h'⟩
instance {z:Int} {r:List d5}:t9 (kB (decide (z<0))::b7 (eL eI) (d7 z.natAbs)::r) eZ z r:=⟨fun h=>(inferInstance:t9 (kB (decide (z<0))::b7 (eL eI) (d7 z.natAbs)::r) eW (decide (z<0),d7 z.natAbs) r).imp h⟩
instance {z:Int}:GF (b7 eW (wh z)) eZ z:=⟨fun h=>⟨h.cells,eW.all1 h.cells⟩⟩
instance {r:List d5}:t9 (kB false::i9 (.slice none 0 0)::r) eZ 0 r:=⟨fun h=>(inferInstance:t9 (kB false::i9 (.slice none 0 0)::r) eW (false,[]) r).imp h⟩
def wC (f:Nat->Int):Nat->Nat->List d5
 | _,0=>[]
 | i,m+1=>kB (decide (f i<0))::b7 (eL eI) (d7 (f i).natAbs)::wC f (i+1) m
theorem SO {f:Nat->Int}:∀{m i:Nat},(wC f i m).length=m*2
 | 0,_=>rfl
 | m+1,i=>by simp only[wC,List.length_cons,SO (m:=m)]; omega
instance {f:Nat->Int} {i m:Nat}:C1 (wC f i m) []:=⟨by
 intro g g' vs hl _ h
 induction m generalizing i vs with
 | zero=>cases vs with
  | nil=>trivial
  | cons=>exact h.elim
 | succ m ih=>match vs,h with
  | v::u::vs,⟨h1,h2,h3⟩=>exact ⟨h1,o7.dep (k:=b7 (eL eI) _) (g:=g) hl (fun _ h=>by cases h) h2,ih h3⟩⟩
theorem OA {g:Gh}:∀{ks ls:List d5} {vs:List Value},o4 g (ks++ls) vs->∃v1 v2,vs=v1++v2/\o4 g ks v1/\o4 g ls v2
 | [],_,vs,h=>⟨[],vs,rfl,trivial,h⟩
 | _::_,_,v::vs,h=>by
  obtain ⟨v1,v2,rfl,h1,h2⟩:=OA h.2
  exact ⟨v::v1,v2,rfl,⟨h.1,h1⟩,h2⟩
 | _::_,_,[],h=>h.elim
instance {f:Nat->Int} {i m:Nat}:EV (wC f i m):=⟨by
 intro g cs h
 induction m generalizing i cs with
 | zero=>cases cs with
  | nil=>rfl
  | cons=>exact h.elim
 | succ m ih=>match cs,h with
  | v::u::vs,⟨h1,h2,h3⟩=>simp only[List.all_cons,AF.imp (k:=kB _) h1,AF.imp (k:=b7 (eL eI) _) h2,ih h3,Bool.and_self]⟩
instance {ks ls:List d5} [h:EV ks] [k:EV ls]:EV (ks++ls):=⟨fun h'=>by
 obtain ⟨v1,v2,rfl,h1,h2⟩:=OA h'
 rw[List.all_append,h.imp h1,k.imp h2]; rfl⟩
theorem SP {f:Nat->Int} {g:Gh}:∀{m i:Nat} {cs:List Value},o4 g (wC f i m) cs->AR eZ g.J cs ((List.range' i m).map f)
 | 0,_,cs,h=>by cases cs with
  | nil=>rfl
  | cons=>exact h.elim
 | m+1,i,cs,h=>by
  match cs,h with
  | v::u::vs,⟨h1,h2,h3⟩ =>
   obtain ⟨c1,c2,he,q1,q2⟩:=(inferInstance:t9 (kB (decide (f i<0))::b7 (eL eI) (d7 (f i).natAbs)::[]) eZ (f i) []).imp (g:=g) (cs:=[v,u]) ⟨h1,h2,trivial⟩
   cases c2 with
   | nil =>
    rw[List.append_nil] at he
    subst he
    exact ⟨[v,u],vs,rfl,q1,SP h3⟩
   | cons=>exact q2.elim
theorem XM {m:Nat} {f:Nat->Int}:(List.range' 0 m).map f=j4 m f:=by rw[<- List.range_eq_range']; rfl
instance {f:Nat->Int} {m:Nat} {r:List d5}:t9 (wC f 0 m++r) (P4 m eZ) (j4 m f) r:=⟨fun h=>by
 obtain ⟨v1,v2,rfl,h1,h2⟩:=OA h
 exact ⟨v1,v2,rfl,⟨p8,by rw[<- XM]; exact SP h1⟩,h2⟩⟩
instance {f:Nat->Int} {m:Nat}:YZ (wC f 0 m) eZ (j4 m f):=⟨fun {g cs} h i x hx=>MS (J:=g.J) (by rw[<- XM]; exact SP h) hx⟩
theorem mF {f:Nat->Int} {g:Gh} {tl:List d5} {ds:List Value} (ht:o4 g tl ds):∀{xs:List Int} {i:Nat} {cs:List Value},AR eZ g.J cs xs->(∀j,j<xs.length->f (i+j)=b6 xs j)->o4 g (wC f i xs.length++tl) (cs++ds)
 | [],_,_,h,_=>by have h:_=[]:=h; subst h; exact ht
 | x::xs,i,_,⟨c1,c2,h,h1,h2⟩,hf=>by
  subst h
  have hx:f i=x:=hf 0 (by simp)
  have hr:=mF (f:=f) ht (i:=i+1) h2 (fun j hj=>by
   have:=hf (j+1) (by simp; omega)
   rw[show i+1+j=i+(j+1) by omega,this]; rfl)
  have:=(inferInstance:H1 eZ x (wC f (i+1) xs.length++tl) _).imp h1 hr
  simp only[List.length_cons,wC,hx,List.cons_append]
  rw[List.append_assoc]
  exact this
instance {m:Nat} {l:List Int} {tl:List d5}:H1 (P4 m eZ) l tl (wC (b6 l) 0 m++tl):=⟨fun ⟨h1,h2⟩ ht=>by
 subst h1
 exact mF ht h2 (fun j _=>by rw[Nat.zero_add])⟩
instance {f:Nat->Int} {r:List d5}:O1 (wC f 0 4++r) (0+0) 8 (wC f 0 4):=⟨by simp[wC],rfl⟩
instance {f:Nat->Int} {a b:d5}:O1 (wC f 0 4++[a,b]) (0+8) 2 [a,b]:=⟨rfl,rfl⟩
instance {f:Nat->Int} {a b:d5}:O1 (wC f 0 4++[a,b]) 0 10 (wC f 0 4++[a,b]):=⟨rfl,rfl⟩
instance {f:Nat->Int} {a b x y:d5}:U1 (wC f 0 4++[a,b]) (0+8) [x,y] (wC f 0 4++[x,y]):=⟨by simp[wC],rfl⟩
instance {f:Nat->Int} {a b k0 k1 k2 k3 k4 k5 k6 k7 k8 k9:d5}:U1 [k0,k1,k2,k3,k4,k5,k6,k7,k8,k9] 0 (wC f 0 4++[a,b]) (wC f 0 4++[a,b]):=⟨by simp[wC],by simp[wC]⟩
def CK (f:Nat->Int) (j:Nat) (z:Int):Nat->Int:=fun i=>if i=j then z else f i
theorem ah4 {f:Nat->Int} {g:Gh} {r:List d5} {m j:Nat} {cs:List Value} (h:o4 g (wC f 0 m++r) cs) (hj:j<m):∃ds,eW.rd g.J ds (wh (f j))/\∀q v,ds[q]?=some v->cs[2*j+q]?=some v:=by
 obtain ⟨v1,v2,rfl,h1,_⟩:=OA h
 have hr:=SP h1
 rw[XM] at hr
 obtain ⟨ds,q1,q2⟩:=MS hr (i:=j) (x:=f j) (by rw[show f j=b6 (j4 m f) j from (q9 hj).symm]; exact F5 (by rw[p8]; exact hj))
 refine ⟨ds,q1,fun q v hv=>?_⟩
 have:=q2 q v hv
 rw[show eZ.n=2 from rfl] at this
 rw[Nat.mul_comm,List.getElem?_append_left (List.getElem?_eq_some_iff.1 this).1]
 exact this
theorem mG {f:Nat->Int} {z:Int} {g:Gh} {v u:Value} (hv:v=.bool (decide (z<0))) (hu:b7 (eL eI) (d7 z.natAbs) g u):∀{m i j:Nat} {r:List d5} {cs:List Value},o4 g (wC f i m++r) cs->j<m->o4 g (wC (CK f (i+j) z) i m++r) (cs.take (2*j)++[v,u]++cs.drop (2*j+2))
 | 0,_,_,_,_,_,hj=>by omega
 | m+1,i,0,r,cs,h,_=>by
  match cs,h with
  | a::b::cs,⟨_,_,h3⟩ =>
   have h4:∀{m k:Nat} {vs:List Value},i<k->o4 g (wC f k m++r) vs->o4 g (wC (CK f i z) k m++r) vs:=fun {m}=>by
    induction m with
    | zero=>exact fun _ h=>h
    | succ m ih =>
     intro k vs hk h
     match vs,h with
     | a::b::vs,⟨q1,q2,q3⟩ =>
      have e:CK f i z k=f k:=if_neg zo
      simp only[wC,e,List.cons_append]
      exact ⟨q1,q2,ih zo q3⟩
   have e:CK f i z i=z:=if_pos rfl
   simp only[wC,Nat.add_zero,e,List.cons_append,Nat.mul_zero,List.take_zero,List.nil_append,Nat.zero_add,List.drop_succ_cons,List.drop_zero]
   exact ⟨hv,hu,h4 zo h3⟩
 | m+1,i,j+1,r,cs,h,hj=>by
  match cs,h with
  | a::b::cs,⟨h1,h2,h3⟩ =>
   have:=mG hv hu (i:=i+1) (j:=j) h3 zo
   rw[show i+1+j=i+(j+1) by omega] at this
   have e:CK f (i+(j+1)) z i=f i:=if_neg zo
   simp only[wC,e,List.cons_append,show 2*(j+1)=2*j+2 by omega,List.take_succ_cons,List.drop_succ_cons]
   exact ⟨h1,h2,this⟩
section
variable {P:Program} {c:m9} {S:i5} {M:i1} {p:Bool} {d:Option Tmp} {ty:TypeId} {pos:String} {af:Array Edge} {gd:Option (Nat×Bool)} {x y:Operand} {b b':Bool}
theorem JQ {t:TypeId} [ht:C4 P t] {by':Nat} {zz:Value} [hz:o8 P t 2 by' zz] {u o:Nat} (j:Nat) {m:Nat} {f:Nat->Int} {r:List d5} {dep:List Nat} [hl:p9 M u (j5 (wC f 0 m++r)) dep] (hj:p=true->j<m) (ho:p=true->o=2*j) (hx:j2 S x=some (b,y5 u o)) (hb:p=true->b=true) :
  l4 P c S M ⟨d,.load t x,ty,pos,af,gd⟩ p (b7 eW (wh (f j))) none :=
 l4.pure fun hp a g w hok hc hop=>by
  obtain ⟨bl,cap,h1,h2⟩:=hop x (by simp[Op.operands]) b _ hx (hb hp)
  obtain ⟨cs,ty',h3,h4⟩:=DP (ks:=wC f 0 m++r) hc h1
  obtain ⟨ds,q1,q2⟩:=ah4 h4 (hj hp)
  have ho:=ho hp
  subst ho
  exact ⟨.agg ds.toArray,by simp only[execOp,h2,Sem.run_bind,MW (P:=P) (t:=t) (w:=w) (b:=bl) (o:=2*j) (eW.len q1) (fun q v hv=>L1 h3 (by simpa using q2 q v hv)),Result.andThen_ok,Sem.run_pure],_,q1,rfl⟩
theorem WW {t et:TypeId} {n:Nat} [ht:AH P t n et] {by':Nat} {zz:Value} [hz:o8 P et 2 by' zz] [hag:C4 P et] {f:Nat->Int} {ik:IntKind} {i:Nat} (hx:j2 S x=some (b,H6 (wC f 0 n))) (hb:p=true->b=true) (hy:j2 S y=some (b',y8 ik (i:Int))) (hb':p=true->b'=true) (h:p=true->i<n) :
  l4 P c S M ⟨d,.index t x y,ty,pos,af,gd⟩ p (b7 eW (wh (f i))) none:=by
 cases p with
 | false=>exact fun hp=>by cases hp
 | true =>
  have:=xN (P:=P) (c:=c) (M:=M) (d:=d) (ty:=ty) (pos:=pos) (af:=af) (gd:=gd) (t:=t) (et:=et) eZ (ks:=wC f 0 n) (xs:=j4 n f) hx hb hy hb' rfl rfl SO (fun _=>⟨h rfl,by rw[p8]; exact h rfl⟩)
  rwa [q9 (h rfl)] at this
end
section
variable {P:Program} {c:m9} {ops:Array Oper} {S:i5} {M:i1} {rest:List Oper} {Q:Exit->Act->World->Prop} {x y:Operand}
variable {ty:TypeId} {pos:String} {af:Array Edge}
theorem b8.stW {t:TypeId} {by':Nat} {zz:Value} [hz:o8 P t 2 by' zz] {u o:Nat} (j:Nat) {m:Nat} {f:Nat->Int} {z:Int} {r:List d5} {dep dep':List Nat} {M':i1} (hj:j<m) (ho:o=2*j) (hx:j2 S x=some (true,y5 u o)) (hy:j2 S y=some (true,b7 eW (wh z))) [hl:p9 M u (j5 (wC f 0 m++r)) dep]
  [hd:C1 (wC (CK f j z) 0 m++r) dep'] [hup:D4 M u (j5 (wC (CK f j z) 0 m++r)) dep' M'] (hs:u4 dep' (tags M)=true) (K:b8 P c ops S M' rest Q):b8 P c ops S M (⟨none,.store t x y,ty,pos,af,none⟩::rest) Q:=by
 intro a g w hsat
 subst ho
 obtain ⟨b,cap,hm,he⟩:=A8 hsat.slots hx rfl
 have hv:=A8 hsat.slots hy rfl
 obtain ⟨cs,tt,h3,h4⟩:=DP (ks:=wC f 0 m++r) hsat.conts hm
 obtain ⟨h5,h6⟩:=(inferInstance:E5 (b7 eW (wh z)) [kB (decide (z<0)),b7 (eL eI) (d7 z.natAbs)]).imp hv
 obtain ⟨v1,u1,hvs,e1,e2⟩:∃v u,(a.eval y).cells.toList=[v,u]/\v=.bool (decide (z<0))/\b7 (eL eI) (d7 z.natAbs) g u:=by
  match h:(a.eval y).cells.toList,h5 with
  | [v,u],h5=>exact ⟨v,u,rfl,h5.1,h5.2.1⟩
 have hcl:=K3 h4
 simp only[Array.length_toList,List.length_append,SO] at hcl
 have hsz:(a.eval y).cells.size=2:=by rw[<- Array.length_toList,hvs]; rfl
 have hr:=KB (P:=P) (t:=t) (o:=2*j) h3 hsz zo (List.all_eq_true.1 h6)
 refine wpList_plain rfl fun K' hK'=>?_
 unfold Oper.wp
 simp only[execOp,he,Sem.run_bind,hr,Result.andThen_ok,Sem.run_pure,Oper.upon,Act.put]
 have hnew:=mG (j:=j) e1 e2 h4 hj
 rw[Nat.zero_add] at hnew
 exact hK' _ _ (K a g _ (hsat.store hm h3 hup ⟨_,_,rfl,by rw[hvs]; simpa using hnew⟩ inferInstance (C3 hs)))
end
def K5:i8 (List Int×Int):=eC (fun v:List Int×Int=>(v.1,v.2,())) (eP (P4 4 eZ) (eP eZ eU))
instance {v:List Int×Int}:E5 (b7 K5 v) (wC (b6 v.1) 0 4++[kB (decide (v.2<0)),b7 (eL eI) (d7 v.2.natAbs)]):=inferInstanceAs (E5 (b7 (eC (fun v:List Int×Int=>(v.1,v.2,())) (eP (P4 4 eZ) (eP eZ eU))) v) _)
instance {v:List Int×Int}:v7 K5 v 0 (P4 4 eZ) v.1 0:=inferInstanceAs (v7 (eC (fun v:List Int×Int=>(v.1,v.2,())) (eP (P4 4 eZ) (eP eZ eU))) v 0 _ _ _)
instance {v:List Int×Int}:v7 K5 v 1 eZ v.2 8:=inferInstanceAs (v7 (eC (fun v:List Int×Int=>(v.1,v.2,())) (eP (P4 4 eZ) (eP eZ eU))) v 1 _ _ _)
instance {f:Nat->Int} {d:Int} {r:List d5}:t9 (wC f 0 4++kB (decide (d<0))::b7 (eL eI) (d7 d.natAbs)::r) K5 (j4 4 f,d) r:=⟨fun h=>(inferInstance:t9 (wC f 0 4++kB (decide (d<0))::b7 (eL eI) (d7 d.natAbs)::r) (eP (P4 4 eZ) (eP eZ eU)) (j4 4 f,d,()) r).imp h⟩
instance {r:List d5}:t9 (i9 (.bool false)::i9 (.slice none 0 0)::r) eZ 0 r:=⟨fun {g cs} h=>(inferInstance:t9 (kB false::i9 (.slice none 0 0)::r) eZ 0 r).imp (g:=g) (cs:=cs) (match cs,h with | _::_::_,⟨h1,h2,h3⟩=>⟨h1,h2,h3⟩)⟩
instance (priority:=low) {a b c d e:Int} {ks r1 r2 r3 r4 r:List d5} [h1:t9 ks eZ a r1] [h2:t9 r1 eZ b r2] [h3:t9 r2 eZ c r3] [h4:t9 r3 eZ d r4] [h5:t9 r4 eZ e r]:t9 ks K5 ([a,b,c,d],e) r:=⟨fun {g cs} h=>by
 obtain ⟨c1,t1,rfl,q1,h⟩:=h1.imp h
 obtain ⟨c2,t2,rfl,q2,h⟩:=h2.imp h
 obtain ⟨c3,t3,rfl,q3,h⟩:=h3.imp h
 obtain ⟨c4,t4,rfl,q4,h⟩:=h4.imp h
 obtain ⟨c5,t5,rfl,q5,h⟩:=h5.imp h
 exact ⟨c1++c2++c3++c4++c5,t5,by simp,⟨c1++c2++c3++c4,c5,by simp,⟨rfl,c1,c2++c3++c4,by simp,q1,c2,c3++c4,by simp,q2,c3,c4,by simp,q3,c4,[],by simp,q4,rfl⟩,c5,[],by simp,q5,rfl⟩,h⟩⟩
theorem PH {v:List Int×Int} {g:Gh} {u:Value} (h:b7 K5 v g u):v.1.length=4:=by
 obtain ⟨_,⟨_,_,_,⟨h,_⟩,_⟩,_⟩:=h
 exact h
theorem AK {ks ks':List d5} (h:ks=ks'):∀g b o,j5 ks g b o->j5 ks' g b o:=fun _ _ _ h'=>by subst h; exact h'
theorem KI {f f':Nat->Int}:∀{m i:Nat},(∀j,i<=j->j<i+m->f j=f' j)->wC f i m=wC f' i m
 | 0,_,_=>rfl
 | m+1,i,h=>by simp only[wC]; rw[h i (Nat.le_refl _) zo,KI fun j h1 h2=>h j zo zo]
theorem cW {f f':Nat->Int} {m:Nat} {r r':List d5} (h:∀j,j<m->f j=f' j) (hr:r=r'):∀g b o,j5 (wC f 0 m++r) g b o->j5 (wC f' 0 m++r') g b o:=AK (by rw[KI fun j _ hj=>h j zo,hr])
theorem BL {d d':Int} (h:d=d'):[kB (decide (d<0)),b7 (eL eI) (d7 d.natAbs)]=[kB (decide (d'<0)),b7 (eL eI) (d7 d'.natAbs)]:=by rw[h]
end Go.Fl

/- Numbers: coefficients over a denominator, in lowest terms. Plain Lean, no program in sight. -/
namespace Go.Fl
def gL (g:Nat):List Int->Nat
 | []=>g
 | c::cs=>gL (Nat.gcd g c.natAbs) cs
theorem LO:∀{cs:List Int} {g:Nat},gL g cs∣g/\∀c∈cs,gL g cs∣c.natAbs
 | [],g=>⟨Nat.dvd_refl _,fun c h=>by cases h⟩
 | c::cs,g=>by
  obtain ⟨h1,h2⟩:=LO (cs:=cs) (g:=Nat.gcd g c.natAbs)
  rw[gL]
  refine ⟨Nat.dvd_trans h1 (Nat.gcd_dvd_left _ _),fun x hx=>?_⟩
  rcases List.mem_cons.1 hx with rfl | hx
  ·exact Nat.dvd_trans h1 (Nat.gcd_dvd_right _ _)
  ·exact h2 x hx
theorem PQ {cs:List Int} {g:Nat} (h:0<g):0<gL g cs:=Nat.pos_of_dvd_of_pos LO.1 h
theorem eB:∀{cs:List Int} {g:Nat} {m:Int},gL (g*m.natAbs) (cs.map fun c=>c*m)=gL g cs*m.natAbs
 | [],_,_=>rfl
 | c::cs,g,m=>by rw[List.map_cons,gL,gL,Int.natAbs_mul,Nat.gcd_mul_right,eB]
theorem eE:∀{cs:List Int} {g:Nat} {c:Int},gL g (cs++[c])=Nat.gcd (gL g cs) c.natAbs
 | [],_,_=>rfl
 | x::cs,g,c=>by rw[List.cons_append,gL,gL,eE]
theorem eF:∀{k g:Nat},gL g (List.replicate k 0)=g
 | 0,_=>rfl
 | k+1,g=>by rw[List.replicate_succ,gL,Int.natAbs_zero,Nat.gcd_zero_right,eF]
theorem eA:∀{xs ys:List Int} {g:Nat},gL g (xs++ys)=gL (gL g xs) ys
 | [],_,_=>rfl
 | x::xs,ys,g=>by rw[List.cons_append,gL,gL,eA]
def w8 (d:Int) (cs:List Int):Int:=if d<0 then -(gL d.natAbs cs:Int) else gL d.natAbs cs
theorem HM {d:Int} {cs:List Int} (h:d≠0):w8 d cs≠0:=by
 have:=PQ (cs:=cs) (show 0<d.natAbs by omega)
 unfold w8; split<;>omega
theorem CI {d:Int} {cs:List Int} {c:Int} (h:c=d\/c∈cs):w8 d cs∣c:=by
 have h1:((gL d.natAbs cs:Nat):Int)∣c:=by
  refine Int.ofNat_dvd_left.2 ?_
  rcases h with rfl | h
  ·exact LO.1
  ·exact LO.2 c h
 unfold w8
 split
 ·exact Int.neg_dvd.2 h1
 ·exact h1
theorem ab6 {d m:Int} {cs:List Int} (hd:d≠0) (hm:m≠0):w8 (d*m) (cs.map fun c=>c*m)=w8 d cs*m:=by
 unfold w8
 rw[Int.natAbs_mul,eB,Int.natCast_mul]
 by_cases h1:d<0<;>by_cases h2:m<0
 ·have h3:=Int.mul_pos_of_neg_of_neg h1 h2
  rw[if_neg zo,if_pos h1,show ((m.natAbs:Nat):Int)=-m by omega,Int.mul_neg,Int.neg_mul]
 ·have h3:=Int.mul_neg_of_neg_of_pos h1 (show 0<m by omega)
  rw[if_pos h3,if_pos h1,show ((m.natAbs:Nat):Int)=m by omega,Int.neg_mul]
 ·have h3:=Int.mul_neg_of_pos_of_neg (show 0<d by omega) h2
  rw[if_pos h3,if_neg h1,show ((m.natAbs:Nat):Int)=-m by omega,Int.mul_neg,Int.neg_neg]
 ·have h3:=Int.mul_pos (show 0<d by omega) (show 0<m by omega)
  rw[if_neg zo,if_neg h1,show ((m.natAbs:Nat):Int)=m by omega]
theorem dJ {a b m:Int} (hb:b≠0) (hm:m≠0) (h:b∣a):a*m/(b*m)=a/b:=by
 obtain ⟨q,rfl⟩:=h
 rw[Int.mul_ediv_cancel_left _ hb,show b*q*m=b*m*q by rw[Int.mul_assoc,Int.mul_comm q,<- Int.mul_assoc],Int.mul_ediv_cancel_left _ (Int.mul_ne_zero hb hm)]
def loN (cs:List Int) (d:Int):List Int×Int:=(cs.map fun c=>c/w8 d cs,d/w8 d cs)
theorem QF {cs:List Int} {d m:Int} (hd:d≠0) (hm:m≠0):loN (cs.map fun c=>c*m) (d*m)=loN cs d:=by
 unfold loN
 rw[ab6 hd hm,List.map_map]
 refine Prod.ext ?_ (dJ (HM hd) hm (CI (.inl rfl)))
 exact List.map_congr_left fun c hc=>dJ (HM hd) hm (CI (.inr hc))
theorem QE {cs cs':List Int} {d d':Int} (hd:d≠0) (hd':d'≠0) (h:(cs.map fun c=>c*d')=cs'.map fun c=>c*d):loN cs d=loN cs' d':=by
 rw[<- QF (cs:=cs) hd hd',<- QF (cs:=cs') hd' hd,h,Int.mul_comm]
theorem DC {cs:List Int} {d:Int}:(loN cs d).1.length=cs.length:=by unfold loN; simp
theorem GX {cs:List Int} {d:Int} (hd:d≠0):0<(loN cs d).2:=by
 unfold loN
 obtain ⟨q,hq⟩:=CI (d:=d) (cs:=cs) (.inl rfl)
 have h0:=HM (cs:=cs) hd
 show 0<d/w8 d cs
 have e:d/w8 d cs=q:=(congrArg (fun z=>z/w8 d cs) hq).trans (Int.mul_ediv_cancel_left _ h0)
 rw[e]
 have hg:=PQ (cs:=cs) (show 0<d.natAbs by omega)
 refine Classical.byContradiction fun hn=>?_
 by_cases h:d<0
 ·have e:w8 d cs=-(gL d.natAbs cs:Int):=if_pos h
  rw[e] at hq
  have:(-(gL d.natAbs cs:Int))*q=(gL d.natAbs cs:Int)*(-q):=by rw[Int.neg_mul,Int.mul_neg]
  have h5:=Int.mul_nonneg (a:=(gL d.natAbs cs:Int)) (b:=-q) zo zo
  omega
 ·have e:w8 d cs=(gL d.natAbs cs:Int):=if_neg h
  rw[e] at hq
  have h5:=Int.mul_nonneg (a:=(gL d.natAbs cs:Int)) (b:=-q) zo zo
  rw[Int.mul_neg] at h5
  omega
theorem vQ {cs:List Int} {d:Int} {k:Nat}:loN (cs++List.replicate k 0) d=((loN cs d).1++List.replicate k 0,(loN cs d).2):=by
 have e:w8 d (cs++List.replicate k 0)=w8 d cs:=by unfold w8; rw[eA,eF]
 unfold loN
 rw[e,List.map_append]
 simp
theorem ND:∀{xs:List Int} {k:Nat},j7 (xs++List.replicate k 0)=j7 xs
 | [],k=>by
  rw[List.nil_append]
  exact SL fun i hi=>QQ (by simpa using hi)
 | x::xs,k=>by rw[List.cons_append,j7,j7,ND]
def X1 (p:List Int) (n:Nat) (xs:List Int):List Int:=j4 (xs.length-1) fun j=>b6 xs j-if xs.length-1-n<=j then b6 xs (xs.length-1)*b6 p (j-(xs.length-1-n)) else 0
theorem AU {p xs:List Int} {n:Nat}:(X1 p n xs).length=xs.length-1:=p8
def L5 (p:List Int) (n:Nat):Nat->List Int->List Int
 | 0,xs=>xs++List.replicate (n-xs.length) 0
 | f+1,xs=>if xs.length<=n then xs++List.replicate (n-xs.length) 0 else L5 p n f (X1 p n xs)
def red (p:List Int) (xs:List Int):List Int:=L5 p (p.length-1) (xs.length-(p.length-1)) xs
theorem jK {p:List Int} {n:Nat}:∀{f:Nat} {xs:List Int},xs.length<=n+f->(L5 p n f xs).length=n
 | 0,xs,h=>by rw[L5,List.length_append,List.length_replicate]; omega
 | f+1,xs,h=>by
  rw[L5]
  split
  ·rw[List.length_append,List.length_replicate]; omega
  ·exact jK (by rw[AU]; omega)
theorem KA {p xs:List Int}:(red p xs).length=p.length-1:=jK zo
end Go.Fl

/- Numbers of a field in lowest terms, as the programs reckon them. No program in sight. -/
namespace Go.Fl
open Go
theorem Q8 {y:Int}:r7 y 0=0↔y=0:=by unfold r7; split<;>(try split)<;>omega
theorem uB {x y:Int}:Int.gcd y (x%y)=Int.gcd x y:=by
 first
  | (rw[Int.gcd_comm]; exact Int.gcd_emod ..)
  | simp
  | (rw[Int.emod_def,Int.gcd_comm]; simp)
theorem VC {c:List Int} {g k:Nat} (hk:k<c.length):(gL g (c.take (k+1)):Int)=Int.gcd (gL g (c.take k):Int) (b6 c k):=by
 have e:c.take (k+1)=c.take k++[b6 c k]:=by
  rw[List.take_succ_eq_append_getElem hk]
  congr 2
  simp[b6,hk]
 rw[e,eE]; rfl
theorem VB {c:List Int} {g:Nat} (h:0<g):gL g c<=g:=Nat.le_of_dvd h LO.1
theorem dA {c:List Int} {d:Int} (h:0<d):dl (gL d.natAbs c:Int)<=dl d:=M6 (VB zo)
theorem vR {c:List Int} {d:Int} {k:Nat} (hd:0<d) (hl:c.length=k):(j4 k (fun i=>b6 c i/(gL d.natAbs c:Int)),d/(gL d.natAbs c:Int))=loN c d:=by
 have e:w8 d c=(gL d.natAbs c:Int):=if_neg zo
 unfold loN
 rw[e]
 refine Prod.ext ?_ rfl
 show j4 k _=c.map _
 generalize (gL d.natAbs c:Int)=G
 conv=>rhs; rw[T2 hl]
 simp[j4]
end Go.Fl

/- Contracts: integers of the reference of chapter 1 (division, common divisors). -/
namespace Go.Fl
open Go Go.Proofs
open b8 renaming op->tO
open j1 renaming op->rO
set_option maxRecDepth 100000

set_option maxHeartbeats 2000000 in
theorem cE (m n:Nat) (h0:0<n) (hm:(d7 m).length<=300000) (hn:(d7 n).length<=300000):Ct Tryz.prog 179 [b7 (eL eI) (d7 m),b7 (eL eI) (d7 n)] (z9 [b7 (eL eI) (d7 (m/n)),b7 (eL eI) (d7 (m%n))]):=by
 have hdn:dl (n:Int)=(d7 n).length:=rfl
 have hvn:val (d7 n)=n:=y4 n
 refine Ct.mk Tryz.func179 rfl Tryz.ntmps179 rfl (fun w J=>?_); refine u5 ?_; refine b8.new (BX eI 14 rfl uu rfl uu rfl rfl rfl (fun _=>zo)) rfl rfl rfl rfl ?_; refine P5 ?_
 refine Tr.for1 (σ:=Nat×List Int×Int) [⟨0,true,_,_⟩,⟨1,true,_,_⟩,⟨6,true,_,_⟩] [] (fun (i,o,R)=>[⟨7,true,[],b7 (eL eI) (d7 R.toNat)⟩,⟨8,true,[],kI ((i:Int)-1)⟩]) (fun (i,o,R)=>[⟨14,[],l3 false 3 eI o (d7 m).length⟩]) (fun (i,o,R)=>i<=(d7 m).length/\M5 (d7 m) o (n:Int) i R) (fun (i,o,R)=>M5 (d7 m) o (n:Int) 0 R) (fun (i,o,R)=>i) (((d7 m).length,List.replicate (d7 m).length 0,0)) ⟨Nat.le_refl _,M5.start zo⟩ (d6.mk (.n rfl rfl<|.i rfl zi<|zk) (.a zi zi<|.nil) rfl) ?_ ?_
 ·rintro ⟨i,o,R⟩ ⟨hi,hs⟩
  refine jn ?_
  have e1:((i:Int)-1).toNat=i-1:=by omega
  have hr0:=hs.r0
  have hRd:=tI hr0
  have hRl:=cU hr0.1
  have hol:=hs.len
  refine j6 ?_; refine jq ?_ ?_
  ·intro h4
   have hs1:M5 (d7 m) o (n:Int) (i-1+1) R:=by rw[show i-1+1=i by omega]; exact hs
   obtain ⟨T,hTe⟩:∃T,T=(R*100000000+b6 (d7 m) (i-1)):=⟨_,rfl⟩
   have hdq:=tM hs1 zo
   rw[<- hTe] at hdq
   obtain ⟨hT,hq0,hq1⟩:=hdq
   have hTd:=tJ hq1 h0 hT
   have hTl:=cU hT
   have had:=(x9 m).at (i:=i-1) zo
   refine u5 ?_; refine b8.new (w4 eI 26 (fun hp=>.cons rfl<|.nil) rfl rfl rfl rfl) rfl rfl rfl rfl ?_; refine i4 ?_; refine b8.app rfl rfl rfl rfl rfl rfl rfl rfl (by have h1:([b6 (d7 m) ((i:Int)-1).toNat]).length=1:=rfl; omega) (by have h1:([b6 (d7 m) ((i:Int)-1).toNat]).length=1:=rfl; omega) ?_; refine jl ?_; refine b8.frz 26 [28] ⟨rfl,trivial⟩ (by have h1:([b6 (d7 m) ((i:Int)-1).toNat]).length=1:=rfl; simp only[p6]; omega) rfl ?_; refine jl ?_; refine tO (i6 (fun hp=>UH _ (by have h1:([b6 (d7 m) ((i:Int)-1).toNat]).length=1:=rfl; rw[List.length_append]; omega)) (.a rfl uu<|.nil)) rfl rfl ?_
   refine m8 ?_
   refine Tr.for (σ:=Int×Int) [⟨0,true,_,_⟩,⟨1,true,_,_⟩,⟨6,true,_,_⟩,⟨8,true,_,_⟩] [⟨14,_,_⟩] (fun (lo,hi2)=>[⟨7,true,[],b7 (eL eI) (d7 T.toNat)⟩,⟨9,true,[],kI lo⟩,⟨10,true,[],kI hi2⟩]) (fun (lo,hi2)=>[]) (fun (lo,hi2)=>0<=lo/\lo<=T/n/\T/n<=hi2/\hi2<=99999999) (fun (lo,hi2)=>T/n=lo) (fun (lo,hi2)=>(hi2-lo).toNat) ((0,99999999)) ⟨by omega,by omega,by omega,by omega⟩ (d6.mk (.r rfl (by rw[hTe,<- e1]; exact tN hr0.1 (by rw[e1]; exact had))<|.i rfl zi<|.i rfl zi<|zk) (zk) rfl) ?_ ?_
   ·rintro ⟨lo,hi2⟩ ⟨hl0,hl1,hl2,hl3⟩
    refine jn ?_
    have hmid:0<=lo+hi2+1:=by omega
    have hme:=Int.tdiv_eq_ediv_of_nonneg (b:=2) hmid
    have hmn:=Int.mul_nonneg (a:=(n:Int)) (b:=(lo+hi2+1).tdiv 2) zo zo
    have hmd:=J6 (F:=(lo+hi2+1).tdiv 2) zo zo
    have hmm:=s9 (n:Int) ((lo+hi2+1).tdiv 2)
    refine j3 ?_; refine jq ?_ ?_
    ·intro h8
     refine m8 ?_; refine tO (BY rfl uu rfl uu (fun _=>zo)) rfl rfl ?_; refine j3 ?_; refine tO (M3 eI (fun hp=>.cons rfl<|.nil) rfl rfl rfl rfl) rfl rfl ?_; refine jc (I8 (d7 n) [(lo+hi2+1).tdiv 2] (x9 n).inI (U8 zo) zo (by simp)) ?_; refine tO (i6 (fun hp=>rY (d7 T.toNat) _ (O2 _) (vU (by rw[hvn,I4]; exact hmn)) zo (by rw[r9,hvn,I4]; omega)) (.a rfl uu<|.a rfl uu<|.nil)) rfl rfl ?_; refine g9 ?_; refine Tr.cnd rfl ?_ ?_
     ·intro h10
      have h10:=of_decide_eq_true h10
      rw[y4,q8,hvn,I4,Int.toNat_of_nonneg hT] at h10
      refine l6 ?_
      exact g6.lp ((lo,(lo+hi2+1).tdiv 2-1)) ⟨by omega,by omega,tK zo h10,by omega⟩ (by show ((lo+hi2+1).tdiv 2-1-lo).toNat<(hi2-lo).toNat; omega) (d6.mk (.r rfl zi<|.i rfl zi<|.i rfl zi<|zk) (zk) rfl)
     ·intro h10
      have h10:=of_decide_eq_false h10
      rw[y4,q8,hvn,I4,Int.toNat_of_nonneg hT] at h10
      refine l8 ?_
      exact g6.lp (((lo+hi2+1).tdiv 2,hi2)) ⟨by omega,tL zo zo,by omega,by omega⟩ (by show (hi2-(lo+hi2+1).tdiv 2).toNat<(hi2-lo).toNat; omega) (d6.mk (.r rfl zi<|.i rfl zi<|.i rfl zi<|zk) (zk) rfl)
    ·intro h8
     replace h8:=Int.not_lt.1 h8
     refine g8 ?_
     exact g6.cut ((lo,hi2)) zo (d6.mk (.r rfl zi<|.i rfl zi<|.i rfl zi<|zk) (zk) rfl)
   ·rintro ⟨lo,hi2⟩ hlo
    refine jn ?_
    replace hlo:T/n=lo:=hlo
    have hmd:=J6 (F:=lo) zo zo
    have hmm:=s9 (n:Int) lo
    refine D2 ?_; refine tO (M3 eI (fun hp=>.cons rfl<|.nil) rfl rfl rfl rfl) rfl rfl ?_; refine jc (I8 (d7 n) [lo] (x9 n).inI (U8 zo) zo (by simp)) ?_; refine tO (i6 (fun hp=>LG (d7 T.toNat) _ (x9 _).inI (v5 _) zo (by rw[r9,hvn,I4]; omega)) (.a rfl uu<|.a rfl uu<|.nil)) rfl rfl ?_; refine m8 ?_
    exact g6.lp ((i-1,o.set (i-1) ((R*100000000+b6 (d7 m) (i-1))/n),(R*100000000+b6 (d7 m) (i-1))%n)) ⟨by omega,hs1.next (x9 m) zo⟩ (by show i-1<i; omega) (d6.mk (.r rfl (by rw[q8,y4,Int.toNat_of_nonneg hT,hvn,I4,<- hlo,tH zo,hTe]; exact QH (Int.emod_nonneg _ zo))<|.i rfl zi<|zk) (.a (by rw[e1,<- hTe,hlo]) zi<|.nil) rfl)
  ·intro h4
   replace h4:=Int.not_le.1 h4
   refine g8 ?_
   exact g6.cut ((i,o,R)) (by obtain rfl:i=0:=zo; exact hs) (d6.mk (.r rfl zi<|.i rfl zi<|zk) (.a zi zi<|.nil) rfl)
 ·rintro ⟨i,o,R⟩ hs
  refine je ?_
  have hol:=hs.len
  refine g8 ?_; refine b8.frz 14 [6,57] ⟨rfl,rfl,trivial⟩ (by simp only[p6]; omega) rfl ?_; refine jl ?_; refine tO (i6 (fun hp=>UH _ zo) (.a rfl uu<|.nil)) rfl rfl ?_; refine l6 ?_; exact d9.res (fn:=Tryz.f179) (ts:=[4,5]) rfl rfl (.r rfl (dH hs).1<|.r rfl (dH hs).2<|.nil)

set_option maxHeartbeats 1000000 in
theorem bT (xs ys:List Int) (hx:w7 xs) (hy:w7 ys) (hn:xs.length<=200000) (hm:ys.length<=200000):Ct Tryz.prog 138 [b7 (eL eI) xs,b7 (eL eI) ys] (z9 [b7 (eL eI) (if val ys=0 then [] else g7 (val xs/val ys)),b7 (eL eI) (if val ys=0 then [] else g7 (val xs%val ys)),kI (if val ys=0 then 12 else 0)]):=by
 have hdx:=M7 hx
 have hdy:=M7 hy
 have hlx:=r9 (val xs)
 have hly:=r9 (val ys)
 have hl0:=VZ (z:=val ys)
 have hrz:=IS (n:=(val xs).natAbs%(val ys).natAbs)
 have hdq:dl (((val xs).natAbs/(val ys).natAbs:Nat):Int)=(d7 ((val xs).natAbs/(val ys).natAbs)).length:=rfl
 have X9:dl (((val xs).natAbs%(val ys).natAbs:Nat):Int)=(d7 ((val xs).natAbs%(val ys).natAbs)).length:=rfl
 have hdX:(d7 (val xs).natAbs).length=dl (val xs):=rfl
 have hdY:(d7 (val ys).natAbs).length=dl (val ys):=rfl
 have hql:=M6 (m:=(val xs).natAbs) (n:=(val xs).natAbs/(val ys).natAbs) (Nat.div_le_self _ _)
 have h11:([1]:List Int).length=1:=rfl
 refine Ct.mk Tryz.func138 rfl Tryz.ntmps138 rfl (fun w J=>?_); refine u5 ?_; refine tO (i6 (fun hp=>X6 _ (by assumption) zo) (.a rfl uu<|.nil)) rfl rfl ?_; refine i4 ?_; refine tO (i6 (fun hp=>X6 _ (by assumption) zo) (.a rfl uu<|.nil)) rfl rfl ?_; refine u9 ?_; refine jq ?_ ?_
 ·intro h2
  have hy0:val ys=0:=by omega
  refine m8 ?_; exact d9.res (fn:=Tryz.f138) (ts:=[4,5,6]) rfl rfl (.n rfl (by rw[if_pos hy0])<|.n rfl (by rw[if_pos hy0])<|.i rfl (by rw[if_pos hy0])<|.nil)
 ·intro h2
  have hy0:val ys≠0:=by omega
  have hlt:(val xs).natAbs%(val ys).natAbs<(val ys).natAbs:=Nat.mod_lt _ zo
  have hrl:=M6 (m:=(val ys).natAbs) (n:=(val xs).natAbs%(val ys).natAbs) zo
  refine l8 ?_; refine jc (LI (val xs) zo) ?_; refine i4 ?_; refine jc (LI (val ys) zo) ?_; refine jc (cE (val xs).natAbs (val ys).natAbs zo zo zo) ?_; refine y7 ?_; refine jc (IM (val xs)) ?_; refine g9 ?_; refine Tr.cnd rfl ?_ ?_
  ·intro h5
   have hxn:=of_decide_eq_true h5
   refine i7 ?_; refine tO (i6 (fun hp=>FE _ (x9 _).inI zo) (.a rfl uu<|.nil)) rfl rfl ?_; refine i4 ?_; refine tO (i6 (fun hp=>FE _ (x9 _).inI zo) (.a rfl uu<|.nil)) rfl rfl ?_; refine y7 ?_; refine Tr.cnd rfl ?_ ?_
   ·intro h7
    have hrp:0<(val xs).natAbs%(val ys).natAbs:=by (have h7:=of_decide_eq_true h7; rw[r9,y4,K4,X9] at h7; omega)
    obtain ⟨o1,o2⟩:=iH hy0 hxn hrp
    refine g9 ?_; refine tO (M3 eI (fun hp=>.cons rfl<|.nil) rfl rfl rfl rfl) rfl rfl ?_; refine tO (i6 (fun hp=>LG _ [1] (v5 _) (U8 zo) (by rw[r9,y4,K4,hdq]; omega) zo) (.a rfl uu<|.a rfl uu<|.nil)) rfl rfl ?_; refine g9 ?_; refine jc (LI (val ys) zo) ?_; refine tO (i6 (fun hp=>DR _ _ (v5 _) (x9 _).inI (by rw[r9,y4,K4,X9]; omega) zo) (.a rfl uu<|.a rfl uu<|.nil)) rfl rfl ?_; refine j3 ?_; refine jc (IM (val ys)) ?_; refine g9 ?_; refine Tr.cnd rfl ?_ ?_
    ·intro h9
     have hyn:=of_decide_eq_true h9
     have hQ1:=UP (q:=(val xs).natAbs/(val ys).natAbs)
     have hQ2:=UQ (q:=(val xs).natAbs/(val ys).natAbs)
     refine g9 ?_
     refine tO (i6 (fun hp=>FE _ (by first | exact v5 _ | exact (x9 _).inI) zo) (.a rfl uu<|.nil)) rfl rfl ?_
     refine D2 ?_; exact d9.res (fn:=Tryz.f138) (ts:=[4,5,6]) rfl rfl (.r rfl (by rw[if_neg hy0,o1,if_neg (show ¬AV (val xs) (val ys) from by rw[AW]; omega),q8,q8,I4,y4]; congr 1; omega)<|.r rfl (by rw[if_neg hy0,o2,q8,y4,y4]; congr 1; omega)<|.i rfl (by rw[if_neg hy0])<|.nil)
    ·intro h9
     have hyn:=of_decide_eq_false h9
     refine u9 ?_; exact d9.res (fn:=Tryz.f138) (ts:=[4,5,6]) rfl rfl (.r rfl (by rw[if_neg hy0,o1,if_pos (show AV (val xs) (val ys) from by rw[AW]; omega),q8,I4,y4]; congr 1; omega)<|.r rfl (by rw[if_neg hy0,o2,q8,y4,y4]; congr 1; omega)<|.i rfl (by rw[if_neg hy0])<|.nil)
   ·intro h7
    have hrp:(val xs).natAbs%(val ys).natAbs=0:=by (have h7:=of_decide_eq_false h7; rw[r9,y4,K4,X9] at h7; omega)
    obtain ⟨o1,o2⟩:=XC (a:=val xs) hy0 (fun hh=>by omega)
    refine l6 ?_; refine jc (IM (val ys)) ?_; refine g9 ?_; refine Tr.cnd rfl ?_ ?_
    ·intro h9
     have hyn:=of_decide_eq_true h9
     have hQ1:=UP (q:=(val xs).natAbs/(val ys).natAbs)
     have hQ2:=UQ (q:=(val xs).natAbs/(val ys).natAbs)
     refine g9 ?_
     refine tO (i6 (fun hp=>FE _ (by first | exact v5 _ | exact (x9 _).inI) zo) (.a rfl uu<|.nil)) rfl rfl ?_
     refine D2 ?_; exact d9.res (fn:=Tryz.f138) (ts:=[4,5,6]) rfl rfl (.r rfl (by rw[if_neg hy0,o1,if_neg (show ¬AV (val xs) (val ys) from by rw[AW]; omega),q8,y4]; congr 1; omega)<|.r rfl (by rw[if_neg hy0,o2,y4]; congr 1; omega)<|.i rfl (by rw[if_neg hy0])<|.nil)
    ·intro h9
     have hyn:=of_decide_eq_false h9
     refine u9 ?_; exact d9.res (fn:=Tryz.f138) (ts:=[4,5,6]) rfl rfl (.r rfl (by rw[if_neg hy0,o1,if_pos (show AV (val xs) (val ys) from by rw[AW]; omega),y4])<|.r rfl (by rw[if_neg hy0,o2,y4]; congr 1; omega)<|.i rfl (by rw[if_neg hy0])<|.nil)
  ·intro h5
   have hxn:=of_decide_eq_false h5
   obtain ⟨o1,o2⟩:=XC hy0 (fun hh=>hxn hh.1)
   refine l6 ?_; refine jc (IM (val ys)) ?_; refine g9 ?_; refine Tr.cnd rfl ?_ ?_
   ·intro h9
    have hyn:=of_decide_eq_true h9
    have hQ1:=UP (q:=(val xs).natAbs/(val ys).natAbs)
    have hQ2:=UQ (q:=(val xs).natAbs/(val ys).natAbs)
    refine g9 ?_
    refine tO (i6 (fun hp=>FE _ (by first | exact v5 _ | exact (x9 _).inI) zo) (.a rfl uu<|.nil)) rfl rfl ?_
    refine D2 ?_; exact d9.res (fn:=Tryz.f138) (ts:=[4,5,6]) rfl rfl (.r rfl (by rw[if_neg hy0,o1,if_pos (show AV (val xs) (val ys) from by rw[AW]; omega),y4])<|.r rfl (by rw[if_neg hy0,o2,QI])<|.i rfl (by rw[if_neg hy0])<|.nil)
   ·intro h9
    have hyn:=of_decide_eq_false h9
    refine u9 ?_; exact d9.res (fn:=Tryz.f138) (ts:=[4,5,6]) rfl rfl (.r rfl (by rw[if_neg hy0,o1,if_neg (show ¬AV (val xs) (val ys) from by rw[AW]; omega),QI])<|.r rfl (by rw[if_neg hy0,o2,QI])<|.i rfl (by rw[if_neg hy0])<|.nil)

theorem bU (xs ys:List Int) (hx:w7 xs) (hy:w7 ys) (hn:xs.length<=200000) (hm:ys.length<=200000):Ct Tryz.prog 137 [b7 (eL eI) xs,b7 (eL eI) ys] (b7 (eL eI) (d7 (Nat.gcd (val xs).natAbs (val ys).natAbs))):=by
 have hdx:=M7 hx
 have hdy:=M7 hy
 have hlx:=r9 (val xs)
 have hly:=r9 (val ys)
 have hdX:(d7 (val xs).natAbs).length=dl (val xs):=rfl
 have hdY:(d7 (val ys).natAbs).length=dl (val ys):=rfl
 refine Ct.mk Tryz.func137 rfl Tryz.ntmps137 rfl (fun w J=>?_); refine j3 ?_; refine tO (i6 (fun hp=>X6 _ (by assumption) zo) (.a rfl uu<|.nil)) rfl rfl ?_; refine jc (LI (val xs) zo) ?_; refine i4 ?_; refine tO (i6 (fun hp=>X6 _ (by assumption) zo) (.a rfl uu<|.nil)) rfl rfl ?_; refine jc (LI (val ys) zo) ?_; refine g8 ?_; refine Tr.for (σ:=Nat×Nat) [] [] (fun (x,y)=>[⟨5,true,[],b7 (eL eI) (d7 x)⟩,⟨6,true,[],b7 (eL eI) (d7 y)⟩]) (fun (x,y)=>[]) (fun (x,y)=>(d7 x).length<=300000/\(d7 y).length<=300000/\Nat.gcd x y=Nat.gcd (val xs).natAbs (val ys).natAbs) (fun (x,y)=>y=0/\Nat.gcd x y=Nat.gcd (val xs).natAbs (val ys).natAbs) (fun (x,y)=>y) (((val xs).natAbs,(val ys).natAbs)) ⟨by omega,by omega,rfl⟩ (d6.mk (.r rfl rfl<|.r rfl rfl<|.nil) (.nil) rfl) ?_ ?_
 ·rintro ⟨x,y⟩ ⟨hx1,hy1,hg⟩
  refine jn ?_
  have hy0:=IS (n:=y)
  refine j3 ?_; refine jq ?_ ?_
  ·intro h2
   refine j6 ?_; refine jc (cE x y zo zo zo) ?_; refine C7 ?_; exact g6.lp ((y,x%y)) ⟨hy1,by have:=M6 (m:=y) (n:=x%y) (Nat.le_of_lt (Nat.mod_lt _ zo)); omega,by rw[uA]; exact hg⟩ (by show x%y<y; exact Nat.mod_lt _ zo) (d6.mk (.r rfl rfl<|.r rfl rfl<|.nil) (.nil) rfl)
  ·intro h2
   replace h2:=Int.not_lt.1 h2
   refine g8 ?_
   exact g6.cut ((x,y)) ⟨by omega,hg⟩ (d6.mk (.r rfl zi<|.r rfl zi<|.nil) (.nil) rfl)
 ·rintro ⟨x,y⟩ ⟨rfl,hg⟩
  refine jn ?_; refine j6 ?_; exact d9.res1 (fn:=Tryz.f137) rfl (.r rfl (by rw[<- hg,Nat.gcd_zero_right])<|.nil)

end Go.Fl

/- Contracts: numbers of a field in lowest terms. -/
namespace Go.Fl
open Go Go.Proofs
open b8 renaming op->tO
open j1 renaming op->rO
set_option maxRecDepth 100000

theorem qE (a b:Int) (ha:dl a<=800000) (hb:dl b<=800000):Ct Tryz.prog 205 [b7 eW (wh a),b7 eW (wh b)] (b7 eW (wh (Int.gcd a b))):=by
 refine Ct.mk Tryz.func205 rfl Tryz.ntmps205 rfl (fun w J=>?_); refine g9 ?_; refine jb 2 rfl ?_; refine jb 3 rfl ?_; refine ja 4 ?_; refine g9 ?_; refine Tr.for (σ:=Int×Int) [⟨2,true,_,_⟩,⟨3,true,_,_⟩,⟨4,true,_,_⟩] [⟨4,_,_⟩] (fun ⟨x,y⟩=>[]) (fun ⟨x,y⟩=>[⟨2,[],j5 [kB (decide (x<0)),b7 (eL eI) (d7 (x).natAbs)]⟩,⟨3,[],j5 [kB (decide (y<0)),b7 (eL eI) (d7 (y).natAbs)]⟩]) (fun ⟨x,y⟩=>Int.gcd x y=Int.gcd a b/\dl x<=800000/\dl y<=800000) (fun ⟨x,y⟩=>x.natAbs=Int.gcd a b) (fun ⟨x,y⟩=>y.natAbs) ((a,b)) ⟨rfl,ha,hb⟩ (d6.mk (zk) (zk) rfl) ?_ ?_
 ·rintro ⟨x,y⟩ ⟨hg,hx,hy⟩
  refine jn ?_; refine g8 ?_; refine jc (BK y) ?_; refine i7 ?_; refine jq ?_ ?_
  ·intro h1
   have hy0:y≠0:=fun e=>h1 (Q8.2 e)
   refine j6 ?_; refine jc (UK x y hy0 zo zo) ?_; refine i7 ?_; refine ja 5 ?_; refine ja 6 ?_; refine g8 ?_; refine Tr.drawS 2 2 n8 (by kernel_rfl) ?_; refine o6.opA (R4 rfl uu) (by kernel_rfl) rfl rfl ?_; refine o6.op (R4 rfl uu) rfl rfl ?_; refine o6.z (EK rfl rfl rfl) rfl rfl rfl ?_; refine i7 ?_; exact g6.lp ((y,x%y)) ⟨(uB (x:=x) (y:=y)).trans hg,hy,by have:=sZ (x:=x) hy0; omega⟩ (by have h2:=Int.emod_nonneg x hy0; have h3:=Int.emod_lt x hy0; show (x%y).natAbs<y.natAbs; omega) (d6.mk (zk) (zk) rfl)
  ·intro h1
   replace h1:=Classical.not_not.1 h1
   refine g8 ?_; exact g6.cut ((x,y)) (by have e:=Q8.1 h1; subst e; rw[<- hg]; simp) (d6.mk (zk) (zk) rfl)
 ·rintro ⟨x,y⟩ hE
  refine jn ?_; refine D2 ?_; exact d9.resC1 (fn:=Tryz.f205) rfl rfl (t7 rfl (by rw[<- hE]; exact (HR (n:=x.natAbs))))

theorem UB (c:List Int) (d:Int) (hc:∀i,dl (b6 c i)<=700000) (hd:dl d<=700000) (hp:0<d):Ct Tryz.prog 183 [b7 K5 (c,d)] (b7 K5 (loN c d)):=by
 refine Ct.mk Tryz.func183 rfl Tryz.ntmps183 rfl (fun w J=>?_); refine Tr.fact (s:=0) rfl (fun _ _ h=>PH h) (fun hl=>?_)
 have hl:c.length=4:=hl
 have hG:=dA (c:=c) hp
 have hGp:=PQ (cs:=c) (g:=d.natAbs) zo
 refine g9 ?_; refine jb 1 rfl ?_; refine ja 2 ?_; refine l6 ?_; refine ja 3 ?_; refine y7 ?_
 refine Tr.for1 (σ:=Nat) [⟨1,true,_,_⟩,⟨2,true,_,_⟩,⟨3,true,_,_⟩,⟨11,true,_,_⟩] [⟨1,_,_⟩,⟨2,_,_⟩] (fun k=>[⟨12,true,[],kI (k:Int)⟩]) (fun k=>[⟨3,[],j5 [kB (decide ((gL d.natAbs (c.take k):Int)<0)),b7 (eL eI) (d7 ((gL d.natAbs (c.take k):Int)).natAbs)]⟩]) (fun k=>k<=4) (fun k=>k=4) (fun k=>4-k) (0) zi (d6.mk (.i rfl zi<|zk) (.conv (AK (BL (by rw[List.take_zero]; show d=(d.natAbs:Int); omega))) rfl<|zk) rfl) ?_ ?_
 ·intro k hR0
  refine jn ?_
  have hgk:=dA (c:=c.take k) hp
  have hck:=hc k
  refine l6 ?_; refine jq ?_ ?_
  ·intro h3
   refine l6 ?_; refine tO (WW rfl uu rfl uu (fun _=>zo)) rfl rfl ?_; refine ja 5 ?_; refine l6 ?_; refine jc (qE (gL d.natAbs (c.take k):Int) (b6 c k) zo zo) ?_; refine j3 ?_
   exact g6.lp (k+1) zi zo (d6.mk (.i rfl zi<|zk) (.conv (AK (BL (VC zo).symm)) rfl<|zk) rfl)
  ·intro h3
   replace h3:=Int.not_lt.1 h3
   refine g8 ?_
   exact g6.cut (k) zo (d6.mk (.i rfl zi<|zk) (zk) rfl)
 ·rintro _ rfl
  refine je ?_
  rw[List.take_of_length_le zo]
  refine m8 ?_
  refine Tr.for1 (σ:=Nat) [⟨1,true,_,_⟩,⟨2,true,_,_⟩,⟨3,true,_,_⟩,⟨20,true,_,_⟩] [⟨2,_,_⟩,⟨3,_,_⟩] (fun k=>[⟨21,true,[],kI (k:Int)⟩]) (fun k=>[⟨1,[],j5 (wC (fun i=>if i<k then b6 c i/(gL d.natAbs c:Int) else b6 c i) 0 4++[kB (decide (d<0)),b7 (eL eI) (d7 (d).natAbs)])⟩]) (fun k=>k<=4) (fun k=>k=4) (fun k=>4-k) (0) zi (d6.mk (.i rfl zi<|zk) (.conv (cW (fun j _=>(if_neg zo).symm) rfl) rfl<|zk) rfl) ?_ ?_
  ·intro k hR1
   refine jn ?_
   have hck:=hc k
   have hgk:k<4->(if k<k then b6 c k/(gL d.natAbs c:Int) else b6 c k)=b6 c k:=fun _=>if_neg zo
   refine l6 ?_; refine jq ?_ ?_
   ·intro h8
    refine j6 ?_; refine tO (WW rfl uu rfl uu (fun _=>zo)) rfl rfl ?_; refine ja 7 ?_; refine j3 ?_; refine jc (UK (b6 c k) (gL d.natAbs c:Int) zo zo zo) ?_; refine g8 ?_; refine tO (DE rfl uu rfl uu (fun _=>zo)) rfl rfl ?_; refine b8.stW (k) zo zo rfl rfl rfl ?_; refine j6 ?_
    exact g6.lp (k+1) zi zo (d6.mk (.i rfl zi<|zk) (.conv (cW (fun j _=>by simp only[CK]; by_cases e:j=k; (rw[if_pos e,if_pos zo,e]); (rw[if_neg e]; by_cases e2:j<k; (rw[if_pos e2,if_pos zo]); (rw[if_neg e2,if_neg zo]))) rfl) rfl<|zk) rfl)
   ·intro h8
    replace h8:=Int.not_lt.1 h8
    refine g8 ?_
    exact g6.cut (k) zo (d6.mk (.i rfl zi<|zk) (zk) rfl)
  ·rintro _ rfl
   refine je ?_; refine l6 ?_; refine jc (UK d (gL d.natAbs c:Int) zo zo zo) ?_; refine C7 ?_; exact d9.resC1 (fn:=Tryz.f183) rfl rfl (t7 rfl (by rw[<- vR hp hl]; exact Prod.ext (C9 fun i hi=>if_pos hi) rfl))

end Go.Fl

/- Reduction modulo the polynomial of a field, as the program reckons it: in place. No program in sight. -/
namespace Go.Fl
open Go
def Q2 (p ys:List Int) (n i k:Nat):List Int:=j4 ys.length fun j=>if i-n<=j/\j<i-n+k then b6 ys j-b6 ys i*b6 p (j-(i-n)) else b6 ys j
theorem SC {p ys:List Int} {n i k:Nat}:(Q2 p ys n i k).length=ys.length:=p8
theorem ae6 {p ys:List Int} {n i:Nat}:ys=Q2 p ys n i 0:=by
 conv=>lhs; rw[T2 (rfl:ys.length=ys.length)]
 exact C9 fun j _=>(if_neg zo).symm
theorem kQ {p ys:List Int} {n i k j:Nat} (hj:j<ys.length) (h:j<i-n\/i-n+k<=j):b6 (Q2 p ys n i k) j=b6 ys j:=by
 unfold Q2
 rw[q9 hj,if_neg zo]
theorem ae4 {p ys:List Int} {n i k:Nat} (_:k<n) (hn:n<=i) (_:i<ys.length):(Q2 p ys n i k).set (i-n+k) (b6 ys (i-n+k)+-(b6 ys i*b6 p k))=Q2 p ys n i (k+1):=by
 unfold Q2
 rw[FW]
 refine C9 fun j hj=>?_
 by_cases e:j=i-n+k
 ·subst e
  rw[if_pos rfl,if_pos ⟨zo,zo⟩,Nat.add_sub_cancel_left]; omega
 ·rw[if_neg e]
  by_cases h:i-n<=j/\j<i-n+k
  ·rw[if_pos h,if_pos ⟨h.1,by omega⟩]
  ·rw[if_neg h,if_neg zo]
theorem P8 {xs:List Int} {i k:Nat} (h:i<k):b6 (xs.take k) i=b6 xs i:=by
 simp[b6,List.getD,h]
theorem ae5 {p ys:List Int} {n i:Nat} (hn:n<=i) (hi:i<ys.length):(Q2 p ys n i n).take i=X1 p n (ys.take (i+1)):=by
 have hl:(ys.take (i+1)).length=i+1:=by rw[List.length_take]; omega
 have e1:((Q2 p ys n i n).take i).length=i:=by rw[List.length_take,SC]; omega
 rw[T2 e1]
 unfold X1
 rw[hl,Nat.add_sub_cancel]
 refine C9 fun j hj=>?_
 rw[P8 hj,P8 zo,P8 zo]
 unfold Q2
 rw[q9 zo]
 by_cases h:i-n<=j
 ·rw[if_pos ⟨h,by omega⟩,if_pos h]
 ·rw[if_neg zo,if_neg h,Int.sub_zero]
theorem jM {p xs:List Int} {n:Nat} (hp:p.length-1=n) (h:n<xs.length):red p (X1 p n xs)=red p xs:=by
 unfold red
 rw[hp,AU]
 obtain ⟨f,hf⟩:∃f,xs.length-n=f+1:=⟨xs.length-n-1,by omega⟩
 rw[hf,show xs.length-1-n=f by omega]
 conv=>rhs; rw[L5,if_neg zo]
theorem RT {p xs:List Int} {n:Nat} (hp:p.length-1=n) (h:xs.length<=n):red p xs=xs++List.replicate (n-xs.length) 0:=by
 unfold red
 rw[hp,show xs.length-n=0 by omega,L5]
theorem zN {p ys:List Int} {n m:Nat} (hp:p.length-1=n) (hm:n<m) (hl:m<=ys.length):red p ((Q2 p ys n (m-1) n).take (m-1))=red p (ys.take m):=by
 rw[ae5 zo zo,show m-1+1=m by omega]
 exact jM hp (by rw[List.length_take]; omega)
theorem PC {a b q:Int} {A B:Nat} (ha:dl a<=A) (hb:dl b<=B) (hq:dl q<=1):dl (a+-(b*q))<=max A (B+1)+1:=by
 have h1:=P3 a (-(b*q))
 rw[K4] at h1
 have h2:=s9 b q
 omega
theorem kP {p ys:List Int} {n i k B:Nat} (_:n<=i) (_:i<ys.length) (hy:∀j,dl (b6 ys j)<=B) (hp:∀j,dl (b6 p j)<=1) (j:Nat):dl (b6 (Q2 p ys n i k) j)<=B+2:=by
 by_cases hj:j<ys.length
 ·unfold Q2
  rw[q9 hj]
  split
  ·rw[Int.sub_eq_add_neg]
   have:=PC (hy j) (hy i) (hp (j-(i-n)))
   omega
  ·have:=hy j; omega
 ·have:b6 (Q2 p ys n i k) j=0:=by simp[b6,List.getD,List.getElem?_eq_none (show (Q2 p ys n i k).length<=j by rw[SC]; omega)]
  rw[this]
  have:dl 0=0:=C5.2 rfl
  omega
def I2 (p xs:List Int):List Int:=j4 4 (b6 (red p xs))
theorem HJ {p xs:List Int}:(I2 p xs).length=4:=p8
theorem gT {p xs:List Int} {i:Nat} (h:i<4):b6 (I2 p xs) i=b6 (red p xs) i:=q9 h
theorem JK {xs:List Int} {k i:Nat}:b6 (xs++List.replicate k 0) i=if i<xs.length then b6 xs i else 0:=by
 split
 ·rename_i h; simp[b6,List.getD,List.getElem?_append_left h]
 ·rename_i h
  simp only[b6,List.getD,List.getElem?_append_right (Nat.le_of_not_lt h),List.getElem?_replicate]
  split<;>rfl
theorem vP {xs:List Int} {d:Int} (hd:d≠0):loN (xs.map fun c=>-c) (-d)=loN xs d:=by
 have:=QF (cs:=xs) (d:=d) (m:=-1) hd (by decide)
 rw[<- this]
 congr 1
 ·exact List.map_congr_left fun c _=>by omega
 ·omega
theorem tB {p xs:List Int} {ys:List Int} {n m B:Nat} (hp:p.length-1=n) (hm:m<=n) (hl:m<=ys.length) (he:red p (ys.take m)=red p xs) (hy:∀j,dl (b6 ys j)<=B) (i:Nat):b6 (red p xs) i=(if i<m then b6 ys i else 0)/\dl (b6 (red p xs) i)<=B:=by
 have hlen:(ys.take m).length=m:=by rw[List.length_take]; omega
 rw[<- he,RT hp zo,JK,hlen]
 split
 ·rename_i h; rw[P8 h]; exact ⟨rfl,hy i⟩
 ·exact ⟨rfl,by rw[C5.2 rfl]; omega⟩
theorem DT {F:Nat->Int} {k B:Nat} (h:∀i,i<k->dl (F i)<=B) (i:Nat):dl (b6 (j4 k F) i)<=B:=by
 by_cases hi:i<k
 ·rw[q9 hi]; exact h i hi
 ·have:b6 (j4 k F) i=0:=by simp[b6,List.getD,List.getElem?_eq_none (show (j4 k F).length<=i by rw[p8]; omega)]
  rw[this,C5.2 rfl]; omega
theorem ME {c:List Int} {k:Nat} (hl:c.length=k):(c.map fun z=>-z)=j4 k fun i=>-b6 c i:=by
 conv=>lhs; rw[T2 hl]
 simp[j4]
theorem FG {v:List Int×Int} (h:v.1.length=4):(j4 4 (b6 v.1),v.2)=v:=Prod.ext (T2 h).symm rfl
def H8 (x y:List Int×Int):List Int×Int:=loN (j4 4 fun i=>b6 x.1 i*y.2+b6 y.1 i*x.2) (x.2*y.2)
theorem sV {x y:List Int×Int} {A:Nat} (hx:∀i,dl (b6 x.1 i)<=A) (hy:∀i,dl (b6 y.1 i)<=A) (hdx:dl x.2<=A) (hdy:dl y.2<=A) (i:Nat):dl (b6 x.1 i*y.2+b6 y.1 i*x.2)<=2*A+1:=by
 have h1:=hx i
 have h2:=hy i
 have h3:=s9 (b6 x.1 i) y.2
 have h4:=s9 (b6 y.1 i) x.2
 have h5:=P3 (b6 x.1 i*y.2) (b6 y.1 i*x.2)
 omega
end Go.Fl

/- A part of an array of the call's own, as a slice; copies of integers into it. -/
namespace Go.Fl
open Go Go.RowKit
set_option maxRecDepth 100000
theorem zY {P:Program} (w:World) (dT sT ty elem:TypeId) (g o dLen dCap sz n:Nat) (src:Value) (cur:Array Value) (t:TypeId) (cs:List Value) (hu:P.underlying dT=some (.slice elem)) (hs:(P.info? elem).map (·.size)=some sz)
  (hg:w.heap[g]?=some (.cells cur t (0,0))) (hl:(Builtin.lenOf src).run P w=.ok n w) (hf:(Builtin.firstCells sz (Nat.min n dLen) src).run P w=.ok cs.toArray w) (hfit:o+cs.length<=cur.size) (h1:∀v∈cs,v.oneCell'=true) :
  (Builtin.copy_ #[dT,sT] ty #[.slice (some ⟨g,o,none⟩) dLen dCap,src]).run P w=.ok (goInt (Nat.min n dLen)) (w.setRow g (cur.toList.take o++cs++cur.toList.drop (o+cs.length)).toArray):=by
 have hst:=run_storeCells_at P g o t cs 0 cur w hg (by simpa using hfit) h1
 cases hq:P.info? elem with
 | none=>simp[hq] at hs
 | some i =>
  have hi:i.size=sz:=by simpa [hq] using hs
  simp[Builtin.copy_,run_underlying hu,sizeOf,typeInfo,hq,hi,hl,hf,hst]
def VP (t o l c:Nat):d5:=fun g v=>∃b cap,g.M t=some (.blk b cap)/\v=.slice (some ⟨b,o,none⟩) l c
instance (t o l c:Nat):o7 (VP t o l c) [t]:=⟨fun _ hd ⟨b,cap,h1,h2⟩=>⟨b,cap,(hd t (by simp)).trans h1,h2⟩⟩
section
variable {P:Program} {c:m9} {S:i5} {M:i1} {p:Bool} {d:Option Tmp} {ty:TypeId} {pos:String} {af:Array Edge} {gd:Option (Nat×Bool)} {x y:Operand} {b b':Bool}
theorem xT {t et:TypeId} {n:Nat} [ht:AH P t n et] {sz by':Nat} {zz:Value} [hz:o8 P et sz by' zz] {u o:Nat} {ik:IntKind} {i0:Int} (hx:j2 S x=some (b,y5 u o)) (hb:p=true->b=true) (hy:j2 S y=some (b',y8 ik i0)) (hb':p=true->b'=true)
  (h:p=true->0<=i0/\i0<=n):l4 P c S M ⟨d,.slice t x none (some y) none,ty,pos,af,gd⟩ p (VP u o i0.toNat n) none :=
 l4.pure fun hp a g w _ _ ho=>by
  obtain ⟨bl,cap,h1,h2⟩:=ho x (by simp[Op.operands]) b _ hx (hb hp)
  have hi:a.eval y=_:=ho y (by simp[Op.operands]) b' _ hy (hb' hp)
  have hlt:=h hp
  obtain ⟨ti,hti,rfl,_,_⟩:=hz.h
  refine ⟨.slice (some ⟨bl,o,none⟩) i0.toNat n,?_,bl,cap,h1,rfl⟩
  have hbd:(Instr.sliceBounds false n n none (some (.int ik i0)) none).run P w=.ok (0,i0.toNat,n) w:=by
   simp[Instr.sliceBounds,Instr.sliceBound,asIntOf,hlt]
  simp only[execOp,hi,h2,Option.map,Sem.run_bind]
  unfold Instr.sliceAt
  simp only[Sem.run_bind,run_underlying ht.h,Result.andThen_ok,Instr.sureAddr,Sem.run_pure,hbd]
  simp[sizeOf,typeInfo,hti,Addr.add]
end
section
variable {P:Program} {c:m9} {ops:Array Oper} {S:i5} {M:i1} {rest:List Oper} {Q:Exit->Act->World->Prop} {x y:Operand}
variable {d:Nat} {ty:TypeId} {pos:String} {af:Array Edge}
theorem ah5 {f:Nat->Int} {i m:Nat} {z:Int} (h:f i=z):wC f i (m+1)=kB (decide (z<0))::b7 (eL eI) (d7 z.natAbs)::wC f (i+1) m:=by subst h; rfl
theorem ah3 {ys:List Int} {g:Gh}:∀{k:Nat} {f:Nat->Int} {i m:Nat} {r:List d5} {cs vs:List Value},o4 g (wC f i m++r) cs->k<=m->k<=ys.length->AR eZ g.J vs (ys.take k)->o4 g (wC (fun j=>if i<=j/\j<i+k then b6 ys (j-i) else f j) i m++r) (vs++cs.drop (2*k)):=by
 intro k
 induction ys generalizing k with
 | nil =>
  intro f i m r cs vs h _ hk hv
  obtain rfl:k=0:=by simpa using hk
  have hv:vs=[]:=hv
  subst hv
  rw[KI (f':=f) fun j _ _=>if_neg zo]
  simpa using h
 | cons y ys ih =>
  intro f i m r cs vs h hkm hk hv
  cases k with
  | zero =>
   have hv:vs=[]:=hv
   subst hv
   rw[KI (f':=f) fun j _ _=>if_neg zo]
   simpa using h
  | succ k =>
   cases m with
   | zero=>omega
   | succ m =>
    rw[List.take_succ_cons] at hv
    obtain ⟨c1,c2,rfl,q1,q2⟩:=hv
    match cs,h with
    | a::b::cs,⟨h1,h2,h3⟩ =>
     have hr:=ih (k:=k) (f:=f) (i:=i+1) (m:=m) h3 zo (by simpa using hk) q2
     have e0:(fun j=>if i<=j/\j<i+(k+1) then b6 (y::ys) (j-i) else f j) i=y:=by simp[b6]
     rw[List.append_assoc,show 2*(k+1)=2*k+2 by omega,List.drop_succ_cons,List.drop_succ_cons]
     rw[ah5 e0,KI (f':=fun j=>if i+1<=j/\j<i+1+k then b6 ys (j-(i+1)) else f j) (fun j hj _=>by
      by_cases e:j<i+(k+1)
      ·rw[if_pos ⟨by omega,e⟩,if_pos ⟨hj,by omega⟩,show j-i=(j-(i+1))+1 by omega]; rfl
      ·rw[if_neg zo,if_neg zo])]
     exact (inferInstance:H1 eZ y _ _).imp q1 hr
theorem b8.cpW {t et:TypeId} [ht:B7 P t et] {by':Nat} {zz:Value} [hz:o8 P et 2 by' zz] {u l1 c1 m:Nat} {f:Nat->Int} {ys:List Int} {r:List d5} {dep dep':List Nat} {M':i1} (k:Nat) (hx:j2 S x=some (true,VP u 0 l1 c1)) (hy:j2 S y=some (true,b7 (eL eZ) ys)) [hl:p9 M u (j5 (wC f 0 m++r)) dep]
  (hk:k=min ys.length l1) (hm:l1<=m) [hd:C1 (wC (fun j=>if j<k then b6 ys j else f j) 0 m++r) dep'] [hup:D4 M u (j5 (wC (fun j=>if j<k then b6 ys j else f j) 0 m++r)) dep' M'] (hs:u4 dep' (tags M)=true) (hn:Nat.blt d c.n=true)
  (K:b8 P c ops (⟨d,true,[],kI k⟩::S) M' rest Q):b8 P c ops S M (⟨some d,.call { callee:=.builtin .copy,args:=#[x,y],argTypes:=#[t,t] },ty,pos,af,none⟩::rest) Q:=by
 intro a g w hsat
 have hdn:d<c.n:=by simpa [Nat.blt_eq] using hn
 obtain ⟨b,cap,hm1,he⟩:=A8 hsat.slots hx rfl
 obtain ⟨cs0,⟨ad,cp,rfl,k2,k3⟩,hv⟩:=A8 hsat.slots hy rfl
 simp only[eL,Bool.false_eq_true,if_false,List.headD_cons] at hv
 obtain ⟨cs,tt,h3,h4⟩:=DP (ks:=wC f 0 m++r) hsat.conts hm1
 obtain ⟨ti,hti,hts,_,_⟩:=hz.h
 have hcl:=K3 h4
 simp only[Array.length_toList,List.length_append,SO] at hcl
 obtain ⟨vs,hvs,hfc⟩:∃vs,AR eZ g.J vs (ys.take k)/\(Builtin.firstCells 2 (Nat.min ys.length l1) (a.eval y)).run P w=.ok vs.toArray w:=by
  have hkk:Nat.min ys.length l1=k:=hk.symm
  rw[hkk,hv]
  rcases k3 with rfl | ⟨bl,o,rfl,hrow⟩
  ·have hk0:k=0:=by simpa using hk
   subst hk0
   refine ⟨[],rfl,?_⟩
   cases ad with
   | none=>rfl
   | some ad =>
    have:=run_loadCells_list (P:=P) w ad [] (fun j v hj=>by simp at hj)
    simpa [Builtin.firstCells] using this
  ·have key:∀(n i:Nat) (zs:List Int),zs.length=n->(∀j x,zs[j]?=some x->∃ds,eZ.rd g.J ds x/\DQ g.J bl (o+(i+j)*2) ds)->∃vs,AR eZ g.J vs zs/\DQ g.J bl (o+i*2) vs:=by
    intro n
    induction n with
    | zero=>intro i zs hz _; rw[List.eq_nil_of_length_eq_zero hz]; exact ⟨[],rfl,fun j v hj=>by simp at hj⟩
    | succ n ih =>
     intro i zs hz hr
     match zs,hz with
     | z::zs,hz =>
      obtain ⟨ds,q1,q2⟩:=hr 0 z rfl
      obtain ⟨vs,r1,r2⟩:=ih (i+1) zs (by simpa using hz) (fun j x hx=>by
       obtain ⟨es,s1,s2⟩:=hr (j+1) x (by simpa using hx)
       exact ⟨es,s1,by rwa [show i+1+j=i+(j+1) by omega]⟩)
      refine ⟨ds++vs,⟨ds,vs,rfl,q1,r1⟩,fun j v hj=>?_⟩
      have hl:=eZ.len q1
      rw[show eZ.n=2 from rfl] at hl
      rw[List.getElem?_append] at hj
      split at hj
      ·have:=q2 j v hj
       rwa [Nat.add_zero] at this
      ·have:=r2 _ v hj
       rwa [show o+(i+1)*2+(j-ds.length)=o+i*2+j by omega] at this
   obtain ⟨vs,r1,r2⟩:=key _ 0 (ys.take k) rfl (fun j x hx=>by
    rw[List.getElem?_take] at hx
    split at hx
    ·obtain ⟨ds,q1,q2⟩:=hrow j x hx
     exact ⟨ds,q1,by rw[Nat.zero_add]; exact q2⟩
    ·cases hx)
   refine ⟨vs,r1,?_⟩
   have hlen:=RS r1
   rw[List.length_take,show eZ.n=2 from rfl] at hlen
   have:=run_loadCells_list (P:=P) w ⟨bl,o,none⟩ vs (fun j v hj=>by
    have:=hsat.ok.im _ _ _ (r2 j v hj)
    rw[Addr.add_lit]
    simpa using this)
   rw[hlen,show min k ys.length=k by omega] at this
   simpa [Builtin.firstCells] using this
 have hvl:vs.length=k*2:=by
  have:=RS hvs
  rw[List.length_take,show eZ.n=2 from rfl] at this
  rw[this]; congr 1; omega
 have hr:=zY (P:=P) w t t ty et b 0 l1 c1 2 ys.length (a.eval y) cs tt vs ht.h (by rw[hti]; simp[hts]) h3 (by rw[hv]; simp[Builtin.lenOf]) hfc zo (XN hvs)
 refine wpList_plain rfl fun K' hK'=>?_
 unfold Oper.wp
 simp only[execOp,resolve,Sem.run_bind,Sem.run_pure,Result.andThen_ok,invoke,builtin,List.map_toArray,List.map_cons,List.map_nil]
 rw[he,hr]
 simp only[Result.andThen_ok,Oper.upon]
 have hnew:=ah3 (ys:=ys) h4 (k:=k) zo zo hvs
 rw[KI (f':=fun j=>if j<k then b6 ys j else f j) (fun j _ _=>by
  by_cases e:j<k
  ·rw[if_pos ⟨Nat.zero_le _,by omega⟩,if_pos e,Nat.sub_zero]
  ·rw[if_neg zo,if_neg e])] at hnew
 have hst:=hsat.store hm1 h3 hup ⟨_,_,rfl,(by simpa [hvl,Nat.mul_comm] using hnew:o4 g _ (cs.toList.take 0++vs++cs.toList.drop (0+vs.length)).toArray.toList)⟩ inferInstance (C3 hs)
 refine hK' _ _ (K _ g _ (hst.did (G5.same hst.ok (k:=kI k) ?_) (fun _ h=>by cases h) inferInstance (fun _ h=>by cases h) hdn))
 show goInt (Nat.min ys.length l1)=_
 rw[show Nat.min ys.length l1=k from hk.symm]
 rfl
theorem nJ {g:Gh} {a b:d5} {vs:List Value} (h:o4 g [a,b] vs):∃u v,vs=[u,v]/\a g u/\b g v:=by
 match vs,h with
 | [u,v],h=>exact ⟨u,v,rfl,h.1,h.2.1⟩
theorem mA {F C:Nat->Int} {k j:Nat} {z:Int} (hz:z=F k):CK (fun i=>if i<k then F i else C i) k z j=if j<k+1 then F j else C j:=by
 unfold CK
 by_cases e:j=k
 ·subst e; rw[if_pos rfl,if_pos (Nat.lt_succ_self _),hz]
 ·rw[if_neg e]
  show (if j<k then F j else C j)=_
  by_cases h:j<k
  ·rw[if_pos h,if_pos zo]
  ·rw[if_neg h,if_neg zo]
theorem Tr.conC {code:Code} (v:Nat) {ct ct':t8} {dep dep':List Nat} {M':i1} [hl:p9 M v ct dep] (hc:∀g b o,ct g b o->ct' g b o) [hd:A9 ct' dep'] [hup:D4 M v ct' dep' M'] (hs:u4 dep' (tags M)=true) (K:Tr P c S M' code Q):Tr P c S M code Q :=
 fun a g w h=>K a g w (h.conC hc hd hup (C3 hs))
theorem mH {r r':List d5} (hr:∀g vs,o4 g r vs->o4 g r' vs):∀g b o,j5 ([kB false,i9 (.slice none 0 0),kB false,i9 (.slice none 0 0),kB false,i9 (.slice none 0 0),kB false,i9 (.slice none 0 0)]++r) g b o->j5 (wC (fun _=>0) 0 4++r') g b o:=fun g _ _ ⟨cs,ty,h1,h2⟩=>⟨cs,ty,h1,by
 have hz:∀v,i9 (.slice none 0 0) g v->b7 (eL eI) (d7 (0:Int).natAbs) g v:=fun v h=>by
  cases h
  exact ⟨_,X0 (c:=0),rfl⟩
 match h:cs.toList,h2 with
 | a0::b0::a1::b1::a2::b2::a3::b3::vs,⟨q0,p0,q1,p1,q2,p2,q3,p3,hvs⟩=>exact ⟨q0,hz _ p0,q1,hz _ p1,q2,hz _ p2,q3,hz _ p3,hr _ _ hvs⟩⟩
end
end Go.Fl
