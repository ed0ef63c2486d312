/- Laws on walking typed knowledge through code, and contracts. -/
import Derived.Test.YthfaleobmefibaaGreatM2
import Derived.Test.YthfaleobmefibaaGreatChecked
import Derived.KernelRfl
import Derived.Laws.CopyRow

/- Steps that follow from the code alone. -/
namespace Go.Fl
open Go
section
variable {P:Program} {c:l8} {ops:Array Oper} {S:g9} {M M0:f0} {rest:List Oper} {Q:Exit->Act->World->Prop}
theorem C0 {d:Option Nat} {ty:TypeId} {pos:String} {af:Array Edge} {gd:Option (Nat×Bool)} (o:Op) (h:d5 P c ops S M (⟨d,o,ty,pos,af,gd⟩::rest) Q):d5 P c ops S M (⟨d,o,ty,pos,af,gd⟩::rest) Q:=h
theorem C1 {d:Option Nat} {ty:TypeId} {pos:String} {af:Array Edge} {gd:Option (Nat×Bool)} {m:Nat} (o:Op) (h:i6 P c ops Q M0 (⟨d,o,ty,pos,af,gd⟩::rest) m S M):i6 P c ops Q M0 (⟨d,o,ty,pos,af,gd⟩::rest) m S M:=h
theorem sI {d:Option Nat} {ty:TypeId} {pos:String} {af:Array Edge} {gd:Nat×Bool} (o:Op) (h:d5 P c ops S M (⟨d,o,ty,pos,af,some gd⟩::rest) Q):d5 P c ops S M (⟨d,o,ty,pos,af,some gd⟩::rest) Q:=h
theorem sJ {d:Option Nat} {ty:TypeId} {pos:String} {af:Array Edge} {gd:Nat×Bool} {m:Nat} (o:Op) (h:i6 P c ops Q M0 (⟨d,o,ty,pos,af,some gd⟩::rest) m S M):i6 P c ops Q M0 (⟨d,o,ty,pos,af,some gd⟩::rest) m S M:=h
theorem jc {f:FuncId} [d8 P f] {args:List Operand} {tys:Array TypeId} {ks:List b8} {res:b8} {d:Nat} {ty:TypeId} {pos:String} {af:Array Edge} (hct:Ct P f ks res) [o4 res []] (K:d5 P c ops (⟨d,true,[],res⟩::S) M rest Q) (ha:D8 S true args ks:=by repeat first | exact .nil | refine .a rfl (fun _=>rfl) ?_ | refine .s rfl (fun _=>rfl) rfl ?_ | refine .se rfl (fun _=>rfl) rfl rfl ?_) (hn:Nat.blt d c.n=true:=by rfl):d5 P c ops S M (⟨some d,.call { callee:=.value (.func f),args:=args.toArray,argTypes:=tys },ty,pos,af,none⟩::rest) Q:=d5.op (j7 (fun _=>hct) ha) rfl hn K
theorem jd {f:FuncId} [d8 P f] {args:List Operand} {tys:Array TypeId} {ks:List b8} {res:b8} {d m:Nat} {ty:TypeId} {pos:String} {af:Array Edge} (hct:Ct P f ks res) [o4 res []] (K:i6 P c ops Q M0 rest m (⟨d,true,[],res⟩::S) M) (ha:D8 S true args ks:=by repeat first | exact .nil | refine .a rfl (fun _=>rfl) ?_ | refine .s rfl (fun _=>rfl) rfl ?_ | refine .se rfl (fun _=>rfl) rfl rfl ?_) (hn:Nat.blt d c.n=true:=by rfl):i6 P c ops Q M0 (⟨some d,.call { callee:=.value (.func f),args:=args.toArray,argTypes:=tys },ty,pos,af,none⟩::rest) (m+1) S M:=i6.op (j7 (fun _=>hct) ha) rfl hn K
theorem jb {el:TypeId} {x:Operand} {k:b8} {ks:List b8} {dep:List Nat} {d:Nat} {ty:TypeId} {pos:String} {af:Array Edge} (t:Nat) (hx:j1 S x=some (true,k)) [F3 k ks] [A6 ks dep] (K:d5 P c ops (⟨d,true,[t],w6 t 0⟩::S) (⟨t,dep,j3 ks⟩::M) rest Q) (hs:s5 dep (tags M)=true:=by rfl) (hcs:s5 dep (tags (⟨t,dep,j3 ks⟩::M))=true:=by rfl) (hd:s5 [t] (tags (⟨t,dep,j3 ks⟩::M))=true:=by rfl) (hf:s5 [t] (tags M)=false:=by rfl) (hn:Nat.blt d c.n=true:=by rfl):d5 P c ops S M (⟨some d,.box el x,ty,pos,af,none⟩::rest) Q:=d5.new (uM t hx (fun _=>rfl) hs) hd hcs hf hn K
theorem ja {el:TypeId} {ks:List b8} {d:Nat} {ty:TypeId} {pos:String} {af:Array Edge} (t:Nat) [F4 P el ks] [A6 ks []] (K:d5 P c ops (⟨d,true,[t],w6 t 0⟩::S) (⟨t,[],j3 ks⟩::M) rest Q) (hd:s5 [t] (tags (⟨t,[],j3 ks⟩::M))=true:=by rfl) (hf:s5 [t] (tags M)=false:=by rfl) (hn:Nat.blt d c.n=true:=by rfl):d5 P c ops S M (⟨some d,.alloc el,ty,pos,af,none⟩::rest) Q:=d5.new (IA t) hd rfl hf hn K
theorem jq {x:Operand} {t f:Code} {p:Prop} [Decidable p] (ht:p->Tr P c S M t Q) (hf:¬p->Tr P c S M f Q) (hl:j1 S x=some (true,kB (decide p)):=by rfl):Tr P c S M (.cond x t f) Q:=Tr.cnd hl (fun h=>ht (of_decide_eq_true h)) (fun h=>hf (of_decide_eq_false h))
theorem KX {α:Type}:([]:List α)=[]:=rfl
theorem nC {s:Nat} {b:Bool} {d:List Nat} {k:b8} {S S':g9} (h:S=S'):(⟨s,b,d,k⟩::S:g9)=⟨s,b,d,k⟩::S':=by rw[h]
theorem nM {t:Nat} {d:List Nat} {k:s9} {S S':f0} (h:S=S'):(⟨t,d,k⟩::S:f0)=⟨t,d,k⟩::S':=by rw[h]
theorem jn {x:Code} {S':g9} {M':f0} (h:Tr P c S' M' x Q) (hS:S=S':=by repeat first | apply nC | exact KX) (hM:M=M':=by repeat first | apply nM | exact KX):Tr P c S M x Q:=Tr.norm hS hM h
theorem jl {S':g9} {M':f0} (h:d5 P c ops S' M' rest Q) (hS:S=S':=by repeat first | apply nC | exact KX) (hM:M=M':=by rfl):d5 P c ops S M rest Q:=d5.norm hS hM h
theorem je {S':g9} {M':f0} (h:g8 c S' M' Q) (hS:S=S':=by repeat first | apply nC | exact KX) (hM:M=M':=by repeat first | apply nM | exact KX):g8 c S M Q:=g8.norm hS hM h
theorem zk {p:Prop} (h:p:=by repeat first | exact C4.nil | exact N4.nil | exact C8.nil | refine C4.k rfl rfl ?_ | refine N4.k rfl ?_ | refine C8.k rfl ?_):p:=h
end
theorem i9 {A B:Prop} (h:A) (K:(Unit->A)->B:=by
 intro h
 first
 | with_reducible refine Tr.seq ?_
 | with_reducible refine Tr.rg ?_
 | with_reducible refine d5.fin ?_
 | with_reducible refine g8.nxt ?_
 | with_reducible refine Tr.skip ?_
 | with_reducible refine Tr.blk ?_
 | with_reducible refine g8.blk ?_
 | with_reducible refine Tr.ret ?_
 | with_reducible refine d9.thn ?_
 | with_reducible refine d9.out ?_
 | with_reducible refine Y6.thn ?_
 | with_reducible refine i6.z ?_
 | with_reducible refine Tr.exit ?_
 | with_reducible refine Y6.here ?_
 | with_reducible refine Y6.out rfl ?_
 | (with_reducible refine sI _ ?_); first
  | (with_reducible refine C0 (.move _) ?_); first | refine d5.gd rfl rfl rfl (H3 rfl (by first | exact id | exact fun _=>rfl)) rfl rfl ?_
  | (with_reducible refine C0 (.assign _) ?_); first | refine d5.gd rfl rfl rfl (LA rfl (by first | exact id | exact fun _=>rfl)) rfl rfl ?_
  | (with_reducible refine C0 (.call _) ?_); first | refine d5.gd rfl rfl rfl (PF rfl (by first | exact id | exact fun _=>rfl)) rfl rfl ?_
  | (with_reducible refine C0 (.fieldAddr _ _ _) ?_); first | refine d5.gd rfl rfl rfl (X5 rfl (by first | exact id | exact fun _=>rfl)) rfl rfl ?_ | refine d5.gd rfl rfl rfl (ID rfl (by first | exact id | exact fun _=>rfl) rfl) rfl rfl ?_
  | (with_reducible refine C0 (.unOp .not _ _) ?_); first | refine d5.gd rfl rfl rfl (PL rfl (by first | exact id | exact fun _=>rfl)) rfl rfl ?_
  | (with_reducible refine C0 (.load _ _) ?_); first | refine d5.gd rfl rfl rfl (K1 rfl (by first | exact id | exact fun _=>rfl) rfl) rfl rfl ?_ | refine d5.gd rfl rfl rfl (AZ rfl (by first | exact id | exact fun _=>rfl) rfl) rfl rfl ?_ | refine d5.gd rfl rfl rfl (S7 rfl (by first | exact id | exact fun _=>rfl) rfl rfl) rfl rfl ?_ | refine d5.gd rfl rfl rfl (O6 rfl (by first | exact id | exact fun _=>rfl)) rfl rfl ?_ | refine d5.gd rfl rfl rfl (PD rfl (by first | exact id | exact fun _=>rfl) rfl rfl rfl) rfl rfl ?_
  | (with_reducible refine C0 (.extract _ _) ?_); first | refine d5.gd rfl rfl rfl (IC rfl (by first | exact id | exact fun _=>rfl) rfl) rfl rfl ?_
  | (with_reducible refine C0 (.binOp .lss _ _ _ _) ?_); first | refine d5.gd rfl rfl rfl (PH rfl (by first | exact id | exact fun _=>rfl) rfl (by first | exact id | exact fun _=>rfl)) rfl rfl ?_
  | (with_reducible refine C0 (.binOp .neq _ _ _ _) ?_); first | refine d5.gd rfl rfl rfl (PJ rfl (by first | exact id | exact fun _=>rfl) rfl (by first | exact id | exact fun _=>rfl)) rfl rfl ?_
  | (with_reducible refine C0 (.binOp .eql _ _ _ _) ?_); first | refine d5.gd rfl rfl rfl (PA rfl (by first | exact id | exact fun _=>rfl) rfl (by first | exact id | exact fun _=>rfl)) rfl rfl ?_
  | (with_reducible refine C0 (.binOp .gtr _ _ _ _) ?_); first | refine d5.gd rfl rfl rfl (PC rfl (by first | exact id | exact fun _=>rfl) rfl (by first | exact id | exact fun _=>rfl)) rfl rfl ?_
  | (with_reducible refine C0 (.binOp .geq _ _ _ _) ?_); first | refine d5.gd rfl rfl rfl (PB rfl (by first | exact id | exact fun _=>rfl) rfl (by first | exact id | exact fun _=>rfl)) rfl rfl ?_
  | (with_reducible refine C0 (.binOp .leq _ _ _ _) ?_); first | refine d5.gd rfl rfl rfl (PG rfl (by first | exact id | exact fun _=>rfl) rfl (by first | exact id | exact fun _=>rfl)) rfl rfl ?_
  | (with_reducible refine C0 (.binOp .add _ _ _ _) ?_); first | refine d5.gd rfl rfl rfl (HZ rfl (by first | exact id | exact fun _=>rfl) rfl (by first | exact id | exact fun _=>rfl) (fun _=>by omega)) rfl rfl ?_
  | (with_reducible refine C0 (.binOp .sub _ _ _ _) ?_); first | refine d5.gd rfl rfl rfl (BB rfl (by first | exact id | exact fun _=>rfl) rfl (by first | exact id | exact fun _=>rfl) (fun _=>by omega)) rfl rfl ?_
  | (with_reducible refine C0 (.binOp .mul _ _ _ _) ?_); first | refine d5.gd rfl rfl rfl (II rfl (by first | exact id | exact fun _=>rfl) rfl (by first | exact id | exact fun _=>rfl) (fun _=>by omega)) rfl rfl ?_
  | (with_reducible refine C0 (.indexAddr _ _ _) ?_); first | refine d5.gd rfl rfl rfl (I0 rfl (by first | exact id | exact fun _=>rfl) rfl (by first | exact id | exact fun _=>rfl) rfl (fun _=>by omega)) rfl rfl ?_ | refine d5.gd rfl rfl rfl (AY rfl (by first | exact id | exact fun _=>rfl) rfl (by first | exact id | exact fun _=>rfl) rfl (fun _=>by omega)) rfl rfl ?_ | refine d5.gd rfl rfl rfl (IE rfl (by first | exact id | exact fun _=>rfl) rfl (by first | exact id | exact fun _=>rfl) (fun _=>by omega)) rfl rfl ?_ | refine d5.gd rfl rfl rfl (FV rfl (by first | exact id | exact fun _=>rfl) rfl (by first | exact id | exact fun _=>rfl) (fun _=>by omega)) rfl rfl ?_
 | (with_reducible refine C0 _ ?_); first
  | (with_reducible refine C0 (.move _) ?_); first | refine d5.op (H3 rfl (fun _=>rfl)) rfl rfl ?_
  | (with_reducible refine C0 (.assign _) ?_); first | refine d5.op (LA rfl (fun _=>rfl)) rfl rfl ?_
  | (with_reducible refine C0 (.call _) ?_); first | refine d5.op (PF rfl (fun _=>rfl)) rfl rfl ?_ | refine d5.app rfl rfl rfl rfl rfl rfl rfl rfl (by first | omega | (simp only[List.length_cons,List.length_nil]; omega)) (by first | omega | (simp only[List.length_cons,List.length_nil]; omega)) ?_
  | (with_reducible refine C0 (.fieldAddr _ _ _) ?_); first | refine d5.op (X5 rfl (fun _=>rfl)) rfl rfl ?_ | refine d5.op (ID rfl (fun _=>rfl) rfl) rfl rfl ?_
  | (with_reducible refine C0 (.unOp .not _ _) ?_); first | refine d5.op (PL rfl (fun _=>rfl)) rfl rfl ?_
  | (with_reducible refine C0 (.load _ _) ?_); first | refine d5.op (K1 rfl (fun _=>rfl) rfl) rfl rfl ?_ | refine d5.op (AZ rfl (fun _=>rfl) rfl) rfl rfl ?_ | refine d5.op (S7 rfl (fun _=>rfl) rfl rfl) rfl rfl ?_ | refine d5.op (O6 rfl (fun _=>rfl)) rfl rfl ?_ | refine d5.op (PD rfl (fun _=>rfl) rfl rfl rfl) rfl rfl ?_
  | (with_reducible refine C0 (.extract _ _) ?_); first | refine d5.op (IC rfl (fun _=>rfl) rfl) rfl rfl ?_
  | (with_reducible refine C0 (.binOp .lss _ _ _ _) ?_); first | refine d5.op (PH rfl (fun _=>rfl) rfl (fun _=>rfl)) rfl rfl ?_
  | (with_reducible refine C0 (.binOp .neq _ _ _ _) ?_); first | refine d5.op (PJ rfl (fun _=>rfl) rfl (fun _=>rfl)) rfl rfl ?_
  | (with_reducible refine C0 (.binOp .eql _ _ _ _) ?_); first | refine d5.op (PA rfl (fun _=>rfl) rfl (fun _=>rfl)) rfl rfl ?_
  | (with_reducible refine C0 (.binOp .gtr _ _ _ _) ?_); first | refine d5.op (PC rfl (fun _=>rfl) rfl (fun _=>rfl)) rfl rfl ?_
  | (with_reducible refine C0 (.binOp .geq _ _ _ _) ?_); first | refine d5.op (PB rfl (fun _=>rfl) rfl (fun _=>rfl)) rfl rfl ?_
  | (with_reducible refine C0 (.binOp .leq _ _ _ _) ?_); first | refine d5.op (PG rfl (fun _=>rfl) rfl (fun _=>rfl)) rfl rfl ?_
  | (with_reducible refine C0 (.binOp .add _ _ _ _) ?_); first | refine d5.op (HZ rfl (fun _=>rfl) rfl (fun _=>rfl) (fun _=>by omega)) rfl rfl ?_
  | (with_reducible refine C0 (.binOp .sub _ _ _ _) ?_); first | refine d5.op (BB rfl (fun _=>rfl) rfl (fun _=>rfl) (fun _=>by omega)) rfl rfl ?_
  | (with_reducible refine C0 (.binOp .mul _ _ _ _) ?_); first | refine d5.op (II rfl (fun _=>rfl) rfl (fun _=>rfl) (fun _=>by omega)) rfl rfl ?_
  | (with_reducible refine C0 (.indexAddr _ _ _) ?_); first | refine d5.op (I0 rfl (fun _=>rfl) rfl (fun _=>rfl) rfl (fun _=>by omega)) rfl rfl ?_ | refine d5.op (AY rfl (fun _=>rfl) rfl (fun _=>rfl) rfl (fun _=>by omega)) rfl rfl ?_ | refine d5.op (IE rfl (fun _=>rfl) rfl (fun _=>rfl) (fun _=>by omega)) rfl rfl ?_ | refine d5.op (FV rfl (fun _=>rfl) rfl (fun _=>rfl) (fun _=>by omega)) rfl rfl ?_
  | (with_reducible refine C0 (.pick _ _ _) ?_); first | refine d5.op (VY rfl (fun _=>rfl) rfl (fun hp h=>UD ((fun _=>rfl) hp) h)) rfl rfl ?_ | refine d5.op (WD rfl (fun _=>rfl) rfl (fun hp h=>UC ((fun _=>rfl) hp) h)) rfl rfl ?_
  | (with_reducible refine C0 (.store _ _ _) ?_); first | refine d5.stB rfl rfl rfl rfl ?_ | refine d5.stE rfl rfl rfl rfl rfl ?_
 | (with_reducible refine sJ _ ?_); first
  | (with_reducible refine C1 (.move _) ?_); first | refine i6.gd rfl rfl rfl (H3 rfl (by first | exact id | exact fun _=>rfl)) rfl rfl ?_
  | (with_reducible refine C1 (.assign _) ?_); first | refine i6.gd rfl rfl rfl (LA rfl (by first | exact id | exact fun _=>rfl)) rfl rfl ?_
  | (with_reducible refine C1 (.call _) ?_); first | refine i6.gd rfl rfl rfl (PF rfl (by first | exact id | exact fun _=>rfl)) rfl rfl ?_
  | (with_reducible refine C1 (.fieldAddr _ _ _) ?_); first | refine i6.gd rfl rfl rfl (X5 rfl (by first | exact id | exact fun _=>rfl)) rfl rfl ?_ | refine i6.gd rfl rfl rfl (ID rfl (by first | exact id | exact fun _=>rfl) rfl) rfl rfl ?_
  | (with_reducible refine C1 (.unOp .not _ _) ?_); first | refine i6.gd rfl rfl rfl (PL rfl (by first | exact id | exact fun _=>rfl)) rfl rfl ?_
  | (with_reducible refine C1 (.load _ _) ?_); first | refine i6.gd rfl rfl rfl (K1 rfl (by first | exact id | exact fun _=>rfl) rfl) rfl rfl ?_ | refine i6.gd rfl rfl rfl (AZ rfl (by first | exact id | exact fun _=>rfl) rfl) rfl rfl ?_ | refine i6.gd rfl rfl rfl (S7 rfl (by first | exact id | exact fun _=>rfl) rfl rfl) rfl rfl ?_ | refine i6.gd rfl rfl rfl (O6 rfl (by first | exact id | exact fun _=>rfl)) rfl rfl ?_ | refine i6.gd rfl rfl rfl (PD rfl (by first | exact id | exact fun _=>rfl) rfl rfl rfl) rfl rfl ?_
  | (with_reducible refine C1 (.extract _ _) ?_); first | refine i6.gd rfl rfl rfl (IC rfl (by first | exact id | exact fun _=>rfl) rfl) rfl rfl ?_
  | (with_reducible refine C1 (.binOp .lss _ _ _ _) ?_); first | refine i6.gd rfl rfl rfl (PH rfl (by first | exact id | exact fun _=>rfl) rfl (by first | exact id | exact fun _=>rfl)) rfl rfl ?_
  | (with_reducible refine C1 (.binOp .neq _ _ _ _) ?_); first | refine i6.gd rfl rfl rfl (PJ rfl (by first | exact id | exact fun _=>rfl) rfl (by first | exact id | exact fun _=>rfl)) rfl rfl ?_
  | (with_reducible refine C1 (.binOp .eql _ _ _ _) ?_); first | refine i6.gd rfl rfl rfl (PA rfl (by first | exact id | exact fun _=>rfl) rfl (by first | exact id | exact fun _=>rfl)) rfl rfl ?_
  | (with_reducible refine C1 (.binOp .gtr _ _ _ _) ?_); first | refine i6.gd rfl rfl rfl (PC rfl (by first | exact id | exact fun _=>rfl) rfl (by first | exact id | exact fun _=>rfl)) rfl rfl ?_
  | (with_reducible refine C1 (.binOp .geq _ _ _ _) ?_); first | refine i6.gd rfl rfl rfl (PB rfl (by first | exact id | exact fun _=>rfl) rfl (by first | exact id | exact fun _=>rfl)) rfl rfl ?_
  | (with_reducible refine C1 (.binOp .leq _ _ _ _) ?_); first | refine i6.gd rfl rfl rfl (PG rfl (by first | exact id | exact fun _=>rfl) rfl (by first | exact id | exact fun _=>rfl)) rfl rfl ?_
  | (with_reducible refine C1 (.binOp .add _ _ _ _) ?_); first | refine i6.gd rfl rfl rfl (HZ rfl (by first | exact id | exact fun _=>rfl) rfl (by first | exact id | exact fun _=>rfl) (fun _=>by omega)) rfl rfl ?_
  | (with_reducible refine C1 (.binOp .sub _ _ _ _) ?_); first | refine i6.gd rfl rfl rfl (BB rfl (by first | exact id | exact fun _=>rfl) rfl (by first | exact id | exact fun _=>rfl) (fun _=>by omega)) rfl rfl ?_
  | (with_reducible refine C1 (.binOp .mul _ _ _ _) ?_); first | refine i6.gd rfl rfl rfl (II rfl (by first | exact id | exact fun _=>rfl) rfl (by first | exact id | exact fun _=>rfl) (fun _=>by omega)) rfl rfl ?_
  | (with_reducible refine C1 (.indexAddr _ _ _) ?_); first | refine i6.gd rfl rfl rfl (I0 rfl (by first | exact id | exact fun _=>rfl) rfl (by first | exact id | exact fun _=>rfl) rfl (fun _=>by omega)) rfl rfl ?_ | refine i6.gd rfl rfl rfl (AY rfl (by first | exact id | exact fun _=>rfl) rfl (by first | exact id | exact fun _=>rfl) rfl (fun _=>by omega)) rfl rfl ?_ | refine i6.gd rfl rfl rfl (IE rfl (by first | exact id | exact fun _=>rfl) rfl (by first | exact id | exact fun _=>rfl) (fun _=>by omega)) rfl rfl ?_ | refine i6.gd rfl rfl rfl (FV rfl (by first | exact id | exact fun _=>rfl) rfl (by first | exact id | exact fun _=>rfl) (fun _=>by omega)) rfl rfl ?_
 | (with_reducible refine C1 _ ?_); first
  | (with_reducible refine C1 (.move _) ?_); first | refine i6.op (H3 rfl (fun _=>rfl)) rfl rfl ?_
  | (with_reducible refine C1 (.assign _) ?_); first | refine i6.op (LA rfl (fun _=>rfl)) rfl rfl ?_
  | (with_reducible refine C1 (.call _) ?_); first | refine i6.op (PF rfl (fun _=>rfl)) rfl rfl ?_
  | (with_reducible refine C1 (.fieldAddr _ _ _) ?_); first | refine i6.op (X5 rfl (fun _=>rfl)) rfl rfl ?_ | refine i6.op (ID rfl (fun _=>rfl) rfl) rfl rfl ?_
  | (with_reducible refine C1 (.unOp .not _ _) ?_); first | refine i6.op (PL rfl (fun _=>rfl)) rfl rfl ?_
  | (with_reducible refine C1 (.load _ _) ?_); first | refine i6.op (K1 rfl (fun _=>rfl) rfl) rfl rfl ?_ | refine i6.op (AZ rfl (fun _=>rfl) rfl) rfl rfl ?_ | refine i6.op (S7 rfl (fun _=>rfl) rfl rfl) rfl rfl ?_ | refine i6.op (O6 rfl (fun _=>rfl)) rfl rfl ?_ | refine i6.op (PD rfl (fun _=>rfl) rfl rfl rfl) rfl rfl ?_
  | (with_reducible refine C1 (.extract _ _) ?_); first | refine i6.op (IC rfl (fun _=>rfl) rfl) rfl rfl ?_
  | (with_reducible refine C1 (.binOp .lss _ _ _ _) ?_); first | refine i6.op (PH rfl (fun _=>rfl) rfl (fun _=>rfl)) rfl rfl ?_
  | (with_reducible refine C1 (.binOp .neq _ _ _ _) ?_); first | refine i6.op (PJ rfl (fun _=>rfl) rfl (fun _=>rfl)) rfl rfl ?_
  | (with_reducible refine C1 (.binOp .eql _ _ _ _) ?_); first | refine i6.op (PA rfl (fun _=>rfl) rfl (fun _=>rfl)) rfl rfl ?_
  | (with_reducible refine C1 (.binOp .gtr _ _ _ _) ?_); first | refine i6.op (PC rfl (fun _=>rfl) rfl (fun _=>rfl)) rfl rfl ?_
  | (with_reducible refine C1 (.binOp .geq _ _ _ _) ?_); first | refine i6.op (PB rfl (fun _=>rfl) rfl (fun _=>rfl)) rfl rfl ?_
  | (with_reducible refine C1 (.binOp .leq _ _ _ _) ?_); first | refine i6.op (PG rfl (fun _=>rfl) rfl (fun _=>rfl)) rfl rfl ?_
  | (with_reducible refine C1 (.binOp .add _ _ _ _) ?_); first | refine i6.op (HZ rfl (fun _=>rfl) rfl (fun _=>rfl) (fun _=>by omega)) rfl rfl ?_
  | (with_reducible refine C1 (.binOp .sub _ _ _ _) ?_); first | refine i6.op (BB rfl (fun _=>rfl) rfl (fun _=>rfl) (fun _=>by omega)) rfl rfl ?_
  | (with_reducible refine C1 (.binOp .mul _ _ _ _) ?_); first | refine i6.op (II rfl (fun _=>rfl) rfl (fun _=>rfl) (fun _=>by omega)) rfl rfl ?_
  | (with_reducible refine C1 (.indexAddr _ _ _) ?_); first | refine i6.op (I0 rfl (fun _=>rfl) rfl (fun _=>rfl) rfl (fun _=>by omega)) rfl rfl ?_ | refine i6.op (AY rfl (fun _=>rfl) rfl (fun _=>rfl) rfl (fun _=>by omega)) rfl rfl ?_ | refine i6.op (IE rfl (fun _=>rfl) rfl (fun _=>rfl) (fun _=>by omega)) rfl rfl ?_ | refine i6.op (FV rfl (fun _=>rfl) rfl (fun _=>rfl) (fun _=>by omega)) rfl rfl ?_
  | (with_reducible refine C1 (.pick _ _ _) ?_); first | refine i6.op (VY rfl (fun _=>rfl) rfl (fun hp h=>UD ((fun _=>rfl) hp) h)) rfl rfl ?_ | refine i6.op (WD rfl (fun _=>rfl) rfl (fun hp h=>UC ((fun _=>rfl) hp) h)) rfl rfl ?_
 | refine Tr.seq ?_
 | refine Tr.rg ?_
 | refine Tr.skip ?_
 | refine Tr.blk ?_
 | refine Tr.ret ?_
 | refine Tr.exit ?_
 exact h ()):B:=K fun _=>h
theorem i2 {A B:Prop} (h:A) (K:(Unit->A)->B:=by
 intro h
 iterate 2 refine i9 ?_
 exact h ()):B:=K fun _=>h
theorem j9 {A B:Prop} (h:A) (K:(Unit->A)->B:=by
 intro h
 iterate 3 refine i9 ?_
 exact h ()):B:=K fun _=>h
theorem i4 {A B:Prop} (h:A) (K:(Unit->A)->B:=by
 intro h
 iterate 4 refine i9 ?_
 exact h ()):B:=K fun _=>h
theorem o0 {A B:Prop} (h:A) (K:(Unit->A)->B:=by
 intro h
 iterate 5 refine i9 ?_
 exact h ()):B:=K fun _=>h
theorem n7 {A B:Prop} (h:A) (K:(Unit->A)->B:=by
 intro h
 iterate 6 refine i9 ?_
 exact h ()):B:=K fun _=>h
theorem l5 {A B:Prop} (h:A) (K:(Unit->A)->B:=by
 intro h
 iterate 7 refine i9 ?_
 exact h ()):B:=K fun _=>h
theorem l6 {A B:Prop} (h:A) (K:(Unit->A)->B:=by
 intro h
 iterate 8 refine i9 ?_
 exact h ()):B:=K fun _=>h
theorem o9 {A B:Prop} (h:A) (K:(Unit->A)->B:=by
 intro h
 iterate 9 refine i9 ?_
 exact h ()):B:=K fun _=>h
theorem v6 {A B:Prop} (h:A) (K:(Unit->A)->B:=by
 intro h
 iterate 10 refine i9 ?_
 exact h ()):B:=K fun _=>h
theorem C6 {A B:Prop} (h:A) (K:(Unit->A)->B:=by
 intro h
 iterate 11 refine i9 ?_
 exact h ()):B:=K fun _=>h
theorem z5 {A B:Prop} (h:A) (K:(Unit->A)->B:=by
 intro h
 iterate 12 refine i9 ?_
 exact h ()):B:=K fun _=>h
theorem D3 {A B:Prop} (h:A) (K:(Unit->A)->B:=by
 intro h
 iterate 13 refine i9 ?_
 exact h ()):B:=K fun _=>h
theorem B4 {A B:Prop} (h:A) (K:(Unit->A)->B:=by
 intro h
 iterate 14 refine i9 ?_
 exact h ()):B:=K fun _=>h
theorem O3 {A B:Prop} (h:A) (K:(Unit->A)->B:=by
 intro h
 iterate 15 refine i9 ?_
 exact h ()):B:=K fun _=>h
theorem AU {A B:Prop} (h:A) (K:(Unit->A)->B:=by
 intro h
 iterate 16 refine i9 ?_
 exact h ()):B:=K fun _=>h
theorem U2 {A B:Prop} (h:A) (K:(Unit->A)->B:=by
 intro h
 iterate 17 refine i9 ?_
 exact h ()):B:=K fun _=>h
theorem HQ {A B:Prop} (h:A) (K:(Unit->A)->B:=by
 intro h
 iterate 18 refine i9 ?_
 exact h ()):B:=K fun _=>h
theorem US {A B:Prop} (h:A) (K:(Unit->A)->B:=by
 intro h
 iterate 19 refine i9 ?_
 exact h ()):B:=K fun _=>h
theorem KP {A B:Prop} (h:A) (K:(Unit->A)->B:=by
 intro h
 iterate 20 refine i9 ?_
 exact h ()):B:=K fun _=>h
theorem UT {A B:Prop} (h:A) (K:(Unit->A)->B:=by
 intro h
 iterate 21 refine i9 ?_
 exact h ()):B:=K fun _=>h
theorem sF {A B:Prop} (h:A) (K:(Unit->A)->B:=by
 intro h
 iterate 22 refine i9 ?_
 exact h ()):B:=K fun _=>h
theorem zY {A B:Prop} (h:A) (K:(Unit->A)->B:=by
 intro h
 iterate 23 refine i9 ?_
 exact h ()):B:=K fun _=>h
theorem dH {A B:Prop} (h:A) (K:(Unit->A)->B:=by
 intro h
 iterate 24 refine i9 ?_
 exact h ()):B:=K fun _=>h
theorem dI {A B:Prop} (h:A) (K:(Unit->A)->B:=by
 intro h
 iterate 25 refine i9 ?_
 exact h ()):B:=K fun _=>h
theorem zZ {A B:Prop} (h:A) (K:(Unit->A)->B:=by
 intro h
 iterate 26 refine i9 ?_
 exact h ()):B:=K fun _=>h
theorem dJ {A B:Prop} (h:A) (K:(Unit->A)->B:=by
 intro h
 iterate 27 refine i9 ?_
 exact h ()):B:=K fun _=>h
theorem aa0 {A B:Prop} (h:A) (K:(Unit->A)->B:=by
 intro h
 iterate 28 refine i9 ?_
 exact h ()):B:=K fun _=>h
theorem sG {A B:Prop} (h:A) (K:(Unit->A)->B:=by
 intro h
 iterate 29 refine i9 ?_
 exact h ()):B:=K fun _=>h
theorem aa1 {A B:Prop} (h:A) (K:(Unit->A)->B:=by
 intro h
 iterate 30 refine i9 ?_
 exact h ()):B:=K fun _=>h
theorem sH {A B:Prop} (h:A) (K:(Unit->A)->B:=by
 intro h
 iterate 31 refine i9 ?_
 exact h ()):B:=K fun _=>h
theorem aa2 {A B:Prop} (h:A) (K:(Unit->A)->B:=by
 intro h
 iterate 32 refine i9 ?_
 exact h ()):B:=K fun _=>h
theorem aa3 {A B:Prop} (h:A) (K:(Unit->A)->B:=by
 intro h
 iterate 33 refine i9 ?_
 exact h ()):B:=K fun _=>h
theorem aa4 {A B:Prop} (h:A) (K:(Unit->A)->B:=by
 intro h
 iterate 34 refine i9 ?_
 exact h ()):B:=K fun _=>h
theorem aa5 {A B:Prop} (h:A) (K:(Unit->A)->B:=by
 intro h
 iterate 35 refine i9 ?_
 exact h ()):B:=K fun _=>h
theorem aa6 {A B:Prop} (h:A) (K:(Unit->A)->B:=by
 intro h
 iterate 36 refine i9 ?_
 exact h ()):B:=K fun _=>h
theorem aa7 {A B:Prop} (h:A) (K:(Unit->A)->B:=by
 intro h
 iterate 37 refine i9 ?_
 exact h ()):B:=K fun _=>h
theorem aa8 {A B:Prop} (h:A) (K:(Unit->A)->B:=by
 intro h
 iterate 38 refine i9 ?_
 exact h ()):B:=K fun _=>h
theorem aa9 {A B:Prop} (h:A) (K:(Unit->A)->B:=by
 intro h
 iterate 39 refine i9 ?_
 exact h ()):B:=K fun _=>h
theorem ab0 {A B:Prop} (h:A) (K:(Unit->A)->B:=by
 intro h
 iterate 40 refine i9 ?_
 exact h ()):B:=K fun _=>h
end Go.Fl

/- The program's types and functions, as our laws ask for them. (Printed by seat.py.) -/
namespace Go.Fl
open Go Go.Proofs

instance:E0 Tryz.prog 3:=E0.mk' Tryz.underlying3 rfl
instance:q7 Tryz.prog 3 1 8 (.int .i64 0):=q7.mk' (by kernel_rfl)
instance:GW Tryz.prog 3 .i64:=⟨Tryz.underlying3⟩
instance:F4 Tryz.prog 3 [j8 (.int .i64 0)]:=F4.mk' (z:=.int .i64 0) (by kernel_rfl) (fun _=>by simp[o6,j8,Value.cells])
instance:E0 Tryz.prog 4:=E0.mk' Tryz.underlying4 rfl
instance:q7 Tryz.prog 4 1 1 (.bool false):=q7.mk' (by kernel_rfl)
instance:RN Tryz.prog 4:=⟨Tryz.underlying4⟩
instance:E0 Tryz.prog 22:=E0.mk' Tryz.underlying22 rfl
instance:q7 Tryz.prog 22 1 24 (.slice none 0 0):=q7.mk' (by kernel_rfl)
instance:C5 Tryz.prog 22 3:=⟨Tryz.underlying22⟩
instance:D0 Tryz.prog 24:=D0.mk' Tryz.underlying24 rfl
instance:q7 Tryz.prog 24 4 48 (.agg #[.slice none 0 0,.int .i64 0,.int .i64 0,.int .i64 0]):=q7.mk' (by kernel_rfl)
instance:F4 Tryz.prog 24 [j8 (.slice none 0 0),j8 (.int .i64 0),j8 (.int .i64 0),j8 (.int .i64 0)]:=F4.mk' (z:=.agg #[.slice none 0 0,.int .i64 0,.int .i64 0,.int .i64 0]) (by kernel_rfl) (fun _=>by simp[o6,j8,Value.cells])
instance:u7 Tryz.prog 24 0 0:=u7.mk' Tryz.underlying24 rfl rfl (by kernel_rfl)
instance:u7 Tryz.prog 24 1 1:=u7.mk' Tryz.underlying24 rfl rfl (by kernel_rfl)
instance:u7 Tryz.prog 24 2 2:=u7.mk' Tryz.underlying24 rfl rfl (by kernel_rfl)
instance:u7 Tryz.prog 24 3 3:=u7.mk' Tryz.underlying24 rfl rfl (by kernel_rfl)
instance:CO Tryz.prog 24 [(0,1),(1,1),(2,1),(3,1)]:=⟨_,Tryz.underlying24,by kernel_rfl⟩
instance:E0 Tryz.prog 25:=E0.mk' Tryz.underlying25 rfl
instance:q7 Tryz.prog 25 1 24 (.slice none 0 0):=q7.mk' (by kernel_rfl)
instance:C5 Tryz.prog 25 30:=⟨Tryz.underlying25⟩
instance:D0 Tryz.prog 27:=D0.mk' Tryz.underlying27 rfl
instance:q7 Tryz.prog 27 7 120 (.agg #[.slice none 0 0,.int .i64 0,.int .i64 0,.int .i64 0,.slice none 0 0,.slice none 0 0,.slice none 0 0]):=q7.mk' (by kernel_rfl)
instance:F4 Tryz.prog 27 [j8 (.slice none 0 0),j8 (.int .i64 0),j8 (.int .i64 0),j8 (.int .i64 0),j8 (.slice none 0 0),j8 (.slice none 0 0),j8 (.slice none 0 0)]:=F4.mk' (z:=.agg #[.slice none 0 0,.int .i64 0,.int .i64 0,.int .i64 0,.slice none 0 0,.slice none 0 0,.slice none 0 0]) (by kernel_rfl) (fun _=>by simp[o6,j8,Value.cells])
instance:u7 Tryz.prog 27 0 0:=u7.mk' Tryz.underlying27 rfl rfl (by kernel_rfl)
instance:u7 Tryz.prog 27 1 4:=u7.mk' Tryz.underlying27 rfl rfl (by kernel_rfl)
instance:u7 Tryz.prog 27 2 5:=u7.mk' Tryz.underlying27 rfl rfl (by kernel_rfl)
instance:u7 Tryz.prog 27 3 6:=u7.mk' Tryz.underlying27 rfl rfl (by kernel_rfl)
instance:CO Tryz.prog 27 [(0,4),(4,1),(5,1),(6,1)]:=⟨_,Tryz.underlying27,by kernel_rfl⟩
instance:E0 Tryz.prog 28:=E0.mk' Tryz.underlying28 rfl
instance:q7 Tryz.prog 28 1 24 (.slice none 0 0):=q7.mk' (by kernel_rfl)
instance:C5 Tryz.prog 28 22:=⟨Tryz.underlying28⟩
instance:D0 Tryz.prog 30:=D0.mk' Tryz.underlying30 rfl
instance:q7 Tryz.prog 30 2 48 (.agg #[.slice none 0 0,.slice none 0 0]):=q7.mk' (by kernel_rfl)
instance:F4 Tryz.prog 30 [j8 (.slice none 0 0),j8 (.slice none 0 0)]:=F4.mk' (z:=.agg #[.slice none 0 0,.slice none 0 0]) (by kernel_rfl) (fun _=>by simp[o6,j8,Value.cells])
instance:u7 Tryz.prog 30 0 0:=u7.mk' Tryz.underlying30 rfl rfl (by kernel_rfl)
instance:u7 Tryz.prog 30 1 1:=u7.mk' Tryz.underlying30 rfl rfl (by kernel_rfl)
instance:CO Tryz.prog 30 [(0,1),(1,1)]:=⟨_,Tryz.underlying30,by kernel_rfl⟩
instance:D0 Tryz.prog 88:=D0.mk' Tryz.underlying88 rfl
instance:q7 Tryz.prog 88 2 48 (.agg #[.slice none 0 0,.slice none 0 0]):=q7.mk' (by kernel_rfl)
instance:F4 Tryz.prog 88 [j8 (.slice none 0 0),j8 (.slice none 0 0)]:=F4.mk' (z:=.agg #[.slice none 0 0,.slice none 0 0]) (by kernel_rfl) (fun _=>by simp[o6,j8,Value.cells])
instance:u7 Tryz.prog 88 0 0:=u7.mk' Tryz.underlying88 rfl rfl (by kernel_rfl)
instance:u7 Tryz.prog 88 1 1:=u7.mk' Tryz.underlying88 rfl rfl (by kernel_rfl)
instance:CO Tryz.prog 88 [(0,1),(1,1)]:=⟨_,Tryz.underlying88,by kernel_rfl⟩
instance:E0 Tryz.prog 109:=E0.mk' Tryz.underlying109 rfl
instance:E0 Tryz.prog 112:=E0.mk' Tryz.underlying112 rfl
instance:F4 Tryz.prog 114 [j8 (.pointer none),j8 (.slice none 0 0),j8 (.slice none 0 0),j8 (.slice none 0 0),j8 (.slice none 0 0),j8 (.slice none 0 0),j8 (.slice none 0 0),j8 (.slice none 0 0),j8 (.slice none 0 0)]:=F4.mk' (z:=.agg #[.pointer none,.slice none 0 0,.slice none 0 0,.slice none 0 0,.slice none 0 0,.slice none 0 0,.slice none 0 0,.slice none 0 0,.slice none 0 0]) (by kernel_rfl) (fun _=>by simp[o6,j8,Value.cells])
instance:u7 Tryz.prog 114 0 0:=u7.mk' Tryz.underlying114 rfl rfl (by kernel_rfl)
instance:u7 Tryz.prog 114 1 1:=u7.mk' Tryz.underlying114 rfl rfl (by kernel_rfl)
instance:u7 Tryz.prog 114 2 3:=u7.mk' Tryz.underlying114 rfl rfl (by kernel_rfl)
instance:u7 Tryz.prog 114 3 4:=u7.mk' Tryz.underlying114 rfl rfl (by kernel_rfl)
instance:u7 Tryz.prog 114 4 5:=u7.mk' Tryz.underlying114 rfl rfl (by kernel_rfl)
instance:u7 Tryz.prog 114 5 6:=u7.mk' Tryz.underlying114 rfl rfl (by kernel_rfl)
instance:u7 Tryz.prog 114 6 7:=u7.mk' Tryz.underlying114 rfl rfl (by kernel_rfl)
instance:CO Tryz.prog 114 [(0,1),(1,2),(3,1),(4,1),(5,1),(6,1),(7,2)]:=⟨_,Tryz.underlying114,by kernel_rfl⟩
instance:C5 Tryz.prog 145 22:=⟨Tryz.underlying145⟩
instance:D0 Tryz.prog 160:=D0.mk' Tryz.underlying160 rfl
instance:q7 Tryz.prog 160 2 32 (.agg #[.bool false,.slice none 0 0]):=q7.mk' (by kernel_rfl)
instance:F4 Tryz.prog 160 [j8 (.bool false),j8 (.slice none 0 0)]:=F4.mk' (z:=.agg #[.bool false,.slice none 0 0]) (by kernel_rfl) (fun _=>by simp[o6,j8,Value.cells])
instance:u7 Tryz.prog 160 0 0:=u7.mk' Tryz.underlying160 rfl rfl (by kernel_rfl)
instance:u7 Tryz.prog 160 1 1:=u7.mk' Tryz.underlying160 rfl rfl (by kernel_rfl)
instance:CO Tryz.prog 160 [(0,1),(1,1)]:=⟨_,Tryz.underlying160,by kernel_rfl⟩
instance:D0 Tryz.prog 161:=D0.mk' Tryz.underlying161 rfl
instance:q7 Tryz.prog 161 8 128 (.agg #[.bool false,.slice none 0 0,.bool false,.slice none 0 0,.bool false,.slice none 0 0,.bool false,.slice none 0 0]):=q7.mk' (by kernel_rfl)
instance:BS Tryz.prog 161 4 160:=⟨Tryz.underlying161⟩
instance:F4 Tryz.prog 161 [j8 (.bool false),j8 (.slice none 0 0),j8 (.bool false),j8 (.slice none 0 0),j8 (.bool false),j8 (.slice none 0 0),j8 (.bool false),j8 (.slice none 0 0)]:=F4.mk' (z:=.agg #[.bool false,.slice none 0 0,.bool false,.slice none 0 0,.bool false,.slice none 0 0,.bool false,.slice none 0 0]) (by kernel_rfl) (fun _=>by simp[o6,j8,Value.cells])
instance:D0 Tryz.prog 163:=D0.mk' Tryz.underlying163 rfl
instance:q7 Tryz.prog 163 10 160 (.agg #[.bool false,.slice none 0 0,.bool false,.slice none 0 0,.bool false,.slice none 0 0,.bool false,.slice none 0 0,.bool false,.slice none 0 0]):=q7.mk' (by kernel_rfl)
instance:F4 Tryz.prog 163 [j8 (.bool false),j8 (.slice none 0 0),j8 (.bool false),j8 (.slice none 0 0),j8 (.bool false),j8 (.slice none 0 0),j8 (.bool false),j8 (.slice none 0 0),j8 (.bool false),j8 (.slice none 0 0)]:=F4.mk' (z:=.agg #[.bool false,.slice none 0 0,.bool false,.slice none 0 0,.bool false,.slice none 0 0,.bool false,.slice none 0 0,.bool false,.slice none 0 0]) (by kernel_rfl) (fun _=>by simp[o6,j8,Value.cells])
instance:u7 Tryz.prog 163 0 0:=u7.mk' Tryz.underlying163 rfl rfl (by kernel_rfl)
instance:u7 Tryz.prog 163 1 8:=u7.mk' Tryz.underlying163 rfl rfl (by kernel_rfl)
instance:CO Tryz.prog 163 [(0,8),(8,2)]:=⟨_,Tryz.underlying163,by kernel_rfl⟩
instance:E0 Tryz.prog 192:=E0.mk' Tryz.underlying192 rfl
instance:q7 Tryz.prog 192 1 24 (.slice none 0 0):=q7.mk' (by kernel_rfl)
instance:C5 Tryz.prog 192 160:=⟨Tryz.underlying192⟩
instance:E0 Tryz.prog 193:=E0.mk' Tryz.underlying193 rfl
instance:q7 Tryz.prog 193 1 24 (.slice none 0 0):=q7.mk' (by kernel_rfl)
instance:C5 Tryz.prog 193 160:=⟨Tryz.underlying193⟩
instance:D0 Tryz.prog 197:=D0.mk' Tryz.underlying197 rfl
instance:q7 Tryz.prog 197 12 192 (.agg #[.slice none 0 0,.int .i64 0,.int .i64 0,.int .i64 0,.slice none 0 0,.slice none 0 0,.bool false,.slice none 0 0,.bool false,.slice none 0 0,.bool false,.slice none 0 0]):=q7.mk' (by kernel_rfl)
instance:F4 Tryz.prog 197 [j8 (.slice none 0 0),j8 (.int .i64 0),j8 (.int .i64 0),j8 (.int .i64 0),j8 (.slice none 0 0),j8 (.slice none 0 0),j8 (.bool false),j8 (.slice none 0 0),j8 (.bool false),j8 (.slice none 0 0),j8 (.bool false),j8 (.slice none 0 0)]:=F4.mk' (z:=.agg #[.slice none 0 0,.int .i64 0,.int .i64 0,.int .i64 0,.slice none 0 0,.slice none 0 0,.bool false,.slice none 0 0,.bool false,.slice none 0 0,.bool false,.slice none 0 0]) (by kernel_rfl) (fun _=>by simp[o6,j8,Value.cells])
instance:u7 Tryz.prog 197 0 0:=u7.mk' Tryz.underlying197 rfl rfl (by kernel_rfl)
instance:u7 Tryz.prog 197 1 4:=u7.mk' Tryz.underlying197 rfl rfl (by kernel_rfl)
instance:u7 Tryz.prog 197 2 5:=u7.mk' Tryz.underlying197 rfl rfl (by kernel_rfl)
instance:u7 Tryz.prog 197 3 6:=u7.mk' Tryz.underlying197 rfl rfl (by kernel_rfl)
instance:u7 Tryz.prog 197 4 8:=u7.mk' Tryz.underlying197 rfl rfl (by kernel_rfl)
instance:u7 Tryz.prog 197 5 10:=u7.mk' Tryz.underlying197 rfl rfl (by kernel_rfl)
instance:CO Tryz.prog 197 [(0,4),(4,1),(5,1),(6,2),(8,2),(10,2)]:=⟨_,Tryz.underlying197,by kernel_rfl⟩
instance:C5 Tryz.prog 217 4:=⟨Tryz.underlying217⟩
instance:E0 Tryz.prog 242:=E0.mk' Tryz.underlying242 rfl
instance:q7 Tryz.prog 242 1 24 (.slice none 0 0):=q7.mk' (by kernel_rfl)
instance:C5 Tryz.prog 242 193:=⟨Tryz.underlying242⟩
instance:F4 Tryz.prog 242 [j8 (.slice none 0 0)]:=F4.mk' (z:=.slice none 0 0) (by kernel_rfl) (fun _=>by simp[o6,j8,Value.cells])
instance:d8 Tryz.prog 11:=d8.mk' Tryz.func11 (by kernel_rfl) (by kernel_rfl)
instance:d8 Tryz.prog 13:=d8.mk' Tryz.func13 (by kernel_rfl) (by kernel_rfl)
instance:d8 Tryz.prog 14:=d8.mk' Tryz.func14 (by kernel_rfl) (by kernel_rfl)
instance:d8 Tryz.prog 15:=d8.mk' Tryz.func15 (by kernel_rfl) (by kernel_rfl)
instance:d8 Tryz.prog 18:=d8.mk' Tryz.func18 (by kernel_rfl) (by kernel_rfl)
instance:d8 Tryz.prog 22:=d8.mk' Tryz.func22 (by kernel_rfl) (by kernel_rfl)
instance:d8 Tryz.prog 23:=d8.mk' Tryz.func23 (by kernel_rfl) (by kernel_rfl)
instance:d8 Tryz.prog 28:=d8.mk' Tryz.func28 (by kernel_rfl) (by kernel_rfl)
instance:d8 Tryz.prog 29:=d8.mk' Tryz.func29 (by kernel_rfl) (by kernel_rfl)
instance:d8 Tryz.prog 37:=d8.mk' Tryz.func37 (by kernel_rfl) (by kernel_rfl)
instance:d8 Tryz.prog 45:=d8.mk' Tryz.func45 (by kernel_rfl) (by kernel_rfl)
instance:d8 Tryz.prog 46:=d8.mk' Tryz.func46 (by kernel_rfl) (by kernel_rfl)
instance:d8 Tryz.prog 47:=d8.mk' Tryz.func47 (by kernel_rfl) (by kernel_rfl)
instance:d8 Tryz.prog 51:=d8.mk' Tryz.func51 (by kernel_rfl) (by kernel_rfl)
instance:d8 Tryz.prog 52:=d8.mk' Tryz.func52 (by kernel_rfl) (by kernel_rfl)
instance:d8 Tryz.prog 54:=d8.mk' Tryz.func54 (by kernel_rfl) (by kernel_rfl)
instance:d8 Tryz.prog 64:=d8.mk' Tryz.func64 (by kernel_rfl) (by kernel_rfl)
instance:d8 Tryz.prog 65:=d8.mk' Tryz.func65 (by kernel_rfl) (by kernel_rfl)
instance:d8 Tryz.prog 66:=d8.mk' Tryz.func66 (by kernel_rfl) (by kernel_rfl)
instance:d8 Tryz.prog 67:=d8.mk' Tryz.func67 (by kernel_rfl) (by kernel_rfl)
instance:d8 Tryz.prog 68:=d8.mk' Tryz.func68 (by kernel_rfl) (by kernel_rfl)
instance:d8 Tryz.prog 69:=d8.mk' Tryz.func69 (by kernel_rfl) (by kernel_rfl)
instance:d8 Tryz.prog 70:=d8.mk' Tryz.func70 (by kernel_rfl) (by kernel_rfl)
instance:d8 Tryz.prog 75:=d8.mk' Tryz.func75 (by kernel_rfl) (by kernel_rfl)
instance:d8 Tryz.prog 81:=d8.mk' Tryz.func81 (by kernel_rfl) (by kernel_rfl)
instance:d8 Tryz.prog 82:=d8.mk' Tryz.func82 (by kernel_rfl) (by kernel_rfl)
instance:d8 Tryz.prog 83:=d8.mk' Tryz.func83 (by kernel_rfl) (by kernel_rfl)
instance:d8 Tryz.prog 84:=d8.mk' Tryz.func84 (by kernel_rfl) (by kernel_rfl)
instance:d8 Tryz.prog 85:=d8.mk' Tryz.func85 (by kernel_rfl) (by kernel_rfl)
instance:d8 Tryz.prog 93:=d8.mk' Tryz.func93 (by kernel_rfl) (by kernel_rfl)
instance:d8 Tryz.prog 94:=d8.mk' Tryz.func94 (by kernel_rfl) (by kernel_rfl)
instance:d8 Tryz.prog 95:=d8.mk' Tryz.func95 (by kernel_rfl) (by kernel_rfl)
instance:d8 Tryz.prog 98:=d8.mk' Tryz.func98 (by kernel_rfl) (by kernel_rfl)
instance:d8 Tryz.prog 99:=d8.mk' Tryz.func99 (by kernel_rfl) (by kernel_rfl)
instance:d8 Tryz.prog 100:=d8.mk' Tryz.func100 (by kernel_rfl) (by kernel_rfl)
instance:d8 Tryz.prog 101:=d8.mk' Tryz.func101 (by kernel_rfl) (by kernel_rfl)
instance:d8 Tryz.prog 102:=d8.mk' Tryz.func102 (by kernel_rfl) (by kernel_rfl)
instance:d8 Tryz.prog 103:=d8.mk' Tryz.func103 (by kernel_rfl) (by kernel_rfl)
instance:d8 Tryz.prog 104:=d8.mk' Tryz.func104 (by kernel_rfl) (by kernel_rfl)
instance:d8 Tryz.prog 105:=d8.mk' Tryz.func105 (by kernel_rfl) (by kernel_rfl)
instance:d8 Tryz.prog 108:=d8.mk' Tryz.func108 (by kernel_rfl) (by kernel_rfl)
instance:d8 Tryz.prog 109:=d8.mk' Tryz.func109 (by kernel_rfl) (by kernel_rfl)
instance:d8 Tryz.prog 112:=d8.mk' Tryz.func112 (by kernel_rfl) (by kernel_rfl)
instance:d8 Tryz.prog 113:=d8.mk' Tryz.func113 (by kernel_rfl) (by kernel_rfl)
instance:d8 Tryz.prog 114:=d8.mk' Tryz.func114 (by kernel_rfl) (by kernel_rfl)
instance:d8 Tryz.prog 115:=d8.mk' Tryz.func115 (by kernel_rfl) (by kernel_rfl)
instance:d8 Tryz.prog 116:=d8.mk' Tryz.func116 (by kernel_rfl) (by kernel_rfl)
instance:d8 Tryz.prog 117:=d8.mk' Tryz.func117 (by kernel_rfl) (by kernel_rfl)
instance:d8 Tryz.prog 118:=d8.mk' Tryz.func118 (by kernel_rfl) (by kernel_rfl)
instance:d8 Tryz.prog 119:=d8.mk' Tryz.func119 (by kernel_rfl) (by kernel_rfl)
instance:d8 Tryz.prog 120:=d8.mk' Tryz.func120 (by kernel_rfl) (by kernel_rfl)
instance:d8 Tryz.prog 121:=d8.mk' Tryz.func121 (by kernel_rfl) (by kernel_rfl)
instance:d8 Tryz.prog 122:=d8.mk' Tryz.func122 (by kernel_rfl) (by kernel_rfl)
instance:d8 Tryz.prog 123:=d8.mk' Tryz.func123 (by kernel_rfl) (by kernel_rfl)
instance:d8 Tryz.prog 128:=d8.mk' Tryz.func128 (by kernel_rfl) (by kernel_rfl)
instance:d8 Tryz.prog 129:=d8.mk' Tryz.func129 (by kernel_rfl) (by kernel_rfl)
instance:d8 Tryz.prog 136:=d8.mk' Tryz.func136 (by kernel_rfl) (by kernel_rfl)
instance:d8 Tryz.prog 137:=d8.mk' Tryz.func137 (by kernel_rfl) (by kernel_rfl)
instance:d8 Tryz.prog 138:=d8.mk' Tryz.func138 (by kernel_rfl) (by kernel_rfl)
instance:d8 Tryz.prog 139:=d8.mk' Tryz.func139 (by kernel_rfl) (by kernel_rfl)
instance:d8 Tryz.prog 140:=d8.mk' Tryz.func140 (by kernel_rfl) (by kernel_rfl)
instance:d8 Tryz.prog 141:=d8.mk' Tryz.func141 (by kernel_rfl) (by kernel_rfl)
instance:d8 Tryz.prog 142:=d8.mk' Tryz.func142 (by kernel_rfl) (by kernel_rfl)
instance:d8 Tryz.prog 143:=d8.mk' Tryz.func143 (by kernel_rfl) (by kernel_rfl)
instance:d8 Tryz.prog 145:=d8.mk' Tryz.func145 (by kernel_rfl) (by kernel_rfl)
instance:d8 Tryz.prog 147:=d8.mk' Tryz.func147 (by kernel_rfl) (by kernel_rfl)
instance:d8 Tryz.prog 148:=d8.mk' Tryz.func148 (by kernel_rfl) (by kernel_rfl)
instance:d8 Tryz.prog 149:=d8.mk' Tryz.func149 (by kernel_rfl) (by kernel_rfl)
instance:d8 Tryz.prog 150:=d8.mk' Tryz.func150 (by kernel_rfl) (by kernel_rfl)
instance:d8 Tryz.prog 151:=d8.mk' Tryz.func151 (by kernel_rfl) (by kernel_rfl)
instance:d8 Tryz.prog 152:=d8.mk' Tryz.func152 (by kernel_rfl) (by kernel_rfl)
instance:d8 Tryz.prog 153:=d8.mk' Tryz.func153 (by kernel_rfl) (by kernel_rfl)
instance:d8 Tryz.prog 154:=d8.mk' Tryz.func154 (by kernel_rfl) (by kernel_rfl)
instance:d8 Tryz.prog 155:=d8.mk' Tryz.func155 (by kernel_rfl) (by kernel_rfl)
instance:d8 Tryz.prog 157:=d8.mk' Tryz.func157 (by kernel_rfl) (by kernel_rfl)
instance:d8 Tryz.prog 158:=d8.mk' Tryz.func158 (by kernel_rfl) (by kernel_rfl)
instance:d8 Tryz.prog 159:=d8.mk' Tryz.func159 (by kernel_rfl) (by kernel_rfl)
instance:d8 Tryz.prog 160:=d8.mk' Tryz.func160 (by kernel_rfl) (by kernel_rfl)
instance:d8 Tryz.prog 161:=d8.mk' Tryz.func161 (by kernel_rfl) (by kernel_rfl)
instance:d8 Tryz.prog 162:=d8.mk' Tryz.func162 (by kernel_rfl) (by kernel_rfl)
instance:d8 Tryz.prog 163:=d8.mk' Tryz.func163 (by kernel_rfl) (by kernel_rfl)
instance:d8 Tryz.prog 164:=d8.mk' Tryz.func164 (by kernel_rfl) (by kernel_rfl)
instance:d8 Tryz.prog 165:=d8.mk' Tryz.func165 (by kernel_rfl) (by kernel_rfl)
instance:d8 Tryz.prog 166:=d8.mk' Tryz.func166 (by kernel_rfl) (by kernel_rfl)
instance:d8 Tryz.prog 167:=d8.mk' Tryz.func167 (by kernel_rfl) (by kernel_rfl)
instance:d8 Tryz.prog 168:=d8.mk' Tryz.func168 (by kernel_rfl) (by kernel_rfl)
instance:d8 Tryz.prog 169:=d8.mk' Tryz.func169 (by kernel_rfl) (by kernel_rfl)
instance:d8 Tryz.prog 170:=d8.mk' Tryz.func170 (by kernel_rfl) (by kernel_rfl)
instance:d8 Tryz.prog 174:=d8.mk' Tryz.func174 (by kernel_rfl) (by kernel_rfl)
instance:d8 Tryz.prog 175:=d8.mk' Tryz.func175 (by kernel_rfl) (by kernel_rfl)
instance:d8 Tryz.prog 176:=d8.mk' Tryz.func176 (by kernel_rfl) (by kernel_rfl)
instance:d8 Tryz.prog 178:=d8.mk' Tryz.func178 (by kernel_rfl) (by kernel_rfl)
instance:d8 Tryz.prog 179:=d8.mk' Tryz.func179 (by kernel_rfl) (by kernel_rfl)
instance:d8 Tryz.prog 180:=d8.mk' Tryz.func180 (by kernel_rfl) (by kernel_rfl)
instance:d8 Tryz.prog 181:=d8.mk' Tryz.func181 (by kernel_rfl) (by kernel_rfl)
instance:d8 Tryz.prog 182:=d8.mk' Tryz.func182 (by kernel_rfl) (by kernel_rfl)
instance:d8 Tryz.prog 183:=d8.mk' Tryz.func183 (by kernel_rfl) (by kernel_rfl)
instance:d8 Tryz.prog 184:=d8.mk' Tryz.func184 (by kernel_rfl) (by kernel_rfl)
instance:d8 Tryz.prog 185:=d8.mk' Tryz.func185 (by kernel_rfl) (by kernel_rfl)
instance:d8 Tryz.prog 186:=d8.mk' Tryz.func186 (by kernel_rfl) (by kernel_rfl)
instance:d8 Tryz.prog 187:=d8.mk' Tryz.func187 (by kernel_rfl) (by kernel_rfl)
instance:d8 Tryz.prog 188:=d8.mk' Tryz.func188 (by kernel_rfl) (by kernel_rfl)
instance:d8 Tryz.prog 189:=d8.mk' Tryz.func189 (by kernel_rfl) (by kernel_rfl)
instance:d8 Tryz.prog 190:=d8.mk' Tryz.func190 (by kernel_rfl) (by kernel_rfl)
instance:d8 Tryz.prog 191:=d8.mk' Tryz.func191 (by kernel_rfl) (by kernel_rfl)
instance:d8 Tryz.prog 192:=d8.mk' Tryz.func192 (by kernel_rfl) (by kernel_rfl)
instance:d8 Tryz.prog 193:=d8.mk' Tryz.func193 (by kernel_rfl) (by kernel_rfl)
instance:d8 Tryz.prog 194:=d8.mk' Tryz.func194 (by kernel_rfl) (by kernel_rfl)
instance:d8 Tryz.prog 195:=d8.mk' Tryz.func195 (by kernel_rfl) (by kernel_rfl)
instance:d8 Tryz.prog 196:=d8.mk' Tryz.func196 (by kernel_rfl) (by kernel_rfl)
instance:d8 Tryz.prog 198:=d8.mk' Tryz.func198 (by kernel_rfl) (by kernel_rfl)
instance:d8 Tryz.prog 199:=d8.mk' Tryz.func199 (by kernel_rfl) (by kernel_rfl)
instance:d8 Tryz.prog 200:=d8.mk' Tryz.func200 (by kernel_rfl) (by kernel_rfl)
instance:d8 Tryz.prog 201:=d8.mk' Tryz.func201 (by kernel_rfl) (by kernel_rfl)
instance:d8 Tryz.prog 202:=d8.mk' Tryz.func202 (by kernel_rfl) (by kernel_rfl)
instance:d8 Tryz.prog 203:=d8.mk' Tryz.func203 (by kernel_rfl) (by kernel_rfl)
instance:d8 Tryz.prog 204:=d8.mk' Tryz.func204 (by kernel_rfl) (by kernel_rfl)
instance:d8 Tryz.prog 205:=d8.mk' Tryz.func205 (by kernel_rfl) (by kernel_rfl)
instance:d8 Tryz.prog 206:=d8.mk' Tryz.func206 (by kernel_rfl) (by kernel_rfl)
instance:d8 Tryz.prog 209:=d8.mk' Tryz.func209 (by kernel_rfl) (by kernel_rfl)
instance:d8 Tryz.prog 210:=d8.mk' Tryz.func210 (by kernel_rfl) (by kernel_rfl)
instance:d8 Tryz.prog 211:=d8.mk' Tryz.func211 (by kernel_rfl) (by kernel_rfl)
instance:d8 Tryz.prog 212:=d8.mk' Tryz.func212 (by kernel_rfl) (by kernel_rfl)
instance:d8 Tryz.prog 213:=d8.mk' Tryz.func213 (by kernel_rfl) (by kernel_rfl)
instance:d8 Tryz.prog 214:=d8.mk' Tryz.func214 (by kernel_rfl) (by kernel_rfl)
instance:d8 Tryz.prog 215:=d8.mk' Tryz.func215 (by kernel_rfl) (by kernel_rfl)
instance:d8 Tryz.prog 216:=d8.mk' Tryz.func216 (by kernel_rfl) (by kernel_rfl)
instance:d8 Tryz.prog 217:=d8.mk' Tryz.func217 (by kernel_rfl) (by kernel_rfl)
instance:d8 Tryz.prog 218:=d8.mk' Tryz.func218 (by kernel_rfl) (by kernel_rfl)
instance:d8 Tryz.prog 219:=d8.mk' Tryz.func219 (by kernel_rfl) (by kernel_rfl)
instance:d8 Tryz.prog 221:=d8.mk' Tryz.func221 (by kernel_rfl) (by kernel_rfl)
instance:d8 Tryz.prog 222:=d8.mk' Tryz.func222 (by kernel_rfl) (by kernel_rfl)
instance:d8 Tryz.prog 223:=d8.mk' Tryz.func223 (by kernel_rfl) (by kernel_rfl)
instance:d8 Tryz.prog 224:=d8.mk' Tryz.func224 (by kernel_rfl) (by kernel_rfl)
instance:d8 Tryz.prog 225:=d8.mk' Tryz.func225 (by kernel_rfl) (by kernel_rfl)
instance:d8 Tryz.prog 227:=d8.mk' Tryz.func227 (by kernel_rfl) (by kernel_rfl)
instance:d8 Tryz.prog 228:=d8.mk' Tryz.func228 (by kernel_rfl) (by kernel_rfl)
theorem q9:Tryz.prog.follows .mixedOrders=true:=by kernel_rfl
end Go.Fl

/- Contracts, printed by gen.py. -/
namespace Go.Fl
open Go Go.Proofs
open d5 renaming op->tO
open i6 renaming op->rO
set_option maxRecDepth 100000


theorem uE {S:List Int} {x:Int} (h:S.Nodup) (hx:decide (x∈S)=false):(S++[x]).Nodup :=
 List.nodup_append.2 ⟨h,by simp,fun a ha b hb=>by simp at hb; subst hb; exact fun e=>of_decide_eq_false hx (e▸ha)⟩
theorem BU (p:List Int) (hn:p.length<=1000000):Ct Tryz.prog 143 [b7 (eL eI) p] (b7 (eL eI) p):=by
 refine Ct.mk Tryz.func143 rfl Tryz.ntmps143 rfl (fun w J=>?_); refine o9 ?_; refine tO (LB rfl uu) rfl rfl ?_; refine i2 ?_; refine Tr.exB (s:=4) rfl (fun b1 q1=>?_); refine Tr.cnd rfl ?_ ?_
 ·intro h1
  refine l5 ?_; exact d9.res1 (fn:=Tryz.f143) rfl (.n rfl (q1 h1).symm<|.nil)
 ·intro h1
  refine i4 ?_; refine d5.new (FU eI 5) rfl rfl rfl rfl ?_; refine i2 ?_; refine jl ?_; refine j9 ?_; refine Tr.frz 5 [2] ⟨rfl,trivial⟩ (by simp only[t6]; omega) rfl ?_; refine i9 ?_
  exact d9.res1 (fn:=Tryz.f143) rfl (.r rfl zi<|.nil)

end Go.Fl

/- Integers as digits to the base 10^8. Plain Lean, no program in sight. -/
namespace Go.Fl
def val:List Int->Int
 | []=>0
 | x::xs=>x+100000000*val xs
abbrev BP (n:Nat):Int:=100000000 ^ n
theorem R3 (n:Nat):0<BP n:=Int.pow_pos zo
theorem R4 (n:Nat):BP (n+1)=100000000*BP n:=by unfold BP; rw[Int.pow_succ,Int.mul_comm]
theorem LR (m n:Nat):BP (m+n)=BP m*BP n:=Int.pow_add ..
theorem GP {m n:Nat} (h:m<=n):BP m<=BP n:=by
 obtain ⟨k,rfl⟩:=Nat.exists_eq_add_of_le h
 have h1:BP m*1<=BP m*BP k:=Int.mul_le_mul_of_nonneg_left (by have:=R3 k; omega) (Int.le_of_lt (R3 m))
 rw[LR]; omega
theorem JC:∀{xs ys:List Int},val (xs++ys)=val xs+BP xs.length*val ys
 | [],ys=>by simp[val,BP]
 | x::xs,ys=>by
  rw[List.cons_append,val,val,JC,List.length_cons,R4,Int.mul_add,Int.mul_assoc]; omega
theorem V4 {xs:List Int} {y:Int}:val (xs++[y])=val xs+BP xs.length*y:=by rw[JC]; simp[val]
def Dg (xs:List Int):Prop:=∀x∈xs,0<=x/\x<100000000
theorem Dg.nil:Dg []:=fun _ h=>by cases h
theorem Dg.snoc {xs:List Int} {y:Int} (h:Dg xs) (h0:0<=y) (h1:y<100000000):Dg (xs++[y]):=fun x hx=>by
 rcases List.mem_append.1 hx with hx | hx
 ·exact h x hx
 ·simp at hx; subst hx; exact ⟨h0,h1⟩
theorem Dg.at {xs:List Int} (h:Dg xs) {i:Nat} (hi:i<xs.length):0<=b6 xs i/\b6 xs i<100000000:=h _ (F7 hi)
theorem Dg.tail {x:Int} {xs:List Int} (h:Dg (x::xs)):Dg xs:=fun y hy=>h y (List.mem_cons_of_mem _ hy)
theorem Dg.take {xs:List Int} (h:Dg xs) (n:Nat):Dg (xs.take n):=fun y hy=>h y (List.mem_of_mem_take hy)
theorem Dg.val0:∀{xs:List Int},Dg xs->0<=val xs
 | [],_=>Int.le_refl _
 | x::xs,h=>by
  have:=h x List.mem_cons_self
  have:=Dg.val0 h.tail
  rw[val]; omega
theorem Dg.val1:∀{xs:List Int},Dg xs->val xs<BP xs.length
 | [],_=>by simp[val,BP]
 | x::xs,h=>by
  have:=h x List.mem_cons_self
  have:=Dg.val1 h.tail
  rw[val,List.length_cons,R4]; omega
structure Nm (xs:List Int):Prop where
 dg:Dg xs
 last:∀h:xs≠[],xs.getLast h≠0
theorem Nm.nil:Nm []:=⟨Dg.nil,fun h=>absurd rfl h⟩
theorem Nm.tail {x:Int} {xs:List Int} (h:Nm (x::xs)):Nm xs:=⟨h.dg.tail,fun hn=>by
 have:=h.last (by simp)
 rwa [List.getLast_cons hn] at this⟩
theorem Nm.pos:∀{xs:List Int},Nm xs->xs≠[]->0<val xs
 | [],_,h=>absurd rfl h
 | x::xs,h,_=>by
  have h1:=h.dg x List.mem_cons_self
  rw[val]
  by_cases hn:xs=[]
  ·subst hn
   have:=h.last (by simp)
   simp at this
   simp[val]; omega
  ·have:=Nm.pos h.tail hn
   omega
theorem Nm.uniq:∀{xs ys:List Int},Nm xs->Nm ys->val xs=val ys->xs=ys
 | [],[],_,_,_=>rfl
 | [],y::ys,_,h,e=>by have:=h.pos (by simp); rw[<- e] at this; simp[val] at this
 | x::xs,[],h,_,e=>by have:=h.pos (by simp); rw[e] at this; simp[val] at this
 | x::xs,y::ys,h,k,e=>by
  have h1:=h.dg x List.mem_cons_self
  have h2:=k.dg y List.mem_cons_self
  rw[val,val] at e
  obtain rfl:x=y:=by omega
  rw[Nm.uniq h.tail k.tail zo]
def HJ:Nat->Nat->List Int
 | 0,_=>[]
 | f+1,n=>if n=0 then [] else ((n%100000000:Nat):Int)::HJ f (n/100000000)
theorem TG:∀{f n:Nat},n<=f->Nm (HJ f n)/\val (HJ f n)=n
 | 0,n,h=>by
  obtain rfl:n=0:=by omega
  exact ⟨Nm.nil,rfl⟩
 | f+1,n,h=>by
  rw[HJ]
  by_cases e:n=0
  ·rw[if_pos e]; subst e; exact ⟨Nm.nil,rfl⟩
  ·rw[if_neg e]
   obtain ⟨h1,h2⟩:=TG (f:=f) (n:=n/100000000) zo
   refine ⟨⟨fun x hx=>?_,fun hn=>?_⟩,?_⟩
   ·rcases List.mem_cons.1 hx with rfl | hx
    ·omega
    ·exact h1.dg x hx
   ·by_cases hq:HJ f (n/100000000)=[]
    ·have:n/100000000=0:=by rw[hq] at h2; simp[val] at h2; omega
     simp only[hq,List.getLast_singleton]; omega
    ·rw[List.getLast_cons hq]; exact h1.last hq
   ·rw[val,h2]; omega
def d6 (n:Nat):List Int:=HJ n n
theorem M6 (n:Nat):Nm (d6 n):=(TG (Nat.le_refl n)).1
theorem w5 (n:Nat):val (d6 n)=n:=(TG (Nat.le_refl n)).2
theorem w3 (n:Nat):Dg (d6 n):=(M6 n).dg
theorem NL {xs:List Int} {n:Nat} (h:Nm xs) (e:val xs=n):xs=d6 n:=h.uniq (M6 n) (by rw[w5,e])
theorem bG:d6 0=[]:=rfl
theorem pV {n:Nat}:d6 n=[]↔n=0:=⟨fun h=>by have:=w5 n; rw[h] at this; simp[val] at this; omega,fun h=>by subst h; rfl⟩
theorem HK {n:Nat}:(d6 n).length=0↔n=0:=by rw[List.length_eq_zero_iff,pV]
def dl (z:Int):Nat:=(d6 z.natAbs).length
theorem HL (z:Int):(z.natAbs:Int)<BP (dl z):=by
 have:=(w3 z.natAbs).val1
 rwa [w5] at this
theorem Nm.low:∀{xs:List Int},Nm xs->xs≠[]->BP (xs.length-1)<=val xs
 | [],_,h=>absurd rfl h
 | x::xs,h,_=>by
  have h1:=h.dg x List.mem_cons_self
  rw[val,List.length_cons,Nat.add_sub_cancel]
  by_cases hn:xs=[]
  ·subst hn
   have:=h.pos (by simp)
   simp[val,BP] at this ⊢; omega
  ·have:=Nm.low h.tail hn
   have hl:xs.length=(xs.length-1)+1:=by have:=List.length_pos_iff.2 hn; omega
   rw[hl,R4]; omega
theorem U0 {z:Int} {k:Nat} (h:(z.natAbs:Int)<BP k):dl z<=k:=by
 by_cases hn:d6 z.natAbs=[]
 ·unfold dl; rw[hn]; exact Nat.zero_le _
 ·have h1:=(M6 z.natAbs).low hn
  rw[w5] at h1
  have hl:0<dl z:=List.length_pos_iff.2 hn
  rcases Nat.lt_or_ge k (dl z) with h2 | h2
  ·have:=GP (show k<=dl z-1 by omega)
   unfold dl at *; omega
  ·exact h2
theorem T9 (a b:Int):dl (a+b)<=max (dl a) (dl b)+1:=by
 refine U0 ?_
 have h1:=HL a; have h2:=HL b
 have h3:=GP (Nat.le_max_left (dl a) (dl b)); have h4:=GP (Nat.le_max_right (dl a) (dl b))
 rw[R4]; omega
theorem w8 (a b:Int):dl (a*b)<=dl a+dl b:=by
 refine U0 ?_
 have h1:=HL a; have h2:=HL b
 rw[Int.natAbs_mul,LR]
 push_cast
 by_cases hb:b.natAbs=0
 ·rw[hb]; simp; exact Int.mul_pos (R3 _) (R3 _)
 ·exact Int.lt_of_lt_of_le (Int.mul_lt_mul_of_pos_right h1 zo) (Int.mul_le_mul_of_nonneg_left (Int.le_of_lt h2) (Int.le_of_lt (R3 _)))
theorem K6 (a:Int):dl (-a)=dl a:=by unfold dl; rw[Int.natAbs_neg]
theorem F5 {a:Int}:dl a=0↔a=0:=by unfold dl; rw[HK]; omega
def l7:List Int->List Int
 | []=>[]
 | x::xs=>if l7 xs=[]/\x=0 then [] else x::l7 xs
theorem XK:∀{xs:List Int},val (l7 xs)=val xs
 | []=>rfl
 | x::xs=>by
  have ih:=XK (xs:=xs)
  rw[l7]
  split
  ·rename_i h
   rw[h.1] at ih
   show 0=x+100000000*val xs
   rw[<- ih,h.2]; simp[val]
  ·rw[val,val,ih]
theorem T1:∀{xs:List Int},(l7 xs).length<=xs.length
 | []=>Nat.le_refl _
 | x::xs=>by
  have:=T1 (xs:=xs)
  rw[l7]; split
  ·simp
  ·simp only[List.length_cons]; omega
theorem QS:∀{xs:List Int} {x:Int},x∈l7 xs->x∈xs
 | [],_,h=>h
 | y::ys,x,h=>by
  rw[l7] at h
  split at h
  ·cases h
  ·rcases List.mem_cons.1 h with rfl | h
   ·exact List.mem_cons_self
   ·exact List.mem_cons_of_mem _ (QS h)
theorem JA:∀{xs:List Int} (h:l7 xs≠[]),(l7 xs).getLast h≠0
 | [],h=>absurd rfl h
 | x::xs,h=>by
  have e:l7 (x::xs)=x::l7 xs:=by
   rw[l7] at h ⊢
   split
   ·rename_i hh; rw[if_pos hh] at h; exact absurd rfl h
   ·rfl
  by_cases hn:l7 xs=[]
  ·have hx:x≠0:=fun hx=>by rw[l7,if_pos ⟨hn,hx⟩] at h; exact h rfl
   simp only[e,hn,List.getLast_singleton]; exact hx
  ·simp only[e,List.getLast_cons hn]; exact JA hn
theorem jE {xs:List Int} (h:Dg xs):Nm (l7 xs):=⟨fun x hx=>h x (QS hx),JA⟩
theorem CM {xs:List Int} (h:Dg xs) {n:Nat} (e:val xs=n):l7 xs=d6 n:=NL (jE h) (by rw[XK,e])
theorem QU:∀{xs:List Int},(∀i,i<xs.length->b6 xs i=0)->l7 xs=[]
 | [],_=>rfl
 | x::xs,h=>by
  rw[l7,if_pos ⟨QU fun i hi=>h (i+1) (by simpa using hi),h 0 (by simp)⟩]
theorem EV:∀{xs:List Int} {m:Nat},m<=xs.length->(∀i,m<=i->i<xs.length->b6 xs i=0)->(m=0\/b6 xs (m-1)≠0)->l7 xs=xs.take m
 | xs,0,_,h,_=>by rw[List.take_zero]; exact QU fun i hi=>h i (Nat.zero_le _) hi
 | [],m+1,hm,_,_=>by simp at hm
 | x::xs,m+1,hm,h,hl=>by
  have hz:∀i,m<=i->i<xs.length->b6 xs i=0:=fun i h1 h2=>h (i+1) zo (by simpa using h2)
  rw[List.take_succ_cons,l7]
  rcases Nat.eq_zero_or_pos m with rfl | hm0
  ·have hx:x≠0:=by rcases hl with hl | hl; omega; exact hl
   rw[if_neg (fun hh=>hx hh.2),QU fun i hi=>hz i (Nat.zero_le _) hi]; rfl
  ·have hl':b6 xs (m-1)≠0:=by
    rcases hl with hl | hl
    ·omega
    ·rw[show m+1-1=(m-1)+1 by omega] at hl; exact hl
   have ih:=EV (xs:=xs) (m:=m) (by simpa using hm) hz (.inr hl')
   have hne:l7 xs≠[]:=by rw[ih]; exact fun hh=>by (have h5:=congrArg List.length hh; rw[List.length_take,List.length_nil] at h5; rw[List.length_cons] at hm; omega)
   rw[if_neg (fun hh=>hne hh.1),ih]
def z9 (xs:List Int) (i:Nat):Int:=if i<xs.length then b6 xs i else 0
def r8 (xs:List Int):Nat->List Int×Int
 | 0=>([],0)
 | i+1=>((r8 xs i).1++[(z9 xs i+(r8 xs i).2)%100000000],(z9 xs i+(r8 xs i).2)/100000000)
theorem U9 {xs:List Int}:∀{i:Nat},(r8 xs i).1.length=i
 | 0=>rfl
 | i+1=>by rw[r8,List.length_append,U9]; rfl
theorem X9 {xs:List Int}:∀{i:Nat},Dg (r8 xs i).1
 | 0=>Dg.nil
 | i+1=>by rw[r8]; exact X9.snoc (Int.emod_nonneg _ zo) (Int.emod_lt_of_pos _ zo)
theorem BJ {xs:List Int} {i:Nat}:val (xs.take (i+1))=val (xs.take i)+BP i*z9 xs i:=by
 unfold z9
 by_cases h:i<xs.length
 ·rw[if_pos h,Y1 h,V4,List.length_take,Nat.min_eq_left zo]
 ·rw[if_neg h,List.take_of_length_le zo,List.take_of_length_le zo]; simp
theorem WR {xs:List Int}:∀{i:Nat},val (r8 xs i).1+BP i*(r8 xs i).2=val (xs.take i)
 | 0=>by simp[r8,val]
 | i+1=>by
  have ih:=WR (xs:=xs) (i:=i)
  rw[r8,BJ,<- ih,V4,U9,R4]
  generalize z9 xs i=x
  generalize (r8 xs i).2=c
  have h:=Int.emod_add_mul_ediv (x+c) 100000000
  have h2:BP i*(x+c)=BP i*((x+c)%100000000)+BP i*(100000000*((x+c)/100000000)):=by rw[<- Int.mul_add,h]
  have h3:100000000*BP i*((x+c)/100000000)=BP i*(100000000*((x+c)/100000000)):=by rw[Int.mul_comm 100000000 (BP i),Int.mul_assoc]
  rw[h3]
  rw[Int.mul_add] at h2
  omega
def A5 (xs:List Int):Prop:=∀i,i<xs.length->-9223372036854775808<=b6 xs i/\b6 xs i<=9223372036854775807
theorem A5.x {xs:List Int} (h:A5 xs) (i:Nat):-9223372036854775808<=z9 xs i/\z9 xs i<=9223372036854775807:=by
 unfold z9
 split
 ·exact h i (by assumption)
 ·omega
theorem Dg.inI {xs:List Int} (h:Dg xs):A5 xs:=fun i hi=>by have:=h.at hi; omega
theorem LH {xs:List Int} (h:A5 xs):∀{i:Nat},-100000000000<=(r8 xs i).2/\(r8 xs i).2<=100000000000
 | 0=>by simp[r8]
 | i+1=>by
  have:=LH h (i:=i)
  have:=h.x i
  rw[r8]; simp only; omega
theorem gE {xs:List Int} {i:Nat}:z9 xs i/100000000+(z9 xs i%100000000+(r8 xs i).2)/100000000=(r8 xs (i+1)).2/\(z9 xs i%100000000+(r8 xs i).2)%100000000=(z9 xs i+(r8 xs i).2)%100000000:=by
 rw[r8]; simp only; omega
theorem gD {xs:List Int} {i:Nat} (hi:xs.length<=i) (h:(r8 xs i).2=0):val xs=val (r8 xs i).1:=by
 have:=WR (xs:=xs) (i:=i)
 rw[h,Int.mul_zero,Int.add_zero,List.take_of_length_le hi] at this
 exact this.symm
theorem gC {xs:List Int} {i:Nat} (hi:xs.length<=i) (h:(r8 xs i).2=-1):val xs=val (r8 xs i).1-BP i:=by
 have:=WR (xs:=xs) (i:=i)
 rw[h,List.take_of_length_le hi] at this
 omega
def bw (ds:List Int):Nat->Int
 | 0=>0
 | k+1=>if -(b6 ds k)-bw ds k<0 then 1 else 0
theorem JW {ds:List Int}:∀{k:Nat},bw ds k=0\/bw ds k=1
 | 0=>.inl rfl
 | k+1=>by rw[bw]; split; exact .inr rfl; exact .inl rfl
def N9 (ds:List Int) (j:Nat):Int:=if -(b6 ds j)-bw ds j<0 then -(b6 ds j)-bw ds j+100000000 else -(b6 ds j)-bw ds j
def E2 (ds:List Int) (k:Nat):List Int:=n6 ds.length fun j=>if j<k then N9 ds j else b6 ds j
theorem ZC {ds:List Int} {k:Nat}:(E2 ds k).length=ds.length:=t7
theorem lU {ds:List Int}:ds=E2 ds 0:=by
 unfold E2
 exact (V2 rfl).trans (z8 fun j _=>by rw[if_neg zo])
theorem SN {ds:List Int} {k:Nat} (h:k<ds.length):b6 (E2 ds k) k=b6 ds k:=by unfold E2; rw[s8 h,if_neg zo]
theorem ZD {ds:List Int} {k:Nat}:(E2 ds k).set k (N9 ds k)=E2 ds (k+1):=by
 unfold E2
 rw[GJ]
 refine z8 fun j _=>?_
 by_cases e:j=k
 ·subst e; rw[if_pos rfl,if_pos zo]
 ·rw[if_neg e]
  by_cases h:j<k
  ·rw[if_pos h,if_pos zo]
  ·rw[if_neg h,if_neg zo]
theorem SM {ds:List Int} (h:Dg ds) {j:Nat} (hj:j<ds.length):0<=N9 ds j/\N9 ds j<100000000:=by
 have:=h.at hj
 unfold N9
 rcases JW (ds:=ds) (k:=j) with e | e<;>rw[e]<;>split<;>omega
theorem SP {ds:List Int} (h:Dg ds):∀{k:Nat},k<=ds.length->val (n6 k (N9 ds))=BP k*bw ds k-val (ds.take k)/\(bw ds k=0->val (ds.take k)=0)
 | 0,_=>by simp[n6,val,bw]
 | k+1,hk=>by
  obtain ⟨ih,ih0⟩:=SP h (k:=k) zo
  have hr:=h.at (i:=k) zo
  rw[H4,V4,t7,ih,Y1 zo,V4,List.length_take,Nat.min_eq_left zo,R4,bw]
  have h01:=JW (ds:=ds) (k:=k)
  have hp:=R3 k
  unfold N9
  split
  ·rename_i hn
   refine ⟨?_,fun hh=>absurd hh zo⟩
   rw[Int.mul_add (BP k),Int.mul_sub (BP k),Int.mul_neg]
   rw[Int.mul_comm 100000000 (BP k),Int.mul_assoc]
   omega
  ·rename_i hn
   have h0:b6 ds k=0/\bw ds k=0:=by omega
   rw[h0.1,h0.2,ih0 h0.2]
   simp
theorem lV {ds:List Int} (h:Dg ds) (e:bw ds ds.length≠0):Dg (E2 ds ds.length)/\val (E2 ds ds.length)=BP ds.length-val ds:=by
 have e1:E2 ds ds.length=n6 ds.length (N9 ds):=z8 fun j hj=>if_pos hj
 have hv:=(SP h (Nat.le_refl ds.length)).1
 rw[List.take_length,(JW.resolve_left e),Int.mul_one] at hv
 rw[e1]
 refine ⟨fun x hx=>?_,hv⟩
 obtain ⟨j,hj,rfl⟩:=AW hx
 rw[t7] at hj
 rw[s8 hj]; exact SM h hj
theorem lW {ds:List Int} (h:Dg ds) (e:bw ds ds.length=0):Dg (E2 ds ds.length++[1])/\val (E2 ds ds.length++[1])=BP ds.length-val ds:=by
 have e1:E2 ds ds.length=n6 ds.length (N9 ds):=z8 fun j hj=>if_pos hj
 obtain ⟨hv,hz⟩:=SP h (Nat.le_refl ds.length)
 have hz:=hz e
 rw[List.take_length] at hv hz
 rw[e,hz] at hv
 rw[e1]
 refine ⟨Dg.snoc (fun x hx=>?_) zo zo,?_⟩
 ·obtain ⟨j,hj,rfl⟩:=AW hx
  rw[t7] at hj
  rw[s8 hj]; exact SM h hj
 ·rw[V4,t7,hv,hz]; simp
def j6 (z:Int):List Int:=if z<0 then (d6 z.natAbs).map (fun x=>-x) else d6 z.natAbs
theorem jQ:∀{xs:List Int},val (xs.map fun x=>-x)=-val xs
 | []=>rfl
 | x::xs=>by rw[List.map_cons,val,val,jQ]; omega
theorem I6 (z:Int):val (j6 z)=z:=by
 unfold j6
 split
 ·rw[jQ,w5]; omega
 ·rw[w5]; omega
theorem F0 (z:Int):(j6 z).length=dl z:=by unfold j6 dl; split<;>simp
theorem tC:j6 0=[]:=rfl
theorem U5 (z:Int):A5 (j6 z):=fun i hi=>by
 unfold j6 at hi ⊢
 split
 ·rename_i h
  rw[if_pos h,List.length_map] at hi
  rw[FS hi]
  have:=(w3 z.natAbs).at hi
  omega
 ·rename_i h
  rw[if_neg h] at hi
  have:=(w3 z.natAbs).at hi
  omega
end Go.Fl

/- Sums, differences, comparisons and products of digits. Plain Lean, no program in sight. -/
namespace Go.Fl
theorem eM {xs:List Int} (h:Dg xs) (k:xs≠[]->BP (xs.length-1)<=val xs):Nm xs:=by
 refine ⟨h,fun hn e=>?_⟩
 have e2:xs=xs.dropLast++[xs.getLast hn]:=(List.dropLast_concat_getLast hn).symm
 have h1:=k hn
 rw[e] at e2
 have h2:Dg xs.dropLast:=fun x hx=>h x ((List.dropLast_sublist xs).subset hx)
 have h3:=h2.val1
 rw[e2,V4,Int.mul_zero,Int.add_zero] at h1
 rw[List.length_append,List.length_singleton,Nat.add_sub_cancel] at h1
 omega
theorem CN {xs:List Int} {i:Nat} (h:i<xs.length):val (xs.drop i)=b6 xs i+100000000*val (xs.drop (i+1)):=by
 rw[List.drop_eq_getElem_cons h,val,AX (List.getElem?_eq_getElem h)]
theorem EW {xs:List Int} {i:Nat} (h:i<=xs.length):val xs=val (xs.take i)+BP i*val (xs.drop i):=by
 conv=>lhs; rw[<- List.take_append_drop i xs]
 rw[JC,List.length_take,Nat.min_eq_left h]
theorem LP:∀{xs:List Int} {i:Nat} {v:Int},i<xs.length->val (xs.set i v)=val xs+BP i*(v-b6 xs i)
 | [],_,_,h=>by simp at h
 | x::xs,0,v,_=>by simp only[List.set_cons_zero,val,BP,Int.pow_zero]; show _=_+1*(v-x); omega
 | x::xs,i+1,v,h=>by
  rw[List.set_cons_succ,val,val,LP (by simpa using h),R4,Int.mul_add,Int.mul_assoc]
  show _=_+100000000*(BP i*(v-b6 xs i))
  omega
theorem Dg.set {xs:List Int} (h:Dg xs) {i:Nat} {v:Int} (h0:0<=v) (h1:v<100000000):Dg (xs.set i v):=fun x hx=>by
 rcases List.mem_or_eq_of_mem_set hx with hx | rfl
 ·exact h x hx
 ·exact ⟨h0,h1⟩
theorem Dg.x {xs:List Int} (h:Dg xs) (i:Nat):0<=z9 xs i/\z9 xs i<100000000:=by
 unfold z9; split
 ·exact h.at (by assumption)
 ·omega
theorem R2 {xs:List Int} {i:Nat} (h:i<xs.length):z9 xs i=b6 xs i:=if_pos h
theorem GM {xs:List Int} {i:Nat} (h:¬i<xs.length):z9 xs i=0:=if_neg h
theorem TF {n:Nat}:Dg (List.replicate n 0):=fun x hx=>by rw[List.eq_of_mem_replicate hx]; omega
theorem QW {n:Nat}:val (List.replicate n 0)=0:=by
 induction n with
 | zero=>rfl
 | succ n ih=>rw[List.replicate_succ,val,ih]; omega
def E9 (a b:List Int):Nat->List Int×Int
 | 0=>([],0)
 | i+1=>((E9 a b i).1++[(b6 a i+(E9 a b i).2+z9 b i)%100000000],(b6 a i+(E9 a b i).2+z9 b i)/100000000)
theorem GY {a b:List Int}:∀{i:Nat},(E9 a b i).1.length=i
 | 0=>rfl
 | i+1=>by rw[E9,List.length_append,GY]; rfl
theorem MD {a b:List Int}:∀{i:Nat},Dg (E9 a b i).1
 | 0=>Dg.nil
 | i+1=>by rw[E9]; exact MD.snoc (Int.emod_nonneg _ zo) (Int.emod_lt_of_pos _ zo)
theorem JQ {a b:List Int} (ha:Dg a) (hb:Dg b):∀{i:Nat},i<=a.length->0<=(E9 a b i).2/\(E9 a b i).2<=1
 | 0,_=>by simp[E9]
 | i+1,h=>by
  have:=JQ ha hb (i:=i) zo
  have:=ha.at (i:=i) zo
  have:=hb.x i
  rw[E9]; simp only; omega
theorem VL {n:Nat} (x:Int):BP n*x=BP n*(x%100000000)+BP (n+1)*(x/100000000):=by
 have h:=Int.emod_add_mul_ediv x 100000000
 rw[R4,Int.mul_comm 100000000 (BP n),Int.mul_assoc,<- Int.mul_add,h]
theorem RO {a b:List Int}:∀{i:Nat},i<=a.length->val (E9 a b i).1+BP i*(E9 a b i).2=val (a.take i)+val (b.take i)
 | 0,_=>by simp[E9,val]
 | i+1,h=>by
  have ih:=RO (a:=a) (b:=b) (i:=i) zo
  have e:=VL (n:=i) (b6 a i+(E9 a b i).2+z9 b i)
  rw[Int.mul_add,Int.mul_add] at e
  rw[E9,BJ (xs:=a),BJ (xs:=b),V4,GY,R2 (xs:=a) zo]
  dsimp only
  omega
theorem add_zero {a b:List Int} (ha:Nm a) (hb:Nm b) (hl:b.length<=a.length) (h:(E9 a b a.length).2=0):(E9 a b a.length).1=d6 (val a+val b).toNat:=by
 have hv:=RO (a:=a) (b:=b) (Nat.le_refl _)
 rw[h,Int.mul_zero,Int.add_zero,List.take_length,List.take_of_length_le hl] at hv
 have h0:=ha.dg.val0; have h1:=hb.dg.val0
 refine NL (eM MD fun hn=>?_) (by rw[hv]; omega)
 have hne:a≠[]:=fun e=>hn (List.eq_nil_of_length_eq_zero (by rw[GY,e]; rfl))
 have:=ha.low hne
 rw[GY,hv]; omega
theorem kQ {a b:List Int} (ha:Nm a) (hb:Nm b) (hl:b.length<=a.length) (h:(E9 a b a.length).2=1):(E9 a b a.length).1++[1]=d6 (val a+val b).toNat:=by
 have hv:=RO (a:=a) (b:=b) (Nat.le_refl _)
 rw[h,Int.mul_one,List.take_length,List.take_of_length_le hl] at hv
 have h0:=ha.dg.val0; have h1:=hb.dg.val0
 have h2:val ((E9 a b a.length).1++[1])=val a+val b:=by rw[V4,GY]; omega
 refine NL (eM (MD.snoc zo zo) fun _=>?_) (by rw[h2]; omega)
 have:=(MD (a:=a) (b:=b) (i:=a.length)).val0
 rw[h2,List.length_append,GY,List.length_singleton,Nat.add_sub_cancel]; omega
def sb (a b:List Int):Nat->Int
 | 0=>0
 | k+1=>if b6 a k-sb a b k-z9 b k<0 then 1 else 0
theorem WW {a b:List Int}:∀{k:Nat},sb a b k=0\/sb a b k=1
 | 0=>.inl rfl
 | k+1=>by rw[sb]; split; exact .inr rfl; exact .inl rfl
def BF (a b:List Int) (j:Nat):Int:=if b6 a j-sb a b j-z9 b j<0 then b6 a j-sb a b j-z9 b j+100000000 else b6 a j-sb a b j-z9 b j
def B9 (a b:List Int) (k:Nat):List Int:=n6 a.length fun j=>if j<k then BF a b j else b6 a j
theorem GF {a b:List Int} {k:Nat}:(B9 a b k).length=a.length:=t7
theorem xC {a b:List Int}:a=B9 a b 0:=by
 unfold B9
 exact (V2 rfl).trans (z8 fun j _=>by rw[if_neg zo])
theorem QF {a b:List Int} {k:Nat} (h:k<a.length):b6 (B9 a b k) k=b6 a k:=by unfold B9; rw[s8 h,if_neg zo]
theorem gV {a b:List Int} {k:Nat}:(B9 a b k).set k (BF a b k)=B9 a b (k+1):=by
 unfold B9
 rw[GJ]
 refine z8 fun j _=>?_
 by_cases e:j=k
 ·subst e; rw[if_pos rfl,if_pos zo]
 ·rw[if_neg e]
  by_cases h:j<k
  ·rw[if_pos h,if_pos zo]
  ·rw[if_neg h,if_neg zo]
theorem xB {a b:List Int} (ha:Dg a) (hb:Dg b) {j:Nat} (hj:j<a.length):0<=BF a b j/\BF a b j<100000000:=by
 have:=ha.at hj
 have:=hb.x j
 unfold BF
 rcases WW (a:=a) (b:=b) (k:=j) with e | e<;>rw[e]<;>split<;>omega
theorem gZ {a b:List Int}:∀{k:Nat},k<=a.length->val (n6 k (BF a b))=val (a.take k)-val (b.take k)+BP k*sb a b k
 | 0,_=>by simp[n6,val,sb]
 | k+1,hk=>by
  have ih:=gZ (a:=a) (b:=b) (k:=k) zo
  rw[H4,V4,t7,ih,BJ (xs:=a),BJ (xs:=b),R2 (xs:=a) zo,R4,sb]
  unfold BF
  rw[Int.mul_comm 100000000 (BP k),Int.mul_assoc]
  split
  ·rw[Int.mul_add,Int.mul_sub,Int.mul_sub]; omega
  ·rw[Int.mul_sub,Int.mul_sub]; simp; omega
theorem yM {a b:List Int} (ha:Dg a) (hb:Dg b) (hl:b.length<=a.length) (hle:val b<=val a):l7 (B9 a b a.length)=d6 (val a-val b).toNat:=by
 have e1:B9 a b a.length=n6 a.length (BF a b):=z8 fun j hj=>if_pos hj
 have hd:Dg (n6 a.length (BF a b)):=fun x hx=>by
  obtain ⟨j,hj,rfl⟩:=AW hx
  rw[t7] at hj
  rw[s8 hj]; exact xB ha hb hj
 have hv:=gZ (a:=a) (b:=b) (Nat.le_refl _)
 rw[List.take_length,List.take_of_length_le hl] at hv
 have h1:=hd.val1
 rw[t7] at h1
 have hz:sb a b a.length=0:=by
  rcases WW (a:=a) (b:=b) (k:=a.length) with e | e
  ·exact e
  ·rw[e,Int.mul_one] at hv; omega
 rw[hz,Int.mul_zero,Int.add_zero] at hv
 rw[e1]
 exact CM hd (by rw[hv]; omega)
theorem MV {a b:List Int} (ha:Nm a) (hb:Nm b) (h:a.length<b.length):val a<val b:=by
 have h1:=ha.dg.val1
 have h2:=hb.low (fun e=>by rw[e] at h; simp at h)
 have:=GP (show a.length<=b.length-1 by omega)
 omega
theorem MU {a b:List Int} (ha:Dg a) (hb:Dg b) (hl:a.length=b.length) {i:Nat} (hi:i<a.length) (h:∀j,i<j->j<a.length->b6 a j=b6 b j) (hlt:b6 a i<b6 b i):val a<val b:=by
 have e:a.drop (i+1)=b.drop (i+1):=by
  refine H2 (by simp[hl]) fun j hj=>?_
  rw[List.length_drop] at hj
  have:=h (i+1+j) zo zo
  unfold b6 at this ⊢
  simpa [List.getD_eq_getElem?_getD,List.getElem?_drop] using this
 have h1:=EW (xs:=a) (i:=i) zo
 have h2:=EW (xs:=b) (i:=i) zo
 rw[CN hi] at h1
 rw[CN zo,<- e] at h2
 have h3:=(ha.take i).val1
 have h4:=(hb.take i).val0
 rw[List.length_take,Nat.min_eq_left zo] at h3
 have h5:BP i*(b6 a i+100000000*val (a.drop (i+1))+1)<=BP i*(b6 b i+100000000*val (a.drop (i+1))):=Int.mul_le_mul_of_nonneg_left zo (Int.le_of_lt (R3 i))
 rw[Int.mul_add,Int.mul_one] at h5
 omega
theorem ZH {a b:List Int} (hl:a.length=b.length) (h:∀j,j<a.length->b6 a j=b6 b j):a=b:=H2 hl h
def u5 (x y:Int):Int:=if x<y then -1 else if y<x then 1 else 0
structure Y7 (a b o:List Int) (i k:Nat) (c:Int):Prop where
 len:o.length=a.length+b.length
 dg:Dg o
 c0:0<=c/\c<100000000
 z:∀j,i+b.length<=j->j<o.length->b6 o j=0
 v:val o+BP (i+k)*c=val (a.take i)*val b+BP i*b6 a i*val (b.take k)
structure R6 (a b o:List Int) (i:Nat):Prop where
 len:o.length=a.length+b.length
 dg:Dg o
 z:∀j,i+b.length<=j->j<o.length->b6 o j=0
 v:val o=val (a.take i)*val b
section
variable {a b o:List Int} {i k:Nat} {c:Int}
theorem R6.start:R6 a b (List.replicate (a.length+b.length) 0) 0 :=
 ⟨by simp,TF,fun j _ hj=>OX (by simpa using hj),by rw[QW]; simp[val]⟩
theorem R6.row (h:R6 a b o i):Y7 a b o i 0 0:=⟨h.len,h.dg,by omega,h.z,by rw[h.v]; simp[val]⟩
theorem Y7.n (ha:Dg a) (hb:Dg b) (h:Y7 a b o i k c) (hi:i<a.length) (hk:k<b.length):0<=b6 o (i+k)/\b6 o (i+k)<100000000/\0<=b6 a i*b6 b k/\b6 a i*b6 b k<=9999999800000001:=by
 have h1:=h.dg.at (i:=i+k) (by rw[h.len]; omega)
 have h2:=ha.at hi
 have h3:=hb.at hk
 refine ⟨h1.1,h1.2,Int.mul_nonneg h2.1 h3.1,?_⟩
 have:b6 a i*b6 b k<=99999999*99999999:=Int.mul_le_mul zo zo h3.1 zo
 omega
theorem Y7.next (ha:Dg a) (hb:Dg b) (h:Y7 a b o i k c) (hi:i<a.length) (hk:k<b.length):Y7 a b (o.set (i+k) ((b6 o (i+k)+b6 a i*b6 b k+c)%100000000)) i (k+1) ((b6 o (i+k)+b6 a i*b6 b k+c)/100000000):=by
 obtain ⟨n1,n2,n3,n4⟩:=h.n ha hb hi hk
 have hc:=h.c0
 have hik:i+k<o.length:=by rw[h.len]; omega
 refine ⟨by rw[List.length_set]; exact h.len,h.dg.set (Int.emod_nonneg _ zo) (Int.emod_lt_of_pos _ zo),by omega,fun j h1 h2=>?_,?_⟩
 ·rw[List.length_set] at h2
  rw[L3 h2,if_neg zo]; exact h.z j h1 h2
 ·have e:=VL (n:=i+k) (b6 o (i+k)+b6 a i*b6 b k+c)
  rw[Int.mul_add,Int.mul_add] at e
  have hv:=h.v
  have e2:BP i*b6 a i*val (b.take (k+1))=BP i*b6 a i*val (b.take k)+BP (i+k)*(b6 a i*b6 b k):=by
   rw[BJ,R2 hk,Int.mul_add,LR]
   congr 1
   rw[Int.mul_assoc,Int.mul_assoc,Int.mul_left_comm (b6 a i)]
  rw[LP hik,e2,Int.mul_sub,<- Nat.add_assoc]
  omega
theorem Y7.done (h:Y7 a b o i b.length c) (hi:i<a.length):R6 a b (o.set (i+b.length) c) (i+1):=by
 have hl:i+b.length<o.length:=by rw[h.len]; omega
 have hz:=h.z (i+b.length) (Nat.le_refl _) hl
 refine ⟨by rw[List.length_set]; exact h.len,h.dg.set h.c0.1 h.c0.2,fun j h1 h2=>?_,?_⟩
 ·rw[List.length_set] at h2
  rw[L3 h2,if_neg zo]; exact h.z j zo h2
 ·have hv:=h.v
  rw[List.take_length] at hv
  rw[LP hl,hz,Int.sub_zero,BJ,R2 hi,Int.add_mul]; exact hv
theorem R6.fin (h:R6 a b o a.length) (ha:Dg a) (hb:Dg b):l7 o=d6 (val a*val b).toNat:=by
 have hv:=h.v
 rw[List.take_length] at hv
 have:=Int.mul_nonneg ha.val0 hb.val0
 exact CM h.dg (by rw[hv]; omega)
end
structure L1 (a o:List Int) (n:Int) (i:Nat) (r:Int):Prop where
 len:o.length=a.length
 dg:Dg o
 r0:0<=r/\r<n
 z:∀j,j<i->j<o.length->b6 o j=0
 v:val (a.drop i)=n*val (o.drop i)+r
section
variable {a o:List Int} {n r:Int} {i:Nat}
theorem L1.start (hn:0<n):L1 a (List.replicate a.length 0) n a.length 0 :=
 ⟨by simp,TF,by omega,fun j h _=>OX h,by rw[List.drop_length,List.drop_of_length_le (by simp)]; simp[val]⟩
theorem L1.q (ha:Dg a) (h:L1 a o n (i+1) r) (hi:i<a.length):0<=(r*100000000+b6 a i)/n/\(r*100000000+b6 a i)/n<100000000/\0<=(r*100000000+b6 a i)%n/\(r*100000000+b6 a i)%n<n:=by
 have h1:=ha.at hi
 have h2:=h.r0
 refine ⟨Int.ediv_nonneg zo zo,Int.ediv_lt_of_lt_mul zo ?_,Int.emod_nonneg _ zo,Int.emod_lt_of_pos _ zo⟩
 have:(r+1)*100000000<=n*100000000:=Int.mul_le_mul_of_nonneg_right zo zo
 rw[Int.mul_comm 100000000 n]; omega
theorem L1.next (ha:Dg a) (h:L1 a o n (i+1) r) (hi:i<a.length):L1 a (o.set i ((r*100000000+b6 a i)/n)) n i ((r*100000000+b6 a i)%n):=by
 obtain ⟨q1,q2,q3,q4⟩:=h.q ha hi
 have hl:=h.len
 refine ⟨by rw[List.length_set]; exact hl,h.dg.set q1 q2,⟨q3,q4⟩,fun j h1 h2=>?_,?_⟩
 ·rw[List.length_set] at h2
  rw[L3 h2,if_neg zo]; exact h.z j zo h2
 ·have e:=Int.emod_add_mul_ediv (r*100000000+b6 a i) n
  rw[CN hi,h.v,CN (xs:=o.set i _) (by rw[List.length_set]; omega),L3 zo,if_pos rfl,List.drop_set_of_lt zo,Int.mul_add,Int.mul_add,Int.mul_left_comm n 100000000]
  omega
theorem L1.fin (h:L1 a o n 0 r):l7 o=d6 (val a/n).toNat/\r=val a%n:=by
 have hv:=h.v
 rw[List.drop_zero,List.drop_zero] at hv
 have hr:=h.r0
 have e1:val a/n=val o:=by rw[hv,Int.mul_add_ediv_left _ _ zo,Int.ediv_eq_zero_of_lt hr.1 hr.2]; omega
 have e2:val a%n=r:=by rw[hv,Int.mul_add_emod_self_left,Int.emod_eq_of_lt hr.1 hr.2]
 have h0:=h.dg.val0
 exact ⟨CM h.dg (by rw[e1]; omega),e2.symm⟩
end
end Go.Fl

/- Long division of digits. Plain Lean, no program in sight. -/
namespace Go.Fl
theorem rP {xs:List Int} (h:Dg xs) {n:Nat} (hv:val xs<BP n) {k:Nat} (hk:n<=k) (hl:k<xs.length):b6 xs k=0:=by
 have h1:=h.at hl
 have h2:=EW (xs:=xs) (i:=k) zo
 have h3:=(h.take k).val0
 have hd:Dg (xs.drop (k+1)):=fun x hx=>h x (List.mem_of_mem_drop hx)
 have h4:=hd.val0
 rw[CN hl] at h2
 have h5:=GP hk
 refine Classical.byContradiction fun hne=>?_
 have h6:BP k*1<=BP k*(b6 xs k+100000000*val (xs.drop (k+1))):=Int.mul_le_mul_of_nonneg_left zo (Int.le_of_lt (R3 k))
 omega
structure N5 (u0 v:List Int) (j:Nat) (s:Int) (u:List Int) (i:Nat) (c:Int):Prop where
 len:u.length=u0.length
 same:∀k,k<j\/j+i<=k->b6 u k=b6 u0 k
 dg:∀k,j<=k->k<j+i->0<=b6 u k/\b6 u k<100000000
 v:val u+BP (j+i)*c=val u0+s*BP j*val (v.take i)
 cb:-100000000<=c/\c<=1
section
variable {u0 v u:List Int} {j i:Nat} {s c:Int}
theorem N5.start:N5 u0 v j s u0 0 0:=⟨rfl,fun _ _=>rfl,fun _ _ _=>by omega,by simp[val],by omega⟩
theorem N5.b (hv:Dg v) (hs:-99999999<=s/\s<=1) (hi:i<v.length):-9999999800000001<=s*b6 v i/\s*b6 v i<=99999999:=by
 have h1:=hv.at hi
 constructor
 ·have h2:(-s)*b6 v i<=99999999*99999999:=by
   by_cases hp:0<=-s
   ·exact Int.mul_le_mul zo zo h1.1 zo
   ·have:(-s)*b6 v i<=0*b6 v i:=Int.mul_le_mul_of_nonneg_right zo h1.1
    omega
  rw[Int.neg_mul] at h2; omega
 ·have h2:s*b6 v i<=1*b6 v i:=Int.mul_le_mul_of_nonneg_right hs.2 h1.1
  omega
theorem N5.next (hv:Dg v) (hs:-99999999<=s/\s<=1) (h:N5 u0 v j s u i c) (hi:i<v.length) (hl:j+i<u0.length) (hu:0<=b6 u0 (j+i)/\b6 u0 (j+i)<100000000) :
  b6 u (j+i)=b6 u0 (j+i)/\N5 u0 v j s (u.set (j+i) ((b6 u0 (j+i)+s*b6 v i+c)%100000000)) (i+1) ((b6 u0 (j+i)+s*b6 v i+c)/100000000):=by
 have hb:=N5.b hv hs hi
 have hc:=h.cb
 have he:=h.same (j+i) (.inr (Nat.le_refl _))
 have hul:=h.len
 refine ⟨he,by rw[List.length_set]; exact hul,fun k hk=>?_,fun k h1 h2=>?_,?_,?_⟩
 ·by_cases hkl:k<u.length
  ·rw[L3 hkl,if_neg zo]; exact h.same k zo
  ·have e1:∀y:Int,b6 (u.set (j+i) y) k=b6 u k:=fun y=>by
    unfold b6
    simp only[List.getD_eq_getElem?_getD]
    rw[List.getElem?_eq_none (show (u.set (j+i) y).length<=k by rw[List.length_set]; omega),List.getElem?_eq_none (show u.length<=k by omega)]
   rw[e1]; exact h.same k zo
 ·have hkl:k<u.length:=by omega
  rw[L3 hkl]
  by_cases e:j+i=k
  ·rw[if_pos e]; exact ⟨Int.emod_nonneg _ zo,Int.emod_lt_of_pos _ zo⟩
  ·rw[if_neg e]; exact h.dg k h1 zo
 ·have e:=VL (n:=j+i) (b6 u0 (j+i)+s*b6 v i+c)
  rw[Int.mul_add,Int.mul_add] at e
  have hv':=h.v
  have e2:s*BP j*val (v.take (i+1))=s*BP j*val (v.take i)+BP (j+i)*(s*b6 v i):=by
   rw[BJ,R2 hi,Int.mul_add,LR]
   congr 1
   rw[Int.mul_comm s (BP j),Int.mul_assoc,Int.mul_assoc,Int.mul_left_comm s]
  rw[LP zo,he,e2,Int.mul_sub,<- Nat.add_assoc]
  omega
 ·constructor
  ·omega
  ·omega
theorem N5.done (h:N5 u0 v j s u v.length c) (hl:j+v.length<u0.length):b6 u (j+v.length)=b6 u0 (j+v.length)/\val (u.set (j+v.length) (b6 u (j+v.length)+c))=val u0+s*BP j*val v:=by
 have hv:=h.v
 rw[List.take_length] at hv
 refine ⟨h.same _ (.inr (Nat.le_refl _)),?_⟩
 rw[LP (by rw[h.len]; exact hl),<- hv]
 congr 1
 rw[Int.add_comm (b6 u _),Int.add_sub_cancel]
end
structure M3 (u0:List Int) (j n:Nat) (T V:Int) (u:List Int) (g:Int):Prop where
 len:u.length=u0.length
 dg:∀k,k<u.length->k≠j+n->0<=b6 u k/\b6 u k<100000000
 hi:∀k,j+n<k->k<u.length->b6 u k=0
 low:u.take j=u0.take j
 v:val u=val u0-g*BP j*V
 g0:T/V<=g
 g1:g<=99999999
section
variable {u0 u:List Int} {j n:Nat} {T V g:Int}
theorem M3.t (h:M3 u0 j n T V u g) (hl:j+n<u0.length) (hT:T=val (u0.drop j)):val (u.drop j)=T-g*V:=by
 have h1:=EW (xs:=u) (i:=j) (by rw[h.len]; omega)
 have h2:=EW (xs:=u0) (i:=j) zo
 have h3:=h.v
 rw[h1,h2,h.low,<- hT] at h3
 have h4:BP j*val (u.drop j)=BP j*(T-g*V):=by
  rw[Int.mul_sub,show BP j*(g*V)=g*BP j*V by rw[Int.mul_comm g (BP j),Int.mul_assoc]]; omega
 exact Int.eq_of_mul_eq_mul_left (by have:=R3 j; omega) h4
theorem M3.top (h:M3 u0 j n T V u g) (hl:j+n<u0.length):∃lo,0<=lo/\lo<BP n/\val (u.drop j)=lo+BP n*b6 u (j+n):=by
 have hlen:=h.len
 have h1:=EW (xs:=u.drop j) (i:=n) (by rw[List.length_drop]; omega)
 have hd:Dg ((u.drop j).take n):=fun x hx=>by
  obtain ⟨i,hi,rfl⟩:=AW hx
  rw[List.length_take,List.length_drop] at hi
  have e:b6 ((u.drop j).take n) i=b6 u (j+i):=by
   unfold b6
   simp only[List.getD_eq_getElem?_getD,List.getElem?_take,List.getElem?_drop]
   rw[if_pos zo]
  rw[e]; exact h.dg _ zo zo
 have hz:val ((u.drop j).drop n)=b6 u (j+n):=by
  rw[List.drop_drop,CN zo]
  have:val (u.drop (j+n+1))=0:=by
   have hr:u.drop (j+n+1)=List.replicate (u.drop (j+n+1)).length 0:=List.eq_replicate_of_mem fun x hx=>by
    obtain ⟨i,hi,rfl⟩:=AW hx
    rw[List.length_drop] at hi
    have e:b6 (u.drop (j+n+1)) i=b6 u (j+n+1+i):=by
     unfold b6
     simp only[List.getD_eq_getElem?_getD,List.getElem?_drop]
    rw[e]; exact h.hi _ zo zo
   rw[hr,QW]
  rw[this]; omega
 have h2:=hd.val1
 rw[List.length_take,List.length_drop,Nat.min_eq_left zo] at h2
 exact ⟨_,hd.val0,h2,by rw[h1,hz]⟩
theorem M3.lt (h:M3 u0 j n T V u g) (hl:j+n<u0.length) (hT:T=val (u0.drop j)) (hn:b6 u (j+n)<0) (hV:0<V):T/V<g:=by
 obtain ⟨lo,h1,h2,h3⟩:=h.top hl
 rw[h.t hl hT] at h3
 have h4:BP n*b6 u (j+n)<=BP n*(-1):=Int.mul_le_mul_of_nonneg_left zo (Int.le_of_lt (R3 n))
 have h5:T<g*V:=by omega
 exact Int.ediv_lt_of_lt_mul hV h5
theorem M3.ge (h:M3 u0 j n T V u g) (hl:j+n<u0.length) (hT:T=val (u0.drop j)) (hn:0<=b6 u (j+n)) (hV:0<V) (hVn:V<BP n):g=T/V/\Dg u/\val (u.drop j)<V:=by
 obtain ⟨lo,h1,h2,h3⟩:=h.top hl
 have h4:0<=BP n*b6 u (j+n):=Int.mul_nonneg (Int.le_of_lt (R3 n)) hn
 have ht:=h.t hl hT
 have h5:g*V<=T:=by omega
 have hg:g=T/V:=Int.le_antisymm ((Int.le_ediv_iff_mul_le hV).2 h5) h.g0
 have h6:val (u.drop j)<V:=by
  rw[ht,hg]
  have:=Int.emod_lt_of_pos T hV
  have e:=Int.emod_add_mul_ediv T V
  rw[Int.mul_comm] at e
  omega
 refine ⟨hg,fun x hx=>?_,h6⟩
 obtain ⟨k,hk,rfl⟩:=AW hx
 by_cases e:k=j+n
 ·subst e
  refine ⟨hn,?_⟩
  have:b6 u (j+n)=0:=by
   refine Classical.byContradiction fun hne=>?_
   have:BP n*1<=BP n*b6 u (j+n):=Int.mul_le_mul_of_nonneg_left zo (Int.le_of_lt (R3 n))
   omega
  omega
 ·exact h.dg k hk e
end
theorem rK {T V t vt:Int} {n:Nat} (hV:vt*BP n<=V) (hvt:0<vt) (hT:T<(t+1)*BP n) (hT2:T<100000000*V) (h0:0<=T):T/V<=(if 99999999<t/vt then 99999999 else t/vt)/\0<=T/V:=by
 have hp:=R3 n
 have hVp:0<V:=by
  have:0<vt*BP n:=Int.mul_pos hvt hp
  omega
 have h1:T/V<100000000:=Int.ediv_lt_of_lt_mul hVp hT2
 have hq0:0<=T/V:=Int.ediv_nonneg h0 zo
 have h2:T/V*V<=T:=Int.ediv_mul_le T zo
 have h3:T/V*(vt*BP n)<=T/V*V:=Int.mul_le_mul_of_nonneg_left hV hq0
 have h4:T/V*vt*BP n<(t+1)*BP n:=by rw[Int.mul_assoc]; omega
 have h5:T/V*vt<t+1:=Int.lt_of_mul_lt_mul_right h4 (Int.le_of_lt hp)
 have h6:T/V<=t/vt:=(Int.le_ediv_iff_mul_le hvt).2 zo
 refine ⟨?_,hq0⟩
 split<;>omega
structure T4 (A V:Int) (n:Nat) (u out:List Int) (j:Nat):Prop where
 lu:u.length=out.length+n
 dg:Dg u
 do_:Dg out
 jo:j<=out.length
 lt:val (u.drop j)<V
 v:A=V*BP j*val (out.drop j)+val u
section
variable {A V T g:Int} {n j:Nat} {u out u' v:List Int}
theorem T4.gs (hv:Nm v) (hn:v.length=n) (h2:2<=n) (h:T4 A (val v) n u out (j+1)) :
  val (u.drop j)/val v<=(if 99999999<(b6 u (j+n)*100000000+b6 u (j+n-1))/b6 v (n-1) then 99999999 else (b6 u (j+n)*100000000+b6 u (j+n-1))/b6 v (n-1))/\0<=val (u.drop j)/val v/\0<b6 v (n-1)/\(∀k,j+n<k->k<u.length->b6 u k=0)/\val v<BP n:=by
 have hlu:=h.lu
 have hjo:=h.jo
 have hne:v≠[]:=fun e=>by rw[e] at hn; simp at hn; omega
 have hvlt:=hv.dg.val1
 rw[hn] at hvlt
 have hd1:Dg (u.drop (j+1)):=fun x hx=>h.dg x (List.mem_of_mem_drop hx)
 have hd0:Dg (u.drop j):=fun x hx=>h.dg x (List.mem_of_mem_drop hx)
 have hz:∀k,j+n<k->k<u.length->b6 u k=0:=fun k h3 h4=>by
  have:=rP hd1 (n:=n) (by have:=h.lt; omega) (k:=k-(j+1)) zo (by rw[List.length_drop]; omega)
  unfold b6 at this ⊢
  simp only[List.getD_eq_getElem?_getD,List.getElem?_drop] at this ⊢
  rwa [show j+1+(k-(j+1))=k by omega] at this
 have hvt:0<b6 v (n-1):=by
  have h3:=hv.last hne
  have h4:b6 v (n-1)=v.getLast hne:=by
   rw[List.getLast_eq_getElem]
   exact AX (by rw[<- hn]; exact List.getElem?_eq_getElem _)
  rw[h4]
  have:=hv.dg _ (List.getLast_mem hne)
  omega
 have hV:b6 v (n-1)*BP (n-1)<=val v:=by
  have h3:=EW (xs:=v) (i:=n-1) zo
  have h4:=(hv.dg.take (n-1)).val0
  have h5:v.drop (n-1)=[b6 v (n-1)]:=by
   rw[List.drop_eq_getElem_cons zo,List.drop_of_length_le zo]
   congr 1
   exact (AX (List.getElem?_eq_getElem zo)).symm
  rw[h5] at h3
  simp only[val,Int.mul_zero,Int.add_zero] at h3
  rw[Int.mul_comm]; omega
 have hT0:=hd0.val0
 have hT1:val (u.drop j)<100000000*val v:=by
  rw[CN zo]
  have:=h.dg.at (i:=j) zo
  have:=h.lt
  omega
 have hT2:val (u.drop j)<(b6 u (j+n)*100000000+b6 u (j+n-1)+1)*BP (n-1):=by
  have h3:=EW (xs:=u.drop j) (i:=n-1) (by rw[List.length_drop]; omega)
  have hdt:Dg ((u.drop j).take (n-1)):=hd0.take _
  have h4:=hdt.val1
  rw[List.length_take,List.length_drop,Nat.min_eq_left zo] at h4
  have h6:=CN (xs:=u) (i:=j+(n-1)) zo
  have h7:=CN (xs:=u) (i:=j+n) zo
  rw[show j+(n-1)+1=j+n by omega] at h6
  rw[List.drop_drop,h6,h7] at h3
  have h5:val (u.drop (j+n+1))=0:=by
   have hr:u.drop (j+n+1)=List.replicate (u.drop (j+n+1)).length 0:=List.eq_replicate_of_mem fun x hx=>by
    obtain ⟨i,hi,rfl⟩:=AW hx
    rw[List.length_drop] at hi
    have e:b6 (u.drop (j+n+1)) i=b6 u (j+n+1+i):=by
     unfold b6
     simp only[List.getD_eq_getElem?_getD,List.getElem?_drop]
    rw[e]; exact hz _ zo zo
   rw[hr,QW]
  rw[h5,Int.mul_zero,Int.add_zero] at h3
  rw[h3,show j+(n-1)=j+n-1 by omega,Int.add_mul,Int.one_mul,Int.mul_comm (b6 u (j+n)*100000000+b6 u (j+n-1)),Int.mul_comm 100000000 (b6 u (j+n)),Int.add_comm (b6 u (j+n)*100000000)]
  omega
 obtain ⟨g1,g2⟩:=rK hV hvt hT2 hT1 hT0
 exact ⟨g1,g2,hvt,hz,hvlt⟩
theorem M3.mk' (h:T4 A V n u out (j+1)) (_hn:j+n<u.length) {s:Int} (hs:N5 u v j (-s) u' n T) (hvn:v.length=n) (hV:val v=V) (hz:∀k,j+n<k->k<u.length->b6 u k=0) (hg:val (u.drop j)/V<=s) (hg1:s<=99999999) :
  M3 u j n (val (u.drop j)) V (u'.set (j+n) (b6 u' (j+n)+T)) s:=by
 have hl:=hs.len
 subst hvn
 obtain ⟨e1,e2⟩:=hs.done zo
 refine ⟨by rw[List.length_set]; exact hl,fun k hk hne=>?_,fun k h1 h2=>?_,?_,?_,hg,hg1⟩
 ·rw[List.length_set] at hk
  rw[L3 hk,if_neg (fun e=>hne e.symm)]
  by_cases hc:k<j\/j+v.length<=k
  ·rw[hs.same k hc]; exact h.dg.at zo
  ·exact hs.dg k zo zo
 ·rw[List.length_set] at h2
  rw[L3 h2,if_neg zo,hs.same k zo]
  exact hz k h1 zo
 ·refine H2 (by simp[hl]) fun k hk=>?_
  rw[List.length_take,List.length_set] at hk
  have e:∀{xs:List Int},b6 (xs.take j) k=b6 xs k:=fun {xs}=>by
   unfold b6
   simp only[List.getD_eq_getElem?_getD,List.getElem?_take]
   rw[if_pos zo]
  rw[e,e,L3 zo,if_neg zo]
  exact hs.same k (.inl zo)
 ·rw[e2,hV,Int.neg_mul,Int.neg_mul]; omega
theorem M3.back (h:M3 u j n T V u' g) (hl:j+n<u.length) (hT:T=val (u.drop j)) (hn:b6 u' (j+n)<0) (hVp:0<V) {u2:List Int} {c:Int} (hs:N5 u' v j 1 u2 n c) (hvn:v.length=n) (hV:val v=V) :
  M3 u j n T V (u2.set (j+n) (b6 u2 (j+n)+c)) (g-1):=by
 have hlt:=h.lt hl hT hn hVp
 have hlen:=h.len
 have hl2:=hs.len
 subst hvn
 obtain ⟨e1,e2⟩:=hs.done zo
 refine ⟨by rw[List.length_set]; omega,fun k hk hne=>?_,fun k h1 h2=>?_,?_,?_,by omega,by have:=h.g1; omega⟩
 ·rw[List.length_set] at hk
  rw[L3 hk,if_neg (fun e=>hne e.symm)]
  by_cases hc:k<j\/j+v.length<=k
  ·rw[hs.same k hc]; exact h.dg k zo hne
  ·exact hs.dg k zo zo
 ·rw[List.length_set] at h2
  rw[L3 h2,if_neg zo,hs.same k zo]
  exact h.hi k h1 zo
 ·rw[<- h.low]
  refine H2 (by simp[hl2]) fun k hk=>?_
  rw[List.length_take,List.length_set] at hk
  have e:∀{xs:List Int},b6 (xs.take j) k=b6 xs k:=fun {xs}=>by
   unfold b6
   simp only[List.getD_eq_getElem?_getD,List.getElem?_take]
   rw[if_pos zo]
  rw[e,e,L3 zo,if_neg zo]
  exact hs.same k (.inl zo)
 ·rw[e2,h.v,hV,Int.one_mul,Int.sub_mul,Int.sub_mul,Int.one_mul]; omega
theorem T4.next (h:T4 A V n u out (j+1)) (hw:M3 u j n (val (u.drop j)) V u' g) (hl:j+n<u.length) (hn:0<=b6 u' (j+n)) (hV:0<V) (hVn:V<BP n):T4 A V n u' (out.set j g) j:=by
 obtain ⟨e1,e2,e3⟩:=hw.ge hl rfl hn hV hVn
 have hjo:=h.jo
 have h0:Dg (u.drop j):=fun x hx=>h.dg x (List.mem_of_mem_drop hx)
 have hg0:0<=g:=by rw[e1]; exact Int.ediv_nonneg h0.val0 zo
 have:=hw.g1
 refine ⟨by rw[hw.len,h.lu,List.length_set],e2,h.do_.set hg0 zo,by rw[List.length_set]; omega,e3,?_⟩
 rw[CN (xs:=out.set j g) (by rw[List.length_set]; omega),L3 zo,if_pos rfl,List.drop_set_of_lt zo,hw.v,h.v,R4,Int.mul_add,show V*BP j*g=g*BP j*V by rw[Int.mul_comm V,Int.mul_comm (BP j*V),Int.mul_assoc],show V*(100000000*BP j)=V*BP j*100000000 by rw[Int.mul_comm 100000000 (BP j),Int.mul_assoc],Int.mul_assoc (V*BP j)]
 omega
theorem T4.fin (h:T4 A V n u out 0) (hV:0<V):val out=A/V/\val u=A%V/\Dg out/\Dg u:=by
 have hv:=h.v
 have hlt:=h.lt
 rw[List.drop_zero] at hv hlt
 simp only[BP,Int.pow_zero,Int.mul_one] at hv
 have h0:=h.dg.val0
 refine ⟨?_,?_,h.do_,h.dg⟩
 ·rw[hv,Int.mul_add_ediv_left _ _ zo,Int.ediv_eq_zero_of_lt h0 hlt]; omega
 ·rw[hv,Int.mul_add_emod_self_left,Int.emod_eq_of_lt h0 hlt]
theorem T4.start {x:Int} (hx:0<=x) (hv:Nm v) (hn:v.length=n) (h2:2<=n) (hle:n<=(d6 x.toNat).length):T4 x (val v) n (d6 x.toNat++[0,0]) (List.replicate ((d6 x.toNat).length+2-n) 0) ((d6 x.toNat).length+2-n):=by
 have hd:=w3 x.toNat
 have hD:Dg (d6 x.toNat++[0,0]):=fun y hy=>by
  rcases List.mem_append.1 hy with hy | hy
  ·exact hd y hy
  ·simp at hy; subst hy; omega
 have hval:val (d6 x.toNat++[0,0])=x:=by rw[JC,w5]; simp[val]; omega
 have hne:v≠[]:=fun e=>by rw[e] at hn; simp at hn; omega
 refine ⟨by simp; omega,hD,TF,by simp,?_,?_⟩
 ·have h1:=hv.low hne
  rw[hn] at h1
  have e:(d6 x.toNat++[0,0]).drop ((d6 x.toNat).length+2-n)=(d6 x.toNat).drop ((d6 x.toNat).length+2-n)++[0,0]:=List.drop_append_of_le_length zo
  rw[e,JC]
  have hdd:Dg ((d6 x.toNat).drop ((d6 x.toNat).length+2-n)):=fun y hy=>hd y (List.mem_of_mem_drop hy)
  have h3:=hdd.val1
  rw[List.length_drop] at h3
  have h4:=GP (show (d6 x.toNat).length-((d6 x.toNat).length+2-n)<=n-1 by omega)
  simp only[val]
  omega
 ·rw[List.drop_of_length_le (by simp),hval]
  simp[val]
end
end Go.Fl

/- Integers: what the contracts of the package field lean on. Plain Lean, no program in sight. -/
namespace Go.Fl
theorem fB {α:Type} [Inhabited α] {xs:List α} {i m:Nat} (h:i<m):b6 (xs.take m) i=b6 xs i:=by simp[b6,List.getD,List.getElem?_take_of_lt h]
def wh (z:Int):Bool×List Int:=(decide (z<0),d6 z.natAbs)
theorem EX {b:Bool} {ds:List Int} {z:Int} (hb:b=decide (z<0)) (hd:ds=d6 z.natAbs):(b,ds)=wh z:=by unfold wh; rw[hb,hd]
theorem kA {ds:List Int} {z:Int} {n:Nat} (hz:z=n) (hd:ds=d6 n):(false,ds)=wh z:=by subst hz; exact EX (by simp) (by simpa using hd)
theorem jZ {ds:List Int} {z:Int} {n:Nat} (hz:z=-(n:Int)) (h0:0<n) (hd:ds=d6 n):(true,ds)=wh z:=EX (by simp; omega) (by rw[hd,hz,Int.natAbs_neg,Int.natAbs_natCast])
theorem LO (n:Int):n=100000000*n.tdiv 100000000+n.tmod 100000000/\(0<=n->0<=n.tmod 100000000/\n.tmod 100000000<100000000)/\(n<=0->-100000000<n.tmod 100000000/\n.tmod 100000000<=0):=by
 have h:=Int.mul_tdiv_add_tmod n 100000000
 refine ⟨by omega,fun h0=>⟨Int.tmod_nonneg _ h0,?_⟩,fun h0=>?_⟩
 ·exact Int.tmod_lt_of_pos n zo
 ·have h1:=Int.tmod_nonneg 100000000 (show 0<=-n by omega)
  have h2:=Int.tmod_lt_of_pos (-n) (show (0:Int)<100000000 by omega)
  rw[Int.neg_tmod] at h1 h2
  omega
theorem gH {xs:List Int} {i:Nat} (hi:xs.length<=i) (h:(r8 xs i).2=0):(false,l7 (r8 xs i).1)=wh (val xs):=by
 have h1:=gD hi h
 have h0:=(X9 (xs:=xs) (i:=i)).val0
 exact kA (n:=(val xs).toNat) zo (CM X9 zo)
theorem SD {ds:List Int} {k:Nat}:bw ds (k+1)=if -(b6 ds k)-bw ds k<0 then 1 else 0:=rfl
theorem SO {ds:List Int} {k:Nat} (hk:k<ds.length):b6 ((E2 ds k).set k (-b6 (E2 ds k) k-bw ds k)) k=-b6 ds k-bw ds k:=by
 rw[L3 (by rw[ZC]; exact hk),if_pos rfl,SN hk]
theorem ZF {ds:List Int} {k:Nat} (hk:k<ds.length) (h:b6 ((E2 ds k).set k (-b6 (E2 ds k) k-bw ds k)) k<0) :
  ((E2 ds k).set k (-b6 (E2 ds k) k-bw ds k)).set k (b6 ((E2 ds k).set k (-b6 (E2 ds k) k-bw ds k)) k+100000000)=E2 ds (k+1)/\(1:Int)=bw ds (k+1):=by
 rw[SO hk] at h ⊢
 refine ⟨?_,by rw[SD,if_pos h]⟩
 rw[List.set_set,<- ZD]
 congr 1
 unfold N9; rw[if_pos h]
theorem ZE {ds:List Int} {k:Nat} (hk:k<ds.length) (h:0<=b6 ((E2 ds k).set k (-b6 (E2 ds k) k-bw ds k)) k):(E2 ds k).set k (-b6 (E2 ds k) k-bw ds k)=E2 ds (k+1)/\(0:Int)=bw ds (k+1):=by
 rw[SO hk] at h
 refine ⟨?_,by rw[SD,if_neg zo]⟩
 rw[<- ZD,SN hk]
 congr 1
 unfold N9; rw[if_neg zo]
theorem gG {xs:List Int} {i:Nat} (hi:xs.length<=i) (h:(r8 xs i).2=-1) (hb:bw (r8 xs i).1 i≠0):(true,l7 (E2 (r8 xs i).1 i))=wh (val xs):=by
 have h1:=gC hi h
 have hl:(r8 xs i).1.length=i:=U9
 have hd:=X9 (xs:=xs) (i:=i)
 have hlt:=hd.val1
 have h2:=lV hd (by rw[hl]; exact hb)
 rw[hl] at h2 hlt
 exact jZ (n:=(-val xs).toNat) zo zo (CM h2.1 zo)
theorem gF {xs:List Int} {i:Nat} (hi:xs.length<=i) (h:(r8 xs i).2=-1) (hb:bw (r8 xs i).1 i=0):(true,l7 (E2 (r8 xs i).1 i++[1]))=wh (val xs):=by
 have h1:=gC hi h
 have hl:(r8 xs i).1.length=i:=U9
 have hd:=X9 (xs:=xs) (i:=i)
 have hlt:=hd.val1
 have h2:=lW hd (by rw[hl]; exact hb)
 rw[hl] at h2 hlt
 exact jZ (n:=(-val xs).toNat) zo zo (CM h2.1 zo)
def P7 (ds:List Int) (k:Nat):List Int:=n6 ds.length fun j=>if j<k then -(b6 ds j) else b6 ds j
theorem VS {ds:List Int}:ds=P7 ds 0:=by
 unfold P7
 exact (V2 rfl).trans (z8 fun j _=>by rw[if_neg zo])
theorem VR {ds:List Int} {k:Nat} (h:k<ds.length):b6 (P7 ds k) k=b6 ds k:=by unfold P7; rw[s8 h,if_neg zo]
theorem eJ {ds:List Int} {k:Nat} (h:k<ds.length):(P7 ds k).set k (-(b6 (P7 ds k) k))=P7 ds (k+1):=by
 rw[VR h]
 unfold P7
 rw[GJ]
 refine z8 fun j _=>?_
 by_cases e:j=k
 ·subst e; rw[if_pos rfl,if_pos zo]
 ·rw[if_neg e]
  by_cases h:j<k
  ·rw[if_pos h,if_pos zo]
  ·rw[if_neg h,if_neg zo]
theorem eH {ds:List Int}:P7 ds ds.length=ds.map fun x=>-x:=by
 refine H2 (by unfold P7; rw[t7,List.length_map]) fun j hj=>?_
 unfold P7 at hj ⊢
 rw[t7] at hj
 rw[s8 hj,if_pos hj,FS hj]
theorem tB {z:Int} (h:decide (z<0)=false):d6 z.natAbs=j6 z:=by unfold j6; rw[if_neg (of_decide_eq_false h)]
theorem sZ {z:Int} (h:decide (z<0)=true):P7 (d6 z.natAbs) (d6 z.natAbs).length=j6 z:=by rw[eH]; unfold j6; rw[if_pos (of_decide_eq_true h)]
theorem qE {z:Int}:(d6 z.natAbs).length=dl z:=rfl
theorem BX {z:Int}:0<dl z↔z≠0:=by have:=F5 (a:=z); omega
theorem zL {z:Int}:(!decide (z<0)&&decide ((0:Int)<((d6 z.natAbs).length:Nat)),d6 z.natAbs)=wh (-z):=by
 refine EX ?_ (by rw[Int.natAbs_neg])
 have:=BX (z:=z)
 rw[qE]
 by_cases h:z<0
 ·simp[h]; omega
 ·by_cases e:z=0
  ·subst e; simp[F5.2 rfl]
  ·have h2:(0:Int)<(dl z:Nat):=by omega
   simp[h]; omega
theorem BM {n:Int}:val [n]=n:=by simp[val]
theorem FM {x y:Int} (h:x<y):u5 x y=-1:=if_pos h
theorem FL {x y:Int} (h:y<x):u5 x y=1:=by unfold u5; rw[if_neg zo,if_pos h]
theorem MT {x y:Int} (h:x=y):u5 x y=0:=by unfold u5; rw[if_neg zo,if_neg zo]
theorem mF {x y:Int}:u5 (x-y) 0=u5 x y:=by
 unfold u5
 by_cases h:x<y
 ·rw[if_pos h,if_pos zo]
 ·rw[if_neg h,if_neg zo]
  by_cases h2:y<x
  ·rw[if_pos h2,if_pos zo]
  ·rw[if_neg h2,if_neg zo]
theorem mB {m n:Nat} (h:(d6 m).length≠(d6 n).length):u5 ((d6 m).length:Nat) ((d6 n).length:Nat)=u5 m n:=by
 have h1:=w5 m; have h2:=w5 n
 rcases Nat.lt_or_ge (d6 m).length (d6 n).length with h3 | h3
 ·have:=MV (M6 m) (M6 n) h3
  rw[FM zo,FM zo]
 ·have:=MV (M6 n) (M6 m) zo
  rw[FL zo,FL zo]
theorem mA {m n:Nat} (hl:(d6 m).length=(d6 n).length) {i:Nat} (hi:i<(d6 m).length) (h:∀j,i<j->j<(d6 m).length->b6 (d6 m) j=b6 (d6 n) j) (hne:b6 (d6 m) i≠b6 (d6 n) i):u5 (b6 (d6 m) i) (b6 (d6 n) i)=u5 m n:=by
 have h1:=w5 m; have h2:=w5 n
 rcases Int.lt_or_gt_of_ne hne with h3 | h3
 ·have:=MU (w3 m) (w3 n) hl hi h h3
  rw[FM h3,FM zo]
 ·have:=MU (w3 n) (w3 m) hl.symm zo (fun j h4 h5=>(h j h4 zo).symm) h3
  rw[FL h3,FL zo]
theorem lZ {m n:Nat} (hl:(d6 m).length=(d6 n).length) (h:∀j,0<=j->j<(d6 m).length->b6 (d6 m) j=b6 (d6 n) j):(0:Int)=u5 m n:=by
 have e:=ZH hl (fun j hj=>h j (Nat.zero_le _) hj)
 have h1:=w5 m; have h2:=w5 n
 rw[e,h2] at h1
 rw[MT h1.symm]
end Go.Fl

/- Contracts: the library, for integers. -/
namespace Go.Fl
open Go Go.Proofs
open d5 renaming op->tO
open i6 renaming op->rO
set_option maxRecDepth 100000

theorem aE (x:Int):Ct Tryz.prog 224 [kI x] (kB false):=by
 refine Ct.mk Tryz.func224 rfl Tryz.ntmps224 rfl (fun w J=>?_); refine B4 ?_; exact d9.res1 (fn:=Tryz.f224) rfl (.b rfl (by simp)<|.nil)

theorem ZR (x y:Int):Ct Tryz.prog 214 [kI x,kI y] (kI (u5 x y)):=by
 refine Ct.mk Tryz.func214 rfl Tryz.ntmps214 rfl (fun w J=>?_); refine l6 ?_; refine tO (j7 (fun hp=>aE _) (.a rfl uu<|.nil)) rfl rfl ?_; refine n7 ?_; refine tO (j7 (fun hp=>aE _) (.a rfl uu<|.nil)) rfl rfl ?_; refine o9 ?_; refine Tr.cnd rfl ?_ ?_
 ·intro h3
  simp at h3
 ·intro h3
  refine l6 ?_; refine Tr.cnd rfl ?_ ?_
  ·intro h7
   simp at h7
  ·intro h7
   refine v6 ?_; refine jq ?_ ?_
   ·intro h9
    refine l5 ?_; exact d9.res1 (fn:=Tryz.f214) rfl (.i rfl (FM h9).symm<|.nil)
   ·intro h9
    replace h9:=Int.not_lt.1 h9
    refine v6 ?_; refine jq ?_ ?_
    ·intro h11
     refine l5 ?_; exact d9.res1 (fn:=Tryz.f214) rfl (.i rfl (FL zo).symm<|.nil)
    ·intro h11
     replace h11:=Int.not_lt.1 h11
     refine l6 ?_; exact d9.res1 (fn:=Tryz.f214) rfl (.i rfl (MT zo).symm<|.nil)

theorem MY (p:List Int) (hn:p.length<=1000000) (h0:0<p.length):R5 Tryz.prog 143 [b7 (eL eI) p] (fun t=>q8 t p.length) (m9 false 3 eI p p.length):=by
 refine R5.mk Tryz.func143 rfl Tryz.ntmps143 rfl (fun w J=>?_); refine o9 ?_; refine tO (LB rfl uu) rfl rfl ?_; refine i2 ?_; refine Tr.exB (s:=4) rfl (fun b1 q1=>?_); refine Tr.cnd rfl ?_ ?_
 ·intro h1
  exact absurd (congrArg List.length (q1 h1)) (by simp only[List.length_nil]; omega)
 ·intro h1
  refine i4 ?_; refine d5.new (FU eI 5) rfl rfl rfl rfl ?_; refine i2 ?_; refine jl ?_; refine i4 ?_
  exact d9.resN (fn:=Tryz.f143) (u:=5) rfl rfl (FK zi zi) (FY zi) inferInstance

end Go.Fl

/- Contracts: integers of the package field (reading, normal form). -/
namespace Go.Fl
open Go Go.Proofs
open d5 renaming op->tO
open i6 renaming op->rO
set_option maxRecDepth 100000

def eW:i7 (Bool×List Int):=eC (fun v:Bool×List Int=>(v.1,v.2,())) (eP AS (eP (eL eI) eU))
instance {v:Bool×List Int}:F3 (b7 eW v) [kB (v.1),b7 (eL eI) (v.2)]:=inferInstanceAs (F3 (b7 (eC (fun v:Bool×List Int=>(v.1,v.2,())) (eP AS (eP (eL eI) eU))) v) _)
instance {v:Bool×List Int} {tl:List b8}:K4 eW v tl (kB (v.1)::b7 (eL eI) (v.2)::tl):=inferInstanceAs (K4 (eC (fun v:Bool×List Int=>(v.1,v.2,())) (eP AS (eP (eL eI) eU))) v tl _)
instance {v:Bool×List Int}:u6 eW v 1 (eL eI) (v.2) 1:=inferInstanceAs (u6 (eC (fun v:Bool×List Int=>(v.1,v.2,())) (eP AS (eP (eL eI) eU))) v 1 _ _ _)
instance {ks r:List b8} {b:Bool} {l:List Int} [h:v5 ks (eP AS (eP (eL eI) eU)) (b,l,()) r]:v5 ks eW ((b,l)) r:=⟨fun h'=>h.imp h'⟩
instance {z:Int}:u6 eW (wh z) 1 (eL eI) (d6 z.natAbs) 1:=inferInstanceAs (u6 eW (wh z) 1 (eL eI) ((wh z).2) _)
instance {z:Int}:F3 (b7 eW (wh z)) [kB (decide (z<0)),b7 (eL eI) (d6 z.natAbs)]:=inferInstanceAs (F3 (b7 eW (wh z)) [kB ((wh z).1),b7 (eL eI) ((wh z).2)])
instance {z:Int} {tl:List b8}:K4 eW (wh z) tl (kB (decide (z<0))::b7 (eL eI) (d6 z.natAbs)::tl):=inferInstanceAs (K4 eW (wh z) tl (kB ((wh z).1)::b7 (eL eI) ((wh z).2)::tl))
theorem NA (n:Int) (hn:-9223372036854775808<=n/\n<=9223372036854775807):Ct Tryz.prog 195 [kI n] (y4 [kI (n/100000000),kI (n%100000000)]):=by
 obtain ⟨hq1,hq2,hq3⟩:=LO n
 refine Ct.mk Tryz.func195 rfl Tryz.ntmps195 rfl (fun w J=>?_); refine o9 ?_; refine tO (BA rfl uu rfl uu (fun _=>zo)) rfl rfl ?_; refine i9 ?_; refine tO (EN rfl uu rfl uu (fun _=>zo)) rfl rfl ?_; refine C6 ?_; refine jq ?_ ?_
 ·intro h2
  refine z5 ?_; exact d9.res (fn:=Tryz.f195) (ts:=[2,3]) rfl rfl (.i rfl zo<|.i rfl zo<|.nil)
 ·intro h2
  replace h2:=Int.not_lt.1 h2
  refine C6 ?_; exact d9.res (fn:=Tryz.f195) (ts:=[2,3]) rfl rfl (.i rfl zo<|.i rfl zo<|.nil)

theorem NH (xs:List Int) (ad:Option Addr) (cp:Nat):Ct Tryz.prog 190 [H8 eI ad cp xs] (H8 eI ad cp (l7 xs)):=by
 refine Ct.mk Tryz.func190 rfl Tryz.ntmps190 rfl (fun w J=>?_); refine Tr.fact (s:=0) rfl (fun _ _ h=>S4 h.2) (fun hb=>?_); refine o0 ?_; refine Tr.for (σ:=Nat) [] [] (fun m=>[⟨0,true,[],H8 eI ad cp (xs.take m)⟩]) (fun m=>[]) (fun m=>m<=xs.length/\∀i,m<=i->i<xs.length->b6 xs i=0) (fun m=>l7 xs=xs.take m) (fun m=>m) (xs.length) ⟨by omega,fun i h1 h2=>absurd h1 zo⟩ (d7.mk (.v rfl (List.take_length).symm<|.nil) (.nil) rfl) ?_ ?_
 ·rintro m ⟨hm,hz⟩
  refine jn ?_
  have hl:(xs.take m).length=m:=by rw[List.length_take]; omega
  have hat:0<m->b6 (xs.take m) ((((xs.take m).length:Nat):Int)-1).toNat=b6 xs (m-1):=fun h=>by rw[hl,show (((m:Nat):Int)-1).toNat=m-1 by omega]; exact fB zo
  refine i4 ?_; refine tO (WB rfl uu) rfl rfl ?_; refine i4 ?_; refine d5.gd rfl rfl rfl (WB rfl id) rfl rfl ?_; refine d5.gd rfl rfl rfl (BB rfl id rfl uu (fun hp=>by simp at hp; omega)) rfl rfl ?_; refine d5.gd rfl rfl rfl (uU rfl id rfl id rfl (fun hp=>by simp at hp; omega)) rfl rfl ?_; refine o0 ?_; refine Tr.cnd rfl ?_ ?_
  ·intro h1
   try simp only[decide_eq_true_eq,Bool.and_eq_true] at h1
   refine n7 ?_; refine tO (WB rfl uu) rfl rfl ?_; refine i9 ?_; refine tO (vD rfl uu rfl uu (fun _=>zo)) rfl rfl ?_; refine j9 ?_; exact g8.lp (m-1) ⟨by omega,fun i h2 h3=>by (by_cases e:i=m-1; subst e; rw[<- hat zo]; exact h1.2; exact hz i zo h3)⟩ zo (d7.mk (.v rfl (by rw[List.take_take]; congr 1; omega)<|.nil) (.nil) rfl)
  ·intro h1
   try simp only[decide_eq_true_eq,decide_eq_false_iff_not,Bool.and_eq_false_imp] at h1
   refine i4 ?_
   exact g8.cut (m) (EV hm hz (by by_cases e:m=0; exact .inl e; exact .inr (by rw[<- hat zo]; exact h1 zo))) (d7.mk (.v rfl zi<|.nil) (.nil) rfl)
 ·intro m hE0
  refine jn ?_; refine l5 ?_; exact d9.res1 (fn:=Tryz.f190) rfl (.v rfl hE0.symm<|.nil)

theorem HI (xs:List Int):Ct Tryz.prog 190 [b7 (eL eI) xs] (b7 (eL eI) (l7 xs)):=Ct.ofSlv fun ad cp=>NH xs ad cp

set_option maxHeartbeats 1000000 in
theorem SU (xs:List Int) (hx:A5 xs) (hn:xs.length<=1000000):Ct Tryz.prog 167 [b7 (eL eI) xs] (b7 eW (wh (val xs))):=by
 refine Ct.mk Tryz.func167 rfl Tryz.ntmps167 rfl (fun w J=>?_); refine i2 ?_; refine ja 2 ?_; refine HQ ?_; refine Tr.grow (s:=3) rfl rfl 3 rfl 3 eI rfl ?_
 refine Tr.for1 (σ:=Nat) [⟨0,true,_,_⟩,⟨2,true,_,_⟩] [⟨2,_,_⟩] (fun i=>[⟨3,true,[3],q8 3 i⟩,⟨4,true,[],kI (r8 xs i).2⟩,⟨5,true,[],kI (i:Int)⟩]) (fun i=>[⟨3,[],m9 true 3 eI (r8 xs i).1 i⟩]) (fun i=>(i:Int)+(r8 xs i).2.natAbs<=xs.length+100000000000) (fun i=>xs.length<=i/\((r8 xs i).2=0\/(r8 xs i).2=-1)/\i<=xs.length+100000000000) (fun i=>(xs.length-i)*1000000000000+(r8 xs i).2.natAbs) (0) (by simp[r8]; omega) (d7.mk (.o rfl zi rfl<|.i rfl zi<|.i rfl zi<|zk) (.a zi zi<|zk) rfl) ?_ ?_
 ·rintro i hi
  refine jn ?_
  have hc1:=LH hx (i:=i)
  have hc2:=LH hx (i:=i+1)
  have hx1:=hx.x i
  have hs:=gE (xs:=xs) (i:=i)
  have hs2:(r8 xs (i+1)).2=(z9 xs i+(r8 xs i).2)/100000000:=rfl
  have hxo:¬i<xs.length->z9 xs i=0:=GM
  refine D3 ?_; refine d5.gd rfl rfl rfl (VY rfl id rfl (fun hp h=>UD (id hp) h)) rfl rfl ?_; refine j9 ?_; refine Tr.cnd rfl ?_ ?_
  ·intro h4
   try simp only[decide_eq_true_eq,Bool.and_eq_true,Bool.or_eq_true,ne_eq] at h4
   refine v6 ?_; refine Tr.meet2 (σ:=Unit) [⟨0,true,_,_⟩,⟨2,true,_,_⟩,⟨3,true,_,_⟩,⟨4,true,_,_⟩,⟨5,true,_,_⟩] [⟨2,_,_⟩,⟨3,_,_⟩] (zk) (zk) (fun _=>[⟨6,true,[],kI (z9 xs i/100000000)⟩,⟨7,true,[],kI (z9 xs i%100000000)⟩]) (fun _=>[]) (fun _=>True) ?_ ?_
   ·skip
    refine l6 ?_; refine jq ?_ ?_
    ·intro h7
     refine o0 ?_; refine tO (j7 (fun hp=>NA _ (by have:=hx i zo; omega)) (.a rfl uu<|.nil)) rfl rfl ?_; refine n7 ?_
     exact g8.cut (()) zi (d7.mk (.i rfl (by rw[R2 zo])<|.i rfl (by rw[R2 zo])<|zk) (zk) rfl)
    ·intro h7
     replace h7:=Int.not_lt.1 h7
     refine i9 ?_
     exact g8.cut (()) zi (d7.mk (.i rfl (by rw[hxo zo]; rfl)<|.i rfl (by rw[hxo zo]; rfl)<|zk) (zk) rfl)
   ·intro _ hM
    refine jn ?_; refine o0 ?_; refine tO (j7 (fun hp=>NA _ zo) (.a rfl uu<|.nil)) rfl rfl ?_; refine v6 ?_; refine d5.new (D5 eI 48 (fun hp=>.cons rfl<|.nil) rfl rfl rfl rfl) rfl rfl rfl rfl ?_; refine i9 ?_; refine jl ?_; refine D3 ?_
    exact g8.lp (i+1) zo zo (d7.mk (.o rfl zi rfl<|.i rfl hs.1<|.i rfl zi<|zk) (.a (by rw[r8,<- hs.2]) zi<|zk) rfl)
  ·intro h4
   try simp only[decide_eq_true_eq,decide_eq_false_iff_not,Bool.and_eq_false_imp,Bool.or_eq_false_iff,Int.not_lt,ne_eq,Classical.not_not] at h4
   refine i4 ?_
   exact g8.cut (i) ⟨by omega,by omega,by omega⟩ (d7.mk (.o rfl zi rfl<|.i rfl zi<|.i rfl zi<|zk) (.a zi zi<|zk) rfl)
 ·rintro i ⟨hi,hc,hb⟩
  refine je ?_; refine l6 ?_; refine jq ?_ ?_
  ·intro h11
   refine j9 ?_
   refine d5.frz 3 [3,55] ⟨rfl,rfl,trivial⟩ (by first | (simp only[t6]; omega) | (simp only[t6,List.length_singleton]; omega)) rfl ?_
   refine jl ?_; refine tO (j7 (fun hp=>HI _) (.a rfl uu<|.nil)) rfl rfl ?_; refine tO (A4 (fun hp=>.cons rfl rfl rfl<|.nil)) rfl rfl ?_; refine o0 ?_; exact d9.resC1 (fn:=Tryz.f167) rfl rfl (u8 rfl (gH hi h11))
  ·intro h11
   refine C6 ?_; refine tO (Z9 rfl uu) rfl rfl ?_; refine j9 ?_
   refine Tr.for1 (σ:=Nat) [⟨2,true,_,_⟩,⟨3,true,_,_⟩,⟨58,true,_,_⟩,⟨59,true,_,_⟩] [⟨2,_,_⟩] (fun k=>[⟨10,true,[],kI (bw (r8 xs i).1 k)⟩,⟨60,true,[],kI (k:Int)⟩]) (fun k=>[⟨3,[],m9 true 3 eI (E2 (r8 xs i).1 k) i⟩]) (fun k=>k<=i) (fun k=>k=i) (fun k=>i-k) (0) zi (d7.mk (.i rfl zi<|.i rfl zi<|zk) (.a lU zi<|zk) rfl) ?_ ?_
   ·rintro k hk
    refine jn ?_
    have hl:(r8 xs i).1.length=i:=U9
    have hd:=fun (h:k<i)=>(X9 (xs:=xs) (i:=i)).at (i:=k) zo
    have hb01:=JW (ds:=(r8 xs i).1) (k:=k)
    have hat:=fun (h:k<i)=>SN (ds:=(r8 xs i).1) (k:=k) zo
    have hcl:=ZC (ds:=(r8 xs i).1) (k:=k)
    have hsv:=fun (h:k<i)=>SO (ds:=(r8 xs i).1) (k:=k) zo
    refine n7 ?_; refine jq ?_ ?_
    ·intro h15
     refine HQ ?_; refine tO (FW rfl uu (fun _=>zo)) rfl rfl ?_; refine KP ?_; refine jq ?_ ?_
     ·intro h19
      refine KP ?_
      exact g8.lp (k+1) zi zo (d7.mk (.i rfl (ZF zo h19).2<|.i rfl zi<|zk) (.a (ZF zo h19).1 zi<|zk) rfl)
     ·intro h19
      replace h19:=Int.not_lt.1 h19
      refine l5 ?_
      exact g8.lp (k+1) zi zo (d7.mk (.i rfl (ZE zo h19).2<|.i rfl zi<|zk) (.a (ZE zo h19).1 zi<|zk) rfl)
    ·intro h15
     replace h15:=Int.not_lt.1 h15
     refine i4 ?_
     exact g8.cut (k) zo (d7.mk (.i rfl zi<|.i rfl zi<|zk) (.a zi zi<|zk) rfl)
   ·rintro _ rfl
    refine je ?_; refine l6 ?_; refine jq ?_ ?_
    ·intro h23
     refine i2 ?_; refine d5.new (D5 eI 87 (fun hp=>.cons rfl<|.nil) rfl rfl rfl rfl) rfl rfl rfl rfl ?_; refine i9 ?_; refine jl ?_; refine n7 ?_
     refine d5.frz 3 [3,88,89] ⟨rfl,rfl,rfl,trivial⟩ (by first | (simp only[t6]; omega) | (simp only[t6,List.length_singleton]; omega)) rfl ?_
     refine jl ?_; refine tO (j7 (fun hp=>HI _) (.a rfl uu<|.nil)) rfl rfl ?_; refine tO (A4 (fun hp=>.cons rfl rfl rfl<|.cons rfl rfl rfl<|.nil)) rfl rfl ?_; refine i4 ?_; exact d9.resC1 (fn:=Tryz.f167) rfl rfl (u8 rfl (gF hi zo zo))
    ·intro h23
     refine o0 ?_
     refine d5.frz 3 [3,58,89] ⟨rfl,rfl,rfl,trivial⟩ (by first | (simp only[t6]; omega) | (simp only[t6,List.length_singleton]; omega)) rfl ?_
     refine jl ?_; refine tO (j7 (fun hp=>HI _) (.a rfl uu<|.nil)) rfl rfl ?_; refine tO (A4 (fun hp=>.cons rfl rfl rfl<|.cons rfl rfl rfl<|.nil)) rfl rfl ?_; refine i4 ?_; exact d9.resC1 (fn:=Tryz.f167) rfl rfl (u8 rfl (gG hi zo zo))

end Go.Fl

/- Contracts: integers of the package field (normal form, signs, comparisons). -/
namespace Go.Fl
open Go Go.Proofs
open d5 renaming op->tO
open i6 renaming op->rO
set_option maxRecDepth 100000

theorem pE  : Ct Tryz.prog 170 [b7 eW (wh 0)] (b7 (eL eI) []):=by
 refine Ct.mk Tryz.func170 rfl Tryz.ntmps170 rfl (fun w J=>?_); refine i2 ?_; refine jb 1 rfl ?_; refine l5 ?_; refine tO (j7 (fun hp=>BU _ (by simp[bG])) (.a rfl uu<|.nil)) rfl rfl ?_; refine v6 ?_; refine Tr.cnd rfl ?_ ?_
 ·intro h2
  exact absurd (of_decide_eq_true h2) zo
 ·intro h2
  refine v6 ?_; refine Tr.cnd rfl ?_ ?_
  ·intro h8
   refine l5 ?_; exact d9.res1 (fn:=Tryz.f170) rfl (.n rfl rfl<|.nil)
  ·intro h8
   exact absurd h8 (by simp[bG])

theorem pD (z:Int) (hz:z≠0) (hn:dl z<=1000000):Ct Tryz.prog 170 [b7 eW (wh z)] (b7 (eL eI) (j6 z)):=by
 have hp:=BX.2 hz
 have hl:(d6 z.natAbs).length=dl z:=rfl
 refine Ct.mk Tryz.func170 rfl Tryz.ntmps170 rfl (fun w J=>?_); refine i2 ?_; refine jb 1 rfl ?_; refine l5 ?_; refine d5.new (DD 7 (fun hp=>MY _ zo zo) (.a rfl uu<|.nil)) rfl rfl rfl rfl ?_; refine v6 ?_; refine Tr.cnd rfl ?_ ?_
 ·intro h2
  refine j9 ?_; refine tO (Z9 rfl uu) rfl rfl ?_; refine j9 ?_
  refine Tr.for1 (σ:=Nat) [⟨3,true,_,_⟩,⟨11,true,_,_⟩] [] (fun k=>[⟨12,true,[],kI (k:Int)⟩]) (fun k=>[⟨7,[],m9 false 3 eI (P7 (d6 z.natAbs) k) (dl z)⟩]) (fun k=>k<=dl z) (fun k=>k=dl z) (fun k=>dl z-k) (0) (Nat.zero_le _) (d7.mk (.i rfl zi<|zk) (.a VS zi<|.nil) rfl) ?_ ?_
  ·intro k hR0
   refine jn ?_
   have hd:=fun (h:k<dl z)=>(w3 z.natAbs).at (i:=k) zo
   have hat:=fun (h:k<dl z)=>VR (ds:=(d6 z.natAbs)) (k:=k) zo
   refine n7 ?_; refine jq ?_ ?_
   ·intro h4
    refine U2 ?_; refine tO (FW rfl uu (fun _=>zo)) rfl rfl ?_; refine o9 ?_
    exact g8.lp (k+1) zi zo (d7.mk (.i rfl zi<|zk) (.a (eJ zo) zi<|.nil) rfl)
   ·intro h4
    replace h4:=Int.not_lt.1 h4
    refine i4 ?_
    exact g8.cut (k) zo (d7.mk (.i rfl zi<|zk) (.a zi zi<|.nil) rfl)
  ·rintro _ rfl
   refine je ?_; refine o0 ?_; refine tO (Z9 rfl uu) rfl rfl ?_; refine j9 ?_; refine jq ?_ ?_
   ·intro h8
    omega
   ·intro h8
    refine l6 ?_; refine Tr.frz 7 [2] ⟨rfl,trivial⟩ (by simp only[t6]; omega) rfl ?_; refine i9 ?_; exact d9.res1 (fn:=Tryz.f170) rfl (.r rfl (sZ h2)<|.nil)
 ·intro h2
  refine n7 ?_; refine tO (Z9 rfl uu) rfl rfl ?_; refine j9 ?_; refine jq ?_ ?_
  ·intro h8
   omega
  ·intro h8
   refine l6 ?_; refine Tr.frz 7 [2] ⟨rfl,trivial⟩ (by simp only[t6]; omega) rfl ?_; refine i9 ?_; exact d9.res1 (fn:=Tryz.f170) rfl (.r rfl (tB h2)<|.nil)

theorem bC (z:Int) (hn:dl z<=1000000):Ct Tryz.prog 170 [b7 eW (wh z)] (b7 (eL eI) (j6 z)):=by
 by_cases h:z=0
 ·subst h; exact pE
 ·exact pD z h hn

theorem AO (z:Int):Ct Tryz.prog 168 [b7 eW (wh z)] (kI (u5 z 0)):=by
 have hp:=BX (z:=z)
 have hl:(d6 z.natAbs).length=dl z:=rfl
 refine Ct.mk Tryz.func168 rfl Tryz.ntmps168 rfl (fun w J=>?_); refine i2 ?_; refine jb 1 rfl ?_; refine B4 ?_; refine Tr.cnd rfl ?_ ?_
 ·intro h1
  try simp only[decide_eq_true_eq] at h1
  refine l6 ?_; exact d9.res1 (fn:=Tryz.f168) rfl (.i rfl (MT zo).symm<|.nil)
 ·intro h1
  try simp only[decide_eq_false_iff_not] at h1
  refine l5 ?_; refine Tr.cnd rfl ?_ ?_
  ·intro h3
   refine l6 ?_; exact d9.res1 (fn:=Tryz.f168) rfl (.i rfl (FM (of_decide_eq_true h3)).symm<|.nil)
  ·intro h3
   refine o9 ?_; exact d9.res1 (fn:=Tryz.f168) rfl (.i rfl (FL (by have:=of_decide_eq_false h3; omega)).symm<|.nil)

theorem CS (z:Int):Ct Tryz.prog 163 [b7 eW (wh z)] (b7 eW (wh (-z))):=by
 refine Ct.mk Tryz.func163 rfl Tryz.ntmps163 rfl (fun w J=>?_); refine i2 ?_; refine jb 1 rfl ?_; refine ja 2 ?_; refine dH ?_; exact d9.resC1 (fn:=Tryz.f163) rfl rfl (u8 rfl zL)

theorem O0 (n:Int) (hn:-9223372036854775808<=n/\n<=9223372036854775807):Ct Tryz.prog 159 [kI n] (b7 eW (wh n)):=by
 refine Ct.mk Tryz.func159 rfl Tryz.ntmps159 rfl (fun w J=>?_); refine i2 ?_; refine ja 2 ?_; refine o0 ?_; refine tO (CC eI (fun hp=>.cons rfl<|.nil) rfl rfl rfl rfl) rfl rfl ?_; refine jc (SU [n] (fun i hi=>by (simp at hi; subst hi; exact hn)) (by simp)) ?_; refine i4 ?_; exact d9.resC1 (fn:=Tryz.f159) rfl rfl (u8 rfl (by rw[BM]; rfl))

theorem aZ (m n:Nat) (hm:(d6 m).length<=10000000) (_:(d6 n).length<=10000000):Ct Tryz.prog 191 [b7 (eL eI) (d6 m),b7 (eL eI) (d6 n)] (kI (u5 m n)):=by
 refine Ct.mk Tryz.func191 rfl Tryz.ntmps191 rfl (fun w J=>?_); refine O3 ?_; refine jq ?_ ?_
 ·intro h1
  refine n7 ?_; refine tO (j7 (fun hp=>ZR _ _) (.a rfl uu<|.a rfl uu<|.nil)) rfl rfl ?_; refine o0 ?_; exact d9.res1 (fn:=Tryz.f191) rfl (.i rfl (mB zo)<|.nil)
 ·intro h1
  replace h1:=Classical.not_not.1 h1
  refine C6 ?_
  refine Tr.for1 (σ:=Nat) [⟨0,true,_,_⟩,⟨1,true,_,_⟩] [] (fun i=>[⟨5,true,[],kI ((i:Int)-1)⟩]) (fun i=>[]) (fun i=>i<=(d6 m).length/\∀j,i<=j->j<(d6 m).length->b6 (d6 m) j=b6 (d6 n) j) (fun i=>i=0/\∀j,i<=j->j<(d6 m).length->b6 (d6 m) j=b6 (d6 n) j) (fun i=>i) ((d6 m).length) ⟨by omega,fun j h1 h2=>absurd h1 zo⟩ (d7.mk (.i rfl zi<|zk) (.nil) rfl) ?_ ?_
  ·rintro i ⟨hi,hR⟩
   refine jn ?_
   have e1:((i:Int)-1).toNat=i-1:=by omega
   refine l5 ?_; refine jq ?_ ?_
   ·intro h4
    refine o0 ?_; refine Tr.draw 8 q9 (by kernel_rfl) ?_; refine z5 ?_; refine jq ?_ ?_
    ·intro h6
     refine i9 ?_; refine Tr.draw 8 q9 (by kernel_rfl) ?_; refine o9 ?_; refine tO (j7 (fun hp=>ZR _ _) (.a rfl uu<|.a rfl uu<|.nil)) rfl rfl ?_; refine v6 ?_; exact d9.res1 (fn:=Tryz.f191) rfl (.i rfl (by rw[e1]; exact mA zo zo (fun j h1 h2=>hR j zo h2) (by rw[<- e1]; exact h6))<|.nil)
    ·intro h6
     replace h6:=Classical.not_not.1 h6
     refine l6 ?_
     exact g8.lp (i-1) ⟨by omega,fun j h1 h2=>by (by_cases e:j=i-1; subst e; rw[<- e1]; exact h6; exact hR j zo h2)⟩ zo (d7.mk (.i rfl zi<|zk) (.nil) rfl)
   ·intro h4
    replace h4:=Int.not_le.1 h4
    refine i4 ?_
    exact g8.cut (i) ⟨by omega,hR⟩ (d7.mk (.i rfl zi<|zk) (.nil) rfl)
  ·rintro i ⟨hi,hR⟩
   refine je ?_; refine l5 ?_; exact d9.res1 (fn:=Tryz.f191) rfl (.i rfl (by subst hi; exact lZ zo hR)<|.nil)

theorem aX (a:List Int) (n:Int) (ha:Dg a) (hl:a.length<=10000000) (hn:0<n/\n<=100000000):Ct Tryz.prog 218 [b7 (eL eI) a,kI n] (y4 [b7 (eL eI) (d6 (val a/n).toNat),kI (val a%n)]):=by
 refine Ct.mk Tryz.func218 rfl Tryz.ntmps218 rfl (fun w J=>?_); refine v6 ?_; refine d5.new (IG eI 11 rfl uu rfl uu rfl rfl rfl (fun _=>zo)) rfl rfl rfl rfl ?_; refine D3 ?_
 refine Tr.for1 (σ:=Nat×List Int×Int) [⟨0,true,_,_⟩,⟨1,true,_,_⟩,⟨6,true,_,_⟩] [] (fun (i,o,r)=>[⟨7,true,[],kI r⟩,⟨8,true,[],kI ((i:Int)-1)⟩]) (fun (i,o,r)=>[⟨11,[],m9 false 3 eI o a.length⟩]) (fun (i,o,r)=>i<=a.length/\L1 a o n i r) (fun (i,o,r)=>i=0/\L1 a o n 0 r) (fun (i,o,r)=>i) ((a.length,List.replicate a.length 0,0)) ⟨Nat.le_refl _,L1.start hn.1⟩ (d7.mk (.i rfl zi<|.i rfl zi<|zk) (.a zi zi<|.nil) rfl) ?_ ?_
 ·rintro ⟨i,o,r⟩ ⟨hi,hs⟩
  refine jn ?_
  have e1:((i:Int)-1).toNat=i-1:=by omega
  have hr0:=hs.r0
  have hq:=fun (h:0<i)=>L1.q (i:=i-1) ha (by rw[show i-1+1=i by omega]; exact hs) zo
  have ha1:=fun (h:0<i)=>ha.at (i:=i-1) zo
  refine l5 ?_; refine jq ?_ ?_
  ·intro h3
   refine n7 ?_
   have ha2:=ha1 zo
   rw[<- e1] at ha2
   refine v6 ?_; refine Tr.drawS 9 11 q9 (by kernel_rfl) ?_
   obtain ⟨q1,q2,q3,q4⟩:=hq zo
   rw[<- e1] at q1 q2
   rw[<- Int.tdiv_eq_ediv_of_nonneg zo] at q1 q2
   refine o7.opA (H3 rfl uu) (by kernel_rfl) rfl rfl ?_; refine o7.opA (H3 rfl uu) (by kernel_rfl) rfl rfl ?_; refine o7.opA (H3 rfl uu) (by kernel_rfl) rfl rfl ?_; refine o7.opA (H3 rfl uu) (by kernel_rfl) rfl rfl ?_; refine o7.opA (BA rfl uu rfl uu (fun _=>zo)) (by kernel_rfl) rfl rfl ?_; refine o7.op (H3 rfl uu) rfl rfl ?_; refine o7.op (H3 rfl uu) rfl rfl ?_; refine o7.op (EN rfl uu rfl uu (fun _=>zo)) rfl rfl ?_
   first | refine o7.opA (IE rfl uu rfl uu (fun _=>zo)) (by kernel_rfl) rfl rfl ?_ | refine o7.opA (FV rfl uu rfl uu (fun _=>zo)) (by kernel_rfl) rfl rfl ?_
   refine o7.z (yF rfl rfl rfl rfl rfl) rfl rfl rfl ?_; refine o9 ?_
   exact g8.lp ((i-1,o.set (i-1) ((r*100000000+b6 a (i-1))/n),(r*100000000+b6 a (i-1))%n)) ⟨by omega,L1.next ha (by rw[show i-1+1=i by omega]; exact hs) zo⟩ (by show i-1<i; omega) (d7.mk (.i rfl (by rw[e1,Int.tmod_eq_emod_of_nonneg zo])<|.i rfl zi<|zk) (.a (by rw[e1,Int.tdiv_eq_ediv_of_nonneg zo]) zi<|.nil) rfl)
  ·intro h3
   replace h3:=Int.not_le.1 h3
   refine i4 ?_
   exact g8.cut ((i,o,r)) (by obtain rfl:i=0:=zo; exact ⟨rfl,hs⟩) (d7.mk (.i rfl zi<|.i rfl zi<|zk) (.a zi zi<|.nil) rfl)
 ·rintro ⟨i,o,r⟩ ⟨rfl,hs⟩
  refine je ?_; refine i4 ?_; refine d5.frz 11 [6,35] ⟨rfl,rfl,trivial⟩ (by simp only[t6]; omega) rfl ?_; refine jl ?_; refine tO (j7 (fun hp=>HI _) (.a rfl uu<|.nil)) rfl rfl ?_; refine n7 ?_; exact d9.res (fn:=Tryz.f218) (ts:=[4,5]) rfl rfl (.r rfl hs.fin.1<|.i rfl hs.fin.2<|.nil)

end Go.Fl

/- Integers: differences in place, sums and products, as the contracts want them. Plain Lean, no program in sight. -/
namespace Go.Fl
def R0 (a b:List Int) (k:Nat):Int:=b6 a k-sb a b k-z9 b k
section
variable {a b:List Int} {k:Nat}
theorem gX:sb a b (k+1)=if R0 a b k<0 then 1 else 0:=rfl
theorem xD (hk:k<a.length) (hb:k<b.length):((B9 a b k).set k (b6 (B9 a b k) k-sb a b k)).set k (b6 ((B9 a b k).set k (b6 (B9 a b k) k-sb a b k)) k-b6 b k)=(B9 a b k).set k (R0 a b k):=by
 rw[List.set_set,L3 (by rw[GF]; exact hk),if_pos rfl,QF hk]
 unfold R0
 rw[R2 hb]
theorem xE (hk:k<a.length) (hb:¬k<b.length):(B9 a b k).set k (b6 (B9 a b k) k-sb a b k)=(B9 a b k).set k (R0 a b k):=by
 rw[QF hk]
 unfold R0
 rw[GM hb,Int.sub_zero]
theorem xF (hk:k<a.length):b6 ((B9 a b k).set k (b6 (B9 a b k) k-sb a b k)) k=b6 a k-sb a b k:=by rw[L3 (by rw[GF]; exact hk),if_pos rfl,QF hk]
theorem WX (hk:k<a.length):b6 ((B9 a b k).set k (R0 a b k)) k=R0 a b k:=by rw[L3 (by rw[GF]; exact hk),if_pos rfl]
theorem gY (hk:k<a.length) (h:b6 ((B9 a b k).set k (R0 a b k)) k<0):((B9 a b k).set k (R0 a b k)).set k (b6 ((B9 a b k).set k (R0 a b k)) k+100000000)=B9 a b (k+1)/\(1:Int)=sb a b (k+1):=by
 rw[WX hk] at h ⊢
 refine ⟨?_,by rw[gX,if_pos h]⟩
 rw[List.set_set,<- gV]
 congr 1
 unfold R0 at h ⊢; unfold BF; rw[if_pos h]
theorem gW (hk:k<a.length) (h:0<=b6 ((B9 a b k).set k (R0 a b k)) k):(B9 a b k).set k (R0 a b k)=B9 a b (k+1)/\(0:Int)=sb a b (k+1):=by
 rw[WX hk] at h
 refine ⟨?_,by rw[gX,if_neg zo]⟩
 rw[<- gV]
 congr 1
 unfold BF; rw[if_neg (by unfold R0 at h; omega)]; rfl
end
theorem JB:∀{xs:List Int},xs.take (l7 xs).length=l7 xs
 | []=>rfl
 | x::xs=>by
  rw[l7]
  split
  ·rfl
  ·rw[List.length_cons,List.take_succ_cons,JB]
theorem K5 {m n:Nat} (h:n<=m):(d6 n).length<=(d6 m).length:=by
 have h1:=HL (m:Int)
 exact U0 (z:=(n:Int)) (k:=(d6 m).length) (by rw[Int.natAbs_natCast]; rw[Int.natAbs_natCast] at h1; exact Int.lt_of_le_of_lt zo h1)
theorem iM {m n:Nat} (h:n<=m):List.take (l7 (B9 (d6 m) (d6 n) (d6 m).length)).length (B9 (d6 m) (d6 n) (d6 m).length)=d6 (m-n):=by
 have hm:=w5 m; have hn:=w5 n
 have hle:=K5 h
 rw[JB,yM (w3 m) (w3 n) hle zo]
 congr 1; omega
structure AG (a b:Int) (X Y:List Int):Prop where
 nx:Nm X
 ny:Nm Y
 le:Y.length<=X.length
 hi:X.length<=10000000
 v:val X+val Y=a.natAbs+b.natAbs
section
variable {a b:Int} {X Y:List Int}
theorem AG.l (h:(d6 b.natAbs).length<=(d6 a.natAbs).length) (hi:dl a<=10000000):AG a b (d6 a.natAbs) (d6 b.natAbs):=⟨M6 _,M6 _,h,hi,by rw[w5,w5]⟩
theorem AG.r (h:(d6 a.natAbs).length<(d6 b.natAbs).length) (hi:dl b<=10000000):AG a b (d6 b.natAbs) (d6 a.natAbs):=⟨M6 _,M6 _,by omega,hi,by rw[w5,w5,Int.add_comm]⟩
theorem kC (hs:decide (a<0)=decide (b<0)) {ds:List Int} (hd:ds=d6 (a.natAbs+b.natAbs)):(decide (a<0),ds)=wh (a+b):=by
 have e:(a<0)=(b<0):=by simpa using hs
 refine EX ?_ ?_
 ·by_cases h:a<0
  ·have:b<0:=e▸h
   simp[h]; omega
  ·have:¬b<0:=e▸h
   simp[h]; omega
 ·rw[hd]
  congr 1
  by_cases h:a<0
  ·have:b<0:=e▸h
   omega
  ·have:¬b<0:=e▸h
   omega
theorem AG.zero (h:AG a b X Y) (hs:decide (a<0)=decide (b<0)) (hc:(E9 X Y X.length).2<=0):(decide (a<0),(E9 X Y X.length).1)=wh (a+b):=by
 have h1:=JQ h.nx.dg h.ny.dg (Nat.le_refl X.length)
 refine kC hs ?_
 rw[add_zero h.nx h.ny h.le zo,h.v]; congr 1
theorem AG.one (h:AG a b X Y) (hs:decide (a<0)=decide (b<0)) (hc:0<(E9 X Y X.length).2):(decide (a<0),(E9 X Y X.length).1++[(E9 X Y X.length).2])=wh (a+b):=by
 have h1:=JQ h.nx.dg h.ny.dg (Nat.le_refl X.length)
 have h2:(E9 X Y X.length).2=1:=by omega
 refine kC hs ?_
 rw[h2,kQ h.nx h.ny h.le h2,h.v]; congr 1
theorem zO (hs:decide (a<0)≠decide (b<0)) (h:u5 (a.natAbs:Nat) (b.natAbs:Nat)=0):(false,[])=wh (a+b):=by
 have e:a.natAbs=b.natAbs:=by unfold u5 at h; split at h<;>(try split at h)<;>omega
 have:a+b=0:=by
  by_cases h1:a<0<;>by_cases h2:b<0
  ·exact absurd (by simp[h1,h2]) hs
  ·omega
  ·omega
  ·exact absurd (by simp[h1,h2]) hs
 rw[this]; rfl
theorem lY {m n:Int} (h:u5 m n=1):n<m:=by unfold u5 at h; split at h<;>(try split at h)<;>omega
theorem mC {m n:Int} (h0:u5 m n≠0) (h:u5 m n≠1):m<n:=by unfold u5 at h h0; split at h<;>(try split at h)<;>omega
theorem jY (hs:decide (a<0)≠decide (b<0)) (h:b.natAbs<a.natAbs) {ds:List Int} (hd:ds=d6 (a.natAbs-b.natAbs)):(decide (a<0),ds)=wh (a+b):=by
 have h3:(a<0/\¬b<0)\/(¬a<0/\b<0):=by
  by_cases h1:a<0<;>by_cases h2:b<0
  ·exact absurd (by simp[h1,h2]) hs
  ·exact .inl ⟨h1,h2⟩
  ·exact .inr ⟨h1,h2⟩
  ·exact absurd (by simp[h1,h2]) hs
 refine EX ?_ (by rw[hd]; congr 1; omega)
 by_cases h1:a<0
 ·simp[h1]; omega
 ·simp[h1]; omega
theorem zP (hs:decide (a<0)≠decide (b<0)) (h:a.natAbs<b.natAbs) {ds:List Int} (hd:ds=d6 (b.natAbs-a.natAbs)):(decide (b<0),ds)=wh (a+b):=by
 rw[Int.add_comm]; exact jY (fun e=>hs e.symm) h hd
end
theorem zM {a b:Int} (ha:a≠0) (hb:b≠0) {o:List Int} (h:R6 (d6 a.natAbs) (d6 b.natAbs) o (d6 a.natAbs).length):(decide (decide (a<0)≠decide (b<0)),l7 o)=wh (a*b):=by
 have e:=h.fin (w3 _) (w3 _)
 rw[w5,w5] at e
 refine EX ?_ (by rw[e]; congr 1; rw[Int.natAbs_mul]; omega)
 by_cases h1:a<0<;>by_cases h2:b<0
 ·have:=Int.mul_pos_of_neg_of_neg h1 h2; simp[h1,h2]; omega
 ·have:=Int.mul_neg_of_neg_of_pos h1 (show 0<b by omega); simp[h1,h2]; omega
 ·have:=Int.mul_neg_of_pos_of_neg (show 0<a by omega) h2; simp[h1,h2]; omega
 ·have:=Int.mul_pos (show 0<a by omega) (show 0<b by omega); simp[h1,h2]; omega
theorem zN {a b:Int} (h:a=0\/b=0):(false,[])=wh (a*b):=by
 rcases h with rfl | rfl
 ·rw[Int.zero_mul]; rfl
 ·rw[Int.mul_zero]; rfl
theorem VK {a b:Int} {o:List Int} (h:R6 (d6 a.natAbs) (d6 b.natAbs) o (d6 a.natAbs).length):l7 o=d6 (a*b).natAbs:=by
 have e:=h.fin (w3 _) (w3 _)
 rw[w5,w5] at e
 rw[e]; congr 1; rw[Int.natAbs_mul]; omega
end Go.Fl

/- Contracts: integers of the package field (differences in place, sums, products). -/
namespace Go.Fl
open Go Go.Proofs
open d5 renaming op->tO
open i6 renaming op->rO
set_option maxRecDepth 100000

theorem ZZ (a b:List Int) (ha:Dg a) (hb:Dg b) (_:b.length<=a.length) (h0:0<a.length) (hn:a.length<=10000000):JG Tryz.prog 192 (a.length) [b7 (eL eI) b] (m9 false 3 eI a a.length) (m9 false 3 eI (B9 a b a.length) a.length) (B7 0 1 0 (l7 (B9 a b a.length)).length):=by
 refine JG.mk Tryz.func192 rfl Tryz.ntmps192 rfl (fun w J bb cap=>?_); refine D3 ?_; refine tO (IH rfl uu) rfl rfl ?_; refine tO (Z9 rfl uu) rfl rfl ?_; refine j9 ?_
 refine Tr.for1 (σ:=Nat) [⟨0,true,_,_⟩,⟨1,true,_,_⟩,⟨8,true,_,_⟩] [] (fun k=>[⟨9,true,[],kI (k:Int)⟩,⟨5,true,[],kI (sb a b k)⟩]) (fun k=>[⟨0,[],m9 false 3 eI (B9 a b k) a.length⟩]) (fun k=>k<=a.length) (fun k=>k=a.length) (fun k=>a.length-k) (0) (Nat.zero_le _) (d7.mk (.i rfl zi<|.i rfl zi<|zk) (.a xC zi<|.nil) rfl) ?_ ?_
 ·intro k hR0
  refine jn ?_
  have hbx:=hb.x k
  have h01:=WW (a:=a) (b:=b) (k:=k)
  have hcl:=GF (a:=a) (b:=b) (k:=k)
  have had:=fun (h:k<a.length)=>ha.at (i:=k) h
  have hat:=fun (h:k<a.length)=>QF (a:=a) (b:=b) h
  have hw:=fun (h:k<a.length)=>xF (b:=b) h
  have hv:=fun (h:k<a.length)=>WX (b:=b) h
  have hbi:=fun (h:k<b.length)=>R2 h
  have hU:R0 a b k=b6 a k-sb a b k-z9 b k:=rfl
  refine n7 ?_; refine jq ?_ ?_
  ·intro h3
   refine z5 ?_; refine tO (IH rfl uu) rfl rfl ?_; refine o9 ?_; refine Tr.meet2 (σ:=Unit) [⟨0,true,_,_⟩,⟨1,true,_,_⟩,⟨6,true,_,_⟩,⟨8,true,_,_⟩,⟨9,true,_,_⟩] [] (zk) (.nil) (fun _=>[]) (fun _=>[⟨0,[],m9 false 3 eI ((B9 a b k).set k (R0 a b k)) a.length⟩]) (fun _=>True) ?_ ?_
   ·skip
    refine l6 ?_; refine jq ?_ ?_
    ·intro h6
     refine Tr.draw 8 q9 (by kernel_rfl) ?_; refine rO (IH rfl uu) rfl rfl ?_; refine z5 ?_
     exact g8.cut (()) zi (d7.mk (zk) (.a (xD zo zo) zi<|.nil) rfl)
    ·intro h6
     replace h6:=Int.not_lt.1 h6
     refine i9 ?_
     exact g8.cut (()) zi (d7.mk (zk) (.a (xE zo zo) zi<|.nil) rfl)
   ·intro _ hM
    refine jn ?_; refine l5 ?_; refine tO (IH rfl uu) rfl rfl ?_; refine n7 ?_; refine jq ?_ ?_
    ·intro h9
     refine i2 ?_; refine tO (IH rfl uu) rfl rfl ?_; refine U2 ?_
     exact g8.lp (k+1) zi zo (d7.mk (.i rfl zi<|.i rfl (gY zo h9).2<|zk) (.a (gY zo h9).1 zi<|.nil) rfl)
    ·intro h9
     replace h9:=Int.not_lt.1 h9
     refine l5 ?_
     exact g8.lp (k+1) zi zo (d7.mk (.i rfl zi<|.i rfl (gW zo h9).2<|zk) (.a (gW zo h9).1 zi<|.nil) rfl)
  ·intro h3
   replace h3:=Int.not_lt.1 h3
   refine i4 ?_
   exact g8.cut (k) zo (d7.mk (.i rfl zi<|.i rfl zi<|zk) (.a zi zi<|.nil) rfl)
 ·rintro _ rfl
  refine je ?_; refine j9 ?_; refine tO (IH rfl uu) rfl rfl ?_; refine tO (WC (n:=1) (fun ad cap=>NH (B9 a b a.length) ad cap) rfl uu (fun _=>⟨by omega,by simp only[t6]; omega,by have:=T1 (xs:=B9 a b a.length); rw[GF] at this; exact this⟩)) rfl rfl ?_; refine i4 ?_; exact d9.mutR (s:=0) (fn:=Tryz.f192) rfl rfl rfl (fun _ _ h=>h) (fun _ _ hm h=>fM hm h)

set_option maxHeartbeats 1000000 in
theorem T7 (a b:Int) (ha:dl a<=1000000) (hb:dl b<=1000000):Ct Tryz.prog 162 [b7 eW (wh a),b7 eW (wh b)] (b7 eW (wh (a+b))):=by
 have hal:(d6 a.natAbs).length=dl a:=rfl
 have hbl:(d6 b.natAbs).length=dl b:=rfl
 refine Ct.mk Tryz.func162 rfl Tryz.ntmps162 rfl (fun w J=>?_); refine i2 ?_; refine jb 2 rfl ?_; refine jb 3 rfl ?_; refine ja 4 ?_; refine o9 ?_; refine tO (uQ rfl uu rfl uu) rfl rfl ?_; refine i2 ?_; refine Tr.cnd rfl ?_ ?_
 ·intro h1
  have hs:=of_decide_eq_true h1
  refine i9 ?_; refine Tr.draw 5 q9 (by kernel_rfl) ?_; refine o9 ?_; refine Tr.meet2 (σ:=List Int×List Int) [⟨2,true,_,_⟩,⟨4,true,_,_⟩] [⟨2,_,_⟩,⟨4,_,_⟩] (zk) (zk) (fun (X,Y)=>[⟨5,true,[],b7 (eL eI) X⟩,⟨6,true,[],b7 (eL eI) Y⟩]) (fun (X,Y)=>[]) (fun (X,Y)=>AG a b X Y) ?_ ?_
  ·skip
   refine o9 ?_; refine jq ?_ ?_
   ·intro h3
    refine n7 ?_; exact g8.cut (((d6 b.natAbs),(d6 a.natAbs))) (AG.r zo zo) (d7.mk (.r rfl rfl<|.r rfl rfl<|zk) (zk) rfl)
   ·intro h3
    replace h3:=Int.not_lt.1 h3
    refine i9 ?_; exact g8.cut (((d6 a.natAbs),(d6 b.natAbs))) (AG.l zo zo) (d7.mk (.r rfl rfl<|.r rfl rfl<|zk) (zk) rfl)
  ·rintro ⟨X,Y⟩ hA
   refine jn ?_
   have hXl:=hA.hi
   have hYl:=hA.le
   refine o0 ?_; refine d5.new (uY eI 30 rfl uu rfl uu rfl (fun _=>zo)) rfl rfl rfl rfl ?_; refine AU ?_
   refine Tr.for1 (σ:=Nat) [⟨2,true,_,_⟩,⟨4,true,_,_⟩,⟨6,true,_,_⟩,⟨31,true,_,_⟩,⟨32,true,_,_⟩] [⟨2,_,_⟩,⟨4,_,_⟩] (fun k=>[⟨33,true,[],kI (k:Int)⟩,⟨7,true,[30],q8 30 k⟩,⟨8,true,[],kI (E9 X Y k).2⟩]) (fun k=>[⟨30,[],m9 false 3 eI (E9 X Y k).1 k⟩]) (fun k=>k<=X.length) (fun k=>k=X.length) (fun k=>X.length-k) (0) (Nat.zero_le _) (d7.mk (.i rfl zi<|.o rfl zi rfl<|.i rfl zi<|zk) (.a zi zi<|zk) rfl) ?_ ?_
   ·intro k hR0
    refine jn ?_
    have hXd:=fun (h:k<X.length)=>hA.nx.dg.at (i:=k) h
    have hYx:=hA.ny.dg.x k
    have hcc:=fun (h:k<=X.length)=>JQ hA.nx.dg hA.ny.dg (i:=k) h
    have hYi:=fun (h:k<Y.length)=>R2 h
    have hYo:=fun (h:¬k<Y.length)=>GM h
    refine n7 ?_; refine jq ?_ ?_
    ·intro h8
     refine UT ?_; refine Tr.meet2 (σ:=Unit) [⟨2,true,_,_⟩,⟨4,true,_,_⟩,⟨6,true,_,_⟩,⟨7,true,_,_⟩,⟨31,true,_,_⟩,⟨32,true,_,_⟩,⟨33,true,_,_⟩] [⟨2,_,_⟩,⟨4,_,_⟩,⟨30,_,_⟩] (zk) (zk) (fun _=>[⟨10,true,[],kI (b6 X k+(E9 X Y k).2+z9 Y k)⟩]) (fun _=>[]) (fun _=>True) ?_ ?_
     ·skip
      refine l6 ?_; refine jq ?_ ?_
      ·intro h11
       refine o9 ?_
       exact g8.cut (()) zi (d7.mk (.i rfl (by rw[R2 zo])<|zk) (zk) rfl)
      ·intro h11
       replace h11:=Int.not_lt.1 h11
       refine i9 ?_
       exact g8.cut (()) zi (d7.mk (.i rfl (by rw[GM zo,Int.add_zero])<|zk) (zk) rfl)
     ·intro _ hM
      refine jn ?_; refine i2 ?_
      obtain ⟨hq1,hq2,hq3⟩:=LO (b6 X k+(E9 X Y k).2+z9 Y k)
      refine i9 ?_; refine tO (BA rfl uu rfl uu (fun _=>zo)) rfl rfl ?_; refine n7 ?_; refine tO (EN rfl uu rfl uu (fun _=>zo)) rfl rfl ?_; refine d5.new (D5 eI 56 (fun hp=>.cons rfl<|.nil) rfl rfl rfl rfl) rfl rfl rfl rfl ?_; refine i9 ?_; refine jl ?_; refine l6 ?_
      exact g8.lp (k+1) zi zo (d7.mk (.i rfl zi<|.o rfl zi rfl<|.i rfl (by rw[Int.tdiv_eq_ediv_of_nonneg zo]; rfl)<|zk) (.a (by rw[Int.tmod_eq_emod_of_nonneg zo]; rfl) zi<|zk) rfl)
    ·intro h8
     replace h8:=Int.not_lt.1 h8
     refine i4 ?_
     exact g8.cut (k) zo (d7.mk (.i rfl zi<|.o rfl zi rfl<|.i rfl zi<|zk) (.a zi zi<|zk) rfl)
   ·rintro _ rfl
    refine je ?_
    have hcc:=JQ hA.nx.dg hA.ny.dg (Nat.le_refl X.length)
    refine l6 ?_; refine jq ?_ ?_
    ·intro h16
     refine j9 ?_; refine d5.new (D5 eI 63 (fun hp=>.cons rfl<|.nil) rfl rfl rfl rfl) rfl rfl rfl rfl ?_; refine i9 ?_; refine jl ?_; refine l6 ?_; refine tO (A4 (fun hp=>.cons rfl rfl rfl<|.cons rfl rfl rfl<|.nil)) rfl rfl ?_; refine j9 ?_
     refine Tr.frzC 30 4 (by simp only[t6]; first | omega | (rw[List.length_singleton]; omega)) rfl rfl ?_
     refine i2 ?_; exact d9.resC1 (fn:=Tryz.f162) rfl rfl (u8 rfl (hA.one hs h16))
    ·intro h16
     replace h16:=Int.not_lt.1 h16
     refine l5 ?_; refine tO (A4 (fun hp=>.cons rfl rfl rfl<|.cons rfl rfl rfl<|.nil)) rfl rfl ?_; refine j9 ?_
     refine Tr.frzC 30 4 (by simp only[t6]; first | omega | (rw[List.length_singleton]; omega)) rfl rfl ?_
     refine i2 ?_; exact d9.resC1 (fn:=Tryz.f162) rfl rfl (u8 rfl (hA.zero hs zo))
 ·intro h1
  have hs:=of_decide_eq_false h1
  refine o9 ?_; refine jc (aZ a.natAbs b.natAbs zo zo) ?_; refine o9 ?_; refine Tr.cnd rfl ?_ ?_
  ·intro h20
   try simp only[decide_eq_true_eq] at h20
   have hc0:u5 (a.natAbs:Nat) (b.natAbs:Nat)=0:=by omega
   refine i2 ?_; refine tO (A4 (fun hp=>.nil)) rfl rfl ?_; refine n7 ?_; exact d9.resC1 (fn:=Tryz.f162) rfl rfl (u8 rfl (zO hs hc0))
  ·intro h20
   try simp only[decide_eq_false_iff_not] at h20
   refine n7 ?_; refine Tr.cnd rfl ?_ ?_
   ·intro h22
    try simp only[decide_eq_true_eq] at h22
    have hlt:=lY h22
    have hp1:=BX (z:=a)
    have hlz:a≠0:=by omega
    have hp2:=hp1.2 hlz
    refine i9 ?_; refine Tr.ent (S':=[⟨0,true,_,_⟩,⟨1,true,_,_⟩,⟨2,true,_,_⟩,⟨3,true,_,_⟩,⟨4,true,_,_⟩,⟨11,true,_,_⟩,⟨12,true,_,_⟩,⟨13,true,_,_⟩,⟨14,true,_,_⟩,⟨15,true,_,_⟩,⟨69,true,_,_⟩,⟨70,true,_,_⟩,⟨71,true,_,_⟩,⟨72,true,_,_⟩,⟨73,true,_,_⟩,⟨75,true,_,_⟩,⟨74,true,_,_⟩,⟨78,true,_,_⟩,⟨77,true,_,_⟩]) (M':=[⟨2,_,_⟩,⟨3,_,_⟩,⟨4,_,_⟩]) (d7.mk (zk) (zk) rfl) ?_; refine Tr.drawQ [⟨2,_,_⟩,⟨3,_,_⟩] [⟨4,_,_⟩] rfl q9 #[false,false,false,false,false,false,false,false,false,false] rfl fun f=>?_
    simp only[L5,List.map_cons,List.map_nil,List.cons_append,List.nil_append]
    refine g6.take 0 #[true,false,false,false,false,false,false,false,false,false] (by kernel_rfl) (by kernel_rfl) (by kernel_rfl) rfl rfl (EY rfl) rfl rfl ?_; refine g6.take 1 #[true,true,false,false,false,false,false,false,false,false] (by kernel_rfl) (by kernel_rfl) (by kernel_rfl) rfl rfl (JE rfl rfl) rfl rfl ?_; refine g6.take 2 #[true,true,true,false,false,false,false,false,false,false] (by kernel_rfl) (by kernel_rfl) (by kernel_rfl) rfl rfl (EY rfl) rfl rfl ?_; refine g6.take 3 #[true,true,true,true,false,false,false,false,false,false] (by kernel_rfl) (by kernel_rfl) (by kernel_rfl) rfl rfl (JE rfl rfl) rfl rfl ?_
    refine g6.take 5 #[true,true,true,true,false,true,false,false,false,false] (by kernel_rfl) (by kernel_rfl) (by kernel_rfl) rfl rfl (EY rfl) rfl rfl ?_; refine g6.take 6 #[true,true,true,true,false,true,true,false,false,false] (by kernel_rfl) (by kernel_rfl) (by kernel_rfl) rfl rfl (JE rfl rfl) rfl rfl ?_; refine g6.one 4 (by kernel_rfl) rfl ?_; refine d5.new (DD 83 (fun hp=>MY _ zo zo) (.a rfl uu<|.nil)) rfl rfl rfl rfl ?_; refine g6.k #[true,true,true,true,true,true,true,false,false,false] rfl (DI (by intro e he; simp only[L5,List.map_cons,List.map_nil,List.mem_cons,List.not_mem_nil,or_false] at he; rcases he with rfl | rfl<;>simp)) ?_
    refine g6.one 7 (by kernel_rfl) rfl ?_; refine d5.mutR (ZZ _ _ (w3 _) (w3 _) (K5 zo) zo zo) rfl zo (.a rfl uu<|.nil) rfl (fun _ _ _ _ h=>h) (fun h=>h) rfl ?_; refine jl ?_; refine d5.frzQ 83 [86] ⟨rfl,trivial⟩ (⟨by have:=T1 (xs:=B9 (d6 a.natAbs) (d6 b.natAbs) (d6 a.natAbs).length); rw[GF] at this; exact this,by simp only[t6]; omega⟩) rfl ?_; refine jl ?_; refine g6.k #[true,true,true,true,true,true,true,true,false,false] rfl (DI (by intro e he; simp only[L5,List.map_cons,List.map_nil,List.mem_cons,List.not_mem_nil,or_false] at he; rcases he with rfl | rfl<;>simp)) ?_
    refine g6.one 8 (by kernel_rfl) rfl ?_; refine tO (A4 (fun hp=>.cons rfl rfl rfl<|.cons rfl rfl rfl<|.nil)) rfl rfl ?_; refine g6.k #[true,true,true,true,true,true,true,true,true,false] rfl (DI (by intro e he; simp only[L5,List.map_cons,List.map_nil,List.mem_cons,List.not_mem_nil,or_false] at he; rcases he with rfl | rfl<;>simp)) ?_; refine g6.one 9 (by kernel_rfl) rfl ?_; refine d5.stB rfl rfl rfl rfl ?_; refine g6.k #[true,true,true,true,true,true,true,true,true,true] rfl (DI (by intro e he; simp only[L5,List.map_cons,List.map_nil,List.mem_cons,List.not_mem_nil,or_false] at he; rcases he with rfl | rfl<;>simp)) ?_
    refine g6.done (by kernel_rfl) ?_; refine g8.nxt (Tr.ret (d9.out (d9.thn ?_))); exact d9.resC1 (fn:=Tryz.f162) rfl rfl (u8 rfl (jY hs zo (iM zo)))
   ·intro h22
    try simp only[decide_eq_false_iff_not] at h22
    have hlt:=mC h20 h22
    have hp1:=BX (z:=b)
    have hlz:b≠0:=by omega
    have hp2:=hp1.2 hlz
    refine i4 ?_; refine Tr.ent (S':=[⟨0,true,_,_⟩,⟨1,true,_,_⟩,⟨2,true,_,_⟩,⟨3,true,_,_⟩,⟨4,true,_,_⟩,⟨11,true,_,_⟩,⟨12,true,_,_⟩,⟨13,true,_,_⟩,⟨14,true,_,_⟩,⟨15,true,_,_⟩,⟨69,true,_,_⟩,⟨70,true,_,_⟩,⟨71,true,_,_⟩,⟨72,true,_,_⟩,⟨73,true,_,_⟩,⟨75,true,_,_⟩,⟨74,true,_,_⟩,⟨78,true,_,_⟩,⟨77,true,_,_⟩]) (M':=[⟨2,_,_⟩,⟨3,_,_⟩,⟨4,_,_⟩]) (d7.mk (zk) (zk) rfl) ?_; refine Tr.drawQ [⟨2,_,_⟩,⟨3,_,_⟩] [⟨4,_,_⟩] rfl q9 #[false,false,false,false,false,false,false,false,false,false] rfl fun f=>?_
    simp only[L5,List.map_cons,List.map_nil,List.cons_append,List.nil_append]
    refine g6.take 0 #[true,false,false,false,false,false,false,false,false,false] (by kernel_rfl) (by kernel_rfl) (by kernel_rfl) rfl rfl (EY rfl) rfl rfl ?_; refine g6.take 1 #[true,true,false,false,false,false,false,false,false,false] (by kernel_rfl) (by kernel_rfl) (by kernel_rfl) rfl rfl (JE rfl rfl) rfl rfl ?_; refine g6.take 2 #[true,true,true,false,false,false,false,false,false,false] (by kernel_rfl) (by kernel_rfl) (by kernel_rfl) rfl rfl (EY rfl) rfl rfl ?_; refine g6.take 3 #[true,true,true,true,false,false,false,false,false,false] (by kernel_rfl) (by kernel_rfl) (by kernel_rfl) rfl rfl (JE rfl rfl) rfl rfl ?_
    refine g6.take 5 #[true,true,true,true,false,true,false,false,false,false] (by kernel_rfl) (by kernel_rfl) (by kernel_rfl) rfl rfl (EY rfl) rfl rfl ?_; refine g6.take 6 #[true,true,true,true,false,true,true,false,false,false] (by kernel_rfl) (by kernel_rfl) (by kernel_rfl) rfl rfl (JE rfl rfl) rfl rfl ?_; refine g6.one 4 (by kernel_rfl) rfl ?_; refine d5.new (DD 92 (fun hp=>MY _ zo zo) (.a rfl uu<|.nil)) rfl rfl rfl rfl ?_; refine g6.k #[true,true,true,true,true,true,true,false,false,false] rfl (DI (by intro e he; simp only[L5,List.map_cons,List.map_nil,List.mem_cons,List.not_mem_nil,or_false] at he; rcases he with rfl | rfl<;>simp)) ?_
    refine g6.one 7 (by kernel_rfl) rfl ?_; refine d5.mutR (ZZ _ _ (w3 _) (w3 _) (K5 zo) zo zo) rfl zo (.a rfl uu<|.nil) rfl (fun _ _ _ _ h=>h) (fun h=>h) rfl ?_; refine jl ?_; refine d5.frzQ 92 [95] ⟨rfl,trivial⟩ (⟨by have:=T1 (xs:=B9 (d6 b.natAbs) (d6 a.natAbs) (d6 b.natAbs).length); rw[GF] at this; exact this,by simp only[t6]; omega⟩) rfl ?_; refine jl ?_; refine g6.k #[true,true,true,true,true,true,true,true,false,false] rfl (DI (by intro e he; simp only[L5,List.map_cons,List.map_nil,List.mem_cons,List.not_mem_nil,or_false] at he; rcases he with rfl | rfl<;>simp)) ?_
    refine g6.one 8 (by kernel_rfl) rfl ?_; refine tO (A4 (fun hp=>.cons rfl rfl rfl<|.cons rfl rfl rfl<|.nil)) rfl rfl ?_; refine g6.k #[true,true,true,true,true,true,true,true,true,false] rfl (DI (by intro e he; simp only[L5,List.map_cons,List.map_nil,List.mem_cons,List.not_mem_nil,or_false] at he; rcases he with rfl | rfl<;>simp)) ?_; refine g6.one 9 (by kernel_rfl) rfl ?_; refine d5.stB rfl rfl rfl rfl ?_; refine g6.k #[true,true,true,true,true,true,true,true,true,true] rfl (DI (by intro e he; simp only[L5,List.map_cons,List.map_nil,List.mem_cons,List.not_mem_nil,or_false] at he; rcases he with rfl | rfl<;>simp)) ?_
    refine g6.done (by kernel_rfl) ?_; refine i2 ?_; exact d9.resC1 (fn:=Tryz.f162) rfl rfl (u8 rfl (zP hs zo (iM zo)))

end Go.Fl

/- Contracts: integers of the package field (products). -/
namespace Go.Fl
open Go Go.Proofs
open d5 renaming op->tO
open i6 renaming op->rO
set_option maxRecDepth 100000

set_option maxHeartbeats 1000000 in
theorem J7 (a b:Int) (ha:dl a<=1000000) (hb:dl b<=1000000):Ct Tryz.prog 161 [b7 eW (wh a),b7 eW (wh b)] (b7 eW (wh (a*b))):=by
 have hal:(d6 a.natAbs).length=dl a:=rfl
 have hbl:(d6 b.natAbs).length=dl b:=rfl
 have hap:=BX (z:=a)
 have hbp:=BX (z:=b)
 refine Ct.mk Tryz.func161 rfl Tryz.ntmps161 rfl (fun w J=>?_); refine i2 ?_; refine jb 2 rfl ?_; refine jb 3 rfl ?_; refine ja 4 ?_; refine U2 ?_; refine Tr.cnd rfl ?_ ?_
 ·intro h1
  try simp only[decide_eq_true_eq,Bool.or_eq_true] at h1
  refine i2 ?_; refine tO (A4 (fun hp=>.nil)) rfl rfl ?_; refine o0 ?_; exact d9.resC1 (fn:=Tryz.f161) rfl rfl (u8 rfl (zN zo))
 ·intro h1
  try simp only[decide_eq_false_iff_not,Bool.or_eq_false_iff] at h1
  refine C6 ?_; refine d5.new (PI eI 30 rfl uu rfl uu rfl rfl (fun _=>zo)) rfl rfl rfl rfl ?_; refine z5 ?_
  refine Tr.for1 (σ:=Nat×List Int) [⟨2,true,_,_⟩,⟨3,true,_,_⟩,⟨4,true,_,_⟩,⟨32,true,_,_⟩,⟨33,true,_,_⟩] [⟨2,_,_⟩,⟨3,_,_⟩,⟨4,_,_⟩] (fun (i,o)=>[⟨5,true,[30],q8 30 ((d6 a.natAbs).length+(d6 b.natAbs).length)⟩,⟨34,true,[],kI (i:Int)⟩]) (fun (i,o)=>[⟨30,[],m9 false 3 eI o ((d6 a.natAbs).length+(d6 b.natAbs).length)⟩]) (fun (i,o)=>i<=(d6 a.natAbs).length/\R6 (d6 a.natAbs) (d6 b.natAbs) o i) (fun (i,o)=>i=(d6 a.natAbs).length/\R6 (d6 a.natAbs) (d6 b.natAbs) o (d6 a.natAbs).length) (fun (i,o)=>(d6 a.natAbs).length-i) ((0,List.replicate ((d6 a.natAbs).length+(d6 b.natAbs).length) 0)) ⟨by omega,R6.start⟩ (d7.mk (.o rfl zo rfl<|.i rfl zi<|zk) (.a (by congr 1) zo<|zk) rfl) ?_ ?_
  ·rintro ⟨i,o⟩ ⟨hi,hR⟩
   refine jn ?_
   have hAd:=fun (h:i<(d6 a.natAbs).length)=>(w3 a.natAbs).at (i:=i) h
   refine n7 ?_; refine jq ?_ ?_
   ·intro h5
    refine dJ ?_
    refine Tr.for1 (σ:=Nat×List Int×Int) [⟨2,true,_,_⟩,⟨3,true,_,_⟩,⟨4,true,_,_⟩,⟨5,true,_,_⟩,⟨6,true,_,_⟩,⟨7,true,_,_⟩,⟨32,true,_,_⟩,⟨33,true,_,_⟩,⟨34,true,_,_⟩,⟨40,true,_,_⟩,⟨41,true,_,_⟩] [⟨2,_,_⟩,⟨3,_,_⟩,⟨4,_,_⟩] (fun (k,o2,c)=>[⟨8,true,[],kI c⟩,⟨42,true,[],kI (k:Int)⟩]) (fun (k,o2,c)=>[⟨30,[],m9 false 3 eI o2 ((d6 a.natAbs).length+(d6 b.natAbs).length)⟩]) (fun (k,o2,c)=>k<=(d6 b.natAbs).length/\Y7 (d6 a.natAbs) (d6 b.natAbs) o2 i k c) (fun (k,o2,c)=>Y7 (d6 a.natAbs) (d6 b.natAbs) o2 i (d6 b.natAbs).length c) (fun (k,o2,c)=>(d6 b.natAbs).length-k) ((0,o,0)) ⟨by omega,hR.row⟩ (d7.mk (.i rfl zi<|.i rfl zi<|zk) (.a zi zi<|zk) rfl) ?_ ?_
    ·rintro ⟨k,o2,c⟩ ⟨hk,hS⟩
     refine jn ?_
     have hn:=fun (h:k<(d6 b.natAbs).length)=>hS.n (w3 _) (w3 _) zo h
     have hc0:=hS.c0
     refine n7 ?_; refine jq ?_ ?_
     ·intro h9
      refine O3 ?_
      obtain ⟨n1,n2,n3,n4⟩:=hn zo
      refine AU ?_
      obtain ⟨hq1,hq2,hq3⟩:=LO (b6 o2 (i+k)+b6 (d6 a.natAbs) i*b6 (d6 b.natAbs) k+c)
      refine o0 ?_; refine tO (EN rfl uu rfl uu (fun _=>zo)) rfl rfl ?_; refine i9 ?_; refine tO (BA rfl uu rfl uu (fun _=>zo)) rfl rfl ?_; refine v6 ?_
      exact g8.lp ((k+1,o2.set (i+k) ((b6 o2 (i+k)+b6 (d6 a.natAbs) i*b6 (d6 b.natAbs) k+c)%100000000),(b6 o2 (i+k)+b6 (d6 a.natAbs) i*b6 (d6 b.natAbs) k+c)/100000000)) ⟨by omega,hS.next (w3 _) (w3 _) zo zo⟩ (by show (d6 b.natAbs).length-(k+1)<(d6 b.natAbs).length-k; omega) (d7.mk (.i rfl (by rw[Int.tdiv_eq_ediv_of_nonneg zo])<|.i rfl zi<|zk) (.a (by rw[Int.tmod_eq_emod_of_nonneg zo]) zi<|zk) rfl)
     ·intro h9
      replace h9:=Int.not_lt.1 h9
      refine i4 ?_
      exact g8.cut ((k,o2,c)) (by obtain rfl:k=(d6 b.natAbs).length:=zo; exact hS) (d7.mk (.i rfl zi<|.i rfl zi<|zk) (.a zi zi<|zk) rfl)
    ·rintro ⟨k,o2,c⟩ hS
     refine je ?_
     have hc0:=hS.c0
     refine HQ ?_
     exact g8.lp ((i+1,o2.set (i+(d6 b.natAbs).length) c)) ⟨by omega,hS.done zo⟩ (by show (d6 a.natAbs).length-(i+1)<(d6 a.natAbs).length-i; omega) (d7.mk (.o rfl zi rfl<|.i rfl zi<|zk) (.a rfl zi<|zk) rfl)
   ·intro h5
    replace h5:=Int.not_lt.1 h5
    refine i4 ?_
    exact g8.cut ((i,o)) (by obtain rfl:i=(d6 a.natAbs).length:=zo; exact ⟨rfl,hR⟩) (d7.mk (.o rfl zi rfl<|.i rfl zi<|zk) (.a zi zi<|zk) rfl)
  ·rintro ⟨i,o⟩ ⟨rfl,hR⟩
   refine je ?_; refine i2 ?_; refine Tr.frz 30 [5] ⟨rfl,trivial⟩ (by simp only[t6]; omega) rfl ?_; refine Tr.draw 7 q9 (by kernel_rfl) ?_; refine i4 ?_; refine rO (PK rfl uu rfl uu) rfl rfl ?_; refine i9 ?_; refine rO (j7 (fun hp=>HI _) (.a rfl uu<|.nil)) rfl rfl ?_; refine i9 ?_; refine tO (A4 (fun hp=>.cons rfl rfl rfl<|.cons rfl rfl rfl<|.nil)) rfl rfl ?_; refine i4 ?_; exact d9.resC1 (fn:=Tryz.f161) rfl rfl (u8 rfl (zM (hap.1 zo) (hbp.1 zo) hR))

set_option maxHeartbeats 1000000 in
theorem pF (a b:Int) (ha:dl a<=1000000) (hb:dl b<=1000000) (h0:a≠0/\b≠0):R5 Tryz.prog 161 [b7 eW (wh a),b7 eW (wh b)] (fun t=>G6 [kB (decide (decide (a<0)≠decide (b<0))),B7 t 1 0 (d6 (a*b).natAbs).length]) (m9 false 3 eI (d6 (a*b).natAbs) (d6 (a*b).natAbs).length):=by
 have hal:(d6 a.natAbs).length=dl a:=rfl
 have hbl:(d6 b.natAbs).length=dl b:=rfl
 have hap:=BX (z:=a)
 have hbp:=BX (z:=b)
 refine R5.mk Tryz.func161 rfl Tryz.ntmps161 rfl (fun w J=>?_); refine i2 ?_; refine jb 2 rfl ?_; refine jb 3 rfl ?_; refine ja 4 ?_; refine U2 ?_; refine Tr.cnd rfl ?_ ?_
 ·intro h1
  try simp only[decide_eq_true_eq,Bool.or_eq_true] at h1
  omega
 ·intro h1
  try simp only[decide_eq_false_iff_not,Bool.or_eq_false_iff] at h1
  refine C6 ?_; refine d5.new (PI eI 30 rfl uu rfl uu rfl rfl (fun _=>zo)) rfl rfl rfl rfl ?_; refine z5 ?_
  refine Tr.for1 (σ:=Nat×List Int) [⟨2,true,_,_⟩,⟨3,true,_,_⟩,⟨4,true,_,_⟩,⟨32,true,_,_⟩,⟨33,true,_,_⟩] [⟨2,_,_⟩,⟨3,_,_⟩,⟨4,_,_⟩] (fun (i,o)=>[⟨5,true,[30],q8 30 ((d6 a.natAbs).length+(d6 b.natAbs).length)⟩,⟨34,true,[],kI (i:Int)⟩]) (fun (i,o)=>[⟨30,[],m9 false 3 eI o ((d6 a.natAbs).length+(d6 b.natAbs).length)⟩]) (fun (i,o)=>i<=(d6 a.natAbs).length/\R6 (d6 a.natAbs) (d6 b.natAbs) o i) (fun (i,o)=>i=(d6 a.natAbs).length/\R6 (d6 a.natAbs) (d6 b.natAbs) o (d6 a.natAbs).length) (fun (i,o)=>(d6 a.natAbs).length-i) ((0,List.replicate ((d6 a.natAbs).length+(d6 b.natAbs).length) 0)) ⟨by omega,R6.start⟩ (d7.mk (.o rfl zo rfl<|.i rfl zi<|zk) (.a (by congr 1) zo<|zk) rfl) ?_ ?_
  ·rintro ⟨i,o⟩ ⟨hi,hR⟩
   refine jn ?_
   have hAd:=fun (h:i<(d6 a.natAbs).length)=>(w3 a.natAbs).at (i:=i) h
   refine n7 ?_; refine jq ?_ ?_
   ·intro h5
    refine dJ ?_
    refine Tr.for1 (σ:=Nat×List Int×Int) [⟨2,true,_,_⟩,⟨3,true,_,_⟩,⟨4,true,_,_⟩,⟨5,true,_,_⟩,⟨6,true,_,_⟩,⟨7,true,_,_⟩,⟨32,true,_,_⟩,⟨33,true,_,_⟩,⟨34,true,_,_⟩,⟨40,true,_,_⟩,⟨41,true,_,_⟩] [⟨2,_,_⟩,⟨3,_,_⟩,⟨4,_,_⟩] (fun (k,o2,c)=>[⟨8,true,[],kI c⟩,⟨42,true,[],kI (k:Int)⟩]) (fun (k,o2,c)=>[⟨30,[],m9 false 3 eI o2 ((d6 a.natAbs).length+(d6 b.natAbs).length)⟩]) (fun (k,o2,c)=>k<=(d6 b.natAbs).length/\Y7 (d6 a.natAbs) (d6 b.natAbs) o2 i k c) (fun (k,o2,c)=>Y7 (d6 a.natAbs) (d6 b.natAbs) o2 i (d6 b.natAbs).length c) (fun (k,o2,c)=>(d6 b.natAbs).length-k) ((0,o,0)) ⟨by omega,hR.row⟩ (d7.mk (.i rfl zi<|.i rfl zi<|zk) (.a zi zi<|zk) rfl) ?_ ?_
    ·rintro ⟨k,o2,c⟩ ⟨hk,hS⟩
     refine jn ?_
     have hn:=fun (h:k<(d6 b.natAbs).length)=>hS.n (w3 _) (w3 _) zo h
     have hc0:=hS.c0
     refine n7 ?_; refine jq ?_ ?_
     ·intro h9
      refine O3 ?_
      obtain ⟨n1,n2,n3,n4⟩:=hn zo
      refine AU ?_
      obtain ⟨hq1,hq2,hq3⟩:=LO (b6 o2 (i+k)+b6 (d6 a.natAbs) i*b6 (d6 b.natAbs) k+c)
      refine o0 ?_; refine tO (EN rfl uu rfl uu (fun _=>zo)) rfl rfl ?_; refine i9 ?_; refine tO (BA rfl uu rfl uu (fun _=>zo)) rfl rfl ?_; refine v6 ?_
      exact g8.lp ((k+1,o2.set (i+k) ((b6 o2 (i+k)+b6 (d6 a.natAbs) i*b6 (d6 b.natAbs) k+c)%100000000),(b6 o2 (i+k)+b6 (d6 a.natAbs) i*b6 (d6 b.natAbs) k+c)/100000000)) ⟨by omega,hS.next (w3 _) (w3 _) zo zo⟩ (by show (d6 b.natAbs).length-(k+1)<(d6 b.natAbs).length-k; omega) (d7.mk (.i rfl (by rw[Int.tdiv_eq_ediv_of_nonneg zo])<|.i rfl zi<|zk) (.a (by rw[Int.tmod_eq_emod_of_nonneg zo]) zi<|zk) rfl)
     ·intro h9
      replace h9:=Int.not_lt.1 h9
      refine i4 ?_
      exact g8.cut ((k,o2,c)) (by obtain rfl:k=(d6 b.natAbs).length:=zo; exact hS) (d7.mk (.i rfl zi<|.i rfl zi<|zk) (.a zi zi<|zk) rfl)
    ·rintro ⟨k,o2,c⟩ hS
     refine je ?_
     have hc0:=hS.c0
     refine HQ ?_
     exact g8.lp ((i+1,o2.set (i+(d6 b.natAbs).length) c)) ⟨by omega,hS.done zo⟩ (by show (d6 a.natAbs).length-(i+1)<(d6 a.natAbs).length-i; omega) (d7.mk (.o rfl zi rfl<|.i rfl zi<|zk) (.a rfl zi<|zk) rfl)
   ·intro h5
    replace h5:=Int.not_lt.1 h5
    refine i4 ?_
    exact g8.cut ((i,o)) (by obtain rfl:i=(d6 a.natAbs).length:=zo; exact ⟨rfl,hR⟩) (d7.mk (.o rfl zi rfl<|.i rfl zi<|zk) (.a zi zi<|zk) rfl)
  ·rintro ⟨i,o⟩ ⟨rfl,hR⟩
   refine je ?_; refine i2 ?_; refine Tr.draw 7 q9 (by kernel_rfl) ?_; refine i4 ?_; refine rO (PK rfl uu rfl uu) rfl rfl ?_; refine i9 ?_; refine rO (WC (n:=1) (fun ad cap=>NH o ad cap) rfl uu (fun _=>⟨by omega,by simp only[t6]; omega,by have:=T1 (xs:=o); rw[hR.len] at this; exact this⟩)) rfl rfl ?_; refine i9 ?_; refine tO (A4 (fun hp=>.cons rfl rfl rfl<|.cons rfl rfl rfl<|.nil)) rfl rfl ?_; refine i4 ?_; exact d9.resNC (fn:=Tryz.f161) (u:=30) rfl rfl (fun _ _ _ h=>lH (by have:=T1 (xs:=o); rw[hR.len,VK hR] at this; exact this) (by rw[<- VK hR,JB]) h) (lA rfl (by rw[VK hR])) inferInstance

end Go.Fl

/- Integers: long division, as its contract wants it. Plain Lean, no program in sight. -/
namespace Go.Fl
theorem Nm.top {xs:List Int} (h:Nm xs) (h0:0<xs.length):0<b6 xs (xs.length-1):=by
 have hne:xs≠[]:=List.length_pos_iff.1 h0
 have h3:=h.last hne
 have h4:b6 xs (xs.length-1)=xs.getLast hne:=by
  rw[List.getLast_eq_getElem]
  exact AX (List.getElem?_eq_getElem _)
 rw[h4]
 have:=h.dg _ (List.getLast_mem hne)
 omega
def OP (n:Nat):Int:=(100000000:Int).tdiv (b6 (d6 n) (((d6 n).length:Int)-1).toNat+1)
theorem dU {n:Nat} (h:0<(d6 n).length):0<b6 (d6 n) (((d6 n).length:Int)-1).toNat/\b6 (d6 n) (((d6 n).length:Int)-1).toNat<100000000:=by
 have e:(((d6 n).length:Int)-1).toNat=(d6 n).length-1:=by omega
 rw[e]
 exact ⟨(M6 n).top h,((w3 n).at zo).2⟩
theorem XF {a b:Int} (ha:0<=a) (hb:0<b):0<=a.tdiv b/\a.tdiv b<=a:=by
 rw[Int.tdiv_eq_ediv_of_nonneg ha]
 exact ⟨Int.ediv_nonneg ha zo,Int.ediv_le_self _ ha⟩
theorem sP {n:Nat} (h:0<(d6 n).length):0<OP n/\OP n<=50000000:=by
 have h1:=dU h
 unfold OP
 generalize b6 (d6 n) (((d6 n).length:Int)-1).toNat=t at *
 rw[Int.tdiv_eq_ediv_of_nonneg zo]
 refine ⟨Int.le_ediv_of_mul_le zo zo,Int.le_of_lt_add_one (Int.ediv_lt_of_lt_mul zo zo)⟩
def HN (x y z:Int):Int:=if 99999999<(x*100000000+y).tdiv z then 99999999 else (x*100000000+y).tdiv z
theorem rJ {x y z:Int} (hx:0<=x) (hy:0<=y) (hz:0<z):0<=HN x y z/\HN x y z<=99999999:=by
 have:=XF (a:=x*100000000+y) zo hz
 unfold HN
 split<;>omega
theorem rI {T x y z:Int} (hx:0<=x) (hy:0<=y) (h:T<=(if 99999999<(x*100000000+y)/z then 99999999 else (x*100000000+y)/z)):T<=HN x y z:=by
 unfold HN
 rw[Int.tdiv_eq_ediv_of_nonneg zo]
 exact h
theorem M3.bd {u0 u:List Int} {j n:Nat} {T V g:Int} (h:M3 u0 j n T V u g) (hl:j+n<u0.length) (hT:T=val (u0.drop j)) (h0:0<=T) (hV:0<V) (hVn:V<BP n):-100000000<b6 u (j+n):=by
 obtain ⟨lo,l0,l1,e⟩:=h.top hl
 have ht:=h.t hl hT
 have hg:=h.g1
 have h1:g*V<=99999999*V:=Int.mul_le_mul_of_nonneg_right hg zo
 refine Classical.byContradiction fun hh=>?_
 have h2:BP n*b6 u (j+n)<=BP n*(-100000000):=Int.mul_le_mul_of_nonneg_left zo (Int.le_of_lt (R3 n))
 omega
theorem sR {m n:Nat} {F:Int} (hF:0<F) (h:n<=m):((n:Int)*F).natAbs<=((m:Int)*F).natAbs/\n<=((n:Int)*F).natAbs:=by
 have h1:(n:Int)*F<=m*F:=Int.mul_le_mul_of_nonneg_right zo zo
 have h2:(n:Int)*1<=n*F:=Int.mul_le_mul_of_nonneg_left zo zo
 omega
theorem sQ {m n x y nn:Nat} {F:Int} {u out:List Int} (hF:0<F) (hx:x=((m:Int)*F).natAbs) (hy:y=((n:Int)*F).natAbs) (hn:0<n) (h:T4 (x:Int) (val (d6 y)) nn u out 0) :
  l7 out=d6 (m/n)/\d6 (val (l7 u)/F).toNat=d6 (m%n)/\Dg (l7 u):=by
 have e1:(x:Int)=F*m:=by rw[hx,Int.mul_comm,Int.natAbs_of_nonneg (Int.mul_nonneg zo zo)]
 have e2:(y:Int)=F*n:=by rw[hy,Int.mul_comm,Int.natAbs_of_nonneg (Int.mul_nonneg zo zo)]
 have h0:(0:Int)<F*n:=Int.mul_pos hF zo
 obtain ⟨h1,h2,h3,h4⟩:=h.fin (by rw[w5]; omega)
 rw[w5,e1,e2] at h1 h2
 rw[Int.mul_ediv_mul_of_pos _ _ hF] at h1
 rw[Int.mul_emod_mul_of_pos _ _ hF] at h2
 refine ⟨CM h3 (by rw[h1]; rfl),?_,(jE h4).dg⟩
 rw[XK,h2,Int.mul_ediv_cancel_left _ zo]
 congr 1
theorem GL {n:Nat}:(false,d6 n)=wh (n:Int):=kA rfl rfl
theorem I4 {F:Int} (h0:0<=F) (h:F<100000000):dl F<=1:=U0 (by simp[BP]; omega)
end Go.Fl

/- Contracts: integers of the package field (long division). -/
namespace Go.Fl
open Go Go.Proofs
open d5 renaming op->tO
open i6 renaming op->rO
set_option maxRecDepth 100000

set_option maxHeartbeats 4000000 in
theorem nR (m n:Nat) (h2:2<=(d6 n).length) (hnm:n<=m) (hm:(d6 m).length<=900000):Ct Tryz.prog 219 [b7 (eL eI) (d6 m),b7 (eL eI) (d6 n)] (y4 [b7 (eL eI) (d6 (m/n)),b7 (eL eI) (d6 (m%n))]):=by
 have h00:([0,0]:List Int).length=2:=rfl
 obtain ⟨F,hF⟩:∃F,F=OP n:=⟨_,rfl⟩
 obtain ⟨x,hx⟩:∃x:Nat,x=((m:Int)*F).natAbs:=⟨_,rfl⟩
 obtain ⟨y,hy⟩:∃y:Nat,y=((n:Int)*F).natAbs:=⟨_,rfl⟩
 obtain ⟨lu,hlu⟩:∃k,k=(d6 x).length:=⟨_,rfl⟩
 obtain ⟨nn,hnn⟩:∃k,k=(d6 y).length:=⟨_,rfl⟩
 have hFr:=sP (n:=n) zo
 rw[<- hF] at hFr
 have hlD:=dU (n:=n) zo
 have hlx:=sR hFr.1 hnm
 have hn0:0<n:=by have:=HK (n:=n); omega
 have hle:=K5 hnm
 have hny:=K5 (n:=n) (m:=y) zo
 have hyx:=K5 (n:=y) (m:=x) zo
 have hdm:dl (m:Int)=(d6 m).length:=rfl
 have hdn:dl (n:Int)=(d6 n).length:=rfl
 have hdF:=I4 (F:=F) zo zo
 have hdx:dl ((m:Int)*F)=lu:=by rw[hlu,hx]; rfl
 have hlb:=w8 (m:Int) F
 have hdx2:(d6 ((m:Int)*F).natAbs).length=lu:=by rw[hlu,hx]
 have hV0:0<val (d6 y):=by rw[w5]; omega
 have hVn:val (d6 y)<BP nn:=by rw[hnn]; exact (w3 y).val1
 have hqF:=XF (a:=100000000) (b:=b6 (d6 n) (((d6 n).length:Int)-1).toNat+1) zo zo
 refine Ct.mk Tryz.func219 rfl Tryz.ntmps219 rfl (fun w J=>?_); refine O3 ?_; refine tO (BA rfl uu rfl uu (fun _=>zo)) rfl rfl ?_; refine i4 ?_; refine Tr.rwI (s:=6) rfl (show _=F from hF.symm) ?_; refine i2 ?_; refine tO (A4 (fun hp=>.cons rfl rfl rfl<|.nil)) rfl rfl ?_; refine i9 ?_; refine jc (O0 F zo) ?_; refine d5.new (DD 34 (fun hp=>pF (m:Int) F zo zo zo) (.se rfl uu rfl GL<|.a rfl uu<|.nil)) rfl rfl rfl rfl ?_; refine tO (uR Tryz.underlying160 rfl (ft:=22) (off:=1) rfl rfl rfl uu rfl) rfl rfl ?_
 refine d5.new (D5 eI 36 (fun hp=>.cons rfl<|.cons rfl<|.nil) rfl rfl rfl rfl) rfl rfl rfl rfl ?_; refine d5.appQ rfl (Nat.zero_add _) rfl rfl (fun _ _=>inferInstance) rfl rfl (by decide) rfl rfl (by have h:([0,0]:List Int).length=2:=rfl; omega) (by have h:([0,0]:List Int).length=2:=rfl; omega) (fun L2 o2 hq2=>?_); refine jl ?_
 obtain rfl:o2=0:=by omega
 obtain rfl:L2=d6 ((m:Int)*F).natAbs++[0,0]:=by simpa using hq2
 refine i4 ?_
 rw[<- hx,<- hlu]
 refine i2 ?_; refine tO (A4 (fun hp=>.cons rfl rfl rfl<|.nil)) rfl rfl ?_; refine i9 ?_; refine jc (O0 F zo) ?_; refine tO (j7 (fun hp=>J7 (n:Int) F zo zo) (.se rfl uu rfl GL<|.a rfl uu<|.nil)) rfl rfl ?_; refine tO (uS Tryz.underlying160 rfl (ft:=22) (off:=1) rfl rfl rfl uu rfl rfl) rfl rfl ?_; refine i4 ?_
 rw[<- hy]
 refine l5 ?_
 rw[<- hnn]
 refine i2 ?_; refine tO (DE rfl uu) rfl rfl ?_; refine i2 ?_; refine tO (fG rfl uu rfl uu) rfl rfl ?_; refine d5.new (PI eI 51 rfl uu rfl uu rfl rfl (fun _=>zo)) rfl rfl rfl rfl ?_; refine l5 ?_; refine tO (Z9 rfl uu) rfl rfl ?_; refine i4 ?_
 refine Tr.for1 (σ:=Nat×List Int×List Int) [⟨6,true,_,_⟩,⟨8,true,_,_⟩] [] (fun (j,u,out)=>[⟨7,true,[34],q8 34 (lu+2)⟩,⟨9,true,[],kI (nn:Int)⟩,⟨10,true,[51],q8 51 (lu+2-nn)⟩,⟨11,true,[],kI ((j:Int)-1)⟩]) (fun (j,u,out)=>[⟨34,[],m9 false 3 eI u (lu+2)⟩,⟨51,[],m9 false 3 eI out (lu+2-nn)⟩]) (fun (j,u,out)=>u.length=lu+2/\out.length=lu+2-nn/\T4 (x:Int) (val (d6 y)) nn u out j) (fun (j,u,out)=>j=0/\u.length=lu+2/\out.length=lu+2-nn/\T4 (x:Int) (val (d6 y)) nn u out 0) (fun (j,u,out)=>j) ((lu+2-nn,d6 x++[0,0],List.replicate (lu+2-nn) 0)) ⟨by rw[List.length_append,<- hlu]; rfl,by simp,by rw[hlu]; exact T4.start (x:=(x:Int)) zo (M6 y) hnn.symm zo (by show nn<=(d6 x).length; omega)⟩ (d7.mk (.conv rfl rfl (fun g v h=>sK zo h) rfl<|.i rfl zi<|.o rfl (by split<;>omega) rfl<|.i rfl (by split<;>omega)<|zk) (.a zi zi<|.a (by congr 1; split<;>omega) (by split<;>omega)<|.nil) rfl) ?_ ?_
 ·rintro ⟨j,u,out⟩ ⟨hul,hol,hR⟩
  refine jn ?_; refine l5 ?_; refine jq ?_ ?_
  ·intro h7
   obtain ⟨j0,rfl⟩:∃j0,j=j0+1:=⟨j-1,by omega⟩
   have hjo:=hR.jo
   obtain ⟨hg1,hg2,hvt,hz,hvlt⟩:=hR.gs (M6 y) hnn.symm zo
   have hT0:0<=val (u.drop j0):=Dg.val0 fun z hz=>hR.dg z (List.mem_of_mem_drop hz)
   have e1:((j0:Int)+nn-1).toNat=j0+nn-1:=by omega
   have e2:((nn:Int)-1).toNat=nn-1:=by omega
   have hu1:=hR.dg.at (i:=j0+nn) zo
   have hu2:=hR.dg.at (i:=((j0:Int)+nn-1).toNat) zo
   have hvt2:0<b6 (d6 y) ((nn:Int)-1).toNat:=by rw[e2]; exact hvt
   have hq0:=XF (a:=b6 u (j0+nn)*100000000+b6 u ((j0:Int)+nn-1).toNat) zo hvt2
   refine Tr.rwI (s:=11) rfl (show (((j0+1:Nat):Int)-1)=(j0:Int) by omega) ?_; refine o0 ?_; refine Tr.draw 20 q9 (by kernel_rfl) ?_; refine UT ?_; refine tO (BA rfl uu rfl uu (fun _=>zo)) rfl rfl ?_; refine tO (fH rfl uu rfl uu) rfl rfl ?_; refine i4 ?_
   obtain ⟨g,hg⟩:∃g,g=HN (b6 u (j0+nn)) (b6 u ((j0:Int)+nn-1).toNat) (b6 (d6 y) ((nn:Int)-1).toNat):=⟨_,rfl⟩
   refine Tr.rwI (s:=12) rfl (show _=g from hg.symm) ?_
   have hgr:=rJ hu1.1 hu2.1 hvt2
   rw[<- hg] at hgr
   have hgT:val (u.drop j0)/val (d6 y)<=g:=by rw[hg]; exact rI hu1.1 hu2.1 (by rw[e1,e2]; exact hg1)
   refine C6 ?_
   refine Tr.for1 (σ:=Nat×List Int×Int) [⟨6,true,_,_⟩,⟨7,true,_,_⟩,⟨8,true,_,_⟩,⟨9,true,_,_⟩,⟨10,true,_,_⟩,⟨11,true,_,_⟩,⟨12,true,_,_⟩,⟨81,true,_,_⟩] [⟨51,_,_⟩] (fun (i,u1,c)=>[⟨13,true,[],kI c⟩,⟨82,true,[],kI (i:Int)⟩]) (fun (i,u1,c)=>[⟨34,[],m9 false 3 eI u1 (lu+2)⟩]) (fun (i,u1,c)=>i<=nn/\N5 u (d6 y) j0 (-g) u1 i c) (fun (i,u1,c)=>N5 u (d6 y) j0 (-g) u1 nn c) (fun (i,u1,c)=>nn-i) ((0,u,0)) ⟨by omega,N5.start⟩ (d7.mk (.i rfl zi<|.i rfl zi<|zk) (.a zi zi<|zk) rfl) ?_ ?_
   ·rintro ⟨i,u1,c⟩ ⟨hi,hS⟩
    refine jn ?_
    have hsl:=hS.len
    have hcb:=hS.cb
    refine n7 ?_; refine jq ?_ ?_
    ·intro h12
     refine C6 ?_; refine Tr.draw 20 q9 (by kernel_rfl) ?_
     obtain ⟨s1,s2⟩:=hS.next (w3 y) ⟨zo,zo⟩ zo zo (hR.dg.at zo)
     have hb:=N5.b (w3 y) (s:=-g) ⟨zo,zo⟩ (show i<(d6 y).length by omega)
     have hng:-g*b6 (d6 y) i=-(g*b6 (d6 y) i):=Int.neg_mul _ _
     have hu3:b6 u1 (i+j0)=b6 u (j0+i):=by rw[Nat.add_comm]; exact s1
     have hu4:=hR.dg.at (i:=j0+i) zo
     have hval:b6 u1 (i+j0)-g*b6 (d6 y) i+c=b6 u (j0+i)+-g*b6 (d6 y) i+c:=by omega
     refine O3 ?_; refine rO (j7 (fun hp=>NA _ zo) (.a rfl uu<|.nil)) rfl rfl ?_; refine dI ?_
     exact g8.lp ((i+1,u1.set (j0+i) ((b6 u (j0+i)+-g*b6 (d6 y) i+c)%100000000),(b6 u (j0+i)+-g*b6 (d6 y) i+c)/100000000)) ⟨by omega,s2⟩ (by show nn-(i+1)<nn-i; omega) (d7.mk (.i rfl (by rw[hval])<|.i rfl zi<|zk) (.a (by rw[hval,Nat.add_comm i j0]) zi<|zk) rfl)
    ·intro h12
     replace h12:=Int.not_lt.1 h12
     refine i4 ?_
     exact g8.cut ((i,u1,c)) (by obtain rfl:i=nn:=zo; exact hS) (d7.mk (.i rfl zi<|.i rfl zi<|zk) (.a zi zi<|zk) rfl)
   ·rintro ⟨i,u1,c⟩ hS
    refine je ?_
    have hsl:=hS.len
    have hcb:=hS.cb
    have hst:=hS.same (j0+nn) (.inr (Nat.le_refl _))
    refine O3 ?_
    refine Tr.for (σ:=List Int×Int) [⟨6,true,_,_⟩,⟨7,true,_,_⟩,⟨8,true,_,_⟩,⟨9,true,_,_⟩,⟨10,true,_,_⟩,⟨11,true,_,_⟩] [⟨51,_,_⟩] (fun (u2,g2)=>[⟨12,true,[],kI g2⟩]) (fun (u2,g2)=>[⟨34,[],m9 false 3 eI u2 (lu+2)⟩]) (fun (u2,g2)=>M3 u j0 nn (val (u.drop j0)) (val (d6 y)) u2 g2) (fun (u2,g2)=>M3 u j0 nn (val (u.drop j0)) (val (d6 y)) u2 g2/\0<=b6 u2 (j0+nn)) (fun (u2,g2)=>g2.toNat) ((u1.set (j0+nn) (b6 u1 (j0+nn)+c),g)) (M3.mk' hR zo hS hnn.symm rfl hz hgT hgr.2) (d7.mk (.i rfl zi<|zk) (.a zi zi<|zk) rfl) ?_ ?_
    ·rintro ⟨u2,g2⟩ hW
     refine jn ?_
     have hwl:=hW.len
     have hwg:=hW.g1
     have hwb:=hW.bd zo rfl hT0 hV0 hVn
     refine z5 ?_; refine jq ?_ ?_
     ·intro h18
      have hlt:=hW.lt zo rfl h18 hV0
      refine sF ?_
      refine Tr.for1 (σ:=Nat×List Int×Int) [⟨6,true,_,_⟩,⟨7,true,_,_⟩,⟨8,true,_,_⟩,⟨9,true,_,_⟩,⟨10,true,_,_⟩,⟨11,true,_,_⟩,⟨12,true,_,_⟩,⟨130,true,_,_⟩] [⟨51,_,_⟩] (fun (i,u3,c3)=>[⟨13,true,[],kI c3⟩,⟨131,true,[],kI (i:Int)⟩]) (fun (i,u3,c3)=>[⟨34,[],m9 false 3 eI u3 (lu+2)⟩]) (fun (i,u3,c3)=>i<=nn/\N5 u2 (d6 y) j0 1 u3 i c3) (fun (i,u3,c3)=>N5 u2 (d6 y) j0 1 u3 nn c3) (fun (i,u3,c3)=>nn-i) ((0,u2,0)) ⟨by omega,N5.start⟩ (d7.mk (.i rfl zi<|.i rfl zi<|zk) (.a zi zi<|zk) rfl) ?_ ?_
      ·rintro ⟨i,u3,c3⟩ ⟨hi,hS3⟩
       refine jn ?_
       have hsl3:=hS3.len
       have hcb3:=hS3.cb
       refine n7 ?_; refine jq ?_ ?_
       ·intro h22
        refine C6 ?_; refine Tr.draw 18 q9 (by kernel_rfl) ?_
        have hu4:=hW.dg (j0+i) zo zo
        obtain ⟨t1,t2⟩:=hS3.next (w3 y) ⟨zo,zo⟩ zo zo hu4
        have hvd:=(w3 y).at (i:=i) zo
        have hu3:b6 u3 (i+j0)=b6 u2 (j0+i):=by rw[Nat.add_comm]; exact t1
        have hval3:b6 u3 (i+j0)+b6 (d6 y) i+c3=b6 u2 (j0+i)+1*b6 (d6 y) i+c3:=by omega
        refine D3 ?_; refine rO (j7 (fun hp=>NA _ zo) (.a rfl uu<|.nil)) rfl rfl ?_; refine dI ?_
        exact g8.lp ((i+1,u3.set (j0+i) ((b6 u2 (j0+i)+1*b6 (d6 y) i+c3)%100000000),(b6 u2 (j0+i)+1*b6 (d6 y) i+c3)/100000000)) ⟨by omega,t2⟩ (by show nn-(i+1)<nn-i; omega) (d7.mk (.i rfl (by rw[hval3])<|.i rfl zi<|zk) (.a (by rw[hval3,Nat.add_comm i j0]) zi<|zk) rfl)
       ·intro h22
        replace h22:=Int.not_lt.1 h22
        refine i4 ?_
        exact g8.cut ((i,u3,c3)) (by obtain rfl:i=nn:=zo; exact hS3) (d7.mk (.i rfl zi<|.i rfl zi<|zk) (.a zi zi<|zk) rfl)
      ·rintro ⟨i,u3,c3⟩ hS3
       refine je ?_
       have hsl3:=hS3.len
       have hcb3:=hS3.cb
       have hst3:=hS3.same (j0+nn) (.inr (Nat.le_refl _))
       refine B4 ?_
       exact g8.lp ((u3.set (j0+nn) (b6 u3 (j0+nn)+c3),g2-1)) (hW.back zo rfl h18 hV0 hS3 hnn.symm rfl) (by show (g2-1).toNat<g2.toNat; omega) (d7.mk (.i rfl zi<|zk) (.a zi zi<|zk) rfl)
     ·intro h18
      replace h18:=Int.not_lt.1 h18
      refine i4 ?_
      exact g8.cut ((u2,g2)) ⟨hW,by omega⟩ (d7.mk (.i rfl zi<|zk) (.a zi zi<|zk) rfl)
    ·rintro ⟨u2,g2⟩ ⟨hW,hW0⟩
     refine jn ?_
     have hwl:=hW.len
     have hwg:=hW.g1
     refine B4 ?_
     exact g8.lp ((j0,u2,out.set j0 g2)) ⟨by rw[hW.len]; exact hul,by rw[List.length_set]; exact hol,hR.next hW zo zo hV0 hVn⟩ (by show j0<j0+1; omega) (d7.mk (.o rfl zi rfl<|.i rfl zi<|.o rfl zi rfl<|.i rfl zi<|zk) (.a zi zi<|.a zi zi<|.nil) rfl)
  ·intro h7
   replace h7:=Int.not_le.1 h7
   refine i4 ?_
   exact g8.cut ((j,u,out)) (by obtain rfl:j=0:=zo; exact ⟨rfl,hul,hol,hR⟩) (d7.mk (.o rfl zi rfl<|.i rfl zi<|.o rfl zi rfl<|.i rfl zi<|zk) (.a zi zi<|.a zi zi<|.nil) rfl)
 ·rintro ⟨_,u,out⟩ ⟨rfl,hul,hol,hR⟩
  refine je ?_
  have hfin:=sQ hFr.1 hx hy hn0 hR
  refine i4 ?_; refine tO (WC (n:=1) (fun ad cap=>NH u ad cap) rfl uu (fun _=>⟨by omega,by simp only[t6]; omega,by have:=T1 (xs:=u); omega⟩)) rfl rfl ?_; refine d5.frzQ 34 [174] ⟨rfl,trivial⟩ ⟨by have:=T1 (xs:=u); omega,by simp only[t6]; omega⟩ rfl ?_; refine jl ?_; refine i9 ?_; refine jc (aX (u.take (l7 u).length) F (by rw[JB]; exact hfin.2.2) (by have:=T1 (xs:=u); rw[List.length_take]; omega) zo) ?_; refine v6 ?_; refine d5.frz 51 [10,179] ⟨rfl,rfl,trivial⟩ (by simp only[t6]; omega) rfl ?_
  refine jl ?_; refine tO (j7 (fun hp=>HI _) (.a rfl uu<|.nil)) rfl rfl ?_; refine n7 ?_; exact d9.res (fn:=Tryz.f219) (ts:=[4,5]) rfl rfl (.r rfl hfin.1<|.r rfl (by rw[JB]; exact hfin.2.1)<|.nil)

end Go.Fl

/- Integers: quotient and rest with signs. Plain Lean, no program in sight. -/
namespace Go.Fl
theorem fP {a b q r:Int} (hb:b≠0) (h:a=b*q+r) (h0:0<=r) (h1:r<b.natAbs):a/b=q/\a%b=r:=by
 rcases Int.lt_or_gt_of_ne hb with hn | hp
 ·have h2:=(Int.ediv_emod_unique (a:=a) (b:=-b) (q:=-q) (r:=r) zo).2 ⟨by rw[Int.neg_mul_neg]; omega,h0,by omega⟩
  rw[Int.ediv_neg,Int.emod_neg] at h2
  exact ⟨by omega,h2.2⟩
 ·exact (Int.ediv_emod_unique hp).2 ⟨by omega,h0,by omega⟩
abbrev AE (a b:Int):Prop:=decide (a<0)≠decide (b<0)
theorem kD {a b z:Int} {Q:Nat} (hz:z=if AE a b then -(Q:Int) else Q):(decide ((0:Int)<((d6 Q).length:Nat))&&decide (decide (a<0)≠decide (b<0)),d6 Q)=wh z:=by
 have hl:=HK (n:=Q)
 by_cases h:AE a b
 ·rw[if_pos h] at hz
  refine EX ?_ (by rw[hz]; congr 1; omega)
  have h2:decide (decide (a<0)≠decide (b<0))=true:=decide_eq_true h
  rw[h2,Bool.and_true,decide_eq_decide]
  omega
 ·rw[if_neg h] at hz
  refine EX ?_ (by rw[hz]; congr 1)
  have h2:decide (decide (a<0)≠decide (b<0))=false:=decide_eq_false h
  rw[h2,Bool.and_false]
  exact (decide_eq_false zo).symm
section
variable {a b:Int}
theorem eF:(a.natAbs:Int)=b.natAbs*((a.natAbs/b.natAbs:Nat):Int)+((a.natAbs%b.natAbs:Nat):Int):=by
 have:=Nat.div_add_mod a.natAbs b.natAbs
 rw[<- Int.natCast_mul,<- Int.natCast_add,this]
theorem AF:AE a b↔((a<0/\¬b<0)\/(¬a<0/\b<0)):=by
 unfold AE
 by_cases h1:a<0<;>by_cases h2:b<0<;>simp[h1,h2]
theorem WF (hb:b≠0) (h:¬(a<0/\0<a.natAbs%b.natAbs)):a/b=(if AE a b then -((a.natAbs/b.natAbs:Nat):Int) else ((a.natAbs/b.natAbs:Nat):Int))/\a%b=((a.natAbs%b.natAbs:Nat):Int):=by
 have e:=eF (a:=a) (b:=b)
 have hlt:a.natAbs%b.natAbs<b.natAbs:=Nat.mod_lt _ zo
 generalize hq:((a.natAbs/b.natAbs:Nat):Int)=q at *
 refine fP hb ?_ zo zo
 have hB:(b.natAbs:Int)=if b<0 then -b else b:=by split<;>omega
 have hA:(a.natAbs:Int)=if a<0 then -a else a:=by split<;>omega
 by_cases h1:a<0<;>by_cases h2:b<0
 ·rw[if_pos h1] at hA; rw[if_pos h2] at hB
  rw[if_neg (by rw[AF]; omega)]
  rw[hA,hB,Int.neg_mul] at e; omega
 ·rw[if_pos h1] at hA; rw[if_neg h2] at hB
  rw[if_pos (by rw[AF]; omega)]
  rw[hA,hB] at e; rw[Int.mul_neg]; omega
 ·rw[if_neg h1] at hA; rw[if_pos h2] at hB
  rw[if_pos (by rw[AF]; omega)]
  rw[hA,hB,Int.neg_mul] at e; rw[Int.mul_neg]; omega
 ·rw[if_neg h1] at hA; rw[if_neg h2] at hB
  rw[if_neg (by rw[AF]; omega)]
  rw[hA,hB] at e; omega
theorem fO (hb:b≠0) (ha:a<0) (hr:0<a.natAbs%b.natAbs):a/b=(if AE a b then -((a.natAbs/b.natAbs+1:Nat):Int) else ((a.natAbs/b.natAbs+1:Nat):Int))/\a%b=(b.natAbs:Int)+-((a.natAbs%b.natAbs:Nat):Int):=by
 have e:=eF (a:=a) (b:=b)
 have hlt:a.natAbs%b.natAbs<b.natAbs:=Nat.mod_lt _ zo
 rw[Int.natCast_add]
 generalize hq:((a.natAbs/b.natAbs:Nat):Int)=q at *
 refine fP hb ?_ zo zo
 have hB:(b.natAbs:Int)=if b<0 then -b else b:=by split<;>omega
 have hA:(a.natAbs:Int)=-a:=by omega
 by_cases h2:b<0
 ·rw[if_pos h2] at hB
  rw[if_neg (by rw[AF]; omega)]
  rw[hA,hB,Int.neg_mul] at e; rw[Int.mul_add]; omega
 ·rw[if_neg h2] at hB
  rw[if_pos (by rw[AF]; omega)]
  rw[hA,hB] at e; rw[Int.mul_neg,Int.mul_add]; omega
end
theorem fJ {n:Nat} (h:(d6 n).length=1):b6 (d6 n) 0=n:=by
 have hv:=w5 n
 match hd:d6 n,h with
 | [x],_=>rw[hd] at hv; simpa [val,b6] using hv
theorem yB {m n:Nat} (h:(d6 n).length=1):d6 (val (d6 m)/b6 (d6 n) 0).toNat=d6 (m/n)/\val (d6 m)%b6 (d6 n) 0=((m%n:Nat):Int):=by
 rw[fJ h,w5]
 exact ⟨by congr 1,by rw[Int.natCast_emod]⟩
theorem qA {x y:Int} (hy:y≠0):dl (x%y)<=dl y:=K5 (by have:=Int.emod_nonneg x hy; have:=Int.emod_lt x hy; omega)
theorem mD {x y:Int} (h:u5 x y<0):x<y:=by unfold u5 at h; split at h<;>(try split at h)<;>omega
theorem mE {x y:Int} (h:0<=u5 x y):y<=x:=by unfold u5 at h; split at h<;>(try split at h)<;>omega
theorem jO:∀{xs:List Int},A5 xs->-(10000000000000000000*BP xs.length-10000000000000000000)<=val xs/\val xs<=10000000000000000000*BP xs.length-10000000000000000000
 | [],_=>by simp[val,BP]
 | x::xs,h=>by
  have h1:=h 0 (by simp)
  have ih:=jO (xs:=xs) fun i hi=>h (i+1) (by simpa using hi)
  have e:b6 (x::xs) 0=x:=rfl
  rw[e] at h1
  rw[val,List.length_cons,R4]
  omega
theorem O1 {xs:List Int} (h:A5 xs):dl (val xs)<=xs.length+3:=by
 refine U0 ?_
 have h1:=jO h
 have h2:=R3 xs.length
 rw[R4,R4,R4]
 omega
theorem TI {n:Int} (h:-9223372036854775808<=n/\n<=9223372036854775807):dl n<=3:=U0 (by simp[BP]; omega)
end Go.Fl

/- Contracts: integers of the package field (quotient and rest, what the package offers). -/
namespace Go.Fl
open Go Go.Proofs
open d5 renaming op->tO
open i6 renaming op->rO
set_option maxRecDepth 100000

set_option maxHeartbeats 2000000 in
theorem TE (a b:Int) (hb0:b≠0) (ha:dl a<=800000) (hb:dl b<=800000):Ct Tryz.prog 206 [b7 eW (wh a),b7 eW (wh b)] (y4 [b7 eW (wh (a/b)),b7 eW (wh (a%b))]):=by
 have hal:(d6 a.natAbs).length=dl a:=rfl
 have hbl:(d6 b.natAbs).length=dl b:=rfl
 have hbp:=(BX (z:=b)).2 hb0
 have hlt:a.natAbs%b.natAbs<b.natAbs:=Nat.mod_lt _ zo
 have hql:=K5 (m:=a.natAbs) (n:=a.natAbs/b.natAbs) (Nat.div_le_self _ _)
 have hrl:=K5 (m:=b.natAbs) (n:=a.natAbs%b.natAbs) zo
 have hrz:=HK (n:=a.natAbs%b.natAbs)
 have hdq:dl ((a.natAbs/b.natAbs:Nat):Int)=(d6 (a.natAbs/b.natAbs)).length:=rfl
 have W9:dl ((a.natAbs%b.natAbs:Nat):Int)=(d6 (a.natAbs%b.natAbs)).length:=rfl
 have hdb:dl (b.natAbs:Int)=dl b:=rfl
 have hd1:=I4 (F:=1) zo zo
 refine Ct.mk Tryz.func206 rfl Tryz.ntmps206 rfl (fun w J=>?_); refine i2 ?_; refine jb 2 rfl ?_; refine jb 3 rfl ?_; refine ja 4 ?_; refine ja 5 ?_; refine i2 ?_; refine Tr.meet2 (σ:=Unit) [⟨2,true,_,_⟩,⟨3,true,_,_⟩,⟨4,true,_,_⟩,⟨5,true,_,_⟩] [⟨2,_,_⟩,⟨3,_,_⟩] (zk) (zk) (fun _=>[]) (fun _=>[⟨4,[],j3 [kB false,b7 (eL eI) (d6 (a.natAbs/b.natAbs))]⟩,⟨5,[],j3 [kB false,b7 (eL eI) (d6 (a.natAbs%b.natAbs))]⟩]) (fun _=>True) ?_ ?_
 ·skip
  refine l5 ?_; refine jc (aZ a.natAbs b.natAbs zo zo) ?_; refine i4 ?_; refine Tr.cnd rfl ?_ ?_
  ·intro h2
   try simp only[decide_eq_true_eq] at h2
   have hc:=mD h2
   refine l5 ?_
   exact g8.cut (()) zi (d7.mk (zk) (.conv (fun _ _ _ h=>lI rfl (by rw[Nat.div_eq_of_lt zo]; rfl) h) rfl<|.conv (fun _ _ _ h=>JX rfl (by rw[Nat.mod_eq_of_lt zo]) h) rfl<|zk) rfl)
  ·intro h2
   try simp only[decide_eq_false_iff_not,Int.not_lt] at h2
   have hc:=mE h2
   refine o9 ?_; refine Tr.cnd rfl ?_ ?_
   ·intro h4
    try simp only[decide_eq_true_eq] at h4
    refine n7 ?_; refine Tr.drawS 11 4 q9 (by kernel_rfl) ?_
    have hd0:=(w3 b.natAbs).at (i:=0) zo
    have h1d:=fJ (n:=b.natAbs) zo
    refine o7.opA (X5 rfl uu) (by kernel_rfl) rfl rfl ?_; refine o7.opA (AZ rfl uu rfl) (by kernel_rfl) rfl rfl ?_; refine o7.opA (X5 rfl uu) (by kernel_rfl) rfl rfl ?_; refine o7.opA (AZ rfl uu rfl) (by kernel_rfl) rfl rfl ?_
    first | refine o7.opA (I0 rfl uu rfl uu rfl (fun _=>zo)) (by kernel_rfl) rfl rfl ?_ | refine o7.opA (AY rfl uu rfl uu rfl (fun _=>zo)) (by kernel_rfl) rfl rfl ?_
    refine o7.opA (K1 rfl uu rfl) (by kernel_rfl) rfl rfl ?_; refine o7.opA (j7 (fun hp=>aX (d6 a.natAbs) (b6 (d6 b.natAbs) 0) (w3 _) zo zo) (.a rfl uu<|.a rfl uu<|.nil)) (by kernel_rfl) rfl rfl ?_; refine o7.opA (H3 rfl uu) (by kernel_rfl) rfl rfl ?_; refine o7.opA (IC rfl uu rfl) (by kernel_rfl) rfl rfl ?_; refine o7.op (IC rfl uu rfl) rfl rfl ?_; refine o7.opA (X5 rfl uu) (by kernel_rfl) rfl rfl ?_; refine o7.z (EU rfl rfl rfl) rfl rfl rfl ?_; refine i4 ?_
    have sh:=yB (m:=a.natAbs) (n:=b.natAbs) zo
    refine i9 ?_; refine tO (j7 (fun hp=>O0 _ (by rw[sh.2]; omega)) (.a rfl uu<|.nil)) rfl rfl ?_; refine j9 ?_
    exact g8.cut (()) zi (d7.mk (zk) (.conv (fun _ _ _ h=>JX rfl sh.1 h) rfl<|.conv (fun _ _ _ h=>JX (by rw[sh.2]; exact decide_eq_false zo) (by rw[sh.2]; rfl) h) rfl<|zk) rfl)
   ·intro h4
    try simp only[decide_eq_false_iff_not] at h4
    refine o0 ?_; refine jc (nR a.natAbs b.natAbs zo zo zo) ?_; refine o9 ?_
    exact g8.cut (()) zi (d7.mk (zk) (.conv (fun _ _ _ h=>JX rfl rfl h) rfl<|.conv (fun _ _ _ h=>JX rfl rfl h) rfl<|zk) rfl)
 ·intro _ hM
  refine jn ?_; refine D3 ?_; refine Tr.cnd rfl ?_ ?_
  ·intro h8
   try simp only[decide_eq_true_eq,Bool.and_eq_true] at h8
   have hrp:0<a.natAbs%b.natAbs:=by omega
   obtain ⟨o1,o2⟩:=fO hb0 h8.1 hrp
   refine i9 ?_; refine Tr.draw 2 q9 (by kernel_rfl) ?_; refine i9 ?_; refine jd (O0 1 zo) ?_; refine i9 ?_; refine tO (j7 (fun hp=>T7 ((a.natAbs/b.natAbs:Nat):Int) 1 zo zo) (.se rfl uu rfl GL<|.a rfl uu<|.nil)) rfl rfl ?_; refine j9 ?_; refine Tr.draw 5 q9 (by kernel_rfl) ?_; refine i2 ?_; refine rO (A4 (fun hp=>.cons rfl rfl rfl<|.nil)) rfl rfl ?_; refine i9 ?_; refine rO (j7 (fun hp=>CS ((a.natAbs%b.natAbs:Nat):Int)) (.se rfl uu rfl GL<|.nil)) rfl rfl ?_; refine i9 ?_; refine tO (j7 (fun hp=>T7 (b.natAbs:Int) (-((a.natAbs%b.natAbs:Nat):Int)) zo (by rw[K6]; omega)) (.se rfl uu rfl GL<|.a rfl uu<|.nil)) rfl rfl ?_
   refine B4 ?_; refine d5.gd rfl rfl rfl (PK rfl id rfl id) rfl rfl ?_; refine n7 ?_; refine Tr.drawS 2 4 q9 (by kernel_rfl) ?_; refine o7.opA (O6 rfl uu) (by kernel_rfl) rfl rfl ?_; refine o7.op (O6 rfl uu) rfl rfl ?_; refine o7.z (EU rfl rfl rfl) rfl rfl rfl ?_; refine i4 ?_; exact d9.resC2 (fn:=Tryz.f206) rfl rfl rfl (u8 rfl (kD o1)) (u8 rfl (by rw[o2]; rfl))
  ·intro h8
   try simp only[decide_eq_true_eq,decide_eq_false_iff_not,Bool.and_eq_false_imp,Int.not_lt] at h8
   obtain ⟨o1,o2⟩:=WF hb0 (fun hh=>by have:=h8 hh.1; omega)
   refine D3 ?_; refine d5.gd rfl rfl rfl (PK rfl id rfl id) rfl rfl ?_; refine n7 ?_; refine Tr.drawS 2 4 q9 (by kernel_rfl) ?_; refine o7.opA (O6 rfl uu) (by kernel_rfl) rfl rfl ?_; refine o7.op (O6 rfl uu) rfl rfl ?_; refine o7.z (EU rfl rfl rfl) rfl rfl rfl ?_; refine i4 ?_; exact d9.resC2 (fn:=Tryz.f206) rfl rfl rfl (u8 rfl (kD o1)) (u8 rfl (by rw[o2]; exact GL))

theorem ZY (a b:Int) (ha:dl a<=800000) (hb:dl b<=800000):Ct Tryz.prog 203 [b7 eW (wh a),b7 eW (wh b)] (kI (u5 a b)):=by
 refine Ct.mk Tryz.func203 rfl Tryz.ntmps203 rfl (fun w J=>?_); refine i2 ?_; refine jb 2 rfl ?_; refine jb 3 rfl ?_; refine i4 ?_; refine Tr.draw 3 q9 (by kernel_rfl) ?_; refine i2 ?_; refine jd (CS b) ?_; refine i9 ?_; refine jc (T7 a (-b) zo (by rw[K6]; omega)) ?_; refine jc (AO (a+-b)) ?_; refine i4 ?_; exact d9.res1 (fn:=Tryz.f203) rfl (.i rfl (by rw[<- Int.sub_eq_add_neg]; exact mF)<|.nil)

end Go.Fl

/- Integers: what the contracts of the reference's integers lean on. Plain Lean, no program in sight. -/
namespace Go.Fl
def T0 (xs:List Int) (neg:Bool):List Int:=if neg=true then (l7 xs).map (fun x=>-x) else l7 xs
theorem xQ {xs:List Int} {neg:Bool} (h:neg=true):P7 (l7 xs) (l7 xs).length=T0 xs neg:=by unfold T0; rw[if_pos h,eH]
theorem xP {xs:List Int} {neg:Bool} (h:neg=false):l7 xs=T0 xs neg:=by unfold T0; rw[if_neg (by rw[h]; simp)]
theorem jF {xs:List Int} (h:Nm xs):l7 xs=xs:=by
 have h0:=h.dg.val0
 have e:val xs=((val xs).toNat:Nat):=by omega
 rw[CM h.dg e]
 exact (NL h e).symm
theorem XH:∀{xs:List Int},l7 (xs.map fun x=>-x)=(l7 xs).map fun x=>-x
 | []=>rfl
 | x::xs=>by
  rw[List.map_cons,l7,l7,XH]
  by_cases h:l7 xs=[]/\x=0
  ·rw[if_pos h,if_pos ⟨by rw[h.1]; rfl,by omega⟩]; rfl
  ·rw[if_neg h,if_neg (fun hh=>h ⟨by simpa using hh.1,by omega⟩)]; rfl
theorem jD (z:Int):l7 (j6 z)=j6 z:=by
 unfold j6
 split
 ·rw[XH,jF (M6 _)]
 ·exact jF (M6 _)
theorem OQ {z:Int} (h:0<=z):j6 z=d6 z.toNat:=by unfold j6; rw[if_neg zo]; congr 1; omega
theorem OR (n:Nat):j6 (n:Int)=d6 n:=OQ zo
theorem tA {z:Int} (h:0<=z):Nm (j6 z):=by rw[OQ h]; exact M6 _
theorem VE:∀(xs:List Int),(xs.map fun x=>-x).map (fun x=>-x)=xs
 | []=>rfl
 | x::xs=>by rw[List.map_cons,List.map_cons,VE,Int.neg_neg]
theorem xR (z:Int):T0 (j6 z) true=j6 (-z):=by
 unfold T0
 rw[if_pos rfl,jD]
 by_cases h:z=0
 ·subst h; rfl
 ·unfold j6
  by_cases h1:z<0
  ·rw[if_pos h1,if_neg zo,VE,Int.natAbs_neg]
  ·rw[if_neg h1,if_pos zo,Int.natAbs_neg]
theorem xS (z:Int):T0 (j6 z) (decide (z<0))=d6 z.natAbs:=by
 unfold T0
 rw[jD]
 unfold j6
 by_cases h:z<0
 ·rw[if_pos h,if_pos (by simpa using h),VE]
 ·rw[if_neg h,if_neg (by simpa using h)]
theorem VD {z:Int}:(j6 z).length=0↔z=0:=by rw[F0]; exact F5
theorem sY {z:Int} (h:0<(j6 z).length):b6 (j6 z) (((j6 z).length:Int)-1).toNat<0↔z<0:=by
 have e:(((j6 z).length:Int)-1).toNat=(j6 z).length-1:=by omega
 rw[e]
 rw[F0] at h ⊢
 have ht:=(M6 z.natAbs).top (by exact h)
 unfold j6
 by_cases h1:z<0
 ·rw[if_pos h1,FS (show dl z-1<(d6 z.natAbs).length by unfold dl at h ⊢; omega)]
  unfold dl
  omega
 ·rw[if_neg h1]
  unfold dl
  omega
theorem tV {z:Int} (h:0<(j6 z).length->(b6 (j6 z) (((j6 z).length:Int)-1).toNat<0↔z<0)):(decide ((0:Int)<((j6 z).length:Nat))&&decide (b6 (j6 z) (((j6 z).length:Int)-1).toNat<0))=decide (z<0):=by
 by_cases h0:0<(j6 z).length
 ·rw[decide_eq_true (show (0:Int)<((j6 z).length:Nat) by omega),Bool.true_and,decide_eq_decide]
  exact h h0
 ·have:z=0:=VD.1 zo
  subst this
  rfl
theorem uD {xs:List Int} {i:Nat} (hi:xs.length<=i) (h:(r8 xs i).2=0):l7 (r8 xs i).1=j6 (val xs):=by
 have h1:=gH hi h
 have h2:=gD hi h
 have h0:=(X9 (xs:=xs) (i:=i)).val0
 rw[OQ zo]
 exact CM X9 zo
theorem eK {xs ds:List Int} (h:(true,l7 ds)=wh (val xs)):T0 ds true=j6 (val xs):=by
 unfold wh at h
 have h1:true=decide (val xs<0):=congrArg Prod.fst h
 have h2:l7 ds=d6 (val xs).natAbs:=congrArg Prod.snd h
 unfold T0 j6
 rw[if_pos rfl,if_pos (of_decide_eq_true h1.symm),h2]
theorem ZG {ds:List Int} {k:Nat} (h:k=ds.length):n6 k (N9 ds)=E2 ds k:=by
 subst h
 unfold E2
 exact z8 fun j hj=>by rw[if_pos hj]
theorem uC {xs:List Int} {i:Nat} (hi:xs.length<=i) (h:(r8 xs i).2=-1) (hb:bw (r8 xs i).1 i≠0):T0 (n6 i (N9 (r8 xs i).1)) true=j6 (val xs):=by
 rw[ZG U9.symm]; exact eK (gG hi h hb)
theorem uB {xs:List Int} {i:Nat} (hi:xs.length<=i) (h:(r8 xs i).2=-1) (hb:bw (r8 xs i).1 i=0):T0 (n6 i (N9 (r8 xs i).1)++[1]) true=j6 (val xs):=by
 rw[ZG U9.symm]; exact eK (gF hi h hb)
def FG (xs ys:List Int) (n:Nat):List Int:=n6 n fun i=>z9 xs i+z9 ys i
theorem jR {f g:Nat->Int}:∀{n:Nat},val (n6 n fun i=>f i+g i)=val (n6 n f)+val (n6 n g)
 | 0=>rfl
 | n+1=>by
  rw[H4,H4,H4,V4,V4,V4,jR,t7,t7,t7,Int.mul_add]; omega
theorem XP {xs:List Int}:∀{n:Nat},val (n6 n (z9 xs))=val (xs.take n)
 | 0=>rfl
 | n+1=>by rw[H4,V4,t7,XP,BJ]
theorem kO {xs ys:List Int} {n:Nat} (h1:xs.length<=n) (h2:ys.length<=n):val (FG xs ys n)=val xs+val ys:=by
 unfold FG
 rw[jR,XP,XP,List.take_of_length_le h1,List.take_of_length_le h2]
theorem kN {x y:Int} {n:Nat}:A5 (FG (j6 x) (j6 y) n):=fun i hi=>by
 unfold FG at hi ⊢
 rw[t7] at hi
 rw[s8 hi]
 have b:∀z:Int,∀j,-100000000<z9 (j6 z) j/\z9 (j6 z) j<100000000:=fun z j=>by
  unfold z9
  split
  ·rename_i hj
   rw[F0] at hj
   have:=(w3 z.natAbs).at (i:=j) hj
   unfold j6
   split
   ·rw[FS hj]; omega
   ·omega
  ·omega
 have:=b x i; have:=b y i
 omega
theorem CZ {z:Int} {j:Nat} (hj:j<(j6 z).length):-100000000<b6 (j6 z) j/\b6 (j6 z) j<100000000:=by
 rw[F0] at hj
 have:=(w3 z.natAbs).at (i:=j) hj
 unfold j6
 split
 ·rw[FS hj]; omega
 ·omega
theorem eB {x y:Int} (hx:-100000000<x/\x<100000000) (hy:-100000000<y/\y<100000000):-10000000000000000<=x*y/\x*y<=10000000000000000:=by
 have h:(x*y).natAbs<=100000000*100000000:=by rw[Int.natAbs_mul]; exact Nat.mul_le_mul zo zo
 omega
def O4 (xs ys:List Int) (i k:Nat):List Int:=List.replicate i 0++n6 k fun j=>b6 xs i*b6 ys j
theorem VJ {xs ys:List Int} {i k:Nat}:(O4 xs ys i k).length=i+k:=by unfold O4; rw[List.length_append,List.length_replicate,t7]
theorem tL {xs ys:List Int} {i k:Nat}:O4 xs ys i k++[b6 xs i*b6 ys k]=O4 xs ys i (k+1):=by unfold O4; rw[H4,List.append_assoc]
theorem tN {xs ys:List Int} {i:Nat}:List.replicate i 0=O4 xs ys i 0:=by unfold O4; simp[n6]
theorem jP {c:Int} {ys:List Int}:∀{k:Nat},k<=ys.length->val (n6 k fun j=>c*b6 ys j)=c*val (ys.take k)
 | 0,_=>by simp[n6,val]
 | k+1,h=>by rw[H4,V4,t7,jP zo,BJ,R2 zo,Int.mul_add,Int.mul_left_comm]
theorem tM {xs ys:List Int} {i:Nat}:val (O4 xs ys i ys.length)=BP i*(b6 xs i*val ys):=by
 unfold O4
 rw[JC,QW,List.length_replicate,jP (Nat.le_refl _),List.take_length]; omega
theorem tK {x y:Int} {i k:Nat} (hi:i<(j6 x).length) (hk:k<=(j6 y).length):A5 (O4 (j6 x) (j6 y) i k):=fun j hj=>by
 rw[VJ] at hj
 have hm:b6 (O4 (j6 x) (j6 y) i k) j∈O4 (j6 x) (j6 y) i k:=F7 (by rw[VJ]; exact hj)
 unfold O4 at hm
 rcases List.mem_append.1 hm with h | h
 ·have e:=List.eq_of_mem_replicate h
  unfold O4; omega
 ·obtain ⟨q,hq,e⟩:=AW h
  unfold O4
  rw[t7] at hq
  rw[s8 hq] at e
  have:=eB (CZ hi) (CZ (z:=y) (j:=q) zo)
  omega
theorem tQ {xs ys:List Int} {i:Nat} (h:i<xs.length):val (xs.take i)*val ys+val (O4 xs ys i ys.length)=val (xs.take (i+1))*val ys:=by
 rw[tM,BJ,R2 h,Int.add_mul,Int.mul_assoc]
theorem sO {a b:List Int} (ha:Nm a) (hb:Nm b) (h:a.length≠b.length):decide ((a.length:Int)<(b.length:Nat))=decide (val a<val b):=by
 rw[decide_eq_decide]
 rcases Nat.lt_or_gt_of_ne h with h1 | h1
 ·have:=MV ha hb h1
  omega
 ·have:=MV hb ha h1
  omega
theorem sN {a b:List Int} (ha:Dg a) (hb:Dg b) (hl:a.length=b.length) {i:Nat} (hi:i<a.length) (h:∀j,i<j->j<a.length->b6 a j=b6 b j) (hne:b6 a i≠b6 b i):decide (b6 a i<b6 b i)=decide (val a<val b):=by
 rw[decide_eq_decide]
 rcases Int.lt_or_gt_of_ne hne with h1 | h1
 ·have:=MU ha hb hl hi h h1
  omega
 ·have:=MU hb ha hl.symm zo (fun j h2 h3=>(h j h2 zo).symm) h1
  omega
theorem sM {a b:List Int} (hl:a.length=b.length) (h:∀j,0<=j->j<a.length->b6 a j=b6 b j):false=decide (val a<val b):=by
 rw[ZH hl fun j hj=>h j (Nat.zero_le _) hj]
 exact (decide_eq_false (Int.lt_irrefl _)).symm
theorem qN {r x:Int} (hr:0<=r) (hx:0<=x/\x<100000000):l7 (x::d6 r.toNat)=d6 (r*100000000+x).toNat:=by
 refine CM (fun y hy=>?_) ?_
 ·rcases List.mem_cons.1 hy with rfl | hy
  ·exact hx
  ·exact w3 _ y hy
 ·rw[val,w5]; omega
theorem qH {T n:Int} (_:0<n):(T-n*(T/n))=T%n:=by have:=Int.mul_ediv_add_emod T n; omega
theorem qL {T n m:Int} (hn:0<n) (h:¬T<n*m):m<=T/n:=Int.le_ediv_of_mul_le hn (by rw[Int.mul_comm]; omega)
theorem qK {T n m:Int} (hn:0<n) (h:T<n*m):T/n<=m-1:=by have:=Int.ediv_lt_of_lt_mul hn (show T<m*n by rw[Int.mul_comm]; exact h); omega
def RM (xs:List Int):Prop:=∀x∈xs,-100000000<x/\x<100000000
theorem Dg.sm {xs:List Int} (h:Dg xs):RM xs:=fun x hx=>by have:=h x hx; omega
theorem dZ (z:Int):RM (j6 z):=fun x hx=>by
 obtain ⟨j,hj,rfl⟩:=AW hx
 exact CZ hj
theorem MS {ds:List Int} (h:Dg ds) {k:Nat} (hk:k=ds.length):Dg (n6 k (N9 ds)):=fun x hx=>by
 obtain ⟨j,hj,rfl⟩:=AW hx
 rw[t7] at hj
 rw[s8 hj]; exact SM h zo
theorem xO {xs:List Int} {neg:Bool} {i:Nat} (hi:i<=(l7 xs).length) (hg:0<i->neg=true) (h:i<(l7 xs).length->neg=false):P7 (l7 xs) i=T0 xs neg:=by
 cases hn:neg with
 | true =>
  have e:i=(l7 xs).length:=by
   rcases Nat.lt_or_ge i (l7 xs).length with h1 | h1
   ·rw[h h1] at hn; cases hn
   ·omega
  rw[e]; exact xQ rfl
 | false =>
  have e:i=0:=by
   rcases Nat.eq_zero_or_pos i with h1 | h1
   ·exact h1
   ·rw[hg h1] at hn; cases hn
  rw[e,<- VS]; exact xP rfl
theorem A5.take {xs:List Int} (h:A5 xs) (n:Nat):A5 (xs.take n):=fun j hj=>by
 rw[List.length_take] at hj
 rw[fB zo]; exact h j zo
theorem qM {m n:Nat} {o:List Int} {R:Int} {i:Nat} (h:L1 (d6 m) o (n:Int) (i+1) R) (hi:i<(d6 m).length):0<=R*100000000+b6 (d6 m) i/\0<=(R*100000000+b6 (d6 m) i)/n/\(R*100000000+b6 (d6 m) i)/n<100000000:=by
 have h1:=h.q (w3 m) hi
 have h2:=(w3 m).at hi
 have h3:=h.r0
 exact ⟨by omega,h1.1,h1.2.1⟩
theorem bV {m n:Nat} {o:List Int} {R:Int} (h:L1 (d6 m) o (n:Int) 0 R):l7 o=d6 (m/n)/\d6 R.toNat=d6 (m%n):=by
 have h1:=h.fin
 rw[w5] at h1
 refine ⟨h1.1,?_⟩
 rw[h1.2]
 congr 1
theorem qJ {T:Int} {n:Nat} (h:(T/n)<100000000) (hn:0<n) (h0:0<=T):dl T<=dl (n:Int)+1:=by
 refine U0 ?_
 have h1:=HL (n:Int)
 have h2:=Int.lt_mul_of_ediv_lt (show (0:Int)<n by omega) h
 rw[R4]
 have:(T.natAbs:Int)=T:=by omega
 omega
theorem qI {R:Int} {n:Nat} (h:0<=R/\R<n):dl R<=dl (n:Int):=K5 zo
theorem bI {z:Int} (h:0<=z):(d6 z.toNat).length=dl z:=by unfold dl; congr 2; omega
theorem rE {x y:Nat}:Nat.gcd y (x%y)=Nat.gcd x y:=by rw[Nat.gcd_comm,<- Nat.gcd_rec,Nat.gcd_comm]
theorem KM {x:Int} (h:-9223372036854775808<=x/\x<=9223372036854775807):A5 [x]:=fun j hj=>by
 have e:j=0:=by simpa using hj
 subst e
 exact h
theorem TJ {q:Nat}:(j6 (val (j6 (-val (d6 q)))-val [1])).length<=dl (q:Int)+2:=by
 rw[F0,I6,BM,w5,Int.sub_eq_add_neg]
 have h1:=T9 (-(q:Int)) (-1)
 rw[K6] at h1
 have h2:dl (-1)<=1:=I4 (F:=1) zo zo
 omega
theorem TK {q:Nat}:(j6 (-val (d6 q))).length=dl (q:Int):=by rw[F0,w5,K6]
end Go.Fl

/- Contracts: integers of the reference of chapter 1. -/
namespace Go.Fl
open Go Go.Proofs
open d5 renaming op->tO
open i6 renaming op->rO
set_option maxRecDepth 100000

theorem SZ (n:Int) (hn:-9223372036854775808<=n/\n<=9223372036854775807):Ct Tryz.prog 174 [kI n] (y4 [kI (n/100000000),kI (n%100000000)]):=by
 obtain ⟨hq1,hq2,hq3⟩:=LO n
 refine Ct.mk Tryz.func174 rfl Tryz.ntmps174 rfl (fun w J=>?_); refine o9 ?_; refine tO (BA rfl uu rfl uu (fun _=>zo)) rfl rfl ?_; refine i9 ?_; refine tO (EN rfl uu rfl uu (fun _=>zo)) rfl rfl ?_; refine C6 ?_; refine jq ?_ ?_
 ·intro h2
  refine z5 ?_; exact d9.res (fn:=Tryz.f174) (ts:=[2,3]) rfl rfl (.i rfl zo<|.i rfl zo<|.nil)
 ·intro h2
  replace h2:=Int.not_lt.1 h2
  refine C6 ?_; exact d9.res (fn:=Tryz.f174) (ts:=[2,3]) rfl rfl (.i rfl zo<|.i rfl zo<|.nil)

theorem TA (xs:List Int) (hn:xs.length<=10000000):Ct Tryz.prog 175 [b7 (eL eI) xs] (b7 (eL eI) (l7 xs)):=by
 refine Ct.mk Tryz.func175 rfl Tryz.ntmps175 rfl (fun w J=>?_); refine z5 ?_
 refine Tr.for (σ:=Nat) [⟨0,true,_,_⟩] [] (fun m=>[⟨3,true,[],kI (m:Int)⟩]) (fun m=>[]) (fun m=>m<=xs.length/\∀i,m<=i->i<xs.length->b6 xs i=0) (fun m=>m<=xs.length/\l7 xs=xs.take m) (fun m=>m) (xs.length) ⟨by omega,fun i h1 h2=>absurd h1 zo⟩ (d7.mk (.i rfl zi<|zk) (.nil) rfl) ?_ ?_
 ·rintro m ⟨hm,hz⟩
  refine jn ?_
  have e1:0<m->((m:Int)-1).toNat=m-1:=fun h=>by omega
  refine l6 ?_; refine d5.gd rfl rfl rfl (BB rfl id rfl uu (fun hp=>by simp at hp; omega)) rfl rfl ?_
  first | refine d5.gd rfl rfl rfl (I0 rfl id rfl id rfl (fun hp=>by simp at hp; omega)) rfl rfl ?_ | refine d5.gd rfl rfl rfl (AY rfl id rfl id rfl (fun hp=>by simp at hp; omega)) rfl rfl ?_
  refine o0 ?_; refine Tr.cnd rfl ?_ ?_
  ·intro h2
   try simp only[decide_eq_true_eq,Bool.and_eq_true] at h2
   refine o9 ?_
   exact g8.lp (m-1) ⟨by omega,fun i h3 h4=>by (by_cases e:i=m-1; subst e; rw[<- e1 zo]; exact h2.2; exact hz i zo h4)⟩ zo (d7.mk (.i rfl zi<|zk) (.nil) rfl)
  ·intro h2
   try simp only[decide_eq_true_eq,decide_eq_false_iff_not,Bool.and_eq_false_imp] at h2
   refine i4 ?_
   exact g8.cut (m) ⟨hm,EV hm hz (by by_cases e:m=0; exact .inl e; exact .inr (by rw[<- e1 zo]; exact h2 zo))⟩ (d7.mk (.i rfl zi<|zk) (.nil) rfl)
 ·rintro m ⟨hm,hE⟩
  refine jn ?_
  have htl:=T1 (xs:=xs)
  have hz0:([]:List Int).length=0:=rfl
  have htk:(xs.take m).length=m:=by rw[List.length_take]; omega
  have e2:((m:Nat):Int).toNat=m:=rfl
  refine i2 ?_; refine d5.new (FU eI 18) rfl rfl rfl rfl ?_; refine i2 ?_; refine tO (FX rfl uu rfl uu (fun _=>zo)) rfl rfl ?_; refine d5.app rfl rfl rfl rfl rfl rfl rfl rfl (by rw[e2]; omega) (by rw[e2]; omega) ?_; refine jl ?_; refine j9 ?_; refine Tr.frz 18 [2] ⟨rfl,trivial⟩ (by rw[e2]; simp only[t6]; omega) rfl ?_; refine i9 ?_; exact d9.res1 (fn:=Tryz.f175) rfl (.r rfl (by rw[List.nil_append,hE]; rfl)<|.nil)

theorem oT (xs:List Int) (hn:xs.length<=10000000):R5 Tryz.prog 175 [b7 (eL eI) xs] (fun t=>q8 t (l7 xs).length) (m9 false 3 eI (l7 xs) (l7 xs).length):=by
 refine R5.mk Tryz.func175 rfl Tryz.ntmps175 rfl (fun w J=>?_); refine z5 ?_
 refine Tr.for (σ:=Nat) [⟨0,true,_,_⟩] [] (fun m=>[⟨3,true,[],kI (m:Int)⟩]) (fun m=>[]) (fun m=>m<=xs.length/\∀i,m<=i->i<xs.length->b6 xs i=0) (fun m=>m<=xs.length/\l7 xs=xs.take m) (fun m=>m) (xs.length) ⟨by omega,fun i h1 h2=>absurd h1 zo⟩ (d7.mk (.i rfl zi<|zk) (.nil) rfl) ?_ ?_
 ·rintro m ⟨hm,hz⟩
  refine jn ?_
  have e1:0<m->((m:Int)-1).toNat=m-1:=fun h=>by omega
  refine l6 ?_; refine d5.gd rfl rfl rfl (BB rfl id rfl uu (fun hp=>by simp at hp; omega)) rfl rfl ?_
  first | refine d5.gd rfl rfl rfl (I0 rfl id rfl id rfl (fun hp=>by simp at hp; omega)) rfl rfl ?_ | refine d5.gd rfl rfl rfl (AY rfl id rfl id rfl (fun hp=>by simp at hp; omega)) rfl rfl ?_
  refine o0 ?_; refine Tr.cnd rfl ?_ ?_
  ·intro h2
   try simp only[decide_eq_true_eq,Bool.and_eq_true] at h2
   refine o9 ?_
   exact g8.lp (m-1) ⟨by omega,fun i h3 h4=>by (by_cases e:i=m-1; subst e; rw[<- e1 zo]; exact h2.2; exact hz i zo h4)⟩ zo (d7.mk (.i rfl zi<|zk) (.nil) rfl)
  ·intro h2
   try simp only[decide_eq_true_eq,decide_eq_false_iff_not,Bool.and_eq_false_imp] at h2
   refine i4 ?_
   exact g8.cut (m) ⟨hm,EV hm hz (by by_cases e:m=0; exact .inl e; exact .inr (by rw[<- e1 zo]; exact h2 zo))⟩ (d7.mk (.i rfl zi<|zk) (.nil) rfl)
 ·rintro m ⟨hm,hE⟩
  refine jn ?_
  have htl:=T1 (xs:=xs)
  have hz0:([]:List Int).length=0:=rfl
  have htk:(xs.take m).length=m:=by rw[List.length_take]; omega
  have e2:((m:Nat):Int).toNat=m:=rfl
  refine i2 ?_; refine d5.new (FU eI 18) rfl rfl rfl rfl ?_; refine i2 ?_; refine tO (FX rfl uu rfl uu (fun _=>zo)) rfl rfl ?_; refine d5.app rfl rfl rfl rfl rfl rfl rfl rfl (by rw[e2]; omega) (by rw[e2]; omega) ?_; refine jl ?_; refine i4 ?_; exact d9.resN (fn:=Tryz.f175) (u:=18) rfl rfl (FK (by rw[List.nil_append,hE]; rfl) (by rw[hE,e2]; omega)) (FY (by rw[hE,e2]; omega)) inferInstance

theorem NG (xs:List Int) (neg:Bool) (hn:xs.length<=10000000) (hx:RM xs):Ct Tryz.prog 176 [b7 (eL eI) xs,kB neg] (b7 (eL eI) (T0 xs neg)):=by
 have htl:=T1 (xs:=xs)
 refine Ct.mk Tryz.func176 rfl Tryz.ntmps176 rfl (fun w J=>?_); refine l6 ?_; refine d5.new (DD 8 (fun hp=>oT _ zo) (.a rfl uu<|.nil)) rfl rfl rfl rfl ?_; refine o9 ?_
 refine Tr.for1 (σ:=Nat) [⟨1,true,_,_⟩,⟨5,true,_,_⟩] [] (fun i=>[⟨6,true,[],kI (i:Int)⟩]) (fun i=>[⟨8,[],m9 false 3 eI (P7 (l7 xs) i) (l7 xs).length⟩]) (fun i=>i<=(l7 xs).length/\(0<i->neg=true)) (fun i=>i<=(l7 xs).length/\P7 (l7 xs) i=T0 xs neg) (fun i=>(l7 xs).length-i) (0) ⟨by omega,fun h=>absurd h zo⟩ (d7.mk (.i rfl zi<|zk) (.a VS zi<|.nil) rfl) ?_ ?_
 ·rintro i ⟨hi,hg⟩
  refine jn ?_
  have hat:=fun (h:i<(l7 xs).length)=>VR (ds:=l7 xs) (k:=i) h
  have hxi:=fun (h:i<(l7 xs).length)=>hx _ (QS (F7 h))
  refine o0 ?_; refine tO (Z9 rfl uu) rfl rfl ?_; refine n7 ?_; refine Tr.cnd rfl ?_ ?_
  ·intro h3
   try simp only[decide_eq_true_eq,Bool.and_eq_true] at h3
   refine C6 ?_; refine tO (FW rfl uu (fun _=>zo)) rfl rfl ?_; refine v6 ?_
   exact g8.lp (i+1) ⟨by omega,fun _=>h3.2⟩ zo (d7.mk (.i rfl zi<|zk) (.a (eJ zo) zi<|.nil) rfl)
  ·intro h3
   try simp only[decide_eq_true_eq,Bool.and_eq_false_imp] at h3
   refine i4 ?_
   exact g8.cut (i) ⟨hi,xO hi hg (fun hh=>h3 zo)⟩ (d7.mk (.i rfl zi<|zk) (.a zi zi<|.nil) rfl)
 ·rintro i ⟨hi,hE⟩
  refine je ?_; refine l5 ?_; refine Tr.frz 8 [4] ⟨rfl,trivial⟩ (by simp only[t6]; omega) rfl ?_; refine i9 ?_; exact d9.res1 (fn:=Tryz.f176) rfl (.r rfl hE<|.nil)

set_option maxHeartbeats 1000000 in
theorem Z5 (xs:List Int) (hx:A5 xs) (hn:xs.length<=1000000):Ct Tryz.prog 128 [b7 (eL eI) xs] (b7 (eL eI) (j6 (val xs))):=by
 have h1l:([1]:List Int).length=1:=rfl
 refine Ct.mk Tryz.func128 rfl Tryz.ntmps128 rfl (fun w J=>?_); refine UT ?_; refine Tr.grow (s:=3) rfl rfl 3 rfl 3 eI rfl ?_
 refine Tr.for1 (σ:=Nat) [⟨0,true,_,_⟩] [] (fun i=>[⟨5,true,[],kI (i:Int)⟩,⟨3,true,[3],q8 3 i⟩,⟨4,true,[],kI (r8 xs i).2⟩]) (fun i=>[⟨3,[],m9 true 3 eI (r8 xs i).1 i⟩]) (fun i=>i<=xs.length) (fun i=>i=xs.length) (fun i=>xs.length-i) (0) (Nat.zero_le _) (d7.mk (.i rfl zi<|.o rfl zi rfl<|.i rfl zi<|zk) (.a zi zi<|.nil) rfl) ?_ ?_
 ·intro i hR0
  refine jn ?_
  have hc1:=LH hx (i:=i)
  have hxx:=hx i
  have hs:=gE (xs:=xs) (i:=i)
  have hxi:=fun (h:i<xs.length)=>R2 h
  refine o9 ?_; refine jq ?_ ?_
  ·intro h4
   refine v6 ?_; refine tO (j7 (fun hp=>SZ _ (by have:=hxx zo; omega)) (.a rfl uu<|.nil)) rfl rfl ?_; refine z5 ?_; refine tO (j7 (fun hp=>SZ _ zo) (.a rfl uu<|.nil)) rfl rfl ?_; refine C6 ?_; refine d5.new (D5 eI 39 (fun hp=>.cons rfl<|.nil) rfl rfl rfl rfl) rfl rfl rfl rfl ?_; refine i9 ?_; refine jl ?_; refine AU ?_
   exact g8.lp (i+1) zi zo (d7.mk (.i rfl zi<|.o rfl zi rfl<|.i rfl (by rw[<- hs.1,hxi zo])<|zk) (.a (by rw[r8,<- hs.2,hxi zo]) zi<|.nil) rfl)
  ·intro h4
   replace h4:=Int.not_lt.1 h4
   refine i4 ?_
   exact g8.cut (i) zo (d7.mk (.i rfl zi<|.o rfl zi rfl<|.i rfl zi<|zk) (.a zi zi<|.nil) rfl)
 ·rintro _ rfl
  refine je ?_; refine i9 ?_
  refine Tr.for (σ:=Nat) [] [] (fun i=>[⟨3,true,[3],q8 3 i⟩,⟨4,true,[],kI (r8 xs i).2⟩]) (fun i=>[⟨3,[],m9 true 3 eI (r8 xs i).1 i⟩]) (fun i=>xs.length<=i/\(i=xs.length\/(i=xs.length+1/\(r8 xs i).2.natAbs<=2000)\/(i=xs.length+2/\((r8 xs i).2=0\/(r8 xs i).2=-1)))) (fun i=>xs.length<=i/\((r8 xs i).2=0\/(r8 xs i).2=-1)/\i<=xs.length+2) (fun i=>xs.length+2-i) (xs.length) ⟨zo,zo⟩ (d7.mk (.o rfl zi rfl<|.i rfl zi<|.nil) (.a zi zi<|.nil) rfl) ?_ ?_
  ·rintro i ⟨hi,hm⟩
   refine jn ?_
   have hc1:=LH hx (i:=i)
   have hxo:=GM (xs:=xs) (i:=i) zo
   have hs2:(r8 xs (i+1)).2=(z9 xs i+(r8 xs i).2)/100000000:=rfl
   rw[hxo,Int.zero_add] at hs2
   have hrl:(r8 xs i).1.length=i:=U9
   refine C6 ?_; refine Tr.cnd rfl ?_ ?_
   ·intro h10
    try simp only[decide_eq_true_eq,Bool.and_eq_true,ne_eq] at h10
    refine n7 ?_; refine tO (j7 (fun hp=>SZ _ zo) (.a rfl uu<|.nil)) rfl rfl ?_; refine C6 ?_; refine d5.new (D5 eI 57 (fun hp=>.cons rfl<|.nil) rfl rfl rfl rfl) rfl rfl rfl rfl ?_; refine i9 ?_; refine jl ?_; refine l6 ?_
    exact g8.lp (i+1) ⟨zo,zo⟩ zo (d7.mk (.o rfl zi rfl<|.i rfl hs2.symm<|.nil) (.a (by rw[r8,hxo,Int.zero_add]) zi<|.nil) rfl)
   ·intro h10
    try simp only[decide_eq_true_eq,decide_eq_false_iff_not,Bool.and_eq_false_imp,ne_eq,Classical.not_not] at h10
    refine i4 ?_
    exact g8.cut (i) ⟨hi,by omega,by omega⟩ (d7.mk (.o rfl zi rfl<|.i rfl zi<|.nil) (.a zi zi<|.nil) rfl)
  ·rintro i ⟨hi,hc,hb⟩
   refine jn ?_
   have hrl:(r8 xs i).1.length=i:=U9
   refine l5 ?_; refine jq ?_ ?_
   ·intro h14
    refine j9 ?_; refine d5.frz 3 [3,62] ⟨rfl,rfl,trivial⟩ (by simp only[t6]; omega) rfl ?_; refine jl ?_; refine tO (j7 (fun hp=>TA _ zo) (.a rfl uu<|.nil)) rfl rfl ?_; refine o0 ?_; exact d9.res1 (fn:=Tryz.f128) rfl (.r rfl (uD hi h14)<|.nil)
   ·intro h14
    refine HQ ?_; refine Tr.grow (s:=12) rfl rfl 12 rfl 3 eI rfl ?_
    refine Tr.for1 (σ:=Nat) [⟨3,true,_,_⟩] [⟨3,_,_⟩] (fun k=>[⟨14,true,[],kI (k:Int)⟩,⟨12,true,[12],q8 12 k⟩,⟨13,true,[],kI (bw (r8 xs i).1 k)⟩]) (fun k=>[⟨12,[],m9 true 3 eI (n6 k (N9 (r8 xs i).1)) k⟩]) (fun k=>k<=i) (fun k=>k=i) (fun k=>i-k) (0) (Nat.zero_le _) (d7.mk (.i rfl zi<|.o rfl zi rfl<|.i rfl zi<|zk) (.a zi zi<|zk) rfl) ?_ ?_
    ·intro k hR2
     refine jn ?_
     have hl:(r8 xs i).1.length=i:=U9
     have hd:=fun (h:k<i)=>(X9 (xs:=xs) (i:=i)).at (i:=k) zo
     have hb01:=JW (ds:=(r8 xs i).1) (k:=k)
     have hbs:=SD (ds:=(r8 xs i).1) (k:=k)
     refine o0 ?_; refine tO (Z9 rfl uu) rfl rfl ?_; refine j9 ?_; refine jq ?_ ?_
     ·intro h19
      refine v6 ?_; refine tO (FW rfl uu (fun _=>zo)) rfl rfl ?_; refine U2 ?_; refine jq ?_ ?_
      ·intro h23
       refine v6 ?_; refine d5.new (D5 eI 83 (fun hp=>.cons rfl<|.nil) rfl rfl rfl rfl) rfl rfl rfl rfl ?_; refine i9 ?_; refine jl ?_; refine o9 ?_
       exact g8.lp (k+1) zi zo (d7.mk (.i rfl zi<|.o rfl zi rfl<|.i rfl (by rw[hbs,if_pos h23])<|zk) (.a (by rw[H4]; congr 2; unfold N9; rw[if_pos h23]) zi<|zk) rfl)
      ·intro h23
       replace h23:=Int.not_lt.1 h23
       refine o0 ?_; refine d5.new (D5 eI 83 (fun hp=>.cons rfl<|.nil) rfl rfl rfl rfl) rfl rfl rfl rfl ?_; refine i9 ?_; refine jl ?_; refine o9 ?_
       exact g8.lp (k+1) zi zo (d7.mk (.i rfl zi<|.o rfl zi rfl<|.i rfl (by rw[hbs,if_neg zo])<|zk) (.a (by rw[H4]; congr 2; unfold N9; rw[if_neg zo]) zi<|zk) rfl)
     ·intro h19
      replace h19:=Int.not_lt.1 h19
      refine i4 ?_
      exact g8.cut (k) zo (d7.mk (.i rfl zi<|.o rfl zi rfl<|.i rfl zi<|zk) (.a zi zi<|zk) rfl)
    ·rintro _ rfl
     refine je ?_; refine l6 ?_; refine jq ?_ ?_
     ·intro h26
      refine i2 ?_; refine d5.new (D5 eI 88 (fun hp=>.cons rfl<|.nil) rfl rfl rfl rfl) rfl rfl rfl rfl ?_; refine i9 ?_; refine jl ?_; refine n7 ?_; refine d5.frz 12 [12,89,90] ⟨rfl,rfl,rfl,trivial⟩ (by simp only[t6]; omega) rfl ?_; refine jl ?_
      refine tO (j7 (fun hp=>NG _ true (by first | (rw[t7]; omega) | (rw[List.length_append,t7]; omega)) (by first | exact (MS X9 U9.symm).sm | exact ((MS X9 U9.symm).snoc zo zo).sm)) (.a rfl uu<|.a rfl uu<|.nil)) rfl rfl ?_
      refine i4 ?_; exact d9.res1 (fn:=Tryz.f128) rfl (.r rfl (uB hi zo zo)<|.nil)
     ·intro h26
      refine o0 ?_; refine d5.frz 12 [12,90] ⟨rfl,rfl,trivial⟩ (by simp only[t6]; omega) rfl ?_; refine jl ?_
      refine tO (j7 (fun hp=>NG _ true (by first | (rw[t7]; omega) | (rw[List.length_append,t7]; omega)) (by first | exact (MS X9 U9.symm).sm | exact ((MS X9 U9.symm).snoc zo zo).sm)) (.a rfl uu<|.a rfl uu<|.nil)) rfl rfl ?_
      refine i4 ?_; exact d9.res1 (fn:=Tryz.f128) rfl (.r rfl (uC hi zo zo)<|.nil)

end Go.Fl

/- Contracts: integers of the reference of chapter 1 (signs, sums, products). -/
namespace Go.Fl
open Go Go.Proofs
open d5 renaming op->tO
open i6 renaming op->rO
set_option maxRecDepth 100000

theorem HH (z:Int):Ct Tryz.prog 129 [b7 (eL eI) (j6 z)] (kB (decide (z<0))):=by
 refine Ct.mk Tryz.func129 rfl Tryz.ntmps129 rfl (fun w J=>?_); refine Tr.fact (s:=0) rfl (fun _ _ h=>S4 h) (fun hb=>?_); refine B4 ?_; refine d5.gd rfl rfl rfl (BB rfl id rfl uu (fun hp=>by simp at hp; omega)) rfl rfl ?_
 first | refine d5.gd rfl rfl rfl (I0 rfl id rfl id rfl (fun hp=>by simp at hp; omega)) rfl rfl ?_ | refine d5.gd rfl rfl rfl (AY rfl id rfl id rfl (fun hp=>by simp at hp; omega)) rfl rfl ?_
 refine l5 ?_; exact d9.res1 (fn:=Tryz.f129) rfl (.b rfl (tV fun h=>sY h)<|.nil)

theorem KB (z:Int) (hn:dl z<=10000000):Ct Tryz.prog 178 [b7 (eL eI) (j6 z)] (b7 (eL eI) (d6 z.natAbs)):=by
 refine Ct.mk Tryz.func178 rfl Tryz.ntmps178 rfl (fun w J=>?_); refine o9 ?_; refine tO (j7 (fun hp=>HH _) (.a rfl uu<|.nil)) rfl rfl ?_; refine tO (j7 (fun hp=>NG _ _ (by rw[F0]; exact hn) (dZ z)) (.a rfl uu<|.a rfl uu<|.nil)) rfl rfl ?_; refine i4 ?_; exact d9.res1 (fn:=Tryz.f178) rfl (.r rfl (xS z)<|.nil)

theorem oU (a b:List Int) (ha:Nm a) (hb:Nm b) (hm:a.length<=10000000) (_:b.length<=10000000):Ct Tryz.prog 198 [b7 (eL eI) a,b7 (eL eI) b] (kB (decide (val a<val b))):=by
 refine Ct.mk Tryz.func198 rfl Tryz.ntmps198 rfl (fun w J=>?_); refine O3 ?_; refine jq ?_ ?_
 ·intro h1
  refine z5 ?_; exact d9.res1 (fn:=Tryz.f198) rfl (.b rfl (sO ha hb zo)<|.nil)
 ·intro h1
  replace h1:=Classical.not_not.1 h1
  refine C6 ?_
  refine Tr.for1 (σ:=Nat) [⟨0,true,_,_⟩,⟨1,true,_,_⟩] [] (fun i=>[⟨5,true,[],kI ((i:Int)-1)⟩]) (fun i=>[]) (fun i=>i<=a.length/\∀j,i<=j->j<a.length->b6 a j=b6 b j) (fun i=>i=0/\∀j,i<=j->j<a.length->b6 a j=b6 b j) (fun i=>i) (a.length) ⟨by omega,fun j h1 h2=>absurd h1 zo⟩ (d7.mk (.i rfl zi<|zk) (.nil) rfl) ?_ ?_
  ·rintro i ⟨hi,hR⟩
   refine jn ?_
   have e1:((i:Int)-1).toNat=i-1:=by omega
   refine l5 ?_; refine jq ?_ ?_
   ·intro h4
    refine o0 ?_; refine Tr.draw 8 q9 (by kernel_rfl) ?_; refine z5 ?_; refine jq ?_ ?_
    ·intro h6
     refine i9 ?_; refine Tr.draw 8 q9 (by kernel_rfl) ?_; refine KP ?_; exact d9.res1 (fn:=Tryz.f198) rfl (.b rfl (by rw[e1]; exact sN ha.dg hb.dg zo zo (fun j h1 h2=>hR j zo h2) (by rw[<- e1]; exact h6))<|.nil)
    ·intro h6
     replace h6:=Classical.not_not.1 h6
     refine l6 ?_
     exact g8.lp (i-1) ⟨by omega,fun j h1 h2=>by (by_cases e:j=i-1; subst e; rw[<- e1]; exact h6; exact hR j zo h2)⟩ zo (d7.mk (.i rfl zi<|zk) (.nil) rfl)
   ·intro h4
    replace h4:=Int.not_le.1 h4
    refine i4 ?_
    exact g8.cut (i) ⟨by omega,hR⟩ (d7.mk (.i rfl zi<|zk) (.nil) rfl)
  ·rintro i ⟨hi,hR⟩
   refine je ?_; refine l5 ?_; exact d9.res1 (fn:=Tryz.f198) rfl (.b rfl (by subst hi; exact sM zo hR)<|.nil)

set_option maxHeartbeats 1000000 in
theorem SY (xs ys:List Int) (hx:A5 xs) (hy:A5 ys) (hn:xs.length<=900000) (hm:ys.length<=900000):Ct Tryz.prog 122 [b7 (eL eI) xs,b7 (eL eI) ys] (b7 (eL eI) (j6 (val xs+val ys))):=by
 have hdx:=O1 hx
 have hdy:=O1 hy
 have hlx:=F0 (val xs)
 have hly:=F0 (val ys)
 refine Ct.mk Tryz.func122 rfl Tryz.ntmps122 rfl (fun w J=>?_); refine l6 ?_; refine tO (j7 (fun hp=>Z5 _ (by assumption) zo) (.a rfl uu<|.nil)) rfl rfl ?_; refine i9 ?_; refine tO (j7 (fun hp=>Z5 _ (by assumption) zo) (.a rfl uu<|.nil)) rfl rfl ?_; refine O3 ?_; refine Tr.grow (s:=5) rfl rfl 5 rfl 3 eI rfl ?_
 refine Tr.for1 (σ:=Nat) [⟨0,true,_,_⟩,⟨1,true,_,_⟩] [] (fun i=>[⟨5,true,[5],q8 5 i⟩,⟨6,true,[],kI (i:Int)⟩]) (fun i=>[⟨5,[],m9 true 3 eI (FG (j6 (val xs)) (j6 (val ys)) i) i⟩]) (fun i=>i<=max (j6 (val xs)).length (j6 (val ys)).length) (fun i=>i=max (j6 (val xs)).length (j6 (val ys)).length) (fun i=>max (j6 (val xs)).length (j6 (val ys)).length-i) (0) zo (d7.mk (.o rfl zi rfl<|.i rfl zi<|zk) (.a zi zi<|.nil) rfl) ?_ ?_
 ·intro i hR0
  refine jn ?_
  have hbx:=fun (h:i<(j6 (val xs)).length)=>CZ h
  have hby:=fun (h:i<(j6 (val ys)).length)=>CZ h
  have hxi:=fun (h:i<(j6 (val xs)).length)=>R2 h
  have hyi:=fun (h:i<(j6 (val ys)).length)=>R2 h
  have hxo:=fun (h:¬i<(j6 (val xs)).length)=>GM h
  have hyo:=fun (h:¬i<(j6 (val ys)).length)=>GM h
  refine O3 ?_; refine Tr.cnd rfl ?_ ?_
  ·intro h4
   try simp only[decide_eq_true_eq,Bool.or_eq_true] at h4
   refine o9 ?_; refine Tr.meet2 (σ:=Unit) [⟨0,true,_,_⟩,⟨1,true,_,_⟩,⟨5,true,_,_⟩,⟨6,true,_,_⟩] [⟨5,_,_⟩] (zk) (zk) (fun _=>[⟨7,true,[],kI (z9 (j6 (val xs)) i)⟩]) (fun _=>[]) (fun _=>True) ?_ ?_
   ·skip
    refine l6 ?_; refine jq ?_ ?_
    ·intro h7
     refine l5 ?_
     exact g8.cut (()) zi (d7.mk (.i rfl (hxi zo).symm<|zk) (zk) rfl)
    ·intro h7
     replace h7:=Int.not_lt.1 h7
     refine i9 ?_
     exact g8.cut (()) zi (d7.mk (.i rfl (hxo zo).symm<|zk) (zk) rfl)
   ·intro _ hM
    refine jn ?_; refine Tr.meet2 (σ:=Unit) [⟨0,true,_,_⟩,⟨1,true,_,_⟩,⟨5,true,_,_⟩,⟨6,true,_,_⟩] [⟨5,_,_⟩] (zk) (zk) (fun _=>[⟨7,true,[],kI (z9 (j6 (val xs)) i+z9 (j6 (val ys)) i)⟩]) (fun _=>[]) (fun _=>True) ?_ ?_
    ·skip
     refine l6 ?_; refine jq ?_ ?_
     ·intro h9
      refine i9 ?_
      have hxb:-100000000<z9 (j6 (val xs)) i/\z9 (j6 (val xs)) i<100000000:=by (by_cases hh:i<(j6 (val xs)).length; rw[hxi hh]; exact hbx hh; rw[hxo hh]; omega)
      refine l6 ?_
      exact g8.cut (()) zi (d7.mk (.i rfl (by rw[hyi zo])<|zk) (zk) rfl)
     ·intro h9
      replace h9:=Int.not_lt.1 h9
      refine i9 ?_
      exact g8.cut (()) zi (d7.mk (.i rfl (by rw[hyo zo,Int.add_zero])<|zk) (zk) rfl)
    ·intro _ hM
     refine jn ?_; refine j9 ?_; refine d5.new (D5 eI 44 (fun hp=>.cons rfl<|.nil) rfl rfl rfl rfl) rfl rfl rfl rfl ?_; refine i9 ?_; refine jl ?_; refine o9 ?_
     exact g8.lp (i+1) zo zo (d7.mk (.o rfl zi rfl<|.i rfl zi<|zk) (.a (by unfold FG; rw[H4]) zi<|.nil) rfl)
  ·intro h4
   try simp only[decide_eq_false_iff_not,Bool.or_eq_false_iff,Int.not_lt] at h4
   refine i4 ?_
   exact g8.cut (i) zo (d7.mk (.o rfl zi rfl<|.i rfl zi<|zk) (.a zi zi<|.nil) rfl)
 ·rintro _ rfl
  refine je ?_
  have hxl:=Nat.le_max_left (j6 (val xs)).length (j6 (val ys)).length
  have hyl:=Nat.le_max_right (j6 (val xs)).length (j6 (val ys)).length
  have hal:(FG (j6 (val xs)) (j6 (val ys)) (max (j6 (val xs)).length (j6 (val ys)).length)).length=max (j6 (val xs)).length (j6 (val ys)).length:=t7
  refine i4 ?_; refine d5.frz 5 [5,46] ⟨rfl,rfl,trivial⟩ (by simp only[t6]; omega) rfl ?_; refine jl ?_; refine tO (j7 (fun hp=>Z5 _ kN zo) (.a rfl uu<|.nil)) rfl rfl ?_; refine i4 ?_; exact d9.res1 (fn:=Tryz.f122) rfl (.r rfl (by rw[kO hxl hyl,I6,I6])<|.nil)

theorem FN (xs:List Int) (hx:A5 xs) (hn:xs.length<=1000000):Ct Tryz.prog 136 [b7 (eL eI) xs] (b7 (eL eI) (j6 (-val xs))):=by
 have hdx:=O1 hx
 refine Ct.mk Tryz.func136 rfl Tryz.ntmps136 rfl (fun w J=>?_); refine l6 ?_; refine tO (j7 (fun hp=>Z5 _ (by assumption) zo) (.a rfl uu<|.nil)) rfl rfl ?_; refine tO (j7 (fun hp=>NG _ true (by rw[F0]; omega) (dZ _)) (.a rfl uu<|.a rfl uu<|.nil)) rfl rfl ?_; refine i4 ?_; exact d9.res1 (fn:=Tryz.f136) rfl (.r rfl (xR _)<|.nil)

theorem aS (xs ys:List Int) (hx:A5 xs) (hy:A5 ys) (hn:xs.length<=800000) (hm:ys.length<=800000):Ct Tryz.prog 145 [b7 (eL eI) xs,b7 (eL eI) ys] (b7 (eL eI) (j6 (val xs-val ys))):=by
 have hdx:=O1 hx
 have hdy:=O1 hy
 have hlx:=F0 (val xs)
 have hly:=F0 (val ys)
 refine Ct.mk Tryz.func145 rfl Tryz.ntmps145 rfl (fun w J=>?_); refine o9 ?_; refine tO (j7 (fun hp=>FN _ (by assumption) zo) (.a rfl uu<|.nil)) rfl rfl ?_; refine tO (j7 (fun hp=>SY xs (j6 (-val ys)) (by assumption) (U5 _) zo (by rw[F0,K6]; omega)) (.a rfl uu<|.a rfl uu<|.nil)) rfl rfl ?_; refine i4 ?_; exact d9.res1 (fn:=Tryz.f145) rfl (.r rfl (by rw[I6,Int.sub_eq_add_neg])<|.nil)

set_option maxHeartbeats 1000000 in
theorem aP (xs ys:List Int) (hx:A5 xs) (hy:A5 ys) (hn:xs.length<=400000) (hm:ys.length<=400000):Ct Tryz.prog 123 [b7 (eL eI) xs,b7 (eL eI) ys] (b7 (eL eI) (j6 (val xs*val ys))):=by
 have hdx:=O1 hx
 have hdy:=O1 hy
 have hlx:=F0 (val xs)
 have hly:=F0 (val ys)
 refine Ct.mk Tryz.func123 rfl Tryz.ntmps123 rfl (fun w J=>?_); refine l6 ?_; refine tO (j7 (fun hp=>Z5 _ (by assumption) zo) (.a rfl uu<|.nil)) rfl rfl ?_; refine i9 ?_; refine tO (j7 (fun hp=>Z5 _ (by assumption) zo) (.a rfl uu<|.nil)) rfl rfl ?_; refine O3 ?_
 refine Tr.for1 (σ:=Nat) [⟨0,true,_,_⟩,⟨1,true,_,_⟩] [] (fun i=>[⟨6,true,[],kI (i:Int)⟩,⟨5,true,[],b7 (eL eI) (j6 (val ((j6 (val xs)).take i)*val (j6 (val ys))))⟩]) (fun i=>[]) (fun i=>i<=(j6 (val xs)).length) (fun i=>i=(j6 (val xs)).length) (fun i=>(j6 (val xs)).length-i) (0) (Nat.zero_le _) (d7.mk (.i rfl zi<|.n rfl (by simp[val,tC])<|zk) (.nil) rfl) ?_ ?_
 ·intro i hR0
  refine jn ?_
  have hbx:=fun (h:i<(j6 (val xs)).length)=>CZ h
  have hdo:=w8 (val ((j6 (val xs)).take i)) (val (j6 (val ys)))
  have hdt:=O1 ((U5 (val xs)).take i)
  have htl:((j6 (val xs)).take i).length<=i:=by rw[List.length_take]; omega
  have hdv:dl (val (j6 (val ys)))=dl (val ys):=by rw[I6]
  refine o9 ?_; refine jq ?_ ?_
  ·intro h4
   refine l5 ?_; refine d5.new (IG eI 20 rfl uu rfl uu rfl rfl rfl (fun _=>zo)) rfl rfl rfl rfl ?_; refine o9 ?_
   refine Tr.for1 (σ:=Nat) [⟨0,true,_,_⟩,⟨1,true,_,_⟩,⟨5,true,_,_⟩,⟨6,true,_,_⟩] [] (fun k=>[⟨8,true,[],kI (k:Int)⟩,⟨7,true,[20],q8 20 (i+k)⟩]) (fun k=>[⟨20,[],m9 false 3 eI (O4 (j6 (val xs)) (j6 (val ys)) i k) (i+k)⟩]) (fun k=>k<=(j6 (val ys)).length) (fun k=>k=(j6 (val ys)).length) (fun k=>(j6 (val ys)).length-k) (0) (Nat.zero_le _) (d7.mk (.i rfl zi<|.o rfl zi rfl<|zk) (.a tN zi<|.nil) rfl) ?_ ?_
   ·intro k hR1
    refine jn ?_
    have hby:=fun (h:k<(j6 (val ys)).length)=>CZ h
    have hb:=fun (h:i<(j6 (val xs)).length) (h2:k<(j6 (val ys)).length)=>eB (CZ h) (CZ h2)
    refine o9 ?_; refine jq ?_ ?_
    ·intro h8
     refine i4 ?_; refine Tr.draw 11 q9 (by kernel_rfl) ?_
     have hbb:=hb zo zo
     refine v6 ?_; refine i6.new (D5 eI 37 (fun hp=>.cons rfl<|.nil) rfl rfl rfl rfl) rfl rfl rfl rfl ?_; refine i2 ?_; refine jl ?_; refine o9 ?_
     exact g8.lp (k+1) zi zo (d7.mk (.i rfl zi<|.o rfl zi rfl<|zk) (.a tL zi<|.nil) rfl)
    ·intro h8
     replace h8:=Int.not_lt.1 h8
     refine i4 ?_
     exact g8.cut (k) zo (d7.mk (.i rfl zi<|.o rfl zi rfl<|zk) (.a zi zi<|.nil) rfl)
   ·rintro _ rfl
    refine je ?_
    have hrl:=VJ (xs:=(j6 (val xs))) (ys:=(j6 (val ys))) (i:=i) (k:=(j6 (val ys)).length)
    refine i4 ?_; refine d5.frz 20 [7,40] ⟨rfl,rfl,trivial⟩ (by simp only[t6]; omega) rfl ?_; refine jl ?_; refine tO (j7 (fun hp=>SY _ (O4 (j6 (val xs)) (j6 (val ys)) i (j6 (val ys)).length) (U5 _) (tK zo (Nat.le_refl _)) (by rw[F0]; omega) (by rw[hrl]; omega)) (.a rfl uu<|.a rfl uu<|.nil)) rfl rfl ?_; refine o9 ?_
    exact g8.lp (i+1) zi zo (d7.mk (.i rfl zi<|.r rfl (by rw[I6,tQ zo])<|zk) (.nil) rfl)
  ·intro h4
   replace h4:=Int.not_lt.1 h4
   refine i4 ?_
   exact g8.cut (i) zo (d7.mk (.i rfl zi<|.r rfl zi<|zk) (.nil) rfl)
 ·rintro _ rfl
  refine je ?_
  have hfin:val ((j6 (val xs)).take (j6 (val xs)).length)=val xs:=by rw[List.take_length,I6]
  refine i4 ?_; refine tO (j7 (fun hp=>Z5 _ (U5 _) (by rw[F0,hfin,I6]; have:=w8 (val xs) (val ys); omega)) (.a rfl uu<|.nil)) rfl rfl ?_; refine i4 ?_; exact d9.res1 (fn:=Tryz.f123) rfl (.r rfl (by rw[hfin,I6,I6])<|.nil)

theorem aR (xs:List Int) (hx:A5 xs) (hn:xs.length<=1000000):Ct Tryz.prog 75 [b7 (eL eI) xs] (kI (u5 (val xs) 0)):=by
 have hl0:=VD (z:=val xs)
 refine Ct.mk Tryz.func75 rfl Tryz.ntmps75 rfl (fun w J=>?_); refine l6 ?_; refine tO (j7 (fun hp=>Z5 _ (by assumption) zo) (.a rfl uu<|.nil)) rfl rfl ?_; refine C6 ?_; refine jq ?_ ?_
 ·intro h2
  refine l5 ?_; exact d9.res1 (fn:=Tryz.f75) rfl (.i rfl (MT zo).symm<|.nil)
 ·intro h2
  refine n7 ?_; refine tO (j7 (fun hp=>HH _) (.a rfl uu<|.nil)) rfl rfl ?_; refine i2 ?_; refine Tr.cnd rfl ?_ ?_
  ·intro h4
   refine l5 ?_; exact d9.res1 (fn:=Tryz.f75) rfl (.i rfl (FM (of_decide_eq_true h4)).symm<|.nil)
  ·intro h4
   refine l6 ?_; exact d9.res1 (fn:=Tryz.f75) rfl (.i rfl (FL (by have:=of_decide_eq_false h4; omega)).symm<|.nil)

end Go.Fl

/- Contracts: the rational field is one. -/
namespace Go.Fl
open Go Go.Proofs
open d5 renaming op->tO
open i6 renaming op->rO
set_option maxRecDepth 100000

abbrev y8:=List Int×Int×Int×Int
def D1:i7 y8:=eC (fun v:y8=>(v.1,v.2.1,v.2.2.1,v.2.2.2,())) (eP (eL eI) (eP eI (eP eI (eP eI eU))))
instance {v:y8}:F3 (b7 D1 v) [b7 (eL eI) (v.1),kI (v.2.1),kI (v.2.2.1),kI (v.2.2.2)]:=inferInstanceAs (F3 (b7 (eC (fun v:y8=>(v.1,v.2.1,v.2.2.1,v.2.2.2,())) (eP (eL eI) (eP eI (eP eI (eP eI eU))))) v) _)
instance {v:y8} {tl:List b8}:K4 D1 v tl (b7 (eL eI) (v.1)::kI (v.2.1)::kI (v.2.2.1)::kI (v.2.2.2)::tl):=inferInstanceAs (K4 (eC (fun v:y8=>(v.1,v.2.1,v.2.2.1,v.2.2.2,())) (eP (eL eI) (eP eI (eP eI (eP eI eU))))) v tl _)
instance {v:y8}:P3 D1 v (b7 D1 v):=⟨fun h=>h⟩
instance {v:y8}:u6 D1 v 0 (eL eI) (v.1) 0:=inferInstanceAs (u6 (eC (fun v:y8=>(v.1,v.2.1,v.2.2.1,v.2.2.2,())) (eP (eL eI) (eP eI (eP eI (eP eI eU))))) v 0 _ _ _)
instance {v:y8}:u6 D1 v 1 eI (v.2.1) 1:=inferInstanceAs (u6 (eC (fun v:y8=>(v.1,v.2.1,v.2.2.1,v.2.2.2,())) (eP (eL eI) (eP eI (eP eI (eP eI eU))))) v 1 _ _ _)
instance {v:y8}:u6 D1 v 2 eI (v.2.2.1) 2:=inferInstanceAs (u6 (eC (fun v:y8=>(v.1,v.2.1,v.2.2.1,v.2.2.2,())) (eP (eL eI) (eP eI (eP eI (eP eI eU))))) v 2 _ _ _)
instance {v:y8}:u6 D1 v 3 eI (v.2.2.2) 3:=inferInstanceAs (u6 (eC (fun v:y8=>(v.1,v.2.1,v.2.2.1,v.2.2.2,())) (eP (eL eI) (eP eI (eP eI (eP eI eU))))) v 3 _ _ _)
instance {ks r:List b8} {a:List Int} {b c d:Int} [h:v5 ks (eP (eL eI) (eP eI (eP eI (eP eI eU)))) (a,b,c,d,()) r]:v5 ks D1 ((a,b,c,d)) r:=⟨fun h'=>h.imp h'⟩
def IM:y8:=([0,1],0,0,1)
def FZ (c:Int):Bool:=!decide (-1000<=c/\c<=1000)
theorem mO (xs:List Int) (f:FuncId) (q:Int->Bool) [d8 Tryz.prog f] (hf:∀x,Ct Tryz.prog f [kI x] (kB (q x))):Ct Tryz.prog 149 [b7 (eL eI) xs,j8 (.func (.func f) #[] #[])] (kI (EF q xs)):=by
 refine Ct.mk Tryz.func149 rfl Tryz.ntmps149 rfl (fun w J=>?_); refine Tr.fact (s:=0) rfl (fun _ _ h=>S4 h) (fun hb=>?_); refine D3 ?_
 refine Tr.for1 (σ:=Nat) [⟨0,true,_,_⟩,⟨1,true,_,_⟩,⟨7,true,_,_⟩] [] (fun k=>[⟨8,true,[],kI (k:Int)⟩]) (fun k=>[]) (fun k=>k<=xs.length/\∀i,i<k->q (b6 xs i)=false) (fun k=>∀i,i<xs.length->q (b6 xs i)=false) (fun k=>xs.length-k) (0) ⟨by omega,fun i h=>absurd h zo⟩ (d7.mk (.i rfl zi<|zk) (.nil) rfl) ?_ ?_
 ·rintro k ⟨hk,hR⟩
  refine jn ?_; refine n7 ?_; refine jq ?_ ?_
  ·intro h2
   refine U2 ?_; refine tO (IB rfl uu (fun hp=>hf _) (.a rfl uu<|.nil)) rfl rfl ?_; refine i2 ?_; refine Tr.cnd rfl ?_ ?_
   ·intro h4
    refine D3 ?_; exact d9.res1 (fn:=Tryz.f149) rfl (.i rfl (cU zo hR h4)<|.nil)
   ·intro h4
    refine l5 ?_
    exact g8.lp (k+1) ⟨by omega,fun i hi=>by (rcases Nat.lt_succ_iff_lt_or_eq.1 hi with h | h; exact hR i h; subst h; exact h4)⟩ zo (d7.mk (.i rfl zi<|zk) (.nil) rfl)
  ·intro h2
   replace h2:=Int.not_lt.1 h2
   refine i4 ?_
   exact g8.cut (k) (fun i hi=>hR i zo) (d7.mk (.i rfl zi<|zk) (.nil) rfl)
 ·intro k hE
  refine je ?_; refine l5 ?_; exact d9.res1 (fn:=Tryz.f149) rfl (.i rfl (cV hE)<|.nil)

theorem mL (xs:List Int) (f:FuncId) (q:Int->Bool) [d8 Tryz.prog f] (hf:∀x,Ct Tryz.prog f [kI x] (kB (q x))):Ct Tryz.prog 99 [b7 (eL eI) xs,j8 (.func (.func f) #[] #[])] (kB (xs.any q)):=by
 refine Ct.mk Tryz.func99 rfl Tryz.ntmps99 rfl (fun w J=>?_); refine o9 ?_; refine tO (j7 (fun hp=>mO _ f q hf) (.a rfl uu<|.a rfl uu<|.nil)) rfl rfl ?_; refine o0 ?_; exact d9.res1 (fn:=Tryz.f99) rfl (.b rfl cX<|.nil)

theorem HG (n a b:Int):Ct Tryz.prog 186 [kI n,kI a,kI b] (kB (decide (a<=n/\n<=b))):=by
 refine Ct.mk Tryz.func186 rfl Tryz.ntmps186 rfl (fun w J=>?_); refine US ?_; exact d9.res1 (fn:=Tryz.f186) rfl (.b rfl (by symm; exact Bool.decide_and _ _)<|.nil)

theorem nE (c:Int):Ct Tryz.prog 187 [kI c] (kB (FZ c)):=by
 refine Ct.mk Tryz.func187 rfl Tryz.ntmps187 rfl (fun w J=>?_); refine l6 ?_; refine tO (j7 (fun hp=>HG _ _ _) (.a rfl uu<|.a rfl uu<|.a rfl uu<|.nil)) rfl rfl ?_; refine o0 ?_; exact d9.res1 (fn:=Tryz.f187) rfl (.b rfl (by rfl)<|.nil)

theorem oO  : Ct Tryz.prog 112 [] (b7 D1 IM):=by
 refine Ct.mk Tryz.func112 rfl Tryz.ntmps112 rfl (fun w J=>?_); refine i2 ?_; refine ja 0 ?_; refine i4 ?_; refine d5.new (D5 eI 1 (fun hp=>.cons rfl<|.cons rfl<|.nil) rfl rfl rfl rfl) rfl rfl rfl rfl ?_; refine tO (A4 (fun hp=>.cons rfl rfl rfl<|.cons rfl rfl rfl<|.nil)) rfl rfl ?_; refine j9 ?_; refine Tr.frzC 1 0 (by simp only[t6]; omega) rfl rfl ?_; refine i9 ?_; exact d9.resC1 (fn:=Tryz.f112) rfl rfl (u8 rfl (by rfl))

end Go.Fl

/- Integers of any size in arrays of the call's own: loads and stores at any place. -/
namespace Go.Fl
open Go Go.RowKit
set_option maxRecDepth 100000
def eZ:i7 Int:=eC wh eW
instance {z:Int}:P3 eZ z (b7 eW (wh z)):=⟨fun h=>h⟩
instance {z:Int} {tl:List b8}:K4 eZ z tl (kB (decide (z<0))::b7 (eL eI) (d6 z.natAbs)::tl):=⟨fun h h'=>(inferInstance:K4 eW (wh z) tl (kB (decide (z<0))::b7 (eL eI) (d6 z.natAbs)::tl)).imp h h'⟩
instance {z:Int} {r:List b8}:v5 (kB (decide (z<0))::b7 (eL eI) (d6 z.natAbs)::r) eZ z r:=⟨fun h=>(inferInstance:v5 (kB (decide (z<0))::b7 (eL eI) (d6 z.natAbs)::r) eW (decide (z<0),d6 z.natAbs) r).imp h⟩
instance {z:Int}:FF (b7 eW (wh z)) eZ z:=⟨fun h=>⟨h.cells,eW.all1 h.cells⟩⟩
instance {r:List b8}:v5 (kB false::j8 (.slice none 0 0)::r) eZ 0 r:=⟨fun h=>(inferInstance:v5 (kB false::j8 (.slice none 0 0)::r) eW (false,[]) r).imp h⟩
def wC (f:Nat->Int):Nat->Nat->List b8
 | _,0=>[]
 | i,m+1=>kB (decide (f i<0))::b7 (eL eI) (d6 (f i).natAbs)::wC f (i+1) m
theorem QX {f:Nat->Int}:∀{m i:Nat},(wC f i m).length=m*2
 | 0,_=>rfl
 | m+1,i=>by simp only[wC,List.length_cons,QX (m:=m)]; omega
instance {f:Nat->Int} {i m:Nat}:A6 (wC f i m) []:=⟨by
 intro g g' vs hl _ h
 induction m generalizing i vs with
 | zero=>cases vs with
  | nil=>trivial
  | cons=>exact h.elim
 | succ m ih=>match vs,h with
  | v::u::vs,⟨h1,h2,h3⟩=>exact ⟨h1,o4.dep (k:=b7 (eL eI) _) (g:=g) hl (fun _ h=>by cases h) h2,ih h3⟩⟩
theorem MK {g:Gh}:∀{ks ls:List b8} {vs:List Value},o6 g (ks++ls) vs->∃v1 v2,vs=v1++v2/\o6 g ks v1/\o6 g ls v2
 | [],_,vs,h=>⟨[],vs,rfl,trivial,h⟩
 | _::_,_,v::vs,h=>by
  obtain ⟨v1,v2,rfl,h1,h2⟩:=MK h.2
  exact ⟨v::v1,v2,rfl,⟨h.1,h1⟩,h2⟩
 | _::_,_,[],h=>h.elim
instance {f:Nat->Int} {i m:Nat}:DT (wC f i m):=⟨by
 intro g cs h
 induction m generalizing i cs with
 | zero=>cases cs with
  | nil=>rfl
  | cons=>exact h.elim
 | succ m ih=>match cs,h with
  | v::u::vs,⟨h1,h2,h3⟩=>simp only[List.all_cons,Y8.imp (k:=kB _) h1,Y8.imp (k:=b7 (eL eI) _) h2,ih h3,Bool.and_self]⟩
instance {ks ls:List b8} [h:DT ks] [k:DT ls]:DT (ks++ls):=⟨fun h'=>by
 obtain ⟨v1,v2,rfl,h1,h2⟩:=MK h'
 rw[List.all_append,h.imp h1,k.imp h2]; rfl⟩
theorem QY {f:Nat->Int} {g:Gh}:∀{m i:Nat} {cs:List Value},o6 g (wC f i m) cs->AB eZ g.J cs ((List.range' i m).map f)
 | 0,_,cs,h=>by cases cs with
  | nil=>rfl
  | cons=>exact h.elim
 | m+1,i,cs,h=>by
  match cs,h with
  | v::u::vs,⟨h1,h2,h3⟩ =>
   obtain ⟨c1,c2,he,q1,q2⟩:=(inferInstance:v5 (kB (decide (f i<0))::b7 (eL eI) (d6 (f i).natAbs)::[]) eZ (f i) []).imp (g:=g) (cs:=[v,u]) ⟨h1,h2,trivial⟩
   cases c2 with
   | nil =>
    rw[List.append_nil] at he
    subst he
    exact ⟨[v,u],vs,rfl,q1,QY h3⟩
   | cons=>exact q2.elim
theorem WP {m:Nat} {f:Nat->Int}:(List.range' 0 m).map f=n6 m f:=by rw[<- List.range_eq_range']; rfl
instance {f:Nat->Int} {m:Nat} {r:List b8}:v5 (wC f 0 m++r) (AR m eZ) (n6 m f) r:=⟨fun h=>by
 obtain ⟨v1,v2,rfl,h1,h2⟩:=MK h
 exact ⟨v1,v2,rfl,⟨t7,by rw[<- WP]; exact QY h1⟩,h2⟩⟩
instance {f:Nat->Int} {m:Nat}:YA (wC f 0 m) eZ (n6 m f):=⟨fun {g cs} h i x hx=>PS (J:=g.J) (by rw[<- WP]; exact QY h) hx⟩
theorem jS {f:Nat->Int} {g:Gh} {tl:List b8} {ds:List Value} (ht:o6 g tl ds):∀{xs:List Int} {i:Nat} {cs:List Value},AB eZ g.J cs xs->(∀j,j<xs.length->f (i+j)=b6 xs j)->o6 g (wC f i xs.length++tl) (cs++ds)
 | [],_,_,h,_=>by have h:_=[]:=h; subst h; exact ht
 | x::xs,i,_,⟨c1,c2,h,h1,h2⟩,hf=>by
  subst h
  have hx:f i=x:=hf 0 (by simp)
  have hr:=jS (f:=f) ht (i:=i+1) h2 (fun j hj=>by
   have:=hf (j+1) (by simp; omega)
   rw[show i+1+j=i+(j+1) by omega,this]; rfl)
  have:=(inferInstance:K4 eZ x (wC f (i+1) xs.length++tl) _).imp h1 hr
  simp only[List.length_cons,wC,hx,List.cons_append]
  rw[List.append_assoc]
  exact this
instance {m:Nat} {l:List Int} {tl:List b8}:K4 (AR m eZ) l tl (wC (b6 l) 0 m++tl):=⟨fun ⟨h1,h2⟩ ht=>by
 subst h1
 exact jS ht h2 (fun j _=>by rw[Nat.zero_add])⟩
instance {f:Nat->Int} {r:List b8}:N7 (wC f 0 4++r) (0+0) 8 (wC f 0 4):=⟨by simp[wC],rfl⟩
instance {f:Nat->Int} {a b:b8}:N7 (wC f 0 4++[a,b]) (0+8) 2 [a,b]:=⟨rfl,rfl⟩
instance {f:Nat->Int} {a b:b8}:N7 (wC f 0 4++[a,b]) 0 10 (wC f 0 4++[a,b]):=⟨rfl,rfl⟩
instance {f:Nat->Int} {a b x y:b8}:R7 (wC f 0 4++[a,b]) (0+8) [x,y] (wC f 0 4++[x,y]):=⟨by simp[wC],rfl⟩
instance {f:Nat->Int} {a b k0 k1 k2 k3 k4 k5 k6 k7 k8 k9:b8}:R7 [k0,k1,k2,k3,k4,k5,k6,k7,k8,k9] 0 (wC f 0 4++[a,b]) (wC f 0 4++[a,b]):=⟨by simp[wC],by simp[wC]⟩
def BL (f:Nat->Int) (j:Nat) (z:Int):Nat->Int:=fun i=>if i=j then z else f i
theorem zJ {f:Nat->Int} {g:Gh} {r:List b8} {m j:Nat} {cs:List Value} (h:o6 g (wC f 0 m++r) cs) (hj:j<m):∃ds,eW.rd g.J ds (wh (f j))/\∀q v,ds[q]?=some v->cs[2*j+q]?=some v:=by
 obtain ⟨v1,v2,rfl,h1,_⟩:=MK h
 have hr:=QY h1
 rw[WP] at hr
 obtain ⟨ds,q1,q2⟩:=PS hr (i:=j) (x:=f j) (by rw[show f j=b6 (n6 m f) j from (s8 hj).symm]; exact G0 (by rw[t7]; exact hj))
 refine ⟨ds,q1,fun q v hv=>?_⟩
 have:=q2 q v hv
 rw[show eZ.n=2 from rfl] at this
 rw[Nat.mul_comm,List.getElem?_append_left (List.getElem?_eq_some_iff.1 this).1]
 exact this
theorem jT {f:Nat->Int} {z:Int} {g:Gh} {v u:Value} (hv:v=.bool (decide (z<0))) (hu:b7 (eL eI) (d6 z.natAbs) g u):∀{m i j:Nat} {r:List b8} {cs:List Value},o6 g (wC f i m++r) cs->j<m->o6 g (wC (BL f (i+j) z) i m++r) (cs.take (2*j)++[v,u]++cs.drop (2*j+2))
 | 0,_,_,_,_,_,hj=>by omega
 | m+1,i,0,r,cs,h,_=>by
  match cs,h with
  | a::b::cs,⟨_,_,h3⟩ =>
   have h4:∀{m k:Nat} {vs:List Value},i<k->o6 g (wC f k m++r) vs->o6 g (wC (BL f i z) k m++r) vs:=fun {m}=>by
    induction m with
    | zero=>exact fun _ h=>h
    | succ m ih =>
     intro k vs hk h
     match vs,h with
     | a::b::vs,⟨q1,q2,q3⟩ =>
      have e:BL f i z k=f k:=if_neg zo
      simp only[wC,e,List.cons_append]
      exact ⟨q1,q2,ih zo q3⟩
   have e:BL f i z i=z:=if_pos rfl
   simp only[wC,Nat.add_zero,e,List.cons_append,Nat.mul_zero,List.take_zero,List.nil_append,Nat.zero_add,List.drop_succ_cons,List.drop_zero]
   exact ⟨hv,hu,h4 zo h3⟩
 | m+1,i,j+1,r,cs,h,hj=>by
  match cs,h with
  | a::b::cs,⟨h1,h2,h3⟩ =>
   have:=jT hv hu (i:=i+1) (j:=j) h3 zo
   rw[show i+1+j=i+(j+1) by omega] at this
   have e:BL f (i+(j+1)) z i=f i:=if_neg zo
   simp only[wC,e,List.cons_append,show 2*(j+1)=2*j+2 by omega,List.take_succ_cons,List.drop_succ_cons]
   exact ⟨h1,h2,this⟩
section
variable {P:Program} {c:l8} {S:g9} {M:f0} {p:Bool} {d:Option Tmp} {ty:TypeId} {pos:String} {af:Array Edge} {gd:Option (Nat×Bool)} {x y:Operand} {b b':Bool}
theorem IF {t:TypeId} [ht:D0 P t] {by':Nat} {zz:Value} [hz:q7 P t 2 by' zz] {u o:Nat} (j:Nat) {m:Nat} {f:Nat->Int} {r:List b8} {dep:List Nat} [hl:p8 M u (j3 (wC f 0 m++r)) dep] (hj:p=true->j<m) (ho:p=true->o=2*j) (hx:j1 S x=some (b,w6 u o)) (hb:p=true->b=true) :
  l3 P c S M ⟨d,.load t x,ty,pos,af,gd⟩ p (b7 eW (wh (f j))) none :=
 l3.pure fun hp a g w hok hc hop=>by
  obtain ⟨bl,cap,h1,h2⟩:=hop x (by simp[Op.operands]) b _ hx (hb hp)
  obtain ⟨cs,ty',h3,h4⟩:=BT (ks:=wC f 0 m++r) hc h1
  obtain ⟨ds,q1,q2⟩:=zJ h4 (hj hp)
  have ho:=ho hp
  subst ho
  exact ⟨.agg ds.toArray,by simp only[execOp,h2,Sem.run_bind,QE (P:=P) (t:=t) (w:=w) (b:=bl) (o:=2*j) (eW.len q1) (fun q v hv=>J6 h3 (by simpa using q2 q v hv)),Result.andThen_ok,Sem.run_pure],_,q1,rfl⟩
theorem WA {t et:TypeId} {n:Nat} [ht:BS P t n et] {by':Nat} {zz:Value} [hz:q7 P et 2 by' zz] [hag:D0 P et] {f:Nat->Int} {ik:IntKind} {i:Nat} (hx:j1 S x=some (b,G6 (wC f 0 n))) (hb:p=true->b=true) (hy:j1 S y=some (b',y3 ik (i:Int))) (hb':p=true->b'=true) (h:p=true->i<n) :
  l3 P c S M ⟨d,.index t x y,ty,pos,af,gd⟩ p (b7 eW (wh (f i))) none:=by
 cases p with
 | false=>exact fun hp=>by cases hp
 | true =>
  have:=uT (P:=P) (c:=c) (M:=M) (d:=d) (ty:=ty) (pos:=pos) (af:=af) (gd:=gd) (t:=t) (et:=et) eZ (ks:=wC f 0 n) (xs:=n6 n f) hx hb hy hb' rfl rfl QX (fun _=>⟨h rfl,by rw[t7]; exact h rfl⟩)
  rwa [s8 (h rfl)] at this
end
section
variable {P:Program} {c:l8} {ops:Array Oper} {S:g9} {M:f0} {rest:List Oper} {Q:Exit->Act->World->Prop} {x y:Operand}
variable {ty:TypeId} {pos:String} {af:Array Edge}
theorem d5.stW {t:TypeId} {by':Nat} {zz:Value} [hz:q7 P t 2 by' zz] {u o:Nat} (j:Nat) {m:Nat} {f:Nat->Int} {z:Int} {r:List b8} {dep dep':List Nat} {M':f0} (hj:j<m) (ho:o=2*j) (hx:j1 S x=some (true,w6 u o)) (hy:j1 S y=some (true,b7 eW (wh z))) [hl:p8 M u (j3 (wC f 0 m++r)) dep]
  [hd:A6 (wC (BL f j z) 0 m++r) dep'] [hup:A7 M u (j3 (wC (BL f j z) 0 m++r)) dep' M'] (hs:s5 dep' (tags M)=true) (K:d5 P c ops S M' rest Q):d5 P c ops S M (⟨none,.store t x y,ty,pos,af,none⟩::rest) Q:=by
 intro a g w hsat
 subst ho
 obtain ⟨b,cap,hm,he⟩:=B5 hsat.slots hx rfl
 have hv:=B5 hsat.slots hy rfl
 obtain ⟨cs,tt,h3,h4⟩:=BT (ks:=wC f 0 m++r) hsat.conts hm
 obtain ⟨h5,h6⟩:=(inferInstance:F3 (b7 eW (wh z)) [kB (decide (z<0)),b7 (eL eI) (d6 z.natAbs)]).imp hv
 obtain ⟨v1,u1,hvs,e1,e2⟩:∃v u,(a.eval y).cells.toList=[v,u]/\v=.bool (decide (z<0))/\b7 (eL eI) (d6 z.natAbs) g u:=by
  match h:(a.eval y).cells.toList,h5 with
  | [v,u],h5=>exact ⟨v,u,rfl,h5.1,h5.2.1⟩
 have hcl:=I2 h4
 simp only[Array.length_toList,List.length_append,QX] at hcl
 have hsz:(a.eval y).cells.size=2:=by rw[<- Array.length_toList,hvs]; rfl
 have hr:=IS (P:=P) (t:=t) (o:=2*j) h3 hsz zo (List.all_eq_true.1 h6)
 refine wpList_plain rfl fun K' hK'=>?_
 unfold Oper.wp
 simp only[execOp,he,Sem.run_bind,hr,Result.andThen_ok,Sem.run_pure,Oper.upon,Act.put]
 have hnew:=jT (j:=j) e1 e2 h4 hj
 rw[Nat.zero_add] at hnew
 exact hK' _ _ (K a g _ (hsat.store hm h3 hup ⟨_,_,rfl,by rw[hvs]; simpa using hnew⟩ inferInstance (A1 hs)))
end
def I5:i7 (List Int×Int):=eC (fun v:List Int×Int=>(v.1,v.2,())) (eP (AR 4 eZ) (eP eZ eU))
instance {v:List Int×Int}:F3 (b7 I5 v) (wC (b6 v.1) 0 4++[kB (decide (v.2<0)),b7 (eL eI) (d6 v.2.natAbs)]):=inferInstanceAs (F3 (b7 (eC (fun v:List Int×Int=>(v.1,v.2,())) (eP (AR 4 eZ) (eP eZ eU))) v) _)
instance {v:List Int×Int}:u6 I5 v 0 (AR 4 eZ) v.1 0:=inferInstanceAs (u6 (eC (fun v:List Int×Int=>(v.1,v.2,())) (eP (AR 4 eZ) (eP eZ eU))) v 0 _ _ _)
instance {v:List Int×Int}:u6 I5 v 1 eZ v.2 8:=inferInstanceAs (u6 (eC (fun v:List Int×Int=>(v.1,v.2,())) (eP (AR 4 eZ) (eP eZ eU))) v 1 _ _ _)
instance {f:Nat->Int} {d:Int} {r:List b8}:v5 (wC f 0 4++kB (decide (d<0))::b7 (eL eI) (d6 d.natAbs)::r) I5 (n6 4 f,d) r:=⟨fun h=>(inferInstance:v5 (wC f 0 4++kB (decide (d<0))::b7 (eL eI) (d6 d.natAbs)::r) (eP (AR 4 eZ) (eP eZ eU)) (n6 4 f,d,()) r).imp h⟩
instance {r:List b8}:v5 (j8 (.bool false)::j8 (.slice none 0 0)::r) eZ 0 r:=⟨fun {g cs} h=>(inferInstance:v5 (kB false::j8 (.slice none 0 0)::r) eZ 0 r).imp (g:=g) (cs:=cs) (match cs,h with | _::_::_,⟨h1,h2,h3⟩=>⟨h1,h2,h3⟩)⟩
instance (priority:=low) {a b c d e:Int} {ks r1 r2 r3 r4 r:List b8} [h1:v5 ks eZ a r1] [h2:v5 r1 eZ b r2] [h3:v5 r2 eZ c r3] [h4:v5 r3 eZ d r4] [h5:v5 r4 eZ e r]:v5 ks I5 ([a,b,c,d],e) r:=⟨fun {g cs} h=>by
 obtain ⟨c1,t1,rfl,q1,h⟩:=h1.imp h
 obtain ⟨c2,t2,rfl,q2,h⟩:=h2.imp h
 obtain ⟨c3,t3,rfl,q3,h⟩:=h3.imp h
 obtain ⟨c4,t4,rfl,q4,h⟩:=h4.imp h
 obtain ⟨c5,t5,rfl,q5,h⟩:=h5.imp h
 exact ⟨c1++c2++c3++c4++c5,t5,by simp,⟨c1++c2++c3++c4,c5,by simp,⟨rfl,c1,c2++c3++c4,by simp,q1,c2,c3++c4,by simp,q2,c3,c4,by simp,q3,c4,[],by simp,q4,rfl⟩,c5,[],by simp,q5,rfl⟩,h⟩⟩
theorem NR {v:List Int×Int} {g:Gh} {u:Value} (h:b7 I5 v g u):v.1.length=4:=by
 obtain ⟨_,⟨_,_,_,⟨h,_⟩,_⟩,_⟩:=h
 exact h
theorem Z2 {ks ks':List b8} (h:ks=ks'):∀g b o,j3 ks g b o->j3 ks' g b o:=fun _ _ _ h'=>by subst h; exact h'
theorem JD {f f':Nat->Int}:∀{m i:Nat},(∀j,i<=j->j<i+m->f j=f' j)->wC f i m=wC f' i m
 | 0,_,_=>rfl
 | m+1,i,h=>by simp only[wC]; rw[h i (Nat.le_refl _) zo,JD fun j h1 h2=>h j zo zo]
theorem cW {f f':Nat->Int} {m:Nat} {r r':List b8} (h:∀j,j<m->f j=f' j) (hr:r=r'):∀g b o,j3 (wC f 0 m++r) g b o->j3 (wC f' 0 m++r') g b o:=Z2 (by rw[JD fun j _ hj=>h j zo,hr])
theorem AP {d d':Int} (h:d=d'):[kB (decide (d<0)),b7 (eL eI) (d6 d.natAbs)]=[kB (decide (d'<0)),b7 (eL eI) (d6 d'.natAbs)]:=by rw[h]
end Go.Fl

/- Numbers: coefficients over a denominator, in lowest terms. Plain Lean, no program in sight. -/
namespace Go.Fl
def gL (g:Nat):List Int->Nat
 | []=>g
 | c::cs=>gL (Nat.gcd g c.natAbs) cs
theorem KH:∀{cs:List Int} {g:Nat},gL g cs∣g/\∀c∈cs,gL g cs∣c.natAbs
 | [],g=>⟨Nat.dvd_refl _,fun c h=>by cases h⟩
 | c::cs,g=>by
  obtain ⟨h1,h2⟩:=KH (cs:=cs) (g:=Nat.gcd g c.natAbs)
  rw[gL]
  refine ⟨Nat.dvd_trans h1 (Nat.gcd_dvd_left _ _),fun x hx=>?_⟩
  rcases List.mem_cons.1 hx with rfl | hx
  ·exact Nat.dvd_trans h1 (Nat.gcd_dvd_right _ _)
  ·exact h2 x hx
theorem NZ {cs:List Int} {g:Nat} (h:0<g):0<gL g cs:=Nat.pos_of_dvd_of_pos KH.1 h
theorem cN:∀{cs:List Int} {g:Nat} {m:Int},gL (g*m.natAbs) (cs.map fun c=>c*m)=gL g cs*m.natAbs
 | [],_,_=>rfl
 | c::cs,g,m=>by rw[List.map_cons,gL,gL,Int.natAbs_mul,Nat.gcd_mul_right,cN]
theorem cP:∀{cs:List Int} {g:Nat} {c:Int},gL g (cs++[c])=Nat.gcd (gL g cs) c.natAbs
 | [],_,_=>rfl
 | x::cs,g,c=>by rw[List.cons_append,gL,gL,cP]
def w7 (d:Int) (cs:List Int):Int:=if d<0 then -(gL d.natAbs cs:Int) else gL d.natAbs cs
theorem GG {d:Int} {cs:List Int} (h:d≠0):w7 d cs≠0:=by
 have:=NZ (cs:=cs) (show 0<d.natAbs by omega)
 unfold w7; split<;>omega
theorem BI {d:Int} {cs:List Int} {c:Int} (h:c=d\/c∈cs):w7 d cs∣c:=by
 have h1:((gL d.natAbs cs:Nat):Int)∣c:=by
  refine Int.ofNat_dvd_left.2 ?_
  rcases h with rfl | h
  ·exact KH.1
  ·exact KH.2 c h
 unfold w7
 split
 ·exact Int.neg_dvd.2 h1
 ·exact h1
theorem xM {d m:Int} {cs:List Int} (hd:d≠0) (hm:m≠0):w7 (d*m) (cs.map fun c=>c*m)=w7 d cs*m:=by
 unfold w7
 rw[Int.natAbs_mul,cN,Int.natCast_mul]
 by_cases h1:d<0<;>by_cases h2:m<0
 ·have h3:=Int.mul_pos_of_neg_of_neg h1 h2
  rw[if_neg zo,if_pos h1,show ((m.natAbs:Nat):Int)=-m by omega,Int.mul_neg,Int.neg_mul]
 ·have h3:=Int.mul_neg_of_neg_of_pos h1 (show 0<m by omega)
  rw[if_pos h3,if_pos h1,show ((m.natAbs:Nat):Int)=m by omega,Int.neg_mul]
 ·have h3:=Int.mul_neg_of_pos_of_neg (show 0<d by omega) h2
  rw[if_pos h3,if_neg h1,show ((m.natAbs:Nat):Int)=-m by omega,Int.mul_neg,Int.neg_neg]
 ·have h3:=Int.mul_pos (show 0<d by omega) (show 0<m by omega)
  rw[if_neg zo,if_neg h1,show ((m.natAbs:Nat):Int)=m by omega]
theorem bX {a b m:Int} (hb:b≠0) (hm:m≠0) (h:b∣a):a*m/(b*m)=a/b:=by
 obtain ⟨q,rfl⟩:=h
 rw[Int.mul_ediv_cancel_left _ hb,show b*q*m=b*m*q by rw[Int.mul_assoc,Int.mul_comm q,<- Int.mul_assoc],Int.mul_ediv_cancel_left _ (Int.mul_ne_zero hb hm)]
def loN (cs:List Int) (d:Int):List Int×Int:=(cs.map fun c=>c/w7 d cs,d/w7 d cs)
theorem KT {cs:List Int} {d m:Int} (hd:d≠0) (hm:m≠0):loN (cs.map fun c=>c*m) (d*m)=loN cs d:=by
 unfold loN
 rw[xM hd hm,List.map_map]
 refine Prod.ext ?_ (bX (GG hd) hm (BI (.inl rfl)))
 exact List.map_congr_left fun c hc=>bX (GG hd) hm (BI (.inr hc))
theorem KR {cs cs':List Int} {d d':Int} (hd:d≠0) (hd':d'≠0) (h:(cs.map fun c=>c*d')=cs'.map fun c=>c*d):loN cs d=loN cs' d':=by
 rw[<- KT (cs:=cs) hd hd',<- KT (cs:=cs') hd' hd,h,Int.mul_comm]
theorem CA {cs:List Int} {d:Int}:(loN cs d).1.length=cs.length:=by unfold loN; simp
theorem FQ {cs:List Int} {d:Int} (hd:d≠0):0<(loN cs d).2:=by
 unfold loN
 obtain ⟨q,hq⟩:=BI (d:=d) (cs:=cs) (.inl rfl)
 have h0:=GG (cs:=cs) hd
 show 0<d/w7 d cs
 have e:d/w7 d cs=q:=(congrArg (fun z=>z/w7 d cs) hq).trans (Int.mul_ediv_cancel_left _ h0)
 rw[e]
 have hg:=NZ (cs:=cs) (show 0<d.natAbs by omega)
 refine Classical.byContradiction fun hn=>?_
 by_cases h:d<0
 ·have e:w7 d cs=-(gL d.natAbs cs:Int):=if_pos h
  rw[e] at hq
  have:(-(gL d.natAbs cs:Int))*q=(gL d.natAbs cs:Int)*(-q):=by rw[Int.neg_mul,Int.mul_neg]
  have h5:=Int.mul_nonneg (a:=(gL d.natAbs cs:Int)) (b:=-q) zo zo
  omega
 ·have e:w7 d cs=(gL d.natAbs cs:Int):=if_neg h
  rw[e] at hq
  have h5:=Int.mul_nonneg (a:=(gL d.natAbs cs:Int)) (b:=-q) zo zo
  rw[Int.mul_neg] at h5
  omega
theorem QT:∀{xs:List Int} {k:Nat},l7 (xs++List.replicate k 0)=l7 xs
 | [],k=>by
  rw[List.nil_append]
  exact QU fun i hi=>OX (by simpa using hi)
 | x::xs,k=>by rw[List.cons_append,l7,l7,QT]
def ES (p:List Int) (n:Nat) (xs:List Int):List Int:=n6 (xs.length-1) fun j=>b6 xs j-if xs.length-1-n<=j then b6 xs (xs.length-1)*b6 p (j-(xs.length-1-n)) else 0
theorem PV {p xs:List Int} {n:Nat}:(ES p n xs).length=xs.length-1:=t7
def CJ (p:List Int) (n:Nat):Nat->List Int->List Int
 | 0,xs=>xs++List.replicate (n-xs.length) 0
 | f+1,xs=>if xs.length<=n then xs++List.replicate (n-xs.length) 0 else CJ p n f (ES p n xs)
def red (p:List Int) (xs:List Int):List Int:=CJ p (p.length-1) (xs.length-(p.length-1)) xs
theorem gI {p:List Int} {n:Nat}:∀{f:Nat} {xs:List Int},xs.length<=n+f->(CJ p n f xs).length=n
 | 0,xs,h=>by rw[CJ,List.length_append,List.length_replicate]; omega
 | f+1,xs,h=>by
  rw[CJ]
  split
  ·rw[List.length_append,List.length_replicate]; omega
  ·exact gI (by rw[PV]; omega)
theorem gJ {p xs:List Int}:(red p xs).length=p.length-1:=gI zo
end Go.Fl

/- Numbers of a field in lowest terms, as the programs reckon them. No program in sight. -/
namespace Go.Fl
open Go
theorem W0 {y:Int}:u5 y 0=0↔y=0:=by unfold u5; split<;>(try split)<;>omega
theorem rF {x y:Int}:Int.gcd y (x%y)=Int.gcd x y:=by
 first
  | (rw[Int.gcd_comm]; exact Int.gcd_emod ..)
  | simp
  | (rw[Int.emod_def,Int.gcd_comm]; simp)
theorem UB {c:List Int} {g k:Nat} (hk:k<c.length):(gL g (c.take (k+1)):Int)=Int.gcd (gL g (c.take k):Int) (b6 c k):=by
 have e:c.take (k+1)=c.take k++[b6 c k]:=by
  rw[List.take_succ_eq_append_getElem hk]
  congr 2
  simp[b6,hk]
 rw[e,cP]; rfl
theorem UA {c:List Int} {g:Nat} (h:0<g):gL g c<=g:=Nat.le_of_dvd h KH.1
theorem bP {c:List Int} {d:Int} (h:0<d):dl (gL d.natAbs c:Int)<=dl d:=K5 (UA zo)
theorem sX {c:List Int} {d:Int} {k:Nat} (hd:0<d) (hl:c.length=k):(n6 k (fun i=>b6 c i/(gL d.natAbs c:Int)),d/(gL d.natAbs c:Int))=loN c d:=by
 have e:w7 d c=(gL d.natAbs c:Int):=if_neg zo
 unfold loN
 rw[e]
 refine Prod.ext ?_ rfl
 show n6 k _=c.map _
 generalize (gL d.natAbs c:Int)=G
 conv=>rhs; rw[V2 hl]
 simp[n6]
end Go.Fl

/- Contracts: integers of the reference of chapter 1 (division, common divisors). -/
namespace Go.Fl
open Go Go.Proofs
open d5 renaming op->tO
open i6 renaming op->rO
set_option maxRecDepth 100000

set_option maxHeartbeats 2000000 in
theorem aU (m n:Nat) (h0:0<n) (hm:(d6 m).length<=300000) (hn:(d6 n).length<=300000):Ct Tryz.prog 179 [b7 (eL eI) (d6 m),b7 (eL eI) (d6 n)] (y4 [b7 (eL eI) (d6 (m/n)),b7 (eL eI) (d6 (m%n))]):=by
 have hdn:dl (n:Int)=(d6 n).length:=rfl
 have hvn:val (d6 n)=n:=w5 n
 refine Ct.mk Tryz.func179 rfl Tryz.ntmps179 rfl (fun w J=>?_); refine v6 ?_; refine d5.new (IG eI 14 rfl uu rfl uu rfl rfl rfl (fun _=>zo)) rfl rfl rfl rfl ?_; refine U2 ?_
 refine Tr.for1 (σ:=Nat×List Int×Int) [⟨0,true,_,_⟩,⟨1,true,_,_⟩,⟨6,true,_,_⟩] [] (fun (i,o,R)=>[⟨7,true,[],b7 (eL eI) (d6 R.toNat)⟩,⟨8,true,[],kI ((i:Int)-1)⟩]) (fun (i,o,R)=>[⟨14,[],m9 false 3 eI o (d6 m).length⟩]) (fun (i,o,R)=>i<=(d6 m).length/\L1 (d6 m) o (n:Int) i R) (fun (i,o,R)=>L1 (d6 m) o (n:Int) 0 R) (fun (i,o,R)=>i) (((d6 m).length,List.replicate (d6 m).length 0,0)) ⟨Nat.le_refl _,L1.start zo⟩ (d7.mk (.n rfl rfl<|.i rfl zi<|zk) (.a zi zi<|.nil) rfl) ?_ ?_
 ·rintro ⟨i,o,R⟩ ⟨hi,hs⟩
  refine jn ?_
  have e1:((i:Int)-1).toNat=i-1:=by omega
  have hr0:=hs.r0
  have hRd:=qI hr0
  have hRl:=bI hr0.1
  have hol:=hs.len
  refine l5 ?_; refine jq ?_ ?_
  ·intro h4
   have hs1:L1 (d6 m) o (n:Int) (i-1+1) R:=by rw[show i-1+1=i by omega]; exact hs
   obtain ⟨T,hTe⟩:∃T,T=(R*100000000+b6 (d6 m) (i-1)):=⟨_,rfl⟩
   have hdq:=qM hs1 zo
   rw[<- hTe] at hdq
   obtain ⟨hT,hq0,hq1⟩:=hdq
   have hTd:=qJ hq1 h0 hT
   have hTl:=bI hT
   have had:=(w3 m).at (i:=i-1) zo
   refine v6 ?_; refine d5.new (D5 eI 26 (fun hp=>.cons rfl<|.nil) rfl rfl rfl rfl) rfl rfl rfl rfl ?_; refine i9 ?_; refine d5.app rfl rfl rfl rfl rfl rfl rfl rfl (by have h1:([b6 (d6 m) ((i:Int)-1).toNat]).length=1:=rfl; omega) (by have h1:([b6 (d6 m) ((i:Int)-1).toNat]).length=1:=rfl; omega) ?_; refine jl ?_; refine d5.frz 26 [28] ⟨rfl,trivial⟩ (by have h1:([b6 (d6 m) ((i:Int)-1).toNat]).length=1:=rfl; simp only[t6]; omega) rfl ?_; refine jl ?_; refine tO (j7 (fun hp=>TA _ (by have h1:([b6 (d6 m) ((i:Int)-1).toNat]).length=1:=rfl; rw[List.length_append]; omega)) (.a rfl uu<|.nil)) rfl rfl ?_
   refine o9 ?_
   refine Tr.for (σ:=Int×Int) [⟨0,true,_,_⟩,⟨1,true,_,_⟩,⟨6,true,_,_⟩,⟨8,true,_,_⟩] [⟨14,_,_⟩] (fun (lo,hi2)=>[⟨7,true,[],b7 (eL eI) (d6 T.toNat)⟩,⟨9,true,[],kI lo⟩,⟨10,true,[],kI hi2⟩]) (fun (lo,hi2)=>[]) (fun (lo,hi2)=>0<=lo/\lo<=T/n/\T/n<=hi2/\hi2<=99999999) (fun (lo,hi2)=>T/n=lo) (fun (lo,hi2)=>(hi2-lo).toNat) ((0,99999999)) ⟨by omega,by omega,by omega,by omega⟩ (d7.mk (.r rfl (by rw[hTe,<- e1]; exact qN hr0.1 (by rw[e1]; exact had))<|.i rfl zi<|.i rfl zi<|zk) (zk) rfl) ?_ ?_
   ·rintro ⟨lo,hi2⟩ ⟨hl0,hl1,hl2,hl3⟩
    refine jn ?_
    have hmid:0<=lo+hi2+1:=by omega
    have hme:=Int.tdiv_eq_ediv_of_nonneg (b:=2) hmid
    have hmn:=Int.mul_nonneg (a:=(n:Int)) (b:=(lo+hi2+1).tdiv 2) zo zo
    have hmd:=I4 (F:=(lo+hi2+1).tdiv 2) zo zo
    have hmm:=w8 (n:Int) ((lo+hi2+1).tdiv 2)
    refine l6 ?_; refine jq ?_ ?_
    ·intro h8
     refine o9 ?_; refine tO (BA rfl uu rfl uu (fun _=>zo)) rfl rfl ?_; refine l6 ?_; refine tO (CC eI (fun hp=>.cons rfl<|.nil) rfl rfl rfl rfl) rfl rfl ?_; refine jc (aP (d6 n) [(lo+hi2+1).tdiv 2] (w3 n).inI (KM zo) zo (by simp)) ?_; refine tO (j7 (fun hp=>oU (d6 T.toNat) _ (M6 _) (tA (by rw[hvn,BM]; exact hmn)) zo (by rw[F0,hvn,BM]; omega)) (.a rfl uu<|.a rfl uu<|.nil)) rfl rfl ?_; refine i2 ?_; refine Tr.cnd rfl ?_ ?_
     ·intro h10
      have h10:=of_decide_eq_true h10
      rw[w5,I6,hvn,BM,Int.toNat_of_nonneg hT] at h10
      refine n7 ?_
      exact g8.lp ((lo,(lo+hi2+1).tdiv 2-1)) ⟨by omega,by omega,qK zo h10,by omega⟩ (by show ((lo+hi2+1).tdiv 2-1-lo).toNat<(hi2-lo).toNat; omega) (d7.mk (.r rfl zi<|.i rfl zi<|.i rfl zi<|zk) (zk) rfl)
     ·intro h10
      have h10:=of_decide_eq_false h10
      rw[w5,I6,hvn,BM,Int.toNat_of_nonneg hT] at h10
      refine o0 ?_
      exact g8.lp (((lo+hi2+1).tdiv 2,hi2)) ⟨by omega,qL zo zo,by omega,by omega⟩ (by show (hi2-(lo+hi2+1).tdiv 2).toNat<(hi2-lo).toNat; omega) (d7.mk (.r rfl zi<|.i rfl zi<|.i rfl zi<|zk) (zk) rfl)
    ·intro h8
     replace h8:=Int.not_lt.1 h8
     refine i4 ?_
     exact g8.cut ((lo,hi2)) zo (d7.mk (.r rfl zi<|.i rfl zi<|.i rfl zi<|zk) (zk) rfl)
   ·rintro ⟨lo,hi2⟩ hlo
    refine jn ?_
    replace hlo:T/n=lo:=hlo
    have hmd:=I4 (F:=lo) zo zo
    have hmm:=w8 (n:Int) lo
    refine D3 ?_; refine tO (CC eI (fun hp=>.cons rfl<|.nil) rfl rfl rfl rfl) rfl rfl ?_; refine jc (aP (d6 n) [lo] (w3 n).inI (KM zo) zo (by simp)) ?_; refine tO (j7 (fun hp=>aS (d6 T.toNat) _ (w3 _).inI (U5 _) zo (by rw[F0,hvn,BM]; omega)) (.a rfl uu<|.a rfl uu<|.nil)) rfl rfl ?_; refine o9 ?_
    exact g8.lp ((i-1,o.set (i-1) ((R*100000000+b6 (d6 m) (i-1))/n),(R*100000000+b6 (d6 m) (i-1))%n)) ⟨by omega,hs1.next (w3 m) zo⟩ (by show i-1<i; omega) (d7.mk (.r rfl (by rw[I6,w5,Int.toNat_of_nonneg hT,hvn,BM,<- hlo,qH zo,hTe]; exact OQ (Int.emod_nonneg _ zo))<|.i rfl zi<|zk) (.a (by rw[e1,<- hTe,hlo]) zi<|.nil) rfl)
  ·intro h4
   replace h4:=Int.not_le.1 h4
   refine i4 ?_
   exact g8.cut ((i,o,R)) (by obtain rfl:i=0:=zo; exact hs) (d7.mk (.r rfl zi<|.i rfl zi<|zk) (.a zi zi<|.nil) rfl)
 ·rintro ⟨i,o,R⟩ hs
  refine je ?_
  have hol:=hs.len
  refine i4 ?_; refine d5.frz 14 [6,57] ⟨rfl,rfl,trivial⟩ (by simp only[t6]; omega) rfl ?_; refine jl ?_; refine tO (j7 (fun hp=>TA _ zo) (.a rfl uu<|.nil)) rfl rfl ?_; refine n7 ?_; exact d9.res (fn:=Tryz.f179) (ts:=[4,5]) rfl rfl (.r rfl (bV hs).1<|.r rfl (bV hs).2<|.nil)

set_option maxHeartbeats 1000000 in
theorem aN (xs ys:List Int) (hx:A5 xs) (hy:A5 ys) (hn:xs.length<=200000) (hm:ys.length<=200000):Ct Tryz.prog 138 [b7 (eL eI) xs,b7 (eL eI) ys] (y4 [b7 (eL eI) (if val ys=0 then [] else j6 (val xs/val ys)),b7 (eL eI) (if val ys=0 then [] else j6 (val xs%val ys)),kI (if val ys=0 then 12 else 0)]):=by
 have hdx:=O1 hx
 have hdy:=O1 hy
 have hlx:=F0 (val xs)
 have hly:=F0 (val ys)
 have hl0:=VD (z:=val ys)
 have hrz:=HK (n:=(val xs).natAbs%(val ys).natAbs)
 have hdq:dl (((val xs).natAbs/(val ys).natAbs:Nat):Int)=(d6 ((val xs).natAbs/(val ys).natAbs)).length:=rfl
 have W9:dl (((val xs).natAbs%(val ys).natAbs:Nat):Int)=(d6 ((val xs).natAbs%(val ys).natAbs)).length:=rfl
 have hdX:(d6 (val xs).natAbs).length=dl (val xs):=rfl
 have hdY:(d6 (val ys).natAbs).length=dl (val ys):=rfl
 have hql:=K5 (m:=(val xs).natAbs) (n:=(val xs).natAbs/(val ys).natAbs) (Nat.div_le_self _ _)
 have h11:([1]:List Int).length=1:=rfl
 refine Ct.mk Tryz.func138 rfl Tryz.ntmps138 rfl (fun w J=>?_); refine v6 ?_; refine tO (j7 (fun hp=>Z5 _ (by assumption) zo) (.a rfl uu<|.nil)) rfl rfl ?_; refine i9 ?_; refine tO (j7 (fun hp=>Z5 _ (by assumption) zo) (.a rfl uu<|.nil)) rfl rfl ?_; refine z5 ?_; refine jq ?_ ?_
 ·intro h2
  have hy0:val ys=0:=by omega
  refine o9 ?_; exact d9.res (fn:=Tryz.f138) (ts:=[4,5,6]) rfl rfl (.n rfl (by rw[if_pos hy0])<|.n rfl (by rw[if_pos hy0])<|.i rfl (by rw[if_pos hy0])<|.nil)
 ·intro h2
  have hy0:val ys≠0:=by omega
  have hlt:(val xs).natAbs%(val ys).natAbs<(val ys).natAbs:=Nat.mod_lt _ zo
  have hrl:=K5 (m:=(val ys).natAbs) (n:=(val xs).natAbs%(val ys).natAbs) zo
  refine o0 ?_; refine jc (KB (val xs) zo) ?_; refine i9 ?_; refine jc (KB (val ys) zo) ?_; refine jc (aU (val xs).natAbs (val ys).natAbs zo zo zo) ?_; refine C6 ?_; refine jc (HH (val xs)) ?_; refine i2 ?_; refine Tr.cnd rfl ?_ ?_
  ·intro h5
   have hxn:=of_decide_eq_true h5
   refine j9 ?_; refine tO (j7 (fun hp=>FN _ (w3 _).inI zo) (.a rfl uu<|.nil)) rfl rfl ?_; refine i9 ?_; refine tO (j7 (fun hp=>FN _ (w3 _).inI zo) (.a rfl uu<|.nil)) rfl rfl ?_; refine C6 ?_; refine Tr.cnd rfl ?_ ?_
   ·intro h7
    have hrp:0<(val xs).natAbs%(val ys).natAbs:=by (have h7:=of_decide_eq_true h7; rw[F0,w5,K6,W9] at h7; omega)
    obtain ⟨o1,o2⟩:=fO hy0 hxn hrp
    refine i2 ?_; refine tO (CC eI (fun hp=>.cons rfl<|.nil) rfl rfl rfl rfl) rfl rfl ?_; refine tO (j7 (fun hp=>aS _ [1] (U5 _) (KM zo) (by rw[F0,w5,K6,hdq]; omega) zo) (.a rfl uu<|.a rfl uu<|.nil)) rfl rfl ?_; refine i2 ?_; refine jc (KB (val ys) zo) ?_; refine tO (j7 (fun hp=>SY _ _ (U5 _) (w3 _).inI (by rw[F0,w5,K6,W9]; omega) zo) (.a rfl uu<|.a rfl uu<|.nil)) rfl rfl ?_; refine l6 ?_; refine jc (HH (val ys)) ?_; refine i2 ?_; refine Tr.cnd rfl ?_ ?_
    ·intro h9
     have hyn:=of_decide_eq_true h9
     have hQ1:=TJ (q:=(val xs).natAbs/(val ys).natAbs)
     have hQ2:=TK (q:=(val xs).natAbs/(val ys).natAbs)
     refine i2 ?_
     refine tO (j7 (fun hp=>FN _ (by first | exact U5 _ | exact (w3 _).inI) zo) (.a rfl uu<|.nil)) rfl rfl ?_
     refine D3 ?_; exact d9.res (fn:=Tryz.f138) (ts:=[4,5,6]) rfl rfl (.r rfl (by rw[if_neg hy0,o1,if_neg (show ¬AE (val xs) (val ys) from by rw[AF]; omega),I6,I6,BM,w5]; congr 1; omega)<|.r rfl (by rw[if_neg hy0,o2,I6,w5,w5]; congr 1; omega)<|.i rfl (by rw[if_neg hy0])<|.nil)
    ·intro h9
     have hyn:=of_decide_eq_false h9
     refine z5 ?_; exact d9.res (fn:=Tryz.f138) (ts:=[4,5,6]) rfl rfl (.r rfl (by rw[if_neg hy0,o1,if_pos (show AE (val xs) (val ys) from by rw[AF]; omega),I6,BM,w5]; congr 1; omega)<|.r rfl (by rw[if_neg hy0,o2,I6,w5,w5]; congr 1; omega)<|.i rfl (by rw[if_neg hy0])<|.nil)
   ·intro h7
    have hrp:(val xs).natAbs%(val ys).natAbs=0:=by (have h7:=of_decide_eq_false h7; rw[F0,w5,K6,W9] at h7; omega)
    obtain ⟨o1,o2⟩:=WF (a:=val xs) hy0 (fun hh=>by omega)
    refine n7 ?_; refine jc (HH (val ys)) ?_; refine i2 ?_; refine Tr.cnd rfl ?_ ?_
    ·intro h9
     have hyn:=of_decide_eq_true h9
     have hQ1:=TJ (q:=(val xs).natAbs/(val ys).natAbs)
     have hQ2:=TK (q:=(val xs).natAbs/(val ys).natAbs)
     refine i2 ?_
     refine tO (j7 (fun hp=>FN _ (by first | exact U5 _ | exact (w3 _).inI) zo) (.a rfl uu<|.nil)) rfl rfl ?_
     refine D3 ?_; exact d9.res (fn:=Tryz.f138) (ts:=[4,5,6]) rfl rfl (.r rfl (by rw[if_neg hy0,o1,if_neg (show ¬AE (val xs) (val ys) from by rw[AF]; omega),I6,w5]; congr 1; omega)<|.r rfl (by rw[if_neg hy0,o2,w5]; congr 1; omega)<|.i rfl (by rw[if_neg hy0])<|.nil)
    ·intro h9
     have hyn:=of_decide_eq_false h9
     refine z5 ?_; exact d9.res (fn:=Tryz.f138) (ts:=[4,5,6]) rfl rfl (.r rfl (by rw[if_neg hy0,o1,if_pos (show AE (val xs) (val ys) from by rw[AF]; omega),w5])<|.r rfl (by rw[if_neg hy0,o2,w5]; congr 1; omega)<|.i rfl (by rw[if_neg hy0])<|.nil)
  ·intro h5
   have hxn:=of_decide_eq_false h5
   obtain ⟨o1,o2⟩:=WF hy0 (fun hh=>hxn hh.1)
   refine n7 ?_; refine jc (HH (val ys)) ?_; refine i2 ?_; refine Tr.cnd rfl ?_ ?_
   ·intro h9
    have hyn:=of_decide_eq_true h9
    have hQ1:=TJ (q:=(val xs).natAbs/(val ys).natAbs)
    have hQ2:=TK (q:=(val xs).natAbs/(val ys).natAbs)
    refine i2 ?_
    refine tO (j7 (fun hp=>FN _ (by first | exact U5 _ | exact (w3 _).inI) zo) (.a rfl uu<|.nil)) rfl rfl ?_
    refine D3 ?_; exact d9.res (fn:=Tryz.f138) (ts:=[4,5,6]) rfl rfl (.r rfl (by rw[if_neg hy0,o1,if_pos (show AE (val xs) (val ys) from by rw[AF]; omega),w5])<|.r rfl (by rw[if_neg hy0,o2,OR])<|.i rfl (by rw[if_neg hy0])<|.nil)
   ·intro h9
    have hyn:=of_decide_eq_false h9
    refine z5 ?_; exact d9.res (fn:=Tryz.f138) (ts:=[4,5,6]) rfl rfl (.r rfl (by rw[if_neg hy0,o1,if_neg (show ¬AE (val xs) (val ys) from by rw[AF]; omega),OR])<|.r rfl (by rw[if_neg hy0,o2,OR])<|.i rfl (by rw[if_neg hy0])<|.nil)

theorem aO (xs ys:List Int) (hx:A5 xs) (hy:A5 ys) (hn:xs.length<=200000) (hm:ys.length<=200000):Ct Tryz.prog 137 [b7 (eL eI) xs,b7 (eL eI) ys] (b7 (eL eI) (d6 (Nat.gcd (val xs).natAbs (val ys).natAbs))):=by
 have hdx:=O1 hx
 have hdy:=O1 hy
 have hlx:=F0 (val xs)
 have hly:=F0 (val ys)
 have hdX:(d6 (val xs).natAbs).length=dl (val xs):=rfl
 have hdY:(d6 (val ys).natAbs).length=dl (val ys):=rfl
 refine Ct.mk Tryz.func137 rfl Tryz.ntmps137 rfl (fun w J=>?_); refine l6 ?_; refine tO (j7 (fun hp=>Z5 _ (by assumption) zo) (.a rfl uu<|.nil)) rfl rfl ?_; refine jc (KB (val xs) zo) ?_; refine i9 ?_; refine tO (j7 (fun hp=>Z5 _ (by assumption) zo) (.a rfl uu<|.nil)) rfl rfl ?_; refine jc (KB (val ys) zo) ?_; refine i4 ?_; refine Tr.for (σ:=Nat×Nat) [] [] (fun (x,y)=>[⟨5,true,[],b7 (eL eI) (d6 x)⟩,⟨6,true,[],b7 (eL eI) (d6 y)⟩]) (fun (x,y)=>[]) (fun (x,y)=>(d6 x).length<=300000/\(d6 y).length<=300000/\Nat.gcd x y=Nat.gcd (val xs).natAbs (val ys).natAbs) (fun (x,y)=>y=0/\Nat.gcd x y=Nat.gcd (val xs).natAbs (val ys).natAbs) (fun (x,y)=>y) (((val xs).natAbs,(val ys).natAbs)) ⟨by omega,by omega,rfl⟩ (d7.mk (.r rfl rfl<|.r rfl rfl<|.nil) (.nil) rfl) ?_ ?_
 ·rintro ⟨x,y⟩ ⟨hx1,hy1,hg⟩
  refine jn ?_
  have hy0:=HK (n:=y)
  refine l6 ?_; refine jq ?_ ?_
  ·intro h2
   refine l5 ?_; refine jc (aU x y zo zo zo) ?_; refine B4 ?_; exact g8.lp ((y,x%y)) ⟨hy1,by have:=K5 (m:=y) (n:=x%y) (Nat.le_of_lt (Nat.mod_lt _ zo)); omega,by rw[rE]; exact hg⟩ (by show x%y<y; exact Nat.mod_lt _ zo) (d7.mk (.r rfl rfl<|.r rfl rfl<|.nil) (.nil) rfl)
  ·intro h2
   replace h2:=Int.not_lt.1 h2
   refine i4 ?_
   exact g8.cut ((x,y)) ⟨by omega,hg⟩ (d7.mk (.r rfl zi<|.r rfl zi<|.nil) (.nil) rfl)
 ·rintro ⟨x,y⟩ ⟨rfl,hg⟩
  refine jn ?_; refine l5 ?_; exact d9.res1 (fn:=Tryz.f137) rfl (.r rfl (by rw[<- hg,Nat.gcd_zero_right])<|.nil)

end Go.Fl

/- Contracts: numbers of a field in lowest terms. -/
namespace Go.Fl
open Go Go.Proofs
open d5 renaming op->tO
open i6 renaming op->rO
set_option maxRecDepth 100000

theorem nO (a b:Int) (ha:dl a<=800000) (hb:dl b<=800000):Ct Tryz.prog 205 [b7 eW (wh a),b7 eW (wh b)] (b7 eW (wh (Int.gcd a b))):=by
 refine Ct.mk Tryz.func205 rfl Tryz.ntmps205 rfl (fun w J=>?_); refine i2 ?_; refine jb 2 rfl ?_; refine jb 3 rfl ?_; refine ja 4 ?_; refine i2 ?_; refine Tr.for (σ:=Int×Int) [⟨2,true,_,_⟩,⟨3,true,_,_⟩,⟨4,true,_,_⟩] [⟨4,_,_⟩] (fun ⟨x,y⟩=>[]) (fun ⟨x,y⟩=>[⟨2,[],j3 [kB (decide (x<0)),b7 (eL eI) (d6 (x).natAbs)]⟩,⟨3,[],j3 [kB (decide (y<0)),b7 (eL eI) (d6 (y).natAbs)]⟩]) (fun ⟨x,y⟩=>Int.gcd x y=Int.gcd a b/\dl x<=800000/\dl y<=800000) (fun ⟨x,y⟩=>x.natAbs=Int.gcd a b) (fun ⟨x,y⟩=>y.natAbs) ((a,b)) ⟨rfl,ha,hb⟩ (d7.mk (zk) (zk) rfl) ?_ ?_
 ·rintro ⟨x,y⟩ ⟨hg,hx,hy⟩
  refine jn ?_; refine i4 ?_; refine jc (AO y) ?_; refine j9 ?_; refine jq ?_ ?_
  ·intro h1
   have hy0:y≠0:=fun e=>h1 (W0.2 e)
   refine l5 ?_; refine jc (TE x y hy0 zo zo) ?_; refine j9 ?_; refine ja 5 ?_; refine ja 6 ?_; refine i4 ?_; refine Tr.drawS 2 2 q9 (by kernel_rfl) ?_; refine o7.opA (O6 rfl uu) (by kernel_rfl) rfl rfl ?_; refine o7.op (O6 rfl uu) rfl rfl ?_; refine o7.z (EU rfl rfl rfl) rfl rfl rfl ?_; refine j9 ?_; exact g8.lp ((y,x%y)) ⟨(rF (x:=x) (y:=y)).trans hg,hy,by have:=qA (x:=x) hy0; omega⟩ (by have h2:=Int.emod_nonneg x hy0; have h3:=Int.emod_lt x hy0; show (x%y).natAbs<y.natAbs; omega) (d7.mk (zk) (zk) rfl)
  ·intro h1
   replace h1:=Classical.not_not.1 h1
   refine i4 ?_; exact g8.cut ((x,y)) (by have e:=W0.1 h1; subst e; rw[<- hg]; simp) (d7.mk (zk) (zk) rfl)
 ·rintro ⟨x,y⟩ hE
  refine jn ?_; refine D3 ?_; exact d9.resC1 (fn:=Tryz.f205) rfl rfl (u8 rfl (by rw[<- hE]; exact (GL (n:=x.natAbs))))

theorem SW (c:List Int) (d:Int) (hc:∀i,dl (b6 c i)<=700000) (hd:dl d<=700000) (hp:0<d):Ct Tryz.prog 183 [b7 I5 (c,d)] (b7 I5 (loN c d)):=by
 refine Ct.mk Tryz.func183 rfl Tryz.ntmps183 rfl (fun w J=>?_); refine Tr.fact (s:=0) rfl (fun _ _ h=>NR h) (fun hl=>?_)
 have hl:c.length=4:=hl
 have hG:=bP (c:=c) hp
 have hGp:=NZ (cs:=c) (g:=d.natAbs) zo
 refine i2 ?_; refine jb 1 rfl ?_; refine ja 2 ?_; refine n7 ?_; refine ja 3 ?_; refine C6 ?_
 refine Tr.for1 (σ:=Nat) [⟨1,true,_,_⟩,⟨2,true,_,_⟩,⟨3,true,_,_⟩,⟨11,true,_,_⟩] [⟨1,_,_⟩,⟨2,_,_⟩] (fun k=>[⟨12,true,[],kI (k:Int)⟩]) (fun k=>[⟨3,[],j3 [kB (decide ((gL d.natAbs (c.take k):Int)<0)),b7 (eL eI) (d6 ((gL d.natAbs (c.take k):Int)).natAbs)]⟩]) (fun k=>k<=4) (fun k=>k=4) (fun k=>4-k) (0) zi (d7.mk (.i rfl zi<|zk) (.conv (Z2 (AP (by rw[List.take_zero]; show d=(d.natAbs:Int); omega))) rfl<|zk) rfl) ?_ ?_
 ·intro k hR0
  refine jn ?_
  have hgk:=bP (c:=c.take k) hp
  have hck:=hc k
  refine n7 ?_; refine jq ?_ ?_
  ·intro h3
   refine n7 ?_; refine tO (WA rfl uu rfl uu (fun _=>zo)) rfl rfl ?_; refine ja 5 ?_; refine n7 ?_; refine jc (nO (gL d.natAbs (c.take k):Int) (b6 c k) zo zo) ?_; refine l6 ?_
   exact g8.lp (k+1) zi zo (d7.mk (.i rfl zi<|zk) (.conv (Z2 (AP (UB zo).symm)) rfl<|zk) rfl)
  ·intro h3
   replace h3:=Int.not_lt.1 h3
   refine i4 ?_
   exact g8.cut (k) zo (d7.mk (.i rfl zi<|zk) (zk) rfl)
 ·rintro _ rfl
  refine je ?_
  rw[List.take_of_length_le zo]
  refine o9 ?_
  refine Tr.for1 (σ:=Nat) [⟨1,true,_,_⟩,⟨2,true,_,_⟩,⟨3,true,_,_⟩,⟨20,true,_,_⟩] [⟨2,_,_⟩,⟨3,_,_⟩] (fun k=>[⟨21,true,[],kI (k:Int)⟩]) (fun k=>[⟨1,[],j3 (wC (fun i=>if i<k then b6 c i/(gL d.natAbs c:Int) else b6 c i) 0 4++[kB (decide (d<0)),b7 (eL eI) (d6 (d).natAbs)])⟩]) (fun k=>k<=4) (fun k=>k=4) (fun k=>4-k) (0) zi (d7.mk (.i rfl zi<|zk) (.conv (cW (fun j _=>(if_neg zo).symm) rfl) rfl<|zk) rfl) ?_ ?_
  ·intro k hR1
   refine jn ?_
   have hck:=hc k
   have hgk:k<4->(if k<k then b6 c k/(gL d.natAbs c:Int) else b6 c k)=b6 c k:=fun _=>if_neg zo
   refine n7 ?_; refine jq ?_ ?_
   ·intro h8
    refine l5 ?_; refine tO (WA rfl uu rfl uu (fun _=>zo)) rfl rfl ?_; refine ja 7 ?_; refine l6 ?_; refine jc (TE (b6 c k) (gL d.natAbs c:Int) zo zo zo) ?_; refine i4 ?_; refine tO (CF rfl uu rfl uu (fun _=>zo)) rfl rfl ?_; refine d5.stW (k) zo zo rfl rfl rfl ?_; refine l5 ?_
    exact g8.lp (k+1) zi zo (d7.mk (.i rfl zi<|zk) (.conv (cW (fun j _=>by simp only[BL]; by_cases e:j=k; (rw[if_pos e,if_pos zo,e]); (rw[if_neg e]; by_cases e2:j<k; (rw[if_pos e2,if_pos zo]); (rw[if_neg e2,if_neg zo]))) rfl) rfl<|zk) rfl)
   ·intro h8
    replace h8:=Int.not_lt.1 h8
    refine i4 ?_
    exact g8.cut (k) zo (d7.mk (.i rfl zi<|zk) (zk) rfl)
  ·rintro _ rfl
   refine je ?_; refine n7 ?_; refine jc (TE d (gL d.natAbs c:Int) zo zo zo) ?_; refine B4 ?_; exact d9.resC1 (fn:=Tryz.f183) rfl rfl (u8 rfl (by rw[<- sX hp hl]; exact Prod.ext (z8 fun i hi=>if_pos hi) rfl))

end Go.Fl

/- Reduction modulo the polynomial of a field, as the program reckons it: in place. No program in sight. -/
namespace Go.Fl
open Go
def P0 (p ys:List Int) (n i k:Nat):List Int:=n6 ys.length fun j=>if i-n<=j/\j<i-n+k then b6 ys j-b6 ys i*b6 p (j-(i-n)) else b6 ys j
theorem QN {p ys:List Int} {n i k:Nat}:(P0 p ys n i k).length=ys.length:=t7
theorem yK {p ys:List Int} {n i:Nat}:ys=P0 p ys n i 0:=by
 conv=>lhs; rw[V2 (rfl:ys.length=ys.length)]
 exact z8 fun j _=>(if_neg zo).symm
theorem iI {p ys:List Int} {n i k j:Nat} (hj:j<ys.length) (h:j<i-n\/i-n+k<=j):b6 (P0 p ys n i k) j=b6 ys j:=by
 unfold P0
 rw[s8 hj,if_neg zo]
theorem yI {p ys:List Int} {n i k:Nat} (_:k<n) (hn:n<=i) (_:i<ys.length):(P0 p ys n i k).set (i-n+k) (b6 ys (i-n+k)+-(b6 ys i*b6 p k))=P0 p ys n i (k+1):=by
 unfold P0
 rw[GJ]
 refine z8 fun j hj=>?_
 by_cases e:j=i-n+k
 ·subst e
  rw[if_pos rfl,if_pos ⟨zo,zo⟩,Nat.add_sub_cancel_left]; omega
 ·rw[if_neg e]
  by_cases h:i-n<=j/\j<i-n+k
  ·rw[if_pos h,if_pos ⟨h.1,by omega⟩]
  ·rw[if_neg h,if_neg zo]
theorem K9 {xs:List Int} {i k:Nat} (h:i<k):b6 (xs.take k) i=b6 xs i:=by
 simp[b6,List.getD,h]
theorem yJ {p ys:List Int} {n i:Nat} (hn:n<=i) (hi:i<ys.length):(P0 p ys n i n).take i=ES p n (ys.take (i+1)):=by
 have hl:(ys.take (i+1)).length=i+1:=by rw[List.length_take]; omega
 have e1:((P0 p ys n i n).take i).length=i:=by rw[List.length_take,QN]; omega
 rw[V2 e1]
 unfold ES
 rw[hl,Nat.add_sub_cancel]
 refine z8 fun j hj=>?_
 rw[K9 hj,K9 zo,K9 zo]
 unfold P0
 rw[s8 zo]
 by_cases h:i-n<=j
 ·rw[if_pos ⟨h,by omega⟩,if_pos h]
 ·rw[if_neg zo,if_neg h,Int.sub_zero]
theorem gK {p xs:List Int} {n:Nat} (hp:p.length-1=n) (h:n<xs.length):red p (ES p n xs)=red p xs:=by
 unfold red
 rw[hp,PV]
 obtain ⟨f,hf⟩:∃f,xs.length-n=f+1:=⟨xs.length-n-1,by omega⟩
 rw[hf,show xs.length-1-n=f by omega]
 conv=>rhs; rw[CJ,if_neg zo]
theorem PY {p xs:List Int} {n:Nat} (hp:p.length-1=n) (h:xs.length<=n):red p xs=xs++List.replicate (n-xs.length) 0:=by
 unfold red
 rw[hp,show xs.length-n=0 by omega,CJ]
theorem wN {p ys:List Int} {n m:Nat} (hp:p.length-1=n) (hm:n<m) (hl:m<=ys.length):red p ((P0 p ys n (m-1) n).take (m-1))=red p (ys.take m):=by
 rw[yJ zo zo,show m-1+1=m by omega]
 exact gK hp (by rw[List.length_take]; omega)
theorem bR {a b q:Int} {A B:Nat} (ha:dl a<=A) (hb:dl b<=B) (hq:dl q<=1):dl (a+-(b*q))<=max A (B+1)+1:=by
 have h1:=T9 a (-(b*q))
 rw[K6] at h1
 have h2:=w8 b q
 omega
theorem iH {p ys:List Int} {n i k B:Nat} (_:n<=i) (_:i<ys.length) (hy:∀j,dl (b6 ys j)<=B) (hp:∀j,dl (b6 p j)<=1) (j:Nat):dl (b6 (P0 p ys n i k) j)<=B+2:=by
 by_cases hj:j<ys.length
 ·unfold P0
  rw[s8 hj]
  split
  ·rw[Int.sub_eq_add_neg]
   have:=bR (hy j) (hy i) (hp (j-(i-n)))
   omega
  ·have:=hy j; omega
 ·have:b6 (P0 p ys n i k) j=0:=by simp[b6,List.getD,List.getElem?_eq_none (show (P0 p ys n i k).length<=j by rw[QN]; omega)]
  rw[this]
  have:dl 0=0:=F5.2 rfl
  omega
def U7 (p xs:List Int):List Int:=n6 4 (b6 (red p xs))
theorem IJ {p xs:List Int}:(U7 p xs).length=4:=t7
theorem eT {p xs:List Int} {i:Nat} (h:i<4):b6 (U7 p xs) i=b6 (red p xs) i:=s8 h
theorem KY {xs:List Int} {k i:Nat}:b6 (xs++List.replicate k 0) i=if i<xs.length then b6 xs i else 0:=by
 split
 ·rename_i h; simp[b6,List.getD,List.getElem?_append_left h]
 ·rename_i h
  simp only[b6,List.getD,List.getElem?_append_right (Nat.le_of_not_lt h),List.getElem?_replicate]
  split<;>rfl
theorem sW {xs:List Int} {d:Int} (hd:d≠0):loN (xs.map fun c=>-c) (-d)=loN xs d:=by
 have:=KT (cs:=xs) (d:=d) (m:=-1) hd (by decide)
 rw[<- this]
 congr 1
 ·exact List.map_congr_left fun c _=>by omega
 ·omega
theorem qC {p xs:List Int} {ys:List Int} {n m B:Nat} (hp:p.length-1=n) (hm:m<=n) (hl:m<=ys.length) (he:red p (ys.take m)=red p xs) (hy:∀j,dl (b6 ys j)<=B) (i:Nat):b6 (red p xs) i=(if i<m then b6 ys i else 0)/\dl (b6 (red p xs) i)<=B:=by
 have hlen:(ys.take m).length=m:=by rw[List.length_take]; omega
 rw[<- he,PY hp zo,KY,hlen]
 split
 ·rename_i h; rw[K9 h]; exact ⟨rfl,hy i⟩
 ·exact ⟨rfl,by rw[F5.2 rfl]; omega⟩
theorem CT {F:Nat->Int} {k B:Nat} (h:∀i,i<k->dl (F i)<=B) (i:Nat):dl (b6 (n6 k F) i)<=B:=by
 by_cases hi:i<k
 ·rw[s8 hi]; exact h i hi
 ·have:b6 (n6 k F) i=0:=by simp[b6,List.getD,List.getElem?_eq_none (show (n6 k F).length<=i by rw[t7]; omega)]
  rw[this,F5.2 rfl]; omega
theorem eG {c:List Int} {k:Nat} (hl:c.length=k):(c.map fun z=>-z)=n6 k fun i=>-b6 c i:=by
 conv=>lhs; rw[V2 hl]
 simp[n6]
theorem ED {v:List Int×Int} (h:v.1.length=4):(n6 4 (b6 v.1),v.2)=v:=Prod.ext (V2 h).symm rfl
def o5 (x y:List Int×Int):List Int×Int:=loN (n6 4 fun i=>b6 x.1 i*y.2+b6 y.1 i*x.2) (x.2*y.2)
theorem pW {x y:List Int×Int} {A:Nat} (hx:∀i,dl (b6 x.1 i)<=A) (hy:∀i,dl (b6 y.1 i)<=A) (hdx:dl x.2<=A) (hdy:dl y.2<=A) (i:Nat):dl (b6 x.1 i*y.2+b6 y.1 i*x.2)<=2*A+1:=by
 have h1:=hx i
 have h2:=hy i
 have h3:=w8 (b6 x.1 i) y.2
 have h4:=w8 (b6 y.1 i) x.2
 have h5:=T9 (b6 x.1 i*y.2) (b6 y.1 i*x.2)
 omega
end Go.Fl

/- A part of an array of the call's own, as a slice; copies of integers into it. -/
namespace Go.Fl
open Go Go.RowKit
set_option maxRecDepth 100000
theorem wX {P:Program} (w:World) (dT sT ty elem:TypeId) (g o dLen dCap sz n:Nat) (src:Value) (cur:Array Value) (t:TypeId) (cs:List Value) (hu:P.underlying dT=some (.slice elem)) (hs:(P.info? elem).map (·.size)=some sz)
  (hg:w.heap[g]?=some (.cells cur t (0,0))) (hl:(Builtin.lenOf src).run P w=.ok n w) (hf:(Builtin.firstCells sz (Nat.min n dLen) src).run P w=.ok cs.toArray w) (hfit:o+cs.length<=cur.size) (h1:∀v∈cs,v.oneCell'=true) :
  (Builtin.copy_ #[dT,sT] ty #[.slice (some ⟨g,o,none⟩) dLen dCap,src]).run P w=.ok (goInt (Nat.min n dLen)) (w.setRow g (cur.toList.take o++cs++cur.toList.drop (o+cs.length)).toArray):=by
 have hst:=run_storeCells_at P g o t cs 0 cur w hg (by simpa using hfit) h1
 cases hq:P.info? elem with
 | none=>simp[hq] at hs
 | some i =>
  have hi:i.size=sz:=by simpa [hq] using hs
  simp[Builtin.copy_,run_underlying hu,sizeOf,typeInfo,hq,hi,hl,hf,hst]
def UU (t o l c:Nat):b8:=fun g v=>∃b cap,g.M t=some (.blk b cap)/\v=.slice (some ⟨b,o,none⟩) l c
instance (t o l c:Nat):o4 (UU t o l c) [t]:=⟨fun _ hd ⟨b,cap,h1,h2⟩=>⟨b,cap,(hd t (by simp)).trans h1,h2⟩⟩
section
variable {P:Program} {c:l8} {S:g9} {M:f0} {p:Bool} {d:Option Tmp} {ty:TypeId} {pos:String} {af:Array Edge} {gd:Option (Nat×Bool)} {x y:Operand} {b b':Bool}
theorem uZ {t et:TypeId} {n:Nat} [ht:BS P t n et] {sz by':Nat} {zz:Value} [hz:q7 P et sz by' zz] {u o:Nat} {ik:IntKind} {i0:Int} (hx:j1 S x=some (b,w6 u o)) (hb:p=true->b=true) (hy:j1 S y=some (b',y3 ik i0)) (hb':p=true->b'=true)
  (h:p=true->0<=i0/\i0<=n):l3 P c S M ⟨d,.slice t x none (some y) none,ty,pos,af,gd⟩ p (UU u o i0.toNat n) none :=
 l3.pure fun hp a g w _ _ ho=>by
  obtain ⟨bl,cap,h1,h2⟩:=ho x (by simp[Op.operands]) b _ hx (hb hp)
  have hi:a.eval y=_:=ho y (by simp[Op.operands]) b' _ hy (hb' hp)
  have hlt:=h hp
  obtain ⟨ti,hti,rfl,_,_⟩:=hz.h
  refine ⟨.slice (some ⟨bl,o,none⟩) i0.toNat n,?_,bl,cap,h1,rfl⟩
  have hbd:(Instr.sliceBounds false n n none (some (.int ik i0)) none).run P w=.ok (0,i0.toNat,n) w:=by
   simp[Instr.sliceBounds,Instr.sliceBound,asIntOf,hlt]
  simp only[execOp,hi,h2,Option.map,Sem.run_bind]
  unfold Instr.sliceAt
  simp only[Sem.run_bind,run_underlying ht.h,Result.andThen_ok,Instr.sureAddr,Sem.run_pure,hbd]
  simp[sizeOf,typeInfo,hti,Addr.add]
end
section
variable {P:Program} {c:l8} {ops:Array Oper} {S:g9} {M:f0} {rest:List Oper} {Q:Exit->Act->World->Prop} {x y:Operand}
variable {d:Nat} {ty:TypeId} {pos:String} {af:Array Edge}
theorem zK {f:Nat->Int} {i m:Nat} {z:Int} (h:f i=z):wC f i (m+1)=kB (decide (z<0))::b7 (eL eI) (d6 z.natAbs)::wC f (i+1) m:=by subst h; rfl
theorem zI {ys:List Int} {g:Gh}:∀{k:Nat} {f:Nat->Int} {i m:Nat} {r:List b8} {cs vs:List Value},o6 g (wC f i m++r) cs->k<=m->k<=ys.length->AB eZ g.J vs (ys.take k)->o6 g (wC (fun j=>if i<=j/\j<i+k then b6 ys (j-i) else f j) i m++r) (vs++cs.drop (2*k)):=by
 intro k
 induction ys generalizing k with
 | nil =>
  intro f i m r cs vs h _ hk hv
  obtain rfl:k=0:=by simpa using hk
  have hv:vs=[]:=hv
  subst hv
  rw[JD (f':=f) fun j _ _=>if_neg zo]
  simpa using h
 | cons y ys ih =>
  intro f i m r cs vs h hkm hk hv
  cases k with
  | zero =>
   have hv:vs=[]:=hv
   subst hv
   rw[JD (f':=f) fun j _ _=>if_neg zo]
   simpa using h
  | succ k =>
   cases m with
   | zero=>omega
   | succ m =>
    rw[List.take_succ_cons] at hv
    obtain ⟨c1,c2,rfl,q1,q2⟩:=hv
    match cs,h with
    | a::b::cs,⟨h1,h2,h3⟩ =>
     have hr:=ih (k:=k) (f:=f) (i:=i+1) (m:=m) h3 zo (by simpa using hk) q2
     have e0:(fun j=>if i<=j/\j<i+(k+1) then b6 (y::ys) (j-i) else f j) i=y:=by simp[b6]
     rw[List.append_assoc,show 2*(k+1)=2*k+2 by omega,List.drop_succ_cons,List.drop_succ_cons]
     rw[zK e0,JD (f':=fun j=>if i+1<=j/\j<i+1+k then b6 ys (j-(i+1)) else f j) (fun j hj _=>by
      by_cases e:j<i+(k+1)
      ·rw[if_pos ⟨by omega,e⟩,if_pos ⟨hj,by omega⟩,show j-i=(j-(i+1))+1 by omega]; rfl
      ·rw[if_neg zo,if_neg zo])]
     exact (inferInstance:K4 eZ y _ _).imp q1 hr
theorem d5.cpW {t et:TypeId} [ht:C5 P t et] {by':Nat} {zz:Value} [hz:q7 P et 2 by' zz] {u l1 c1 m:Nat} {f:Nat->Int} {ys:List Int} {r:List b8} {dep dep':List Nat} {M':f0} (k:Nat) (hx:j1 S x=some (true,UU u 0 l1 c1)) (hy:j1 S y=some (true,b7 (eL eZ) ys)) [hl:p8 M u (j3 (wC f 0 m++r)) dep]
  (hk:k=min ys.length l1) (hm:l1<=m) [hd:A6 (wC (fun j=>if j<k then b6 ys j else f j) 0 m++r) dep'] [hup:A7 M u (j3 (wC (fun j=>if j<k then b6 ys j else f j) 0 m++r)) dep' M'] (hs:s5 dep' (tags M)=true) (hn:Nat.blt d c.n=true)
  (K:d5 P c ops (⟨d,true,[],kI k⟩::S) M' rest Q):d5 P c ops S M (⟨some d,.call { callee:=.builtin .copy,args:=#[x,y],argTypes:=#[t,t] },ty,pos,af,none⟩::rest) Q:=by
 intro a g w hsat
 have hdn:d<c.n:=by simpa [Nat.blt_eq] using hn
 obtain ⟨b,cap,hm1,he⟩:=B5 hsat.slots hx rfl
 obtain ⟨cs0,⟨ad,cp,rfl,k2,k3⟩,hv⟩:=B5 hsat.slots hy rfl
 simp only[eL,Bool.false_eq_true,if_false,List.headD_cons] at hv
 obtain ⟨cs,tt,h3,h4⟩:=BT (ks:=wC f 0 m++r) hsat.conts hm1
 obtain ⟨ti,hti,hts,_,_⟩:=hz.h
 have hcl:=I2 h4
 simp only[Array.length_toList,List.length_append,QX] at hcl
 obtain ⟨vs,hvs,hfc⟩:∃vs,AB eZ g.J vs (ys.take k)/\(Builtin.firstCells 2 (Nat.min ys.length l1) (a.eval y)).run P w=.ok vs.toArray w:=by
  have hkk:Nat.min ys.length l1=k:=hk.symm
  rw[hkk,hv]
  rcases k3 with rfl | ⟨bl,o,rfl,hrow⟩
  ·have hk0:k=0:=by simpa using hk
   subst hk0
   refine ⟨[],rfl,?_⟩
   cases ad with
   | none=>rfl
   | some ad =>
    have:=run_loadCells_list (P:=P) w ad [] (fun j v hj=>by simp at hj)
    simpa [Builtin.firstCells] using this
  ·have key:∀(n i:Nat) (zs:List Int),zs.length=n->(∀j x,zs[j]?=some x->∃ds,eZ.rd g.J ds x/\CR g.J bl (o+(i+j)*2) ds)->∃vs,AB eZ g.J vs zs/\CR g.J bl (o+i*2) vs:=by
    intro n
    induction n with
    | zero=>intro i zs hz _; rw[List.eq_nil_of_length_eq_zero hz]; exact ⟨[],rfl,fun j v hj=>by simp at hj⟩
    | succ n ih =>
     intro i zs hz hr
     match zs,hz with
     | z::zs,hz =>
      obtain ⟨ds,q1,q2⟩:=hr 0 z rfl
      obtain ⟨vs,r1,r2⟩:=ih (i+1) zs (by simpa using hz) (fun j x hx=>by
       obtain ⟨es,s1,s2⟩:=hr (j+1) x (by simpa using hx)
       exact ⟨es,s1,by rwa [show i+1+j=i+(j+1) by omega]⟩)
      refine ⟨ds++vs,⟨ds,vs,rfl,q1,r1⟩,fun j v hj=>?_⟩
      have hl:=eZ.len q1
      rw[show eZ.n=2 from rfl] at hl
      rw[List.getElem?_append] at hj
      split at hj
      ·have:=q2 j v hj
       rwa [Nat.add_zero] at this
      ·have:=r2 _ v hj
       rwa [show o+(i+1)*2+(j-ds.length)=o+i*2+j by omega] at this
   obtain ⟨vs,r1,r2⟩:=key _ 0 (ys.take k) rfl (fun j x hx=>by
    rw[List.getElem?_take] at hx
    split at hx
    ·obtain ⟨ds,q1,q2⟩:=hrow j x hx
     exact ⟨ds,q1,by rw[Nat.zero_add]; exact q2⟩
    ·cases hx)
   refine ⟨vs,r1,?_⟩
   have hlen:=PT r1
   rw[List.length_take,show eZ.n=2 from rfl] at hlen
   have:=run_loadCells_list (P:=P) w ⟨bl,o,none⟩ vs (fun j v hj=>by
    have:=hsat.ok.im _ _ _ (r2 j v hj)
    rw[Addr.add_lit]
    simpa using this)
   rw[hlen,show min k ys.length=k by omega] at this
   simpa [Builtin.firstCells] using this
 have hvl:vs.length=k*2:=by
  have:=PT hvs
  rw[List.length_take,show eZ.n=2 from rfl] at this
  rw[this]; congr 1; omega
 have hr:=wX (P:=P) w t t ty et b 0 l1 c1 2 ys.length (a.eval y) cs tt vs ht.h (by rw[hti]; simp[hts]) h3 (by rw[hv]; simp[Builtin.lenOf]) hfc zo (WQ hvs)
 refine wpList_plain rfl fun K' hK'=>?_
 unfold Oper.wp
 simp only[execOp,resolve,Sem.run_bind,Sem.run_pure,Result.andThen_ok,invoke,builtin,List.map_toArray,List.map_cons,List.map_nil]
 rw[he,hr]
 simp only[Result.andThen_ok,Oper.upon]
 have hnew:=zI (ys:=ys) h4 (k:=k) zo zo hvs
 rw[JD (f':=fun j=>if j<k then b6 ys j else f j) (fun j _ _=>by
  by_cases e:j<k
  ·rw[if_pos ⟨Nat.zero_le _,by omega⟩,if_pos e,Nat.sub_zero]
  ·rw[if_neg zo,if_neg e])] at hnew
 have hst:=hsat.store hm1 h3 hup ⟨_,_,rfl,(by simpa [hvl,Nat.mul_comm] using hnew:o6 g _ (cs.toList.take 0++vs++cs.toList.drop (0+vs.length)).toArray.toList)⟩ inferInstance (A1 hs)
 refine hK' _ _ (K _ g _ (hst.did (F8.same hst.ok (k:=kI k) ?_) (fun _ h=>by cases h) inferInstance (fun _ h=>by cases h) hdn))
 show goInt (Nat.min ys.length l1)=_
 rw[show Nat.min ys.length l1=k from hk.symm]
 rfl
theorem lB {g:Gh} {a b:b8} {vs:List Value} (h:o6 g [a,b] vs):∃u v,vs=[u,v]/\a g u/\b g v:=by
 match vs,h with
 | [u,v],h=>exact ⟨u,v,rfl,h.1,h.2.1⟩
theorem jN {F C:Nat->Int} {k j:Nat} {z:Int} (hz:z=F k):BL (fun i=>if i<k then F i else C i) k z j=if j<k+1 then F j else C j:=by
 unfold BL
 by_cases e:j=k
 ·subst e; rw[if_pos rfl,if_pos (Nat.lt_succ_self _),hz]
 ·rw[if_neg e]
  show (if j<k then F j else C j)=_
  by_cases h:j<k
  ·rw[if_pos h,if_pos zo]
  ·rw[if_neg h,if_neg zo]
theorem Tr.conC {code:Code} (v:Nat) {ct ct':s9} {dep dep':List Nat} {M':f0} [hl:p8 M v ct dep] (hc:∀g b o,ct g b o->ct' g b o) [hd:z7 ct' dep'] [hup:A7 M v ct' dep' M'] (hs:s5 dep' (tags M)=true) (K:Tr P c S M' code Q):Tr P c S M code Q :=
 fun a g w h=>K a g w (h.conC hc hd hup (A1 hs))
theorem jU {r r':List b8} (hr:∀g vs,o6 g r vs->o6 g r' vs):∀g b o,j3 ([kB false,j8 (.slice none 0 0),kB false,j8 (.slice none 0 0),kB false,j8 (.slice none 0 0),kB false,j8 (.slice none 0 0)]++r) g b o->j3 (wC (fun _=>0) 0 4++r') g b o:=fun g _ _ ⟨cs,ty,h1,h2⟩=>⟨cs,ty,h1,by
 have hz:∀v,j8 (.slice none 0 0) g v->b7 (eL eI) (d6 (0:Int).natAbs) g v:=fun v h=>by
  cases h
  exact ⟨_,V0 (c:=0),rfl⟩
 match h:cs.toList,h2 with
 | a0::b0::a1::b1::a2::b2::a3::b3::vs,⟨q0,p0,q1,p1,q2,p2,q3,p3,hvs⟩=>exact ⟨q0,hz _ p0,q1,hz _ p1,q2,hz _ p2,q3,hz _ p3,hr _ _ hvs⟩⟩
end
end Go.Fl
